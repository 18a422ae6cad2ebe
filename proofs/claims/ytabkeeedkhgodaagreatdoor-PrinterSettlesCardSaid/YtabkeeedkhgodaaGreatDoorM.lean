/-
  WHAT THE FUNCTIONS OF THE LEXER AND OF ITS REFERENCE COMPUTE, in plain Lean over lists of bytes. No condition.
-/
import Derived.Test.YtabkeeedkhgodaaGreatDoorAw
import Derived.Lib.IndexMore
import Derived.Lib.LastIndexLaws
import Derived.Lib.Join
namespace Go.Proofs.YtabkeeedkhgodaaGreatDoor
open Go Go.Aw

abbrev Str := List UInt8

def bt (s : Str) (i : Nat) : UInt8 := s.getD i 0
theorem bt_get {s : Str} {i : Nat} (h : i < s.length) : s[i]? = some (bt s i) := by simp [bt, List.getD_eq_getElem?_getD, List.getElem?_eq_getElem h]

def digitS (c : UInt8) : Bool := decide (48 ≤ (c.toNat : Int)) && decide ((c.toNat : Int) ≤ 57)
def letterS (c : UInt8) : Bool := (((c.toNat : Int) == 95) || (decide (97 ≤ (c.toNat : Int)) && decide ((c.toNat : Int) ≤ 122))) || (decide (65 ≤ (c.toNat : Int)) && decide ((c.toNat : Int) ≤ 90))
def wordS (c : UInt8) : Bool := letterS c || digitS c
def oddS (c : UInt8) : Bool := !letterS c && !digitS c
def lineS (c : UInt8) : Bool := (c.toNat : Int) != 10

def spanS (p : UInt8 → Bool) : Str → Nat
  | [] => 0
  | c :: r => if p c then spanS p r + 1 else 0

/-- Tokens, and what a recognizer finds. -/
structure Tok where
  kind : Int
  text : Str
  pos : Int
deriving DecidableEq
structure Fo where
  tok : Tok
  bytes : Int
  pos : Int
  err : Int
deriving DecidableEq
def tokZ : Tok := ⟨0, [], 0⟩
def foZ : Fo := ⟨tokZ, 0, 0, 0⟩
def foE (pos err : Int) : Fo := ⟨tokZ, 0, pos, err⟩
def foT (kind : Int) (text : Str) (bytes : Int) : Fo := ⟨⟨kind, text, 0⟩, bytes, 0, 0⟩

/-- Recognizers. -/
def nameF (s : Str) : Fo := if !letterS (bt s 0) then foZ else if decide (24 < (spanS wordS s : Int)) then foE 0 8 else foT 0 (s.take (spanS wordS s)) (spanS wordS s)

def dvS (c : UInt8) : Int := IntKind.u8.wrap ((c.toNat : Int) - 48)
def numGo : Str → Int → Int × Int
  | [], n => (n, 0)
  | c :: r, n => if decide (1099511627776 < 10 * n + dvS c) then (0, 2) else numGo r (10 * n + dvS c)
def numS (s : Str) : Int × Int := if (s == []) || decide ((spanS digitS s : Int) < (s.length : Int)) then (0, 4) else numGo s 0

def numberF (s : Str) : Fo :=
  if ((spanS digitS s : Int) == 0) then foZ
  else if ((numS (s.take (spanS digitS s))).2 != 0) then foE 0 (numS (s.take (spanS digitS s))).2
  else if (decide ((spanS digitS s : Int) < (s.length : Int)) && letterS (bt s (spanS digitS s))) then foE (spanS digitS s) 4
  else foT 1 (s.take (spanS digitS s)) (spanS digitS s)

def hexD : Str := [48, 49, 50, 51, 52, 53, 54, 55, 56, 57, 97, 98, 99, 100, 101, 102]
abbrev hexI (c : UInt8) : Int := Lib.indexByte hexD c
def byteOf (n : Int) : UInt8 := UInt8.ofNat (IntKind.u8.wrap n).toNat

/-- The escape at the beginning of a text. -/
def escS (s : Str) : UInt8 × Int :=
  if decide (2 ≤ (s.length : Int)) && (((bt s 1).toNat : Int) == 34 || ((bt s 1).toNat : Int) == 92) then (bt s 1, 2)
  else if decide (4 ≤ (s.length : Int)) && (((bt s 1).toNat : Int) == 120) then
    if decide (0 ≤ hexI (bt s 2)) && decide (0 ≤ hexI (bt s 3)) then (byteOf (16 * hexI (bt s 2) + hexI (bt s 3)), 4) else (0, 0)
  else (0, 0)

/-- String literals: the rest from an offset on, with what has been read. -/
def litGo (s : Str) : Nat → Nat → Str → Fo
  | 0, _, _ => foE s.length 4
  | n + 1, i, b =>
    if decide ((i : Int) < (s.length : Int)) then
      if (((bt s i).toNat : Int) == 34) then
        if decide (64 < (b.length : Int)) then foE 0 13 else foT 2 b ((i : Int) + 1)
      else if (((bt s i).toNat : Int) == 92) then
        if ((escS (s.drop i)).2 == 0) then foE i 4 else litGo s n (i + (escS (s.drop i)).2.toNat) (b ++ [(escS (s.drop i)).1])
      else if (decide (((bt s i).toNat : Int) < 32) || decide (126 < ((bt s i).toNat : Int))) then foE i 4
      else litGo s n (i + 1) (b ++ [bt s i])
    else foE s.length 4
def litF (s : Str) : Fo := if (((bt s 0).toNat : Int) != 34) then foZ else litGo s (s.length + 1) 1 []

def signL : List Str := [[60, 61], [62, 61], [61, 61], [33, 61], [40], [41], [123], [125], [44], [46], [58], [59], [43], [45], [60], [62], [61]]
def signGo (s : Str) : List Str → Fo
  | [] => foE 0 4
  | x :: r => if Lib.hasPrefix s x then foT 3 x x.length else signGo s r
def signF (s : Str) : Fo := signGo s signL

/-- Separators. -/
def sepS (s : Str) : Int := if (((bt s 0).toNat : Int) == 35) then spanS lineS s else if decide (0 ≤ Lib.indexByte [32, 9, 13, 10] (bt s 0)) then 1 else 0

def hitF (f : Fo) : Bool := decide (0 < f.bytes) || (f.err != 0)
def nextF (s : Str) : Fo := if hitF (nameF s) then nameF s else if hitF (numberF s) then numberF s else if hitF (litF s) then litF s else signF s

/-- All tokens from an offset on; behind those that are there. -/
def scanGo (s : Str) : Nat → Nat → List Tok → List Tok × Int × Int
  | 0, _, _ => ([], 0, 0)
  | n + 1, i, out =>
    if decide ((i : Int) < (s.length : Int)) then
      if decide (0 < sepS (s.drop i)) then scanGo s n (i + (sepS (s.drop i)).toNat) out
      else if ((nextF (s.drop i)).err != 0) then ([], (i : Int) + (nextF (s.drop i)).pos, (nextF (s.drop i)).err)
      else scanGo s n (i + (nextF (s.drop i)).bytes.toNat) (out ++ [⟨(nextF (s.drop i)).tok.kind, (nextF (s.drop i)).tok.text, i⟩])
    else (out, 0, 0)
def scanS (s : Str) : List Tok × Int × Int := if decide (65536 < (s.length : Int)) then ([], 0, 13) else scanGo s (s.length + 1) 0 []

def posS (s : Str) (k : Int) : Int × Int × Int :=
  if decide (65536 < (s.length : Int)) then (0, 0, 13)
  else if (decide (k < 0) || decide ((s.length : Int) < k)) then (0, 0, 2)
  else ((Lib.countByte (s.take k.toNat) 10 : Int) + 1, k - Lib.lastIndex (s.take k.toNat) [10], 0)

def keywords : Str := [32, 97, 108, 108, 32, 97, 108, 116, 32, 97, 110, 100, 32, 98, 111, 111, 108, 32, 98, 121, 32, 99, 111, 117, 110, 116, 32, 102, 97, 108, 115, 101, 32, 102, 105, 114, 115, 116, 32, 105, 102, 32, 105, 110, 116, 32, 108, 97, 99, 107, 115, 32, 108, 97, 115, 116, 32, 109, 97, 116, 99, 104, 32, 109, 97, 120, 32, 109, 105, 110, 32, 110, 111, 116, 32, 111, 114, 32, 112, 108, 117, 115, 32, 113, 117, 101, 114, 121, 32, 114, 101, 116, 117, 114, 110, 32, 115, 101, 113, 32, 115, 116, 114, 105, 110, 103, 32, 115, 117, 109, 32, 116, 105, 109, 101, 32, 116, 114, 117, 101, 32, 116, 121, 112, 101, 32, 119, 104, 101, 114, 101, 32, 119, 105, 116, 104, 105, 110, 32]
def keyS (s : Str) : Bool := (!(s == []) && !Lib.contains s [32]) && Lib.contains keywords ([32] ++ s ++ [32])

def idxS (p : UInt8 → Bool) : Str → Int
  | [] => -1
  | c :: r => if p c then 0 else if idxS p r = -1 then -1 else idxS p r + 1
def nameS (s : Str) : Int :=
  if (((s == []) || decide (24 < (s.length : Int))) || digitS (bt s 0)) || keyS s then 8 else if decide (0 ≤ idxS oddS s) then 8 else 0

def quoteB (c : UInt8) : Str :=
  if (((c.toNat : Int) == 34) || ((c.toNat : Int) == 92)) then [92, c]
  else if (decide ((c.toNat : Int) < 32) || decide (126 < (c.toNat : Int))) then [92, 120, bt hexD (c.toNat / 16), bt hexD (c.toNat % 16)]
  else [c]
def quoteGo : Str → Str
  | [] => []
  | c :: r => quoteB c ++ quoteGo r
def quoteS (s : Str) : Str × Int := if decide (64 < (s.length : Int)) then ([], 13) else ([34] ++ quoteGo s ++ [34], 0)

/-! The reference. -/
def keyR (s : Str) : Bool :=
  (s == [97, 108, 108]) || (s == [97, 108, 116]) || (s == [97, 110, 100]) || (s == [98, 111, 111, 108]) || (s == [98, 121]) || (s == [99, 111, 117, 110, 116]) || (s == [102, 97, 108, 115, 101]) || (s == [102, 105, 114, 115, 116]) || (s == [105, 102]) || (s == [105, 110, 116]) || (s == [108, 97, 99, 107, 115]) || (s == [108, 97, 115, 116]) || (s == [109, 97, 116, 99, 104]) || (s == [109, 97, 120]) || (s == [109, 105, 110]) || (s == [110, 111, 116]) || (s == [111, 114]) || (s == [112, 108, 117, 115]) || (s == [113, 117, 101, 114, 121]) || (s == [114, 101, 116, 117, 114, 110]) || (s == [115, 101, 113]) || (s == [115, 116, 114, 105, 110, 103]) || (s == [115, 117, 109]) || (s == [116, 105, 109, 101]) || (s == [116, 114, 117, 101]) || (s == [116, 121, 112, 101]) || (s == [119, 104, 101, 114, 101]) || (s == [119, 105, 116, 104, 105, 110])
def spaceR (c : UInt8) : Bool := ((((c.toNat : Int) == 32) || ((c.toNat : Int) == 9)) || ((c.toNat : Int) == 13)) || ((c.toNat : Int) == 10)
def plainR (c : UInt8) : Bool := ((decide (32 ≤ (c.toNat : Int)) && decide ((c.toNat : Int) ≤ 126)) && ((c.toNat : Int) != 34)) && ((c.toNat : Int) != 92)
def hexR (c : UInt8) : Int := if digitS c then dvS c else if decide (97 ≤ (c.toNat : Int)) && decide ((c.toNat : Int) ≤ 102) then IntKind.u8.wrap ((c.toNat : Int) - 97) + 10 else -1
def nameR (s : Str) : Int :=
  if ((((s == []) || decide (24 < (s.length : Int))) || !letterS (bt s 0)) || ((spanS wordS s : Int) != (s.length : Int))) || keyR s then 8 else 0
def numR (s : Str) : Int × Int := if (s == []) then (0, 4) else if s.all digitS then numGo s 0 else (0, 4)
def quoteBR (c : UInt8) : Str :=
  if plainR c then [c] else if (((c.toNat : Int) == 34) || ((c.toNat : Int) == 92)) then [92, c] else [92, 120, bt hexD (c.toNat / 16), bt hexD (c.toNat % 16)]
def quoteGoR : Str → Str
  | [] => []
  | c :: r => quoteBR c ++ quoteGoR r
def quoteR (s : Str) : Str × Int := if decide (64 < (s.length : Int)) then ([], 13) else ([34] ++ quoteGoR s ++ [34], 0)

/-- The escape at an offset: its byte, the offset behind it. -/
def escR (s : Str) (i : Nat) : UInt8 × Int :=
  if decide ((s.length : Int) ≤ (i : Int) + 1) then (0, 0)
  else if (((bt s (i + 1)).toNat : Int) == 34 || ((bt s (i + 1)).toNat : Int) == 92) then (bt s (i + 1), (i : Int) + 2)
  else if ((((bt s (i + 1)).toNat : Int) != 120 || decide ((s.length : Int) ≤ (i : Int) + 3)) || decide (hexR (bt s (i + 2)) < 0)) || decide (hexR (bt s (i + 3)) < 0) then (0, 0)
  else (byteOf (16 * hexR (bt s (i + 2)) + hexR (bt s (i + 3))), (i : Int) + 4)

def litGoR (s : Str) (k : Nat) : Nat → Nat → Str → Str × Int × Int
  | 0, _, _ => ([], s.length, 4)
  | n + 1, i, b =>
    if decide ((s.length : Int) ≤ (i : Int)) then ([], s.length, 4)
    else if (((bt s i).toNat : Int) == 34) then if decide (64 < (b.length : Int)) then ([], k, 13) else (b, (i : Int) + 1, 0)
    else if plainR (bt s i) then litGoR s k n (i + 1) (b ++ [bt s i])
    else if (((bt s i).toNat : Int) != 92) || ((escR s i).2 == 0) then ([], i, 4)
    else litGoR s k n (escR s i).2.toNat (b ++ [(escR s i).1])
def litR (s : Str) (k : Nat) : Str × Int × Int := litGoR s k (s.length + 1) (k + 1) []

def sign1 (c : UInt8) : Bool :=
  ((c.toNat : Int) == 40) || ((c.toNat : Int) == 41) || ((c.toNat : Int) == 123) || ((c.toNat : Int) == 125) || ((c.toNat : Int) == 44) || ((c.toNat : Int) == 46) || ((c.toNat : Int) == 58) || ((c.toNat : Int) == 59) || ((c.toNat : Int) == 43) || ((c.toNat : Int) == 45) || ((c.toNat : Int) == 60) || ((c.toNat : Int) == 62) || ((c.toNat : Int) == 61)
abbrev sign2 (c : UInt8) : Bool := ((((c.toNat : Int) == 60) || ((c.toNat : Int) == 62)) || ((c.toNat : Int) == 61)) || ((c.toNat : Int) == 33)
def signR (s : Str) (k : Nat) : Int :=
  if (sign2 (bt s k) && decide ((k : Int) + 1 < (s.length : Int))) && (((bt s (k + 1)).toNat : Int) == 61) then 2 else if sign1 (bt s k) then 1 else 0

def wordR (s : Str) (k : Nat) : Nat := k + spanS wordS (s.drop k)
def digitsR (s : Str) (k : Nat) : Nat := k + spanS digitS (s.drop k)

/-- The token at an offset, the offset behind it, the error. -/
def tokenR (s : Str) (k : Nat) : Tok × Int × Int :=
  if letterS (bt s k) then
    if decide (24 < (wordR s k : Int) - (k : Int)) then (tokZ, k, 8) else (⟨0, (s.take (wordR s k)).drop k, k⟩, wordR s k, 0)
  else if digitS (bt s k) then
    if ((numR ((s.take (digitsR s k)).drop k)).2 != 0) then (tokZ, k, (numR ((s.take (digitsR s k)).drop k)).2)
    else if (decide ((digitsR s k : Int) < (s.length : Int)) && letterS (bt s (digitsR s k))) then (tokZ, digitsR s k, 4)
    else (⟨1, (s.take (digitsR s k)).drop k, k⟩, digitsR s k, 0)
  else if (((bt s k).toNat : Int) == 34) then
    if ((litR s k).2.2 != 0) then (tokZ, (litR s k).2.1, (litR s k).2.2) else (⟨2, (litR s k).1, k⟩, (litR s k).2.1, 0)
  else if (signR s k == 0) then (tokZ, k, 4)
  else (⟨3, (s.take (k + (signR s k).toNat)).drop k, k⟩, (k : Int) + signR s k, 0)

def scanGoR (s : Str) : Nat → Nat → Bool → List Tok → List Tok × Int × Int
  | 0, _, _, _ => ([], 0, 0)
  | n + 1, i, comment, out =>
    if decide ((i : Int) < (s.length : Int)) then
      if ((comment || spaceR (bt s i)) || (((bt s i).toNat : Int) == 35)) then scanGoR s n (i + 1) ((comment || (((bt s i).toNat : Int) == 35)) && (((bt s i).toNat : Int) != 10)) out
      else if ((tokenR s i).2.2 != 0) then ([], (tokenR s i).2.1, (tokenR s i).2.2)
      else scanGoR s n (tokenR s i).2.1.toNat false (out ++ [(tokenR s i).1])
    else (out, 0, 0)
def scanR (s : Str) : List Tok × Int × Int := if decide (65536 < (s.length : Int)) then ([], 0, 13) else scanGoR s (s.length + 1) 0 false []

def posGoR : Str → Int × Int → Int × Int
  | [], p => p
  | c :: r, p => posGoR r (if ((c.toNat : Int) == 10) then (p.1 + 1, 1) else (p.1, p.2 + 1))
def posR (s : Str) (k : Int) : Int × Int × Int :=
  if decide (65536 < (s.length : Int)) then (0, 0, 13)
  else if (decide (k < 0) || decide ((s.length : Int) < k)) then (0, 0, 2)
  else ((posGoR (s.take k.toNat) (1, 1)).1, (posGoR (s.take k.toNat) (1, 1)).2, 0)

/-! How they lie in memory. -/
@[reducible] def cTok (t : Tok) : List AV := [.int .i64 t.kind, .str t.text, .int .i64 t.pos]
@[reducible] def cFo (f : Fo) : List AV := [.int .i64 f.tok.kind, .str f.tok.text, .int .i64 f.tok.pos, .int .i64 f.bytes, .int .i64 f.pos, .int .i64 f.err]
def mTok (t : Tok) : List AV := cTok t

end Go.Proofs.YtabkeeedkhgodaaGreatDoor
