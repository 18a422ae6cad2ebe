/-
  Several texts in one: M, M12, M13, EM, EM2, EM3, EM4, EM5, EM6, EM10, R1. No condition.
-/
import Derived.Test.YtibcelnfkhdjaaaGreatDoorAw
import Derived.Lib.IndexMore
import Derived.Lib.LastIndexLaws
import Derived.Lib.Join
import Derived.Lib.ItoaLen
import Derived.IntWalk
set_option linter.unusedVariables false
set_option linter.unusedSimpArgs false
namespace Go.Proofs.YtibcelnfkhdjaaaGreatDoor
open Go Go.Aw

abbrev Ag:=List UInt8

def bt (s:Ag)(i:Nat):UInt8:=s.getD i 0
theorem Ib {s:Ag}{i:Nat}(h:i<s.length):s[i]? = some (bt s i):=by simp [bt,E6,List.getElem?_eq_getElem h]

def A9 (c:UInt8):Bool:=decide (48<=(c.toNat:Int))&&decide ((c.toNat:Int)<=57)
def C7 (c:UInt8):Bool:=(((c.toNat:Int)==95)||(decide (97<=(c.toNat:Int))&&decide ((c.toNat:Int)<=122)))||(decide (65<=(c.toNat:Int))&&decide ((c.toNat:Int)<=90))
def Ek (c:UInt8):Bool:=C7 c||A9 c
def kO (c:UInt8):Bool:=!C7 c && !A9 c
def nR (c:UInt8):Bool:=(c.toNat:Int) != 10

def Bb (p:UInt8->Bool):Ag->Nat
 | []=>0
 | c::r=>if p c then Bb p r+1 else 0

structure Tok where
 kind:Int
 text:Ag
 pos:Int
deriving DecidableEq
structure Fo where
 tok:Tok
 bytes:Int
 pos:Int
 err:Int
deriving DecidableEq
def M9:Tok:=⟨0,[],0⟩
def rI:Fo:=⟨M9,0,0,0⟩
def Jv (pos err:Int):Fo:=⟨M9,0,pos,err⟩
def Vw (kind:Int)(text:Ag)(bytes:Int):Fo:=⟨⟨kind,text,0⟩,bytes,0,0⟩

def Jw (s:Ag):Fo:=if !C7 (bt s 0) then rI else if decide (24<(Bb Ek s:Int)) then Jv 0 8 else Vw 0 (s.take (Bb Ek s)) (Bb Ek s)

def dvS (c:UInt8):Int:=IntKind.u8.wrap ((c.toNat:Int)-48)
def Qq:Ag->Int->Int×Int
 | [],n=>(n,0)
 | c::r,n=>if decide (1099511627776<10*n+dvS c) then (0,2) else Qq r (10*n+dvS c)
def Ve (s:Ag):Int×Int:=if (s == [])||decide ((Bb A9 s:Int)<(s.length:Int)) then (0,4) else Qq s 0

def E1 (s:Ag):Fo:=
 if ((Bb A9 s:Int)==0) then rI
 else if ((Ve (s.take (Bb A9 s))).2 != 0) then Jv 0 (Ve (s.take (Bb A9 s))).2
 else if (decide ((Bb A9 s:Int)<(s.length:Int))&&C7 (bt s (Bb A9 s))) then Jv (Bb A9 s) 4
 else Vw 1 (s.take (Bb A9 s)) (Bb A9 s)

def bA:Ag:=[48,49,50,51,52,53,54,55,56,57,97,98,99,100,101,102]
abbrev kC (c:UInt8):Int:=Lib.indexByte bA c
def jL (n:Int):UInt8:=UInt8.ofNat (IntKind.u8.wrap n).toNat

def Is (s:Ag):UInt8×Int:=
 if decide (2<=(s.length:Int))&&(((bt s 1).toNat:Int)==34||((bt s 1).toNat:Int)==92) then (bt s 1,2)
 else if decide (4<=(s.length:Int))&&(((bt s 1).toNat:Int)==120) then
  if decide (0<=kC (bt s 2))&&decide (0<=kC (bt s 3)) then (jL (16*kC (bt s 2)+kC (bt s 3)),4) else (0,0)
 else (0,0)

def Eh (s:Ag):Nat->Nat->Ag->Fo
  | 0,_,_=>Jv s.length 4
  | n+1,i,b=>
    if decide ((i:Int)<(s.length:Int)) then
      if (((bt s i).toNat:Int)==34) then
        if decide (64<(b.length:Int)) then Jv 0 13 else Vw 2 b ((i:Int)+1)
      else if (((bt s i).toNat:Int)==92) then
        if ((Is (s.drop i)).2==0) then Jv i 4 else Eh s n (i+(Is (s.drop i)).2.toNat) (b ++ [(Is (s.drop i)).1])
      else if (decide (((bt s i).toNat:Int)<32)||decide (126<((bt s i).toNat:Int))) then Jv i 4
      else Eh s n (i+1) (b ++ [bt s i])
    else Jv s.length 4
def Kp (s:Ag):Fo:=if (((bt s 0).toNat:Int) != 34) then rI else Eh s (s.length+1) 1 []

def iV:List Ag:=[[60,61],[62,61],[61,61],[33,61],[40],[41],[123],[125],[44],[46],[58],[59],[43],[45],[60],[62],[61]]
def Gs (s:Ag):List Ag->Fo
 | []=>Jv 0 4
 | x::r=>if Lib.hasPrefix s x then Vw 3 x x.length else Gs s r
def Lh (s:Ag):Fo:=Gs s iV

def Lc (s:Ag):Int:=if (((bt s 0).toNat:Int)==35) then Bb nR s else if decide (0<=Lib.indexByte [32,9,13,10] (bt s 0)) then 1 else 0

def Ky (f:Fo):Bool:=decide (0<f.bytes)||(f.err != 0)
def B3 (s:Ag):Fo:=if Ky (Jw s) then Jw s else if Ky (E1 s) then E1 s else if Ky (Kp s) then Kp s else Lh s

def Jm (s:Ag):Nat->Nat->List Tok->List Tok×Int×Int
  | 0,_,_=>([],0,0)
  | n+1,i,out=>
    if decide ((i:Int)<(s.length:Int)) then
      if decide (0<Lc (s.drop i)) then Jm s n (i+(Lc (s.drop i)).toNat) out
      else if ((B3 (s.drop i)).err != 0) then ([],(i:Int)+(B3 (s.drop i)).pos,(B3 (s.drop i)).err)
      else Jm s n (i+(B3 (s.drop i)).bytes.toNat) (out ++ [⟨(B3 (s.drop i)).tok.kind,(B3 (s.drop i)).tok.text,i⟩])
    else (out,0,0)
def Dl (s:Ag):List Tok×Int×Int:=if decide (65536<(s.length:Int)) then ([],0,13) else Jm s (s.length+1) 0 []

def dO:Ag:=[32,97,108,108,32,97,108,116,32,97,110,100,32,98,111,111,108,32,98,121,32,99,111,117,110,116,32,102,97,108,115,101,32,102,105,114,115,116,32,105,102,32,105,110,116,32,108,97,99,107,115,32,108,97,115,116,32,109,97,116,99,104,32,109,97,120,32,109,105,110,32,110,111,116,32,111,114,32,112,108,117,115,32,113,117,101,114,121,32,114,101,116,117,114,110,32,115,101,113,32,115,116,114,105,110,103,32,115,117,109,32,116,105,109,101,32,116,114,117,101,32,116,121,112,101,32,119,104,101,114,101,32,119,105,116,104,105,110,32]
def rM (s:Ag):Bool:=(!(s == []) && !Lib.contains s [32])&&Lib.contains dO ([32]++s ++ [32])

def J8 (p:UInt8->Bool):Ag->Int
 | []=>-1
 | c::r=>if p c then 0 else if J8 p r = -1 then -1 else J8 p r+1
def F7 (s:Ag):Int:=
 if (((s == [])||decide (24<(s.length:Int)))||A9 (bt s 0))||rM s then 8 else if decide (0<=J8 kO s) then 8 else 0

def Fm (c:UInt8):Ag:=
 if (((c.toNat:Int)==34)||((c.toNat:Int)==92)) then [92,c]
 else if (decide ((c.toNat:Int)<32)||decide (126<(c.toNat:Int))) then [92,120,bt bA (c.toNat / 16),bt bA (c.toNat % 16)]
 else [c]
def Bx:Ag->Ag
 | []=>[]
 | c::r=>Fm c++Bx r
def Pi (s:Ag):Ag×Int:=if decide (64<(s.length:Int)) then ([],13) else ([34]++Bx s ++ [34],0)

def xO (s:Ag):Bool:=
 (s == [97,108,108])||(s == [97,108,116])||(s == [97,110,100])||(s == [98,111,111,108])||(s == [98,121])||(s == [99,111,117,110,116])||(s == [102,97,108,115,101])||(s == [102,105,114,115,116])||(s == [105,102])||(s == [105,110,116])||(s == [108,97,99,107,115])||(s == [108,97,115,116])||(s == [109,97,116,99,104])||(s == [109,97,120])||(s == [109,105,110])||(s == [110,111,116])||(s == [111,114])||(s == [112,108,117,115])||(s == [113,117,101,114,121])||(s == [114,101,116,117,114,110])||(s == [115,101,113])||(s == [115,116,114,105,110,103])||(s == [115,117,109])||(s == [116,105,109,101])||(s == [116,114,117,101])||(s == [116,121,112,101])||(s == [119,104,101,114,101])||(s == [119,105,116,104,105,110])
def nameR (s:Ag):Int:=
 if ((((s == [])||decide (24<(s.length:Int))) || !C7 (bt s 0))||((Bb Ek s:Int) != (s.length:Int)))||xO s then 8 else 0
def sign1 (c:UInt8):Bool:=
 ((c.toNat:Int)==40)||((c.toNat:Int)==41)||((c.toNat:Int)==123)||((c.toNat:Int)==125)||((c.toNat:Int)==44)||((c.toNat:Int)==46)||((c.toNat:Int)==58)||((c.toNat:Int)==59)||((c.toNat:Int)==43)||((c.toNat:Int)==45)||((c.toNat:Int)==60)||((c.toNat:Int)==62)||((c.toNat:Int)==61)
abbrev sign2 (c:UInt8):Bool:=((((c.toNat:Int)==60)||((c.toNat:Int)==62))||((c.toNat:Int)==61))||((c.toNat:Int)==33)
@[reducible] def cTok (t : Tok) : List AV := [.int .i64 t.kind, .str t.text, .int .i64 t.pos]
@[reducible] def cFo (f : Fo) : List AV := [.int .i64 f.tok.kind, .str f.tok.text, .int .i64 f.tok.pos, .int .i64 f.bytes, .int .i64 f.pos, .int .i64 f.err]
def nU (t:Tok):List AV:=cTok t


abbrev J6:Ag:=[58]
abbrev I4:Ag:=[105,110,116]
abbrev Gj:Ag:=[98,111,111,108]
abbrev Fe:Ag:=[115,116,114,105,110,103]
abbrev Dq:Ag:=[116,121,112,101]
abbrev H1:Ag:=[123]
abbrev Oc:Ag:=[125]
abbrev Dm:Ag:=[113,117,101,114,121]
abbrev tF:Ag:=[98,121]
abbrev Gk:Ag:=[109,97,116,99,104]
abbrev G9:Ag:=[114,101,116,117,114,110]
abbrev tH:Ag:=[59]
abbrev C8:Ag:=[44]
abbrev wO:Ag:=[105,102]
abbrev Fq:Ag:=[40]
abbrev Ih:Ag:=[41]
abbrev Yj:Ag:=[115,101,113]
abbrev Yi:Ag:=[97,108,116]
abbrev Yg:Ag:=[97,108,108]
abbrev Sp:Ag:=[112,108,117,115]
abbrev Na:Ag:=[108,97,99,107,115]
abbrev K6:Ag:=[119,105,116,104,105,110]
abbrev K5:Ag:=[119,104,101,114,101]
abbrev w_tor:Ag:=[111,114]
abbrev w_tand:Ag:=[97,110,100]
abbrev w_add:Ag:=[43]
abbrev w_sub:Ag:=[45]
abbrev lL:Ag:=[110,111,116]
abbrev w_lt:Ag:=[60]
abbrev w_le:Ag:=[60,61]
abbrev w_gt:Ag:=[62]
abbrev w_ge:Ag:=[62,61]
abbrev w_eqq:Ag:=[61,61]
abbrev w_neq:Ag:=[33,61]
abbrev tJ:Ag:=[109,105,110]
abbrev tI:Ag:=[109,97,120]
abbrev fH:Ag:=[102,105,114,115,116]
abbrev lK:Ag:=[108,97,115,116]
abbrev iZ:Ag:=[46]
abbrev tK:Ag:=[115,117,109]
abbrev pZ:Ag:=[99,111,117,110,116]
abbrev Hs:Ag:=[116,105,109,101]
abbrev U8:Ag:=[116,114,117,101]
abbrev Q8:Ag:=[102,97,108,115,101]

structure Syn where
 kind:Int
 text:Ag
 name:Ag
 num:Int
 kids:List Syn
 pos:Int
def He:Syn:=⟨0,[],[],0,[],0⟩

structure PS where
 toks:List Tok
 pos:Nat
 fin:Int
 depth:Int
 bad:Int
 whr:Int

def lD (st:PS):Tok:=st.toks.getD st.pos M9
def D0 (st:PS):Int:=if decide ((st.pos:Int)<(st.toks.length:Int)) then (lD st).pos else st.fin
def Fy (e:Int)(st:PS):PS:=if (st.bad==0) then { st with bad:=e,whr:=D0 st } else st
def adv (st:PS):PS:={ st with pos:=st.pos+1 }
def deep (st:PS):PS:={ st with depth:=IntKind.i64.wrap (st.depth+1) }
def shallow (st:PS):PS:={ st with depth:=IntKind.i64.wrap (st.depth-1) }
@[reducible] def endP (st : PS) : Bool := (st.bad != 0) || decide ((st.toks.length : Int) <= (st.pos : Int))

def G6 (w:Ag)(st:PS):Bool:=if endP st then false else ((lD st).text==w)&&(((lD st).kind==3)||(((lD st).kind==0)&&rM w))
def Ol (w:Ag)(st:PS):PS:=if G6 w st then adv st else st
def Bn (w:Ag)(st:PS):PS:=if (st.bad==0) && !(G6 w st) then Fy 4 st else Ol w st
def Ta (k:Int)(st:PS):Bool:=if endP st then false else ((lD st).kind==k)&&((k != 0) || !(rM (lD st).text))
def Ck (k:Int)(st:PS):PS:=if Ta k st then adv st else Fy 4 st
def G7 (k:Int)(st:PS):Ag:=if Ta k st then (lD st).text else []
def eA (st:PS):Int:=if Ta 1 st then (Ve (lD st).text).1 else 0

def Mw (read:Syn->PS->Syn×PS)(z:Syn)(st:PS):Syn×PS:=
 if ((if decide (64<=st.depth) then Fy 12 st else st).bad != 0) then (z,if decide (64<=st.depth) then Fy 12 st else st)
 else ((read z (adv (deep st))).1,shallow (read z (adv (deep st))).2)

def Hr (F:PS->Syn×PS):Nat->PS->List Syn->List Syn×PS
 | 0,st,out=>(out,st)
 | n+1,st,out=>if G6 C8 st then Hr F n (F (adv st)).2 (out ++ [(F (adv st)).1]) else (out,st)
def B1 (st:PS):Nat:=st.toks.length-st.pos+1
def Mh (F:PS->Syn×PS)(st:PS):List Syn×PS:=Hr F (B1 (F st).2) (F st).2 [(F st).1]

def Jk (st:PS):Syn×PS:=
 if G6 I4 (Bn J6 (Ck 0 st)) then (⟨2,G7 0 st,[],0,[],D0 st⟩,adv (Bn J6 (Ck 0 st)))
 else if G6 Gj (Bn J6 (Ck 0 st)) then (⟨2,G7 0 st,[],1,[],D0 st⟩,adv (Bn J6 (Ck 0 st)))
 else if G6 Fe (Bn J6 (Ck 0 st)) then (⟨2,G7 0 st,[],2,[],D0 st⟩,adv (Bn J6 (Ck 0 st)))
 else (⟨2,G7 0 st,[],0,[],D0 st⟩,Fy 4 (Bn J6 (Ck 0 st)))

def H0 (st:PS):Syn×PS:=
 let s1:=Bn Dq st
 let s2:=Bn H1 (Ck 0 s1)
 if (s2.bad==0) && !(G6 Oc s2) then (⟨1,G7 0 s1,[],0,(Mh Jk s2).1,D0 st⟩,Bn Oc (Mh Jk s2).2)
 else (⟨1,G7 0 s1,[],0,[],D0 st⟩,Bn Oc s2)

def Ti (op:Int)(a b:Syn)(at':Int):Syn:=⟨17,[],[],op,[a,b],at'⟩

def Fh (st:PS):Syn×PS:=
 if G6 w_sub st then (⟨13,[],I4,0-eA (adv st),[],D0 st⟩,Ck 1 (adv st))
 else if Ta 1 st then (⟨13,[],I4,eA st,[],D0 st⟩,Ck 1 st)
 else if G6 U8 st then (⟨13,[],Gj,1,[],D0 st⟩,adv st)
 else if G6 Q8 st then (⟨13,[],Gj,0,[],D0 st⟩,adv st)
 else (⟨13,G7 2 st,Fe,0,[],D0 st⟩,Ck 2 st)

def Ts (st:PS):(Ag×Ag)×PS:=
 let s1:=Bn Fq st
 let s2:=Bn iZ (Ck 0 s1)
 ((G7 0 s1,G7 0 s2),Ck 0 s2)

def totL:List (Ag×Int):=[(tJ,2),(tI,3),(fH,4),(lK,5)]
def Ip (E:PS->Syn×PS)(st:PS):Syn×PS:=
  if G6 Fq st then Mw (fun _ s=>((E s).1,Bn Ih (E s).2)) He st
  else match totL.find? (fun s=>G6 s.1 st) with
    | some s=>
      let i:=Ts (adv st)
      let s1:=Bn C8 i.2
      (⟨16,i.1.1,i.1.2,s.2,[(Fh s1).1],D0 st⟩,Bn Ih (Fh s1).2)
    | none=>
      if G6 tK st then
        let i:=Ts (adv st)
        (⟨16,i.1.1,i.1.2,1,[],D0 st⟩,Bn Ih i.2)
      else if G6 pZ st then
        let s1:=Bn Fq (adv st)
        (⟨15,G7 0 s1,[],0,[],D0 st⟩,Bn Ih (Ck 0 s1))
      else if Ta 0 st then
        let s1:=Bn iZ (Ck 0 st)
        if G6 Hs s1 then (⟨14,G7 0 st,Hs,0,[],D0 st⟩,adv s1)
        else (⟨14,G7 0 st,G7 0 s1,0,[],D0 st⟩,Ck 0 s1)
      else Fh st

def Il (F:PS->Syn×PS)(sg:List (Ag×Int)):Nat->PS->Syn->Syn×PS
  | 0,st,out=>(out,st)
  | n+1,st,out=>match sg.find? (fun s=>G6 s.1 st) with
    | some s=>Il F sg n (F (adv st)).2 (Ti s.2 out (F (adv st)).1 out.pos)
    | none=>(out,st)
def Nu (F:PS->Syn×PS)(sg:List (Ag×Int))(st:PS):Syn×PS:=Il F sg (B1 (F st).2) (F st).2 (F st).1
def orL:List (Ag×Int):=[(w_tor,11)]
def qO:List (Ag×Int):=[(w_tand,10)]
def sumL:List (Ag×Int):=[(w_add,5),(w_sub,6)]
def Hd (E:PS->Syn×PS)(st:PS):Syn×PS:=Nu (Ip E) sumL st

def Nv (E:PS->Syn×PS)(st:PS):Syn×PS:=
 let a:=(Hd E st).1
 let s:=(Hd E st).2
 let b:=(Hd E (adv s)).1
 let s':=(Hd E (adv s)).2
 if G6 w_lt s then (Ti 7 a b a.pos,s')
 else if G6 w_le s then (Ti 8 a b a.pos,s')
 else if G6 w_gt s then (Ti 7 b a a.pos,s')
 else if G6 w_ge s then (Ti 8 b a a.pos,s')
 else if G6 w_eqq s then (Ti 9 a b a.pos,s')
 else if G6 w_neq s then (⟨18,[],[],0,[Ti 9 a b a.pos],a.pos⟩,s')
 else (a,s)
def Vd (E N:PS->Syn×PS)(st:PS):Syn×PS:=
 if !(G6 lL st) then Nv E st
 else Mw (fun z s=>({ z with kids:=[(N s).1] },(N s).2)) ⟨18,[],[],0,[],D0 st⟩ st
def andP (E N:PS->Syn×PS)(st:PS):Syn×PS:=Nu (Vd E N) qO st
def orP (E N:PS->Syn×PS)(st:PS):Syn×PS:=Nu (andP E N) orL st
def F5 (st:PS):Syn×PS:=(He,st)
def Se:Nat->(PS->Syn×PS)×(PS->Syn×PS)
 | 0=>(Vd F5 F5,orP F5 F5)
 | n+1=>(Vd (Se n).2 (Se n).1,orP (Se n).2 (Se n).1)
def exprN (n:Nat):PS->Syn×PS:=(Se n).2

def Jj (E:PS->Syn×PS)(st:PS):Syn×PS:=
 let s2:=Ck 0 (Ck 0 st)
 if G6 wO s2 then (⟨5,G7 0 st,G7 0 (Ck 0 st),0,[(E (adv s2)).1],D0 st⟩,(E (adv s2)).2)
 else (⟨5,G7 0 st,G7 0 (Ck 0 st),0,[],D0 st⟩,s2)

def formL:List (Ag×Int):=[(Yj,6),(Yi,7),(Yg,8),(Sp,9),(Na,10),(K6,11),(K5,12)]
def gE (T:PS->Syn×PS)(z:Syn)(st:PS):Syn×PS:=
 let r:=T (Bn C8 st)
 let l:=Hr T (B1 r.2) r.2 (z.kids ++ [r.1])
 ({ z with kids:=l.1 },l.2)
def Fz (E T:PS->Syn×PS)(k:Int)(z:Syn)(st:PS):Syn×PS:=
 if decide (k<=8) then gE T z st
 else if (k==9) then (z,st)
 else if (k==10) then ({ z with kids:=z.kids ++ [(Jj E (Bn C8 st)).1] },(Jj E (Bn C8 st)).2)
 else if (k==11) then ({ z with num:=eA (Bn C8 st) },Ck 1 (Bn C8 st))
 else ({ z with kids:=z.kids ++ [(E (Bn C8 st)).1] },(E (Bn C8 st)).2)
def X3 (E T:PS->Syn×PS)(st:PS):Syn×PS:=
 match formL.find? (fun f=>G6 f.1 st) with
 | some f=>Mw (fun z s=>
  let r:=T (Bn Fq s)
  let q:=Fz E T f.2 { z with kids:=[r.1] } r.2
  (q.1,Bn Ih q.2)) ⟨f.2,[],[],0,[],D0 st⟩ st
 | none=>Jj E st
def oJ (E:PS->Syn×PS):Nat->PS->Syn×PS
 | 0=>X3 E F5
 | n+1=>X3 E (oJ E n)

def O9 (st:PS)(at':Int):Syn×PS:=
 if G6 tF st then (⟨4,G7 0 (adv st),[],0,[],D0 (adv st)⟩,Ck 0 (adv st)) else (⟨4,[],[],0,[],at'⟩,st)
def I1 (E T:PS->Syn×PS)(st:PS):Syn×PS:=
 let s1:=Bn Dm st
 let k:=O9 (Ck 0 s1) (D0 st)
 let p:=T (Bn Gk k.2)
 let l:=Mh E (Bn G9 p.2)
 (⟨3,G7 0 s1,[],0,[k.1,p.1]++l.1,D0 st⟩,Bn tH l.2)

def Ga (w:Ag)(F:PS->Syn×PS):Nat->PS->List Syn->List Syn×PS
 | 0,st,out=>(out,st)
 | n+1,st,out=>if G6 w st then Ga w F n (F st).2 (out ++ [(F st).1]) else (out,st)
def Ch (E T:PS->Syn×PS)(st:PS):Syn×PS:=
 let t:=Ga Dq H0 (B1 st) st []
 let q:=Ga Dm (I1 E T) (B1 t.2) t.2 t.1
 (⟨0,[],[],0,q.1,0⟩,q.2)

def Hn (l:List Tok)(n:Int):PS:=⟨l,0,n,0,0,0⟩
def Vi (r:Syn×PS):Syn×Int×Int:=
 let s:=if decide ((r.2.pos:Int)<(r.2.toks.length:Int)) then Fy 4 r.2 else r.2
 if (s.bad != 0) then (He,s.whr,s.bad) else (r.1,0,0)
def Bv (F:PS->Syn×PS)(s:Ag):Syn×Int×Int:=
 if ((Dl s).2.2 != 0) then (He,(Dl s).2.1,(Dl s).2.2) else Vi (F (Hn (Dl s).1 s.length))
def EE:PS->Syn×PS:=exprN 64
def TT:PS->Syn×PS:=oJ EE 64
mutual
def Cu:Syn->List AV
 | ⟨kind,text,name,num,kids,pos⟩=>[.int .i64 kind,.str text,.str name,.int .i64 num,.sl 6 (mN kids),.int .i64 pos]
def mN:List Syn->List (List AV)
 | []=>[]
 | e::r=>Cu e::mN r
end
theorem gY:∀l:List Syn,mN l=l.map Cu
 | []=>by simp [mN]
 | e::r=>by simp [mN,gY r]
@[reducible] def cSyn (e : Syn) : List AV := [.int .i64 e.kind, .str e.text, .str e.name, .int .i64 e.num, .sl 6 (e.kids.map Cu), .int .i64 e.pos]
theorem Ba (e:Syn):Cu e=cSyn e:=by
 cases e
 simp [Cu,cSyn,gY]
theorem Im {l:List Syn}{k:Nat}{a:Syn}(h:l[k]? = some a):(l.map Cu)[k]? = some (cSyn a):=by
 simp [h,Ba]
@[reducible] def cP (st : PS) : List AV := [.sl 3 (st.toks.map nU), .int .i64 (st.pos : Int), .int .i64 st.fin, .int .i64 st.depth, .int .i64 st.bad, .int .i64 st.whr]
theorem Syn.ind {P:Syn->Prop}(h:∀e,(∀a∈e.kids,P a)->P e):∀e,P e:=by
 intro e;exact Syn.rec (motive_1:=P) (motive_2:=fun l=>∀a∈l,P a) (fun k t n m kids p ih=>h _ ih) (by simp) (fun a l ha hl=>by simp only [Cn,forall_eq_or_imp];exact ⟨ha,hl⟩) e


inductive Pl where
 | only (k:Int)
 | pats
 | exps
@[reducible] def isPat (k : Int) : Bool := decide (5 <= k) && decide (k <= 12)
@[reducible] def isExp (k : Int) : Bool := decide (13 <= k) && decide (k <= 18)
def Pl.at:Pl->Int->Bool
 | .only k,x=>x==k
 | .pats,x=>isPat x
 | .exps,x=>isExp x
def Pl.ok:Pl->Prop
 | .only k=>k=0\/k=1\/k=2\/k=3\/k=4\/k=5\/k=13
 | _=>True

def B5 (t:Syn)(i:Nat):Syn:=t.kids.getD i He
def Id (t:Syn)(i:Nat):Pl:=
 if (t.kind==0) then if ((B5 t i).kind==1)&&(((i:Int)==0)||((B5 t (i-1)).kind==1)) then .only 1 else .only 3
 else if (t.kind==1) then .only 2
 else if (t.kind==3) then if ((i:Int)==0) then .only 4 else if ((i:Int)==1) then .pats else .exps
 else if (t.kind==10) then if ((i:Int)==1) then .only 5 else .pats
 else if (t.kind==12) then if ((i:Int)==1) then .exps else .pats
 else if (t.kind==16) then .only 13
 else if ((t.kind==5)||(t.kind==17))||(t.kind==18) then .exps
 else .pats
def Gr (t:Syn):Bool:=
 if (t.kind==0)||(t.kind==1) then true
 else if (t.kind==3) then decide (3<=(t.kids.length:Int))
 else if (t.kind==5) then decide ((t.kids.length:Int)<=1)
 else if ((t.kind==6)||(t.kind==7))||(t.kind==8) then decide (2<=(t.kids.length:Int))
 else if ((t.kind==9)||(t.kind==11))||(t.kind==18) then ((t.kids.length:Int)==1)
 else if ((t.kind==10)||(t.kind==12))||(t.kind==17) then ((t.kids.length:Int)==2)
 else if (t.kind==16) then if (t.num==1) then ((t.kids.length:Int)==0) else ((t.kids.length:Int)==1)
 else ((t.kids.length:Int)==0)
def Oy (k:Int):Bool×Bool:=
 if ((k==5)||(k==14))||(k==16) then (true,true)
 else if ((((k==1)||(k==2))||(k==3))||(k==4))||(k==15) then (true,false)
 else (false,false)
def bC (s:Ag):Bool:=F7 s==0
def We (t:Syn):Bool:=
 if ((Oy t.kind).1 && !bC t.text)&&((t.kind != 4) || !(t.text == [])) then false
 else (!(Oy t.kind).2||bC t.name)||((t.kind==14)&&(t.name==Hs))
def Kv (t:Syn):Int:=
 if (t.name==I4) then if (decide (t.num < -1099511627776)||decide (1099511627776<t.num)) then 2 else if !(t.text == []) then 3 else 0
 else if (t.name==Gj) then if (decide (t.num<0)||decide (1<t.num)) then 2 else if !(t.text == []) then 3 else 0
 else if (t.name==Fe) then if decide (64<(t.text.length:Int)) then 13 else if (t.num != 0) then 3 else 0
 else 1
def Sf (t:Syn):Int:=
 if (t.kind==2) then if (decide (t.num<0)||decide (2<t.num)) then 1 else 0
 else if (t.kind==16) then if (decide (t.num<1)||decide (5<t.num)) then 1 else 0
 else if (t.kind==17) then if (decide (t.num<5)||decide (11<t.num)) then 1 else 0
 else if (t.kind==11) then if (decide (t.num<0)||decide (1099511627776<t.num)) then 2 else 0
 else if (decide (t.num<0)||decide (0<t.num)) then 3 else 0
def Eu (t:Syn):Int:=
 if (t.kind==13) then Kv t
 else if (Sf t != 0) then Sf t
 else if (!(Oy t.kind).1 && !(t.text == []))||(!(Oy t.kind).2 && !(t.name == [])) then 3 else 0
def eE (p:Pl)(t:Syn):Int:=
 if !(p.at t.kind) then 1 else if !(Gr t) then 15 else if !(We t) then 8 else Eu t
def jZ:List Int->Int
 | []=>0
 | x::r=>if (x != 0) then x else jZ r
mutual
def B4:Syn->Pl->Int
 | ⟨k,x,n,m,kids,p⟩,at'=>if (eE at' ⟨k,x,n,m,kids,p⟩ != 0) then eE at' ⟨k,x,n,m,kids,p⟩ else jZ (cL kids ((List.range kids.length).map (Id ⟨k,x,n,m,kids,p⟩)))
def cL:List Syn->List Pl->List Int
 | [],_=>[]
 | x::r,[]=>[]
 | x::r,p::q=>B4 x p::cL r q
end

def M3 (p k:Int):Bool:=if (p==17) then (k==17)||(k==18) else if (p==18) then (k==17) else false
mutual
def Lo:Syn->Nat
 | ⟨k,_,_,_,kids,_⟩=>Mo k kids+(if (k==18)||(isPat k&&(k != 5)) then 1 else 0)
def Mo (k:Int):List Syn->Nat
 | []=>0
 | x::r=>max (Lo x+(if M3 k x.kind then 1 else 0)) (Mo k r)
end

def En:List Ag->Ag
 | []=>[]
 | [x]=>x
 | x::y::r=>x ++ [44,32]++En (y::r)
def Xv (n:Int):Ag:=if (n==1) then Gj else if (n==2) then Fe else I4
def fY (n:Int):Ag:=if (n==1) then tK else if (n==2) then tJ else if (n==3) then tI else if (n==4) then fH else lK
def X2 (n:Int):Ag:=
 if (n==5) then w_add else if (n==6) then w_sub else if (n==7) then w_lt else if (n==8) then w_le else if (n==9) then w_eqq else if (n==10) then w_tand else w_tor
def Aao (k:Int):Ag:=
 if (k==6) then Yj else if (k==7) then Yi else if (k==8) then Yg else if (k==9) then Sp else if (k==10) then Na else if (k==11) then K6 else K5
def dT (t:Syn):Ag:=
 if (t.name==I4) then Lib.itoa t.num
 else if (t.name==Gj) then if (t.num==1) then U8 else Q8
 else (Pi t.text).1
def J2 (p:Syn)(k:Syn)(s:Ag):Ag:=if M3 p.kind k.kind then [40]++s ++ [41] else s
def Jh (t:Syn)(ws:List Ag):Ag:=
 if (t.kind==0) then ws.flatten
 else if (t.kind==1) then Dq ++ [32]++t.text ++ [32,123]++(if ws == [] then [] else [32]++En ws ++ [32]) ++ [125,10]
 else if (t.kind==2) then t.text ++ [58,32]++Xv t.num
 else if (t.kind==3) then Dm ++ [32]++t.text++(if (B5 t 0).text == [] then [] else [32]++tF ++ [32]++(B5 t 0).text) ++ [10]++Gk ++ [32]++ws.getD 1 [] ++ [10]++G9 ++ [32]++En (ws.drop 2) ++ [59,10]
 else if (t.kind==5) then t.text ++ [32]++t.name++(if ws == [] then [] else [32]++wO ++ [32]++ws.getD 0 [])
 else if (t.kind==13) then dT t
 else if (t.kind==14) then t.text ++ [46]++t.name
 else if (t.kind==15) then pZ ++ [40]++t.text ++ [41]
 else if (t.kind==16) then fY t.num ++ [40]++t.text ++ [46]++t.name++(if ws == [] then [] else [44,32]++ws.getD 0 []) ++ [41]
 else if (t.kind==17) then J2 t (B5 t 0) (ws.getD 0 []) ++ [32]++X2 t.num ++ [32]++J2 t (B5 t 1) (ws.getD 1 [])
 else if (t.kind==18) then lL ++ [32]++J2 t (B5 t 0) (ws.getD 0 [])
 else Aao t.kind ++ [40]++En ws++(if (t.kind==11) then [44,32]++Lib.itoa t.num else []) ++ [41]
mutual
def An:Syn->Ag
 | ⟨k,x,n,m,kids,p⟩=>Jh ⟨k,x,n,m,kids,p⟩ (fQ kids)
def fQ:List Syn->List Ag
 | []=>[]
 | x::r=>An x::fQ r
end
def Ca (t:Syn)(p:Pl):Ag×Int:=
 if (B4 t p != 0) then ([],B4 t p)
 else if decide (64<(Lo t:Int)) then ([],12)
 else if decide (65536<((An t).length:Int)) then ([],13)
 else (An t,0)


theorem fR:∀l:List Syn,fQ l=l.map An
 | []=>by rw [fQ,Bw]
 | x::r=>by rw [fQ,fR r,Be]
theorem jC (t:Syn):An t=Jh t (t.kids.map An):=by cases t;rw [An,fR]
theorem xE (t:Syn):Lo t=Mo t.kind t.kids+(if (t.kind==18)||(isPat t.kind&&(t.kind != 5)) then 1 else 0):=by cases t;rw [Lo]
def Ot (t:Syn):Nat->List Syn->Int
 | _,[]=>0
 | i,x::r=>if (B4 x (Id t i) != 0) then B4 x (Id t i) else Ot t (i+1) r
theorem Yu (t:Syn)(p:Pl):B4 t p=if (eE p t != 0) then eE p t else Ot t 0 t.kids:=by
 have h:∀(l:List Syn) (i:Nat),jZ (cL l ((List.range' i l.length).map (Id t)))=Ot t i l:=by
  intro l
  induction l with
  | nil=>intro i;rw [cL,Ot];rfl
  | cons x r ih=>intro i;rw [A1,List.range'_succ,Be,cL,jZ,Ot,ih]
 rw [<-h t.kids 0,<-List.range_eq_range'];cases t;rw [B4]

theorem Kq:({ data:=#[] }:ByteArray).data.toList=([]:List UInt8):=rfl

structure Vl where
 kind:Int
 num:Int
 text:List UInt8
deriving DecidableEq

structure Ex where
 op:Int
 args:List Ex
 var:Int
 field:Int
 kind:Int
 val:Vl

structure Ev where
 source:Int
 seq:Int
 type:Int
 time:Int
 values:List Vl

structure Ac where
 kind:Int
 count:Int
 val:Vl

def v0:Vl:=⟨0,0,[]⟩
def qF:Ex:=⟨0,[],0,0,0,v0⟩
@[reducible] def eqV (v w : Vl) : Bool := v.kind == w.kind && (v.num == w.num && v.text == w.text)
@[reducible] def isV0 (v : Vl) : Bool := v.kind == 0 && (v.num == 0 && v.text == [])
theorem isV0_iff (v:Vl):isV0 v=true↔v=v0:=by
 cases v;simp [isV0,v0]

def cV (v:Vl):List AV:=[.int .i64 v.kind,.int .i64 v.num,.str v.text]

mutual
def Gx:Ex->List AV
 | ⟨op,args,var,field,kind,val⟩=>[.int .i64 op,.sl 8 (mL args),.int .i64 var,.int .i64 field,.int .i64 kind,.int .i64 val.kind,.int .i64 val.num,.str val.text]
def mL:List Ex->List (List AV)
 | []=>[]
 | e::r=>Gx e::mL r
end

theorem gW:∀l:List Ex,mL l=l.map Gx
 | []=>by simp [mL]
 | e::r=>by simp [mL,gW r]

def cE (e:Ex):List AV:=[.int .i64 e.op,.sl 8 (e.args.map Gx),.int .i64 e.var,.int .i64 e.field,.int .i64 e.kind,.int .i64 e.val.kind,.int .i64 e.val.num,.str e.val.text]
theorem M5 (e:Ex):Gx e=cE e:=by
 cases e
 simp [Gx,cE,gW]

theorem Ex.ind {P:Ex->Prop}(h:∀e,(∀a∈e.args,P a)->P e):∀e,P e:=by
 intro e;exact Ex.rec (motive_1:=P) (motive_2:=fun l=>∀a∈l,P a) (fun op args v f k val ih=>h _ ih) (by simp) (fun a l ha hl=>by simp only [Cn,forall_eq_or_imp];exact ⟨ha,hl⟩) e

theorem bN {l:List Ex}{k:Nat}{a:Ex}(h:l[k]? = some a):(l.map Gx)[k]? = some (cE a):=by
 simp [h,M5]
theorem Cf {α:Type}{f:α->List AV}{l:List α}{k:Nat}{a:α}(h:l[k]? = some a):(l.map f)[k]? = some (f a):=by simp [h]

theorem C2 {α:Type}{l:List α}{k:Nat}(h:decide ((k:Int)<(l.length:Int))=true):∃a,l[k]? = some a:=by
 have:k<l.length:=by simpa using h
 exact ⟨_,List.getElem?_eq_getElem this⟩
theorem Cc {α:Type}{l:List α}{k:Nat}{a:α}(h:l[k]? = some a):k<l.length:=(List.getElem?_eq_some_iff.1 h).1
theorem Bm {α:Type}{l:List α}{k:Nat}{a:α}(h:l[k]? = some a):l.drop k=a::l.drop (k+1):=by
 obtain ⟨h1,h2⟩:=List.getElem?_eq_some_iff.1 h;rw [<-h2];exact L4 h1
theorem Cs {α:Type}{l:List α}{k:Nat}{a:α}(h:l[k]? = some a):l.take (k+1)=l.take k ++ [a]:=by
 rw [List.take_add_one,h];rfl
theorem Dt {α:Type}{l:List α}{k:Nat}(h:decide ((k:Int)<(l.length:Int))=false):l.take k=l:=by
 have:¬k<l.length:=by simpa using h
 exact Sv (by omega)
theorem Gz {α:Type}{l:List α}{k:Nat}(h:decide ((k:Int)<(l.length:Int))=false):l.drop k = []:=by
 have:¬k<l.length:=by simpa using h
 exact Ss (by omega)


def Wt (v:Vl):Int:=
 if v.kind==0&&(decide (v.num < -1099511627776)||decide (1099511627776<v.num)) then 2
 else if v.kind==1&&v.num != 0&&v.num != 1 then 2
 else if decide (64<(v.text.length:Int)) then 13 else 0

def Fp (v:Vl):Int:=
 if v.kind==0||v.kind==1 then (if !(v.text == []) then 3 else Wt v)
 else if v.kind==2 then (if v.num != 0 then 3 else Wt v)
 else 1


def knownS (k:Int):Bool:=decide (0<=k)&&decide (k<=5)
def tX (k:Int)(v:Vl):Bool:=v.kind==0||(k != 1&&k != 2&&k != 3)
def combS (k:Int)(a b:Vl):Vl:=
 if k==1 then ⟨0,IntKind.i64.wrap (a.num+b.num),[]⟩ else if k==2 then ⟨0,min a.num b.num,[]⟩ else if k==3 then ⟨0,max a.num b.num,[]⟩ else if k==4 then a else if k==5 then b else v0
def singleS (k:Int)(v:Vl):Vl:=if k==0 then v0 else v
def mergedS (a b:Ac):Ac:=if a.count==0 then b else if b.count==0 then a else ⟨a.kind,IntKind.i64.wrap (a.count+b.count),combS a.kind a.val b.val⟩

def tW (a:Ac):Int:=
 if !knownS a.kind then 1
 else if decide (a.count<0)||decide (4096<a.count) then 2
 else if (if a.count==0||a.kind==0 then isV0 a.val
  else if a.kind==1 then a.val.kind==0&&a.val.text == []&&decide (0-a.count*1099511627776<=a.val.num)&&decide (a.val.num<=a.count*1099511627776)
  else Fp a.val==0&&tX a.kind a.val) then 0 else 3

def lM (k:Int)(v:Vl):Int:=if Fp v != 0 then Fp v else if !tX k v then 9 else 0

def resultS (a:Ac)(o:Vl):Vl×Int:=
 if tW a != 0 then (v0,tW a)
 else if lM a.kind o != 0 then (v0,lM a.kind o)
 else if a.kind==0 then (⟨0,a.count,[]⟩,0)
 else if a.count==0&&a.kind != 1 then (o,0)
 else (a.val,0)

def stepS (k:Int)(a:Ac)(v:Vl):Ac:=mergedS a ⟨k,1,singleS k v⟩
def foldS (k:Int)(l:List Vl):Ac:=l.foldl (stepS k) ⟨k,0,v0⟩

def Cr {α:Type}(f:α->Int):List α->Int
 | []=>0
 | a::r=>if f a != 0 then f a else Cr f r

def ofS (k:Int)(l:List Vl)(o:Vl):Vl×Int:=
 if !knownS k then (v0,1)
 else if decide (4096<(l.length:Int)) then (v0,5)
 else if Cr (lM k) l != 0 then (v0,Cr (lM k) l)
 else resultS (foldS k l) o


def Km (op:Int):Bool×Bool:=if op=1\/op=4 then (true,true) else if op=2\/op=3 then (true,false) else (false,false)
def Vs (op:Int):Int:=if op<0\/12<op then 0 else if op<5 then 0 else if op=12 then 1 else 2
def jU (k:Int)(v:Vl):Bool:=v.kind==0||k==4||k==5

def Rr (e:Ex):Int:=
 if Fp e.val != 0 then Fp e.val
 else if e.op==4&&(!jU e.kind e.val||(e.kind==1 && !isV0 e.val)) then 9 else 0

def Le (e:Ex):Int:=
 if !(Km e.op).1&&e.var != 0||(!(Km e.op).2&&e.field != 0)||(!(e.op==4)&&e.kind != 0)||(!(e.op==4||e.op==0) && !isV0 e.val) then 3 else 0

def Hi (e:Ex):Int:=
 if !decide (0<=e.op/\e.op<=12) then 1
 else if (e.args.length:Int) != Vs e.op then 15
 else if ((Km e.op).1&&(decide (e.var<0)||decide (16<=e.var)))||((Km e.op).2&&(decide (e.field<0)||decide (8<=e.field))) then 2
 else if e.op==4&&(decide (e.kind<1)||decide (5<e.kind)) then 1
 else if e.op==4||e.op==0 then (if Rr e != 0 then Rr e else Le e)
 else Le e

mutual
def Ms (f:Ex->Int):Ex->Int
 | ⟨op,args,var,field,kind,val⟩=>if f ⟨op,args,var,field,kind,val⟩ != 0 then f ⟨op,args,var,field,kind,val⟩ else fG f args
def fG (f:Ex->Int):List Ex->Int
 | []=>0
 | e::r=>if Ms f e != 0 then Ms f e else fG f r
end
theorem Yf (f:Ex->Int):∀l,fG f l=Cr (Ms f) l
 | []=>by simp [fG,Cr]
 | e::r=>by simp [fG,Cr,Yf f r]
theorem Z4 (f:Ex->Int)(e:Ex):Ms f e=if f e != 0 then f e else Cr (Ms f) e.args:=by
 cases e;rw [Ms,Yf]
abbrev Iz:Ex->Int:=Ms Hi
theorem xX (e:Ex):Iz e=if Hi e != 0 then Hi e else Cr Iz e.args:=Z4 Hi e

mutual
def Dp:Ex->Nat
 | ⟨_,args,_,_,_,_⟩=>1+eY args
def eY:List Ex->Nat
 | []=>0
 | e::r=>Dp e+eY r
end
mutual
def Ic:Ex->Nat
 | ⟨_,args,_,_,_,_⟩=>Xl args+1
def Xl:List Ex->Nat
 | []=>0
 | e::r=>max (Ic e) (Xl r)
end
theorem eZ:∀l,eY l=(l.map Dp).sum
 | []=>by simp [eY]
 | e::r=>by simp [eY,eZ r]
theorem Jz (e:Ex):Dp e=1+(e.args.map Dp).sum:=by cases e;rw [Dp,eZ]
theorem Xm:∀l,Xl l=(l.map Ic).foldr max 0
 | []=>by simp [Xl]
 | e::r=>by simp [Xl,Xm r]
theorem gS (e:Ex):Ic e=(e.args.map Ic).foldr max 0+1:=by cases e;rw [Ic,Xm]

theorem rS {l:List Ex}{a:Ex}(f:Ex->Nat)(h:a∈l):f a<=(l.map f).sum:=by
  induction l with
  | nil=>cases h
  | cons x r ih=>
    simp only [Be,Hu];rcases Cn.1 h with rfl | h
    . omega
    have:=ih h;omega
theorem T5 {e a:Ex}(h:a∈e.args):Dp a<Dp e:=by
 have:=rS Dp h;have:=Jz e;omega
theorem Vh (e:Ex):Ic e<=Dp e:=by
  refine Ex.ind (P:=fun e=>Ic e<=Dp e) (fun e ih=>?_) e;rw [gS,Jz]
  have:∀l:List Ex,(∀a∈l,Ic a<=Dp a)->(l.map Ic).foldr max 0<=(l.map Dp).sum:=by
    intro l
    induction l with
    | nil=>intro _;exact Bc _
    | cons x r ihr=>
      intro h;simp only [Be,List.foldr_cons,Hu];have h1:=h x (by simp);have h2:=ihr fun a ha=>h a (by simp [ha])
      omega
  have:=this e.args ih;omega

def Fg (e:Ex):Int:=if decide (64<(Dp e:Int)) then 5 else if decide (12<(Ic e:Int)) then 12 else Iz e


structure Evr where
 vars:List (List Ev)
 own:Int
 event:Ev

def Evr.ok (x:Evr):Prop:=∀l∈x.vars,l.length<=1048576




theorem dB {l:List Ex}{k:Nat}{a:Ex}(d:Nat)(h:l[k]? = some a):max d (((l.drop k).map Ic).foldr max 0)=max (max d (Ic a)) (((l.drop (k+1)).map Ic).foldr max 0):=by
 rw [Bm h];simp only [Be,List.foldr_cons];omega
theorem sum_drop {l:List Ex}{k:Nat}{a:Ex}(n:Nat)(h:l[k]? = some a):n+((l.drop k).map Dp).sum=(n+Dp a)+((l.drop (k+1)).map Dp).sum:=by
 rw [Bm h];simp only [Be,Hu];omega

theorem size_pos (e:Ex):1<=Dp e:=by rw [Jz];omega
theorem jI (e:Ex)(h:Dp e<=1048576):e.args.length<=1048576:=by
 rw [Jz] at h
 have:∀l:List Ex,l.length<=(l.map Dp).sum:=by
  intro l
  induction l with
  | nil=>exact Bc _
  | cons x r ih=>simp only [A1,Be,Hu];have:=size_pos x;omega
 have:=this e.args;omega

theorem cZ {α:Type}{f:α->Int}:∀{l:List α},Cr f l=0->∀a∈l,f a=0
  | [],_,_,h=>by cases h
  | x::r,h,a,ha=>by
    simp only [Cr] at h;by_cases hx:f x=0
    . rw [if_neg (by simp [hx])] at h
      rcases Cn.1 ha with rfl | ha
      . exact hx
      exact cZ h a ha
    rw [if_pos (by simpa using hx)] at h;exact absurd h hx
theorem I0 {e:Ex}(h:Iz e=0):Hi e=0/\∀a∈e.args,Iz a=0:=by
 rw [xX] at h;by_cases hx:Hi e=0
 .
  rw [if_neg (by simp [hx])] at h;exact ⟨hx,cZ h⟩
 rw [if_pos (by simpa using hx)] at h;exact absurd h hx
theorem rV {e:Ex}(h:Hi e=0):0<=e.op/\e.op<=12/\(e.args.length:Int)=Vs e.op:=by
 unfold Hi at h;split at h
 . cases h
 split at h
 . cases h
 rename_i h1 h2;simp at h1 h2;exact ⟨h1.1,h1.2,h2⟩

theorem rU {e:Ex}(h:Hi e=0):0<=e.field:=by
  have hf:Le e=0->(Km e.op).2=false->e.field=0:=by
    intro h1 h2;unfold Le at h1;split at h1
    . cases h1
    . rename_i h3
      simp [h2] at h3;exact h3.1.1.2
  unfold Hi at h;split at h
  . cases h
  split at h
  . cases h
  split at h
  . cases h
  rename_i h1 h2 h3;cases hu:(Km e.op).2 with
  | true=>
    simp [hu] at h3;omega
  | false=>
    have:Le e=0:=by
      split at h
      . cases h
      split at h
      . split at h
        . rename_i h4
          exact absurd h (by simpa using h4)
        exact h
      exact h
    rw [hf this hu];exact Fr _


def aN (a b:Ex):Bool:=a.op != b.op||a.var != b.var||a.field != b.field||a.kind != b.kind || !eqV a.val b.val||(a.args.length:Int) != (b.args.length:Int)

mutual
def M4:Ex->Ex->Bool
 | ⟨op,args,var,field,kind,val⟩,b=>if aN ⟨op,args,var,field,kind,val⟩ b then false else iU args b.args
def iU:List Ex->List Ex->Bool
 | [],_=>true
 | a::r,l=>if !M4 a (l.headD qF) then false else iU r l.tail
end
theorem eU (a b:Ex):M4 a b=if aN a b then false else iU a.args b.args:=by cases a;rw [M4]


theorem node_var {e:Ex}(h:Hi e=0):0<=e.var/\e.var<16:=by
  have hf:Le e=0->(Km e.op).1=false->e.var=0:=by
    intro h1 h2;unfold Le at h1;split at h1
    . cases h1
    . rename_i h3
      simp [h2] at h3;exact h3.1.1.1
  unfold Hi at h;split at h
  . cases h
  split at h
  . cases h
  split at h
  . cases h
  rename_i h1 h2 h3;cases hu:(Km e.op).1 with
  | true=>
    simp [hu] at h3;omega
  | false=>
    have:Le e=0:=by
      split at h
      . cases h
      split at h
      . split at h
        . rename_i h4
          exact absurd h (by simpa using h4)
        exact h
      exact h
    rw [hf this hu];omega


structure Fi where
 name:List UInt8
 kind:Int
structure e8Sc where
 name:List UInt8
 fields:List Fi
structure Va where
 name:List UInt8
 type:Int
def Tf (f:Fi):List AV:=[.str f.name,.int .i64 f.kind]
def Fx (s:e8Sc):List AV:=[.str s.name,.sl 2 (s.fields.map Tf)]
def Rd (v:Va):List AV:=[.str v.name,.int .i64 v.type]
def Zs:e8Sc:=⟨[],[]⟩
def fi0:Fi:=⟨[],0⟩
def va0:Va:=⟨[],0⟩

def letS (n:Int):Bool:=n==95||(decide (97<=n)&&decide (n<=122))||(decide (65<=n)&&decide (n<=90))
def jR (n:Int):Bool:=decide (48<=n)&&decide (n<=57)
def xB (b:UInt8):Bool:=letS b.toNat||jR b.toNat
def D3 (s:List UInt8):Bool:=!(s.length==0)&&decide (s.length<=24) && !jR ((s.headD 0).toNat)&&s.all xB
def timeB:List UInt8:=[116,105,109,101]
def Lp (s:List UInt8):Bool:=D3 s && !(s==timeB)

def F9 (seen:List (List UInt8))(f:Fi):Int:=
 if !Lp f.name then 8 else if seen.contains f.name then 7 else if decide (f.kind<0)||decide (3<=f.kind) then 1 else 0
def Hp:List (List UInt8)->List Fi->Int
 | _,[]=>0
 | seen,f::r=>if F9 seen f != 0 then F9 seen f else Hp (seen ++ [f.name]) r
def Gi (s:e8Sc):Int:=if !D3 s.name then 8 else if decide (8<(s.fields.length:Int)) then 5 else Hp [] s.fields
def Lj (seen:List (List UInt8))(s:e8Sc):Int:=if Gi s != 0 then Gi s else if seen.contains s.name then 7 else 0
def Ly:List (List UInt8)->List e8Sc->Int
 | _,[]=>0
 | seen,s::r=>if Lj seen s != 0 then Lj seen s else Ly (seen ++ [s.name]) r
def Dr (l:List e8Sc):Int:=if decide (16<(l.length:Int)) then 5 else Ly [] l

def Kb (ns:List (List UInt8))(n:List UInt8):Int:=if ns.contains n then ((ns.idxOf n:Nat):Int) else -1
theorem place_lt {ns:List (List UInt8)}{k:Nat}{n:List UInt8}(h:ns[k]? = some n):decide (Kb ns n<(k:Int))=(ns.take k).contains n:=by
 have hm:n∈ns:=Aj h;have hc:ns.contains n=true:=by simpa using hm
 unfold Kb;rw [if_pos hc]
 have key:ns.idxOf n<k↔n∈ns.take k:=by
  constructor
  .
   intro hlt;have h1:ns.idxOf n<ns.length:=List.idxOf_lt_length_of_mem hm;have h2:ns[ns.idxOf n]=n:=List.getElem_idxOf h1;rw [List.mem_take_iff_getElem];exact ⟨ns.idxOf n,by omega,h2⟩
  intro hmem;obtain ⟨i,hi,he⟩:=List.mem_take_iff_getElem.1 hmem
  have:ns.idxOf n<=i:=by
   refine Nat.le_of_not_lt fun hlt=>?_
   have h4:=List.not_of_lt_findIdx (p:=fun x=>x==n) (xs:=ns) (i:=i) hlt;simp only [he] at h4;simp at h4
  omega
 by_cases hk:ns.idxOf n<k
 .
  have h2:=key.1 hk;have e1:decide (((ns.idxOf n:Nat):Int)<(k:Int))=true:=by simp;omega
  rw [e1];symm;simpa using h2
 have h2:¬n∈ns.take k:=fun h=>hk (key.2 h)
 have e1:decide (((ns.idxOf n:Nat):Int)<(k:Int))=false:=by simp;omega
 rw [e1];symm;simpa using h2

structure Pt where
 op:Int
 args:List Pt
 type:Int
 var:Int
 scope:Int
 span:Int
 cond:Ex
def pt0:Pt:=⟨0,[],0,0,0,0,qF⟩
mutual
def Tj:Pt->List AV
 | ⟨o,asx,t,v,s,n,c⟩=>[.int .i64 o,.sl 14 (mM asx),.int .i64 t,.int .i64 v,.int .i64 s,.int .i64 n,.int .i64 c.op,.sl 8 (c.args.map Gx),.int .i64 c.var,.int .i64 c.field,.int .i64 c.kind,.int .i64 c.val.kind,.int .i64 c.val.num,.str c.val.text]
def mM:List Pt->List (List AV)
 | []=>[]
 | a::r=>Tj a::mM r
end
@[reducible] def cPt (p : Pt) : List AV := [.int .i64 p.op, .sl 14 (p.args.map Tj), .int .i64 p.type, .int .i64 p.var, .int .i64 p.scope, .int .i64 p.span, .int .i64 p.cond.op, .sl 8 (p.cond.args.map Gx), .int .i64 p.cond.var, .int .i64 p.cond.field, .int .i64 p.cond.kind, .int .i64 p.cond.val.kind, .int .i64 p.cond.val.num, .str p.cond.val.text]
theorem gX:∀l:List Pt,mM l=l.map Tj
 | []=>by rw [mM,Bw]
 | a::r=>by rw [mM,gX r,Be]
theorem jS (p:Pt):Tj p=cPt p:=by
 cases p;rw [Tj,gX]
mutual
def J5:Pt->Nat
 | ⟨_,asx,_,_,_,_,_⟩=>ptNs asx+1
def ptNs:List Pt->Nat
 | []=>0
 | a::r=>J5 a+ptNs r
end
theorem oU:∀l:List Pt,ptNs l=(l.map J5).sum
 | []=>by rw [ptNs];rfl
 | a::r=>by rw [ptNs,oU r,Be,Hu]
theorem Mq (p:Pt):J5 p=(p.args.map J5).sum+1:=by cases p;rw [J5,oU]
theorem Pt.ind {Q:Pt->Prop}(h:∀e,(∀a∈e.args,Q a)->Q e):∀e,Q e:=by
  have key:∀n e,J5 e<=n->Q e:=by
    intro n
    induction n with
    | zero=>intro e he;rw [Mq] at he;omega
    | succ n ih=>
      intro e he;refine h e fun a ha=>ih a ?_
      rw [Mq] at he
      have:∀l:List Pt,a∈l->J5 a<=(l.map J5).sum:=by
        intro l
        induction l with
        | nil=>intro h;cases h
        | cons x r ih2=>
          intro h;rw [Be,Hu];rcases Cn.1 h with rfl | h
          . omega
          have:=ih2 h;omega
      have:=this _ ha;omega
  exact fun e=>key _ e (Bc _)

structure Fa where
 pos:Int
 err:Int
def Tk:Fa:=⟨0,0⟩
def jM (f:Fa):List AV:=[.int .i64 f.pos,.int .i64 f.err]
def Mc (f:Syn->Fa):List Syn->Fa
 | []=>Tk
 | x::r=>if ((f x).err != 0) then f x else Mc f r

mutual
def Xc:Syn->List Syn
 | ⟨k,x,n,m,kids,p⟩=>if (k==5) then [⟨k,x,n,m,kids,p⟩] else if (k==10) then kids.getD 1 He::evH kids else if (k==12) then evH kids else evL kids
def evH:List Syn->List Syn
 | []=>[]
 | x::_=>Xc x
def evL:List Syn->List Syn
 | []=>[]
 | x::r=>Xc x++evL r
end
theorem uN:∀l:List Syn,evL l=l.flatMap Xc
 | []=>by rw [evL];rfl
 | x::r=>by rw [evL,uN r,Kf]
theorem jV {l:List Syn}(h:0<l.length):evH l=Xc (l.getD 0 He):=by
 cases l with
 | nil=>simp at h
 | cons x r=>rw [evH];rfl
theorem Y1 (t:Syn):Xc t=if (t.kind==5) then [t] else if (t.kind==10) then B5 t 1::evH t.kids else if (t.kind==12) then evH t.kids else t.kids.flatMap Xc:=by
 cases t;rw [Xc,uN];rfl

abbrev G0 (T:List e8Sc):List Ag:=T.map (·.name)
abbrev Mp (V:List Va):List Ag:=V.map (·.name)
def Tr (l:List Ag)(n:Ag):Int:=if l.contains n then ((l.idxOf n:Nat):Int) else 0
def Ny (T:List e8Sc)(V:List Va)(t:Syn):Int:=
 if ((V.length:Int)==16) then 5 else if !((G0 T).contains t.text) then 8 else if (Mp V).contains t.name then 7 else 0
def aZ (T:List e8Sc)(t:Syn):Va:=⟨t.name,Tr (G0 T) t.text⟩
def P6 (T:List e8Sc):List Va->List Syn->List Va×Fa
 | V,[]=>(V,Tk)
 | V,t::r=>if (Ny T V t != 0) then (V,⟨t.pos,Ny T V t⟩) else P6 T (V ++ [aZ T t]) r
def Ey (s:e8Sc)(n:Ag):Int:=Kb (s.fields.map (·.name)) n
def Yp (T:List e8Sc)(V:List Va)(v:Int):e8Sc:=(T[((V[v.toNat]?).getD va0).type.toNat]?).getD Zs

def O8 (T:List e8Sc)(n:Ag):List Va->List Int->List Int×Bool
 | [],out=>(out,true)
 | v::r,out=>if decide (Ey ((T[v.type.toNat]?).getD Zs) n<0) then ([],false) else O8 T n r (out.set v.type.toNat (Ey ((T[v.type.toNat]?).getD Zs) n))
def O0 (T:List e8Sc)(V:List Va)(n:Ag):List Int×Bool:=O8 T n V (List.replicate T.length (-1))

section
variable (T:List e8Sc) (V:List Va)
def Mi (t:Syn):Fa:=
 if ((t.kind != 14)&&(t.kind != 15))&&(t.kind != 16) then Tk
 else if !((Mp V).contains t.text) then ⟨t.pos,8⟩
 else if (t.kind==15)||((t.kind==14)&&(t.name==Hs)) then Tk
 else if decide (Ey (Yp T V (Tr (Mp V) t.text)) t.name<0) then ⟨t.pos,6⟩
 else Tk
mutual
def H4:Syn->Fa
 | ⟨k,x,n,m,kids,p⟩=>if ((Mi T V ⟨k,x,n,m,kids,p⟩).err != 0) then Mi T V ⟨k,x,n,m,kids,p⟩ else qA kids
def qA:List Syn->Fa
 | []=>Tk
 | x::r=>if ((H4 x).err != 0) then H4 x else qA r
end
theorem fI:∀l:List Syn,qA T V l=Mc (H4 T V) l
 | []=>by rw [qA,Mc]
 | x::r=>by rw [qA,Mc,fI r]
theorem fJ (t:Syn):H4 T V t=if ((Mi T V t).err != 0) then Mi T V t else Mc (H4 T V) t.kids:=by
 cases t;rw [H4,fI]

def pW (t:Syn):Vl:=if (t.name==Gj) then ⟨1,t.num,[]⟩ else if (t.name==Fe) then ⟨2,0,t.text⟩ else ⟨0,t.num,[]⟩
def Sy (t:Syn)(asx:List Ex):Ex:=
 if (t.kind==13) then ⟨0,[],0,0,0,pW t⟩
 else if (t.kind==14) then if (t.name==Hs) then ⟨2,[],Tr (Mp V) t.text,0,0,v0⟩ else ⟨1,[],Tr (Mp V) t.text,Ey (Yp T V (Tr (Mp V) t.text)) t.name,0,v0⟩
 else if (t.kind==15) then ⟨3,[],Tr (Mp V) t.text,0,0,v0⟩
 else if (t.kind==16) then ⟨4,[],Tr (Mp V) t.text,Ey (Yp T V (Tr (Mp V) t.text)) t.name,t.num,if decide ((0:Int)<(t.kids.length:Int)) then pW (B5 t 0) else v0⟩
 else if (t.kind==18) then ⟨12,asx,0,0,0,v0⟩
 else ⟨t.num,asx,0,0,0,v0⟩
mutual
def F6:Syn->Ex
 | ⟨k,x,n,m,kids,p⟩=>Sy T V ⟨k,x,n,m,kids,p⟩ (mO kids)
def mO:List Syn->List Ex
 | []=>[]
 | x::r=>F6 x::mO r
end
theorem iB:∀l:List Syn,mO T V l=l.map (F6 T V)
 | []=>by rw [mO,Bw]
 | x::r=>by rw [mO,iB r,Be]
theorem Kw (t:Syn):F6 T V t=Sy T V t (t.kids.map (F6 T V)):=by cases t;rw [F6,iB]

def T8:Ex:=⟨0,[],0,0,0,⟨1,1,[]⟩⟩
def P4 (t:Syn):Ex:=if decide ((0:Int)<(t.kids.length:Int)) then F6 T V (B5 t 0) else T8
structure Nx where
 next:Int
 scopes:Int
def Qu (t:Syn)(s:Nx)(asx:List Pt):Pt:=
 if (t.kind==5) then ⟨0,asx,Tr (G0 T) t.text,s.next,0,0,P4 T V t⟩
 else if (t.kind==10) then ⟨5,asx,Tr (G0 T) (B5 t 1).text,s.next,s.scopes,0,P4 T V (B5 t 1)⟩
 else if (t.kind==11) then ⟨6,asx,0,0,s.scopes,t.num,qF⟩
 else if (t.kind==12) then ⟨7,asx,0,0,0,0,F6 T V (B5 t 1)⟩
 else ⟨t.kind-5,asx,0,0,0,0,qF⟩
def Zn (t:Syn)(s:Nx):Nx:=⟨if (t.kind==5)||(t.kind==10) then s.next+1 else s.next,if (t.kind==10)||(t.kind==11) then s.scopes+1 else s.scopes⟩
mutual
def Kc:Syn->Nx->Pt×Nx
  | ⟨k,x,n,m,kids,p⟩,s=>
    if (k==5) then (Qu T V ⟨k,x,n,m,kids,p⟩ s [],Zn ⟨k,x,n,m,kids,p⟩ s)
    else if (k==10)||(k==12) then (Qu T V ⟨k,x,n,m,kids,p⟩ s (ptHR kids (Zn ⟨k,x,n,m,kids,p⟩ s)).1,(ptHR kids (Zn ⟨k,x,n,m,kids,p⟩ s)).2)
    else (Qu T V ⟨k,x,n,m,kids,p⟩ s (Gy kids (Zn ⟨k,x,n,m,kids,p⟩ s)).1,(Gy kids (Zn ⟨k,x,n,m,kids,p⟩ s)).2)
def ptHR:List Syn->Nx->List Pt×Nx
 | [],s=>([],s)
 | x::_,s=>([(Kc x s).1],(Kc x s).2)
def Gy:List Syn->Nx->List Pt×Nx
 | [],s=>([],s)
 | x::r,s=>((Kc x s).1::(Gy r (Kc x s).2).1,(Gy r (Kc x s).2).2)
end
def Hj (t:Syn):List Syn:=if (t.kind==5) then [] else if (t.kind==10)||(t.kind==12) then t.kids.take 1 else t.kids
theorem yF:∀(l:List Syn) (s:Nx),ptHR T V l s=Gy T V (l.take 1) s
 | [],s=>by rw [ptHR,List.take_nil,Gy]
 | x::r,s=>by rw [ptHR,Ue,List.take_zero,Gy,Gy]
theorem vS (t:Syn)(s:Nx):Kc T V t s=(Qu T V t s (Gy T V (Hj t) (Zn t s)).1,(Gy T V (Hj t) (Zn t s)).2):=by
  cases t with | mk k x n m kids p=>
  rw [Kc];unfold Hj;cases h1:(k==5) with
  | true=>simp only [h1,if_true];rw [Gy]
  | false=>
    simp only [h1,Al,if_false];cases h2:(k==10)||(k==12) with
    | true=>simp only [h2,if_true];rw [yF]
    | false=>simp only [h2,Al,if_false]
theorem oS:∀(l r:List Syn) (s:Nx),Gy T V (l++r) s=((Gy T V l s).1++(Gy T V r (Gy T V l s).2).1,(Gy T V r (Gy T V l s).2).2)
 | [],r,s=>by rw [Du,Gy];rfl
 | x::l,r,s=>by rw [Dn,Gy,oS l r,Gy];rfl
end
end Go.Proofs.YtibcelnfkhdjaaaGreatDoor
