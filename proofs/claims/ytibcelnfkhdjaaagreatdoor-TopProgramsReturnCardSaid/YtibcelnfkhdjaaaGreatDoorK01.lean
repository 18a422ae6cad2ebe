/-
  Several texts in one: M, M12, M13, EM, EM2, EM3, EM4, EM5, EM6, EM10, R1. No condition.
-/
import Derived.Test.YtibcelnfkhdjaaaGreatDoorAw
import Derived.Lib.IndexMore
import Derived.Lib.LastIndexLaws
import Derived.Lib.Join
import Derived.Lib.ItoaLen
import Derived.IntWalk
set_option linter.unusedVariables false
set_option linter.unusedSimpArgs false
namespace Go.Proofs.YtibcelnfkhdjaaaGreatDoor
open Go Go.Aw

abbrev Ac:=List UInt8

def bt (s:Ac)(i:Nat):UInt8:=s.getD i 0
theorem J4 {s:Ac}{i:Nat}(h:i<s.length):s[i]? = some (bt s i):=by simp [bt,Dm,List.getElem?_eq_getElem h]

def A5 (c:UInt8):Bool:=decide (48<=(c.toNat:Int))&&decide ((c.toNat:Int)<=57)
def C6 (c:UInt8):Bool:=(((c.toNat:Int)==95)||(decide (97<=(c.toNat:Int))&&decide ((c.toNat:Int)<=122)))||(decide (65<=(c.toNat:Int))&&decide ((c.toNat:Int)<=90))
def E4 (c:UInt8):Bool:=C6 c||A5 c
def tM (c:UInt8):Bool:=!C6 c && !A5 c
def xH (c:UInt8):Bool:=(c.toNat:Int) != 10

def Bd (p:UInt8->Bool):Ac->Nat
 | []=>0
 | c::r=>if p c then Bd p r+1 else 0

structure Tok where
 kind:Int
 text:Ac
 pos:Int
deriving DecidableEq
structure Fo where
 tok:Tok
 bytes:Int
 pos:Int
 err:Int
deriving DecidableEq
def Pw:Tok:=⟨0,[],0⟩
def foZ:Fo:=⟨Pw,0,0,0⟩
def Lp (pos err:Int):Fo:=⟨Pw,0,pos,err⟩
def Xf (kind:Int)(text:Ac)(bytes:Int):Fo:=⟨⟨kind,text,0⟩,bytes,0,0⟩

def Lq (s:Ac):Fo:=if !C6 (bt s 0) then foZ else if decide (24<(Bd E4 s:Int)) then Lp 0 8 else Xf 0 (s.take (Bd E4 s)) (Bd E4 s)

def dvS (c:UInt8):Int:=IntKind.u8.wrap ((c.toNat:Int)-48)
def Jv:Ac->Int->Int×Int
 | [],n=>(n,0)
 | c::r,n=>if decide (1099511627776<10*n+dvS c) then (0,2) else Jv r (10*n+dvS c)
def Tu (s:Ac):Int×Int:=if (s == [])||decide ((Bd A5 s:Int)<(s.length:Int)) then (0,4) else Jv s 0

def Gy (s:Ac):Fo:=
 if ((Bd A5 s:Int)==0) then foZ
 else if ((Tu (s.take (Bd A5 s))).2 != 0) then Lp 0 (Tu (s.take (Bd A5 s))).2
 else if (decide ((Bd A5 s:Int)<(s.length:Int))&&C6 (bt s (Bd A5 s))) then Lp (Bd A5 s) 4
 else Xf 1 (s.take (Bd A5 s)) (Bd A5 s)

def iK:Ac:=[48,49,50,51,52,53,54,55,56,57,97,98,99,100,101,102]
abbrev sU (c:UInt8):Int:=Lib.indexByte iK c
def rQ (n:Int):UInt8:=UInt8.ofNat (IntKind.u8.wrap n).toNat

def Kg (s:Ac):UInt8×Int:=
 if decide (2<=(s.length:Int))&&(((bt s 1).toNat:Int)==34||((bt s 1).toNat:Int)==92) then (bt s 1,2)
 else if decide (4<=(s.length:Int))&&(((bt s 1).toNat:Int)==120) then
  if decide (0<=sU (bt s 2))&&decide (0<=sU (bt s 3)) then (rQ (16*sU (bt s 2)+sU (bt s 3)),4) else (0,0)
 else (0,0)

def Fz (s:Ac):Nat->Nat->Ac->Fo
  | 0,_,_=>Lp s.length 4
  | n+1,i,b=>
    if decide ((i:Int)<(s.length:Int)) then
      if (((bt s i).toNat:Int)==34) then
        if decide (64<(b.length:Int)) then Lp 0 13 else Xf 2 b ((i:Int)+1)
      else if (((bt s i).toNat:Int)==92) then
        if ((Kg (s.drop i)).2==0) then Lp i 4 else Fz s n (i+(Kg (s.drop i)).2.toNat) (b ++ [(Kg (s.drop i)).1])
      else if (decide (((bt s i).toNat:Int)<32)||decide (126<((bt s i).toNat:Int))) then Lp i 4
      else Fz s n (i+1) (b ++ [bt s i])
    else Lp s.length 4
def Mq (s:Ac):Fo:=if (((bt s 0).toNat:Int) != 34) then foZ else Fz s (s.length+1) 1 []

def qX:List Ac:=[[60,61],[62,61],[61,61],[33,61],[40],[41],[123],[125],[44],[46],[58],[59],[43],[45],[60],[62],[61]]
def It (s:Ac):List Ac->Fo
 | []=>Lp 0 4
 | x::r=>if Lib.hasPrefix s x then Xf 3 x x.length else It s r
def Ni (s:Ac):Fo:=It s qX

def Jw (s:Ac):Int:=if (((bt s 0).toNat:Int)==35) then Bd xH s else if decide (0<=Lib.indexByte [32,9,13,10] (bt s 0)) then 1 else 0

def M0 (f:Fo):Bool:=decide (0<f.bytes)||(f.err != 0)
def By (s:Ac):Fo:=if M0 (Lq s) then Lq s else if M0 (Gy s) then Gy s else if M0 (Mq s) then Mq s else Ni s

def Ks (s:Ac):Nat->Nat->List Tok->List Tok×Int×Int
  | 0,_,_=>([],0,0)
  | n+1,i,out=>
    if decide ((i:Int)<(s.length:Int)) then
      if decide (0<Jw (s.drop i)) then Ks s n (i+(Jw (s.drop i)).toNat) out
      else if ((By (s.drop i)).err != 0) then ([],(i:Int)+(By (s.drop i)).pos,(By (s.drop i)).err)
      else Ks s n (i+(By (s.drop i)).bytes.toNat) (out ++ [⟨(By (s.drop i)).tok.kind,(By (s.drop i)).tok.text,i⟩])
    else (out,0,0)
def Cy (s:Ac):List Tok×Int×Int:=if decide (65536<(s.length:Int)) then ([],0,13) else Ks s (s.length+1) 0 []

def lR:Ac:=[32,97,108,108,32,97,108,116,32,97,110,100,32,98,111,111,108,32,98,121,32,99,111,117,110,116,32,102,97,108,115,101,32,102,105,114,115,116,32,105,102,32,105,110,116,32,108,97,99,107,115,32,108,97,115,116,32,109,97,116,99,104,32,109,97,120,32,109,105,110,32,110,111,116,32,111,114,32,112,108,117,115,32,113,117,101,114,121,32,114,101,116,117,114,110,32,115,101,113,32,115,116,114,105,110,103,32,115,117,109,32,116,105,109,101,32,116,114,117,101,32,116,121,112,101,32,119,104,101,114,101,32,119,105,116,104,105,110,32]
def Ro (s:Ac):Bool:=(!(s == []) && !Lib.contains s [32])&&Lib.contains lR ([32]++s ++ [32])

def L7 (p:UInt8->Bool):Ac->Int
 | []=>-1
 | c::r=>if p c then 0 else if L7 p r = -1 then -1 else L7 p r+1
def Ib (s:Ac):Int:=
 if (((s == [])||decide (24<(s.length:Int)))||A5 (bt s 0))||Ro s then 8 else if decide (0<=L7 tM s) then 8 else 0

def Hl (c:UInt8):Ac:=
 if (((c.toNat:Int)==34)||((c.toNat:Int)==92)) then [92,c]
 else if (decide ((c.toNat:Int)<32)||decide (126<(c.toNat:Int))) then [92,120,bt iK (c.toNat / 16),bt iK (c.toNat % 16)]
 else [c]
def Bw:Ac->Ac
 | []=>[]
 | c::r=>Hl c++Bw r
def Rz (s:Ac):Ac×Int:=if decide (64<(s.length:Int)) then ([],13) else ([34]++Bw s ++ [34],0)

def keyR (s:Ac):Bool:=
 (s == [97,108,108])||(s == [97,108,116])||(s == [97,110,100])||(s == [98,111,111,108])||(s == [98,121])||(s == [99,111,117,110,116])||(s == [102,97,108,115,101])||(s == [102,105,114,115,116])||(s == [105,102])||(s == [105,110,116])||(s == [108,97,99,107,115])||(s == [108,97,115,116])||(s == [109,97,116,99,104])||(s == [109,97,120])||(s == [109,105,110])||(s == [110,111,116])||(s == [111,114])||(s == [112,108,117,115])||(s == [113,117,101,114,121])||(s == [114,101,116,117,114,110])||(s == [115,101,113])||(s == [115,116,114,105,110,103])||(s == [115,117,109])||(s == [116,105,109,101])||(s == [116,114,117,101])||(s == [116,121,112,101])||(s == [119,104,101,114,101])||(s == [119,105,116,104,105,110])
def nameR (s:Ac):Int:=
 if ((((s == [])||decide (24<(s.length:Int))) || !C6 (bt s 0))||((Bd E4 s:Int) != (s.length:Int)))||keyR s then 8 else 0
def sign1 (c:UInt8):Bool:=
 ((c.toNat:Int)==40)||((c.toNat:Int)==41)||((c.toNat:Int)==123)||((c.toNat:Int)==125)||((c.toNat:Int)==44)||((c.toNat:Int)==46)||((c.toNat:Int)==58)||((c.toNat:Int)==59)||((c.toNat:Int)==43)||((c.toNat:Int)==45)||((c.toNat:Int)==60)||((c.toNat:Int)==62)||((c.toNat:Int)==61)
abbrev sign2 (c:UInt8):Bool:=((((c.toNat:Int)==60)||((c.toNat:Int)==62))||((c.toNat:Int)==61))||((c.toNat:Int)==33)
@[reducible] def cTok (t : Tok) : List AV := [.int .i64 t.kind, .str t.text, .int .i64 t.pos]
@[reducible] def cFo (f : Fo) : List AV := [.int .i64 f.tok.kind, .str f.tok.text, .int .i64 f.tok.pos, .int .i64 f.bytes, .int .i64 f.pos, .int .i64 f.err]
def xK (t:Tok):List AV:=cTok t


abbrev G9:Ac:=[58]
abbrev Ig:Ac:=[105,110,116]
abbrev Gg:Ac:=[98,111,111,108]
abbrev Ha:Ac:=[115,116,114,105,110,103]
abbrev B6:Ac:=[116,121,112,101]
abbrev Em:Ac:=[123]
abbrev En:Ac:=[125]
abbrev B5:Ac:=[113,117,101,114,121]
abbrev O2:Ac:=[98,121]
abbrev Dx:Ac:=[109,97,116,99,104]
abbrev Dc:Ac:=[114,101,116,117,114,110]
abbrev X2:Ac:=[59]
abbrev Cl:Ac:=[44]
abbrev Lv:Ac:=[105,102]
abbrev Ds:Ac:=[40]
abbrev Gp:Ac:=[41]
abbrev Z8:Ac:=[115,101,113]
abbrev Z7:Ac:=[97,108,116]
abbrev Z6:Ac:=[97,108,108]
abbrev T0:Ac:=[112,108,117,115]
abbrev Oc:Ac:=[108,97,99,107,115]
abbrev Lx:Ac:=[119,105,116,104,105,110]
abbrev Lw:Ac:=[119,104,101,114,101]
abbrev Aaf:Ac:=[111,114]
abbrev nR:Ac:=[97,110,100]
abbrev w_add:Ac:=[43]
abbrev Pc:Ac:=[45]
abbrev Gq:Ac:=[110,111,116]
abbrev w_lt:Ac:=[60]
abbrev w_le:Ac:=[60,61]
abbrev w_gt:Ac:=[62]
abbrev w_ge:Ac:=[62,61]
abbrev rC:Ac:=[61,61]
abbrev Aae:Ac:=[33,61]
abbrev gE:Ac:=[109,105,110]
abbrev gD:Ac:=[109,97,120]
abbrev Ux:Ac:=[102,105,114,115,116]
abbrev Zn:Ac:=[108,97,115,116]
abbrev Hx:Ac:=[46]
abbrev N5:Ac:=[115,117,109]
abbrev Hj:Ac:=[99,111,117,110,116]
abbrev Ej:Ac:=[116,105,109,101]
abbrev L4:Ac:=[116,114,117,101]
abbrev Jx:Ac:=[102,97,108,115,101]

structure Syn where
 kind:Int
 text:Ac
 name:Ac
 num:Int
 kids:List Syn
 pos:Int
def Iz:Syn:=⟨0,[],[],0,[],0⟩

structure PS where
 toks:List Tok
 pos:Nat
 fin:Int
 depth:Int
 bad:Int
 whr:Int

def jM (st:PS):Tok:=st.toks.getD st.pos Pw
def D4 (st:PS):Int:=if decide ((st.pos:Int)<(st.toks.length:Int)) then (jM st).pos else st.fin
def Gw (e:Int)(st:PS):PS:=if (st.bad==0) then { st with bad:=e,whr:=D4 st } else st
def adv (st:PS):PS:={ st with pos:=st.pos+1 }
def deep (st:PS):PS:={ st with depth:=IntKind.i64.wrap (st.depth+1) }
def shallow (st:PS):PS:={ st with depth:=IntKind.i64.wrap (st.depth-1) }
@[reducible] def endP (st : PS) : Bool := (st.bad != 0) || decide ((st.toks.length : Int) <= (st.pos : Int))

def Ea (w:Ac)(st:PS):Bool:=if endP st then false else ((jM st).text==w)&&(((jM st).kind==3)||(((jM st).kind==0)&&Ro w))
def Ov (w:Ac)(st:PS):PS:=if Ea w st then adv st else st
def Bb (w:Ac)(st:PS):PS:=if (st.bad==0) && !(Ea w st) then Gw 4 st else Ov w st
def Nt (k:Int)(st:PS):Bool:=if endP st then false else ((jM st).kind==k)&&((k != 0) || !(Ro (jM st).text))
def Cm (k:Int)(st:PS):PS:=if Nt k st then adv st else Gw 4 st
def Hw (k:Int)(st:PS):Ac:=if Nt k st then (jM st).text else []
def Up (st:PS):Int:=if Nt 1 st then (Tu (jM st).text).1 else 0

def M4 (read:Syn->PS->Syn×PS)(z:Syn)(st:PS):Syn×PS:=
 if ((if decide (64<=st.depth) then Gw 12 st else st).bad != 0) then (z,if decide (64<=st.depth) then Gw 12 st else st)
 else ((read z (adv (deep st))).1,shallow (read z (adv (deep st))).2)

def Gb (F:PS->Syn×PS):Nat->PS->List Syn->List Syn×PS
 | 0,st,out=>(out,st)
 | n+1,st,out=>if Ea Cl st then Gb F n (F (adv st)).2 (out ++ [(F (adv st)).1]) else (out,st)
def B1 (st:PS):Nat:=st.toks.length-st.pos+1
def Kq (F:PS->Syn×PS)(st:PS):List Syn×PS:=Gb F (B1 (F st).2) (F st).2 [(F st).1]

def Id (st:PS):Syn×PS:=
 if Ea Ig (Bb G9 (Cm 0 st)) then (⟨2,Hw 0 st,[],0,[],D4 st⟩,adv (Bb G9 (Cm 0 st)))
 else if Ea Gg (Bb G9 (Cm 0 st)) then (⟨2,Hw 0 st,[],1,[],D4 st⟩,adv (Bb G9 (Cm 0 st)))
 else if Ea Ha (Bb G9 (Cm 0 st)) then (⟨2,Hw 0 st,[],2,[],D4 st⟩,adv (Bb G9 (Cm 0 st)))
 else (⟨2,Hw 0 st,[],0,[],D4 st⟩,Gw 4 (Bb G9 (Cm 0 st)))

def Hh (st:PS):Syn×PS:=
 let s1:=Bb B6 st
 let s2:=Bb Em (Cm 0 s1)
 if (s2.bad==0) && !(Ea En s2) then (⟨1,Hw 0 s1,[],0,(Kq Id s2).1,D4 st⟩,Bb En (Kq Id s2).2)
 else (⟨1,Hw 0 s1,[],0,[],D4 st⟩,Bb En s2)

def K6 (op:Int)(a b:Syn)(at':Int):Syn:=⟨17,[],[],op,[a,b],at'⟩

def D9 (st:PS):Syn×PS:=
 if Ea Pc st then (⟨13,[],Ig,0-Up (adv st),[],D4 st⟩,Cm 1 (adv st))
 else if Nt 1 st then (⟨13,[],Ig,Up st,[],D4 st⟩,Cm 1 st)
 else if Ea L4 st then (⟨13,[],Gg,1,[],D4 st⟩,adv st)
 else if Ea Jx st then (⟨13,[],Gg,0,[],D4 st⟩,adv st)
 else (⟨13,Hw 2 st,Ha,0,[],D4 st⟩,Cm 2 st)

def Rm (st:PS):(Ac×Ac)×PS:=
 let s1:=Bb Ds st
 let s2:=Bb Hx (Cm 0 s1)
 ((Hw 0 s1,Hw 0 s2),Cm 0 s2)

def totL:List (Ac×Int):=[(gE,2),(gD,3),(Ux,4),(Zn,5)]
def D0 (E:PS->Syn×PS)(st:PS):Syn×PS:=
  if Ea Ds st then M4 (fun _ s=>((E s).1,Bb Gp (E s).2)) Iz st
  else match totL.find? (fun s=>Ea s.1 st) with
    | some s=>
      let i:=Rm (adv st)
      let s1:=Bb Cl i.2
      (⟨16,i.1.1,i.1.2,s.2,[(D9 s1).1],D4 st⟩,Bb Gp (D9 s1).2)
    | none=>
      if Ea N5 st then
        let i:=Rm (adv st)
        (⟨16,i.1.1,i.1.2,1,[],D4 st⟩,Bb Gp i.2)
      else if Ea Hj st then
        let s1:=Bb Ds (adv st)
        (⟨15,Hw 0 s1,[],0,[],D4 st⟩,Bb Gp (Cm 0 s1))
      else if Nt 0 st then
        let s1:=Bb Hx (Cm 0 st)
        if Ea Ej s1 then (⟨14,Hw 0 st,Ej,0,[],D4 st⟩,adv s1)
        else (⟨14,Hw 0 st,Hw 0 s1,0,[],D4 st⟩,Cm 0 s1)
      else D9 st

def Ge (F:PS->Syn×PS)(sg:List (Ac×Int)):Nat->PS->Syn->Syn×PS
  | 0,st,out=>(out,st)
  | n+1,st,out=>match sg.find? (fun s=>Ea s.1 st) with
    | some s=>Ge F sg n (F (adv st)).2 (K6 s.2 out (F (adv st)).1 out.pos)
    | none=>(out,st)
def I5 (F:PS->Syn×PS)(sg:List (Ac×Int))(st:PS):Syn×PS:=Ge F sg (B1 (F st).2) (F st).2 (F st).1
def orL:List (Ac×Int):=[(Aaf,11)]
def kA:List (Ac×Int):=[(nR,10)]
def uG:List (Ac×Int):=[(w_add,5),(Pc,6)]
def Fu (E:PS->Syn×PS)(st:PS):Syn×PS:=I5 (D0 E) uG st

def L5 (E:PS->Syn×PS)(st:PS):Syn×PS:=
 let a:=(Fu E st).1
 let s:=(Fu E st).2
 let b:=(Fu E (adv s)).1
 let s':=(Fu E (adv s)).2
 if Ea w_lt s then (K6 7 a b a.pos,s')
 else if Ea w_le s then (K6 8 a b a.pos,s')
 else if Ea w_gt s then (K6 7 b a a.pos,s')
 else if Ea w_ge s then (K6 8 b a a.pos,s')
 else if Ea rC s then (K6 9 a b a.pos,s')
 else if Ea Aae s then (⟨18,[],[],0,[K6 9 a b a.pos],a.pos⟩,s')
 else (a,s)
def M5 (E N:PS->Syn×PS)(st:PS):Syn×PS:=
 if !(Ea Gq st) then L5 E st
 else M4 (fun z s=>({ z with kids:=[(N s).1] },(N s).2)) ⟨18,[],[],0,[],D4 st⟩ st
def iH (E N:PS->Syn×PS)(st:PS):Syn×PS:=I5 (M5 E N) kA st
def orP (E N:PS->Syn×PS)(st:PS):Syn×PS:=I5 (iH E N) orL st
def G0 (st:PS):Syn×PS:=(Iz,st)
def L8:Nat->(PS->Syn×PS)×(PS->Syn×PS)
 | 0=>(M5 G0 G0,orP G0 G0)
 | n+1=>(M5 (L8 n).2 (L8 n).1,orP (L8 n).2 (L8 n).1)
def exprN (n:Nat):PS->Syn×PS:=(L8 n).2

def Hu (E:PS->Syn×PS)(st:PS):Syn×PS:=
 let s2:=Cm 0 (Cm 0 st)
 if Ea Lv s2 then (⟨5,Hw 0 st,Hw 0 (Cm 0 st),0,[(E (adv s2)).1],D4 st⟩,(E (adv s2)).2)
 else (⟨5,Hw 0 st,Hw 0 (Cm 0 st),0,[],D4 st⟩,s2)

def formL:List (Ac×Int):=[(Z8,6),(Z7,7),(Z6,8),(T0,9),(Oc,10),(Lx,11),(Lw,12)]
def dI (T:PS->Syn×PS)(z:Syn)(st:PS):Syn×PS:=
 let r:=T (Bb Cl st)
 let l:=Gb T (B1 r.2) r.2 (z.kids ++ [r.1])
 ({ z with kids:=l.1 },l.2)
def Fp (E T:PS->Syn×PS)(k:Int)(z:Syn)(st:PS):Syn×PS:=
 if decide (k<=8) then dI T z st
 else if (k==9) then (z,st)
 else if (k==10) then ({ z with kids:=z.kids ++ [(Hu E (Bb Cl st)).1] },(Hu E (Bb Cl st)).2)
 else if (k==11) then ({ z with num:=Up (Bb Cl st) },Cm 1 (Bb Cl st))
 else ({ z with kids:=z.kids ++ [(E (Bb Cl st)).1] },(E (Bb Cl st)).2)
def Sv (E T:PS->Syn×PS)(st:PS):Syn×PS:=
 match formL.find? (fun f=>Ea f.1 st) with
 | some f=>M4 (fun z s=>
  let r:=T (Bb Ds s)
  let q:=Fp E T f.2 { z with kids:=[r.1] } r.2
  (q.1,Bb Gp q.2)) ⟨f.2,[],[],0,[],D4 st⟩ st
 | none=>Hu E st
def fK (E:PS->Syn×PS):Nat->PS->Syn×PS
 | 0=>Sv E G0
 | n+1=>Sv E (fK E n)

def Nf (st:PS)(at':Int):Syn×PS:=
 if Ea O2 st then (⟨4,Hw 0 (adv st),[],0,[],D4 (adv st)⟩,Cm 0 (adv st)) else (⟨4,[],[],0,[],at'⟩,st)
def If (E T:PS->Syn×PS)(st:PS):Syn×PS:=
 let s1:=Bb B5 st
 let k:=Nf (Cm 0 s1) (D4 st)
 let p:=T (Bb Dx k.2)
 let l:=Kq E (Bb Dc p.2)
 (⟨3,Hw 0 s1,[],0,[k.1,p.1]++l.1,D4 st⟩,Bb X2 l.2)

def E2 (w:Ac)(F:PS->Syn×PS):Nat->PS->List Syn->List Syn×PS
 | 0,st,out=>(out,st)
 | n+1,st,out=>if Ea w st then E2 w F n (F st).2 (out ++ [(F st).1]) else (out,st)
def Fm (E T:PS->Syn×PS)(st:PS):Syn×PS:=
 let t:=E2 B6 Hh (B1 st) st []
 let q:=E2 B5 (If E T) (B1 t.2) t.2 t.1
 (⟨0,[],[],0,q.1,0⟩,q.2)

def Ht (l:List Tok)(n:Int):PS:=⟨l,0,n,0,0,0⟩
def Ud (r:Syn×PS):Syn×Int×Int:=
 let s:=if decide ((r.2.pos:Int)<(r.2.toks.length:Int)) then Gw 4 r.2 else r.2
 if (s.bad != 0) then (Iz,s.whr,s.bad) else (r.1,0,0)
def Dh (F:PS->Syn×PS)(s:Ac):Syn×Int×Int:=
 if ((Cy s).2.2 != 0) then (Iz,(Cy s).2.1,(Cy s).2.2) else Ud (F (Ht (Cy s).1 s.length))
def EE:PS->Syn×PS:=exprN 64
def TT:PS->Syn×PS:=fK EE 64
mutual
def Df:Syn->List AV
 | ⟨kind,text,name,num,kids,pos⟩=>[.int .i64 kind,.str text,.str name,.int .i64 num,.sl 6 (vW kids),.int .i64 pos]
def vW:List Syn->List (List AV)
 | []=>[]
 | e::r=>Df e::vW r
end
theorem pI:∀l:List Syn,vW l=l.map Df
 | []=>by simp [vW]
 | e::r=>by simp [vW,pI r]
@[reducible] def cSyn (e : Syn) : List AV := [.int .i64 e.kind, .str e.text, .str e.name, .int .i64 e.num, .sl 6 (e.kids.map Df), .int .i64 e.pos]
theorem Bi (e:Syn):Df e=cSyn e:=by
 cases e
 simp [Df,cSyn,pI]
theorem I3 {l:List Syn}{k:Nat}{a:Syn}(h:l[k]? = some a):(l.map Df)[k]? = some (cSyn a):=by
 simp [h,Bi]
@[reducible] def cP (st : PS) : List AV := [.sl 3 (st.toks.map xK), .int .i64 (st.pos : Int), .int .i64 st.fin, .int .i64 st.depth, .int .i64 st.bad, .int .i64 st.whr]
theorem Syn.ind {P:Syn->Prop}(h:∀e,(∀a∈e.kids,P a)->P e):∀e,P e:=by
 intro e;exact Syn.rec (motive_1:=P) (motive_2:=fun l=>∀a∈l,P a) (fun k t n m kids p ih=>h _ ih) (by simp) (fun a l ha hl=>by simp only [Cu,forall_eq_or_imp];exact ⟨ha,hl⟩) e


inductive Pl where
 | only (k:Int)
 | pats
 | exps
@[reducible] def isPat (k : Int) : Bool := decide (5 <= k) && decide (k <= 12)
@[reducible] def isExp (k : Int) : Bool := decide (13 <= k) && decide (k <= 18)
def Pl.at:Pl->Int->Bool
 | .only k,x=>x==k
 | .pats,x=>isPat x
 | .exps,x=>isExp x
def Pl.ok:Pl->Prop
 | .only k=>k=0\/k=1\/k=2\/k=3\/k=4\/k=5\/k=13
 | _=>True

def Aq (t:Syn)(i:Nat):Syn:=t.kids.getD i Iz
def Cr (t:Syn)(i:Nat):Pl:=
 if (t.kind==0) then if ((Aq t i).kind==1)&&(((i:Int)==0)||((Aq t (i-1)).kind==1)) then .only 1 else .only 3
 else if (t.kind==1) then .only 2
 else if (t.kind==3) then if ((i:Int)==0) then .only 4 else if ((i:Int)==1) then .pats else .exps
 else if (t.kind==10) then if ((i:Int)==1) then .only 5 else .pats
 else if (t.kind==12) then if ((i:Int)==1) then .exps else .pats
 else if (t.kind==16) then .only 13
 else if ((t.kind==5)||(t.kind==17))||(t.kind==18) then .exps
 else .pats
def Ct (t:Syn):Bool:=
 if (t.kind==0)||(t.kind==1) then true
 else if (t.kind==3) then decide (3<=(t.kids.length:Int))
 else if (t.kind==5) then decide ((t.kids.length:Int)<=1)
 else if ((t.kind==6)||(t.kind==7))||(t.kind==8) then decide (2<=(t.kids.length:Int))
 else if ((t.kind==9)||(t.kind==11))||(t.kind==18) then ((t.kids.length:Int)==1)
 else if ((t.kind==10)||(t.kind==12))||(t.kind==17) then ((t.kids.length:Int)==2)
 else if (t.kind==16) then if (t.num==1) then ((t.kids.length:Int)==0) else ((t.kids.length:Int)==1)
 else ((t.kids.length:Int)==0)
def Ku (k:Int):Bool×Bool:=
 if ((k==5)||(k==14))||(k==16) then (true,true)
 else if ((((k==1)||(k==2))||(k==3))||(k==4))||(k==15) then (true,false)
 else (false,false)
def Ru (s:Ac):Bool:=Ib s==0
def Li (t:Syn):Bool:=
 if ((Ku t.kind).1 && !Ru t.text)&&((t.kind != 4) || !(t.text == [])) then false
 else (!(Ku t.kind).2||Ru t.name)||((t.kind==14)&&(t.name==Ej))
def I8 (t:Syn):Int:=
 if (t.name==Ig) then if (decide (t.num < -1099511627776)||decide (1099511627776<t.num)) then 2 else if !(t.text == []) then 3 else 0
 else if (t.name==Gg) then if (decide (t.num<0)||decide (1<t.num)) then 2 else if !(t.text == []) then 3 else 0
 else if (t.name==Ha) then if decide (64<(t.text.length:Int)) then 13 else if (t.num != 0) then 3 else 0
 else 1
def Ns (t:Syn):Int:=
 if (t.kind==2) then if (decide (t.num<0)||decide (2<t.num)) then 1 else 0
 else if (t.kind==16) then if (decide (t.num<1)||decide (5<t.num)) then 1 else 0
 else if (t.kind==17) then if (decide (t.num<5)||decide (11<t.num)) then 1 else 0
 else if (t.kind==11) then if (decide (t.num<0)||decide (1099511627776<t.num)) then 2 else 0
 else if (decide (t.num<0)||decide (0<t.num)) then 3 else 0
def C9 (t:Syn):Int:=
 if (t.kind==13) then I8 t
 else if (Ns t != 0) then Ns t
 else if (!(Ku t.kind).1 && !(t.text == []))||(!(Ku t.kind).2 && !(t.name == [])) then 3 else 0
def Vq (p:Pl)(t:Syn):Int:=
 if !(p.at t.kind) then 1 else if !(Ct t) then 15 else if !(Li t) then 8 else C9 t
def sO:List Int->Int
 | []=>0
 | x::r=>if (x != 0) then x else sO r
mutual
def Ag:Syn->Pl->Int
 | ⟨k,x,n,m,kids,p⟩,at'=>if (Vq at' ⟨k,x,n,m,kids,p⟩ != 0) then Vq at' ⟨k,x,n,m,kids,p⟩ else sO (kH kids ((List.range kids.length).map (Cr ⟨k,x,n,m,kids,p⟩)))
def kH:List Syn->List Pl->List Int
 | [],_=>[]
 | x::r,[]=>[]
 | x::r,p::q=>Ag x p::kH r q
end

def Ed (p k:Int):Bool:=if (p==17) then (k==17)||(k==18) else if (p==18) then (k==17) else false
mutual
def C7:Syn->Nat
 | ⟨k,_,_,_,kids,_⟩=>Ek k kids+(if (k==18)||(isPat k&&(k != 5)) then 1 else 0)
def Ek (k:Int):List Syn->Nat
 | []=>0
 | x::r=>max (C7 x+(if Ed k x.kind then 1 else 0)) (Ek k r)
end

def D8:List Ac->Ac
 | []=>[]
 | [x]=>x
 | x::y::r=>x ++ [44,32]++D8 (y::r)
def Kp (n:Int):Ac:=if (n==1) then Gg else if (n==2) then Ha else Ig
def Og (n:Int):Ac:=if (n==1) then N5 else if (n==2) then gE else if (n==3) then gD else if (n==4) then Ux else Zn
def Tc (n:Int):Ac:=
 if (n==5) then w_add else if (n==6) then Pc else if (n==7) then w_lt else if (n==8) then w_le else if (n==9) then rC else if (n==10) then nR else Aaf
def Hf (k:Int):Ac:=
 if (k==6) then Z8 else if (k==7) then Z7 else if (k==8) then Z6 else if (k==9) then T0 else if (k==10) then Oc else if (k==11) then Lx else Lw
def aN (t:Syn):Ac:=
 if (t.name==Ig) then Lib.itoa t.num
 else if (t.name==Gg) then if (t.num==1) then L4 else Jx
 else (Rz t.text).1
def Hy (p:Syn)(k:Syn)(s:Ac):Ac:=if Ed p.kind k.kind then [40]++s ++ [41] else s
def Dn (t:Syn)(ws:List Ac):Ac:=
 if (t.kind==0) then ws.flatten
 else if (t.kind==1) then B6 ++ [32]++t.text ++ [32,123]++(if ws == [] then [] else [32]++D8 ws ++ [32]) ++ [125,10]
 else if (t.kind==2) then t.text ++ [58,32]++Kp t.num
 else if (t.kind==3) then B5 ++ [32]++t.text++(if (Aq t 0).text == [] then [] else [32]++O2 ++ [32]++(Aq t 0).text) ++ [10]++Dx ++ [32]++ws.getD 1 [] ++ [10]++Dc ++ [32]++D8 (ws.drop 2) ++ [59,10]
 else if (t.kind==5) then t.text ++ [32]++t.name++(if ws == [] then [] else [32]++Lv ++ [32]++ws.getD 0 [])
 else if (t.kind==13) then aN t
 else if (t.kind==14) then t.text ++ [46]++t.name
 else if (t.kind==15) then Hj ++ [40]++t.text ++ [41]
 else if (t.kind==16) then Og t.num ++ [40]++t.text ++ [46]++t.name++(if ws == [] then [] else [44,32]++ws.getD 0 []) ++ [41]
 else if (t.kind==17) then Hy t (Aq t 0) (ws.getD 0 []) ++ [32]++Tc t.num ++ [32]++Hy t (Aq t 1) (ws.getD 1 [])
 else if (t.kind==18) then Gq ++ [32]++Hy t (Aq t 0) (ws.getD 0 [])
 else Hf t.kind ++ [40]++D8 ws++(if (t.kind==11) then [44,32]++Lib.itoa t.num else []) ++ [41]
mutual
def Ad:Syn->Ac
 | ⟨k,x,n,m,kids,p⟩=>Dn ⟨k,x,n,m,kids,p⟩ (nX kids)
def nX:List Syn->List Ac
 | []=>[]
 | x::r=>Ad x::nX r
end
def Ba (t:Syn)(p:Pl):Ac×Int:=
 if (Ag t p != 0) then ([],Ag t p)
 else if decide (64<(C7 t:Int)) then ([],12)
 else if decide (65536<((Ad t).length:Int)) then ([],13)
 else (Ad t,0)


theorem nY:∀l:List Syn,nX l=l.map Ad
 | []=>by rw [nX,A0]
 | x::r=>by rw [nX,nY r,Ao]
theorem Ew (t:Syn):Ad t=Dn t (t.kids.map Ad):=by cases t;rw [Ad,nY]
theorem La (t:Syn):C7 t=Ek t.kind t.kids+(if (t.kind==18)||(isPat t.kind&&(t.kind != 5)) then 1 else 0):=by cases t;rw [C7]
def Mk (t:Syn):Nat->List Syn->Int
 | _,[]=>0
 | i,x::r=>if (Ag x (Cr t i) != 0) then Ag x (Cr t i) else Mk t (i+1) r
theorem P6 (t:Syn)(p:Pl):Ag t p=if (Vq p t != 0) then Vq p t else Mk t 0 t.kids:=by
 have h:∀(l:List Syn) (i:Nat),sO (kH l ((List.range' i l.length).map (Cr t)))=Mk t i l:=by
  intro l
  induction l with
  | nil=>intro i;rw [kH,Mk];rfl
  | cons x r ih=>intro i;rw [A8,List.range'_succ,Ao,kH,sO,Mk,ih]
 rw [<-h t.kids 0,<-List.range_eq_range'];cases t;rw [Ag]

theorem Mr:({ data:=#[] }:ByteArray).data.toList=([]:List UInt8):=rfl

structure Vl where
 kind:Int
 num:Int
 text:List UInt8
deriving DecidableEq

structure Ex where
 op:Int
 args:List Ex
 var:Int
 field:Int
 kind:Int
 val:Vl

structure Ev where
 source:Int
 seq:Int
 type:Int
 time:Int
 values:List Vl

def v0:Vl:=⟨0,0,[]⟩
def wD:Ex:=⟨0,[],0,0,0,v0⟩
@[reducible] def eqV (v w : Vl) : Bool := v.kind == w.kind && (v.num == w.num && v.text == w.text)
@[reducible] def isV0 (v : Vl) : Bool := v.kind == 0 && (v.num == 0 && v.text == [])
theorem wU (v:Vl):isV0 v=true↔v=v0:=by
 cases v;simp [isV0,v0]

def cV (v:Vl):List AV:=[.int .i64 v.kind,.int .i64 v.num,.str v.text]

mutual
def Ix:Ex->List AV
 | ⟨op,args,var,field,kind,val⟩=>[.int .i64 op,.sl 8 (vU args),.int .i64 var,.int .i64 field,.int .i64 kind,.int .i64 val.kind,.int .i64 val.num,.str val.text]
def vU:List Ex->List (List AV)
 | []=>[]
 | e::r=>Ix e::vU r
end

theorem pG:∀l:List Ex,vU l=l.map Ix
 | []=>by simp [vU]
 | e::r=>by simp [vU,pG r]

def cE (e:Ex):List AV:=[.int .i64 e.op,.sl 8 (e.args.map Ix),.int .i64 e.var,.int .i64 e.field,.int .i64 e.kind,.int .i64 e.val.kind,.int .i64 e.val.num,.str e.val.text]
theorem Pm (e:Ex):Ix e=cE e:=by
 cases e
 simp [Ix,cE,pG]

theorem Ex.ind {P:Ex->Prop}(h:∀e,(∀a∈e.args,P a)->P e):∀e,P e:=by
 intro e;exact Ex.rec (motive_1:=P) (motive_2:=fun l=>∀a∈l,P a) (fun op args v f k val ih=>h _ ih) (by simp) (fun a l ha hl=>by simp only [Cu,forall_eq_or_imp];exact ⟨ha,hl⟩) e

theorem Yp {l:List Ex}{k:Nat}{a:Ex}(h:l[k]? = some a):(l.map Ix)[k]? = some (cE a):=by
 simp [h,Pm]
theorem C2 {α:Type}{f:α->List AV}{l:List α}{k:Nat}{a:α}(h:l[k]? = some a):(l.map f)[k]? = some (f a):=by simp [h]

theorem De {α:Type}{l:List α}{k:Nat}(h:decide ((k:Int)<(l.length:Int))=true):∃a,l[k]? = some a:=by
 have:k<l.length:=by simpa using h
 exact ⟨_,List.getElem?_eq_getElem this⟩
theorem Ch {α:Type}{l:List α}{k:Nat}{a:α}(h:l[k]? = some a):k<l.length:=(List.getElem?_eq_some_iff.1 h).1
theorem A4 {α:Type}{l:List α}{k:Nat}{a:α}(h:l[k]? = some a):l.drop k=a::l.drop (k+1):=by
 obtain ⟨h1,h2⟩:=List.getElem?_eq_some_iff.1 h;rw [<-h2];exact Sr h1
theorem El {α:Type}{l:List α}{k:Nat}{a:α}(h:l[k]? = some a):l.take (k+1)=l.take k ++ [a]:=by
 rw [List.take_add_one,h];rfl
theorem F1 {α:Type}{l:List α}{k:Nat}(h:decide ((k:Int)<(l.length:Int))=false):l.take k=l:=by
 have:¬k<l.length:=by simpa using h
 exact List.take_of_length_le (by omega)
theorem sQ {α:Type}{l:List α}{v:Int}(h0:0<=v)(h:v<(l.length:Int)):∃a,l[v.toNat]? = some a:=⟨_,List.getElem?_eq_getElem (by omega)⟩
theorem Hk {α:Type}{l:List α}{k:Nat}(h:decide ((k:Int)<(l.length:Int))=false):l.drop k = []:=by
 have:¬k<l.length:=by simpa using h
 exact Ss (by omega)


def bD (v:Vl):Int:=
 if v.kind==0&&(decide (v.num < -1099511627776)||decide (1099511627776<v.num)) then 2
 else if v.kind==1&&v.num != 0&&v.num != 1 then 2
 else if decide (64<(v.text.length:Int)) then 13 else 0

def H6 (v:Vl):Int:=
 if v.kind==0||v.kind==1 then (if !(v.text == []) then 3 else bD v)
 else if v.kind==2 then (if v.num != 0 then 3 else bD v)
 else 1


def Dk {α:Type}(f:α->Int):List α->Int
 | []=>0
 | a::r=>if f a != 0 then f a else Dk f r


def Lg (op:Int):Bool×Bool:=if op=1\/op=4 then (true,true) else if op=2\/op=3 then (true,false) else (false,false)
def U3 (op:Int):Int:=if op<0\/12<op then 0 else if op<5 then 0 else if op=12 then 1 else 2
def sG (k:Int)(v:Vl):Bool:=v.kind==0||k==4||k==5

def U8 (e:Ex):Int:=
 if H6 e.val != 0 then H6 e.val
 else if e.op==4&&(!sG e.kind e.val||(e.kind==1 && !isV0 e.val)) then 9 else 0

def Mj (e:Ex):Int:=
 if !(Lg e.op).1&&e.var != 0||(!(Lg e.op).2&&e.field != 0)||(!(e.op==4)&&e.kind != 0)||(!(e.op==4||e.op==0) && !isV0 e.val) then 3 else 0

def Jd (e:Ex):Int:=
 if !decide (0<=e.op/\e.op<=12) then 1
 else if (e.args.length:Int) != U3 e.op then 15
 else if ((Lg e.op).1&&(decide (e.var<0)||decide (16<=e.var)))||((Lg e.op).2&&(decide (e.field<0)||decide (8<=e.field))) then 2
 else if e.op==4&&(decide (e.kind<1)||decide (5<e.kind)) then 1
 else if e.op==4||e.op==0 then (if U8 e != 0 then U8 e else Mj e)
 else Mj e

mutual
def O1 (f:Ex->Int):Ex->Int
 | ⟨op,args,var,field,kind,val⟩=>if f ⟨op,args,var,field,kind,val⟩ != 0 then f ⟨op,args,var,field,kind,val⟩ else nP f args
def nP (f:Ex->Int):List Ex->Int
 | []=>0
 | e::r=>if O1 f e != 0 then O1 f e else nP f r
end
theorem dO (f:Ex->Int):∀l,nP f l=Dk (O1 f) l
 | []=>by simp [nP,Dk]
 | e::r=>by simp [nP,Dk,dO f r]
theorem gA (f:Ex->Int)(e:Ex):O1 f e=if f e != 0 then f e else Dk (O1 f) e.args:=by
 cases e;rw [O1,dO]
abbrev Ip:Ex->Int:=O1 Jd
theorem nodesS_eq (e:Ex):Ip e=if Jd e != 0 then Jd e else Dk Ip e.args:=gA Jd e

mutual
def Ef:Ex->Nat
 | ⟨_,args,_,_,_,_⟩=>1+nG args
def nG:List Ex->Nat
 | []=>0
 | e::r=>Ef e+nG r
end
mutual
def J5:Ex->Nat
 | ⟨_,args,_,_,_,_⟩=>bV args+1
def bV:List Ex->Nat
 | []=>0
 | e::r=>max (J5 e) (bV r)
end
theorem nH:∀l,nG l=(l.map Ef).sum
 | []=>by simp [nG]
 | e::r=>by simp [nG,nH r]
theorem Ls (e:Ex):Ef e=1+(e.args.map Ef).sum:=by cases e;rw [Ef,nH]
theorem bW:∀l,bV l=(l.map J5).foldr max 0
 | []=>by simp [bV]
 | e::r=>by simp [bV,bW r]
theorem pC (e:Ex):J5 e=(e.args.map J5).foldr max 0+1:=by cases e;rw [J5,bW]

theorem mem_sum_le {l:List Ex}{a:Ex}(f:Ex->Nat)(h:a∈l):f a<=(l.map f).sum:=by
  induction l with
  | nil=>cases h
  | cons x r ih=>
    simp only [Ao,Jq];rcases Cu.1 h with rfl | h
    . omega
    have:=ih h;omega
theorem Ut {e a:Ex}(h:a∈e.args):Ef a<Ef e:=by
 have:=mem_sum_le Ef h;have:=Ls e;omega
theorem Zz (e:Ex):J5 e<=Ef e:=by
  refine Ex.ind (P:=fun e=>J5 e<=Ef e) (fun e ih=>?_) e;rw [pC,Ls]
  have:∀l:List Ex,(∀a∈l,J5 a<=Ef a)->(l.map J5).foldr max 0<=(l.map Ef).sum:=by
    intro l
    induction l with
    | nil=>intro _;exact Be _
    | cons x r ihr=>
      intro h;simp only [Ao,List.foldr_cons,Jq];have h1:=h x (by simp);have h2:=ihr fun a ha=>h a (by simp [ha])
      omega
  have:=this e.args ih;omega

def Gn (e:Ex):Int:=if decide (64<(Ef e:Int)) then 5 else if decide (12<(J5 e:Int)) then 12 else Ip e


structure Evr where
 vars:List (List Ev)
 own:Int
 event:Ev

def Evr.ok (x:Evr):Prop:=∀l∈x.vars,l.length<=1048576




theorem lF {l:List Ex}{k:Nat}{a:Ex}(d:Nat)(h:l[k]? = some a):max d (((l.drop k).map J5).foldr max 0)=max (max d (J5 a)) (((l.drop (k+1)).map J5).foldr max 0):=by
 rw [A4 h];simp only [Ao,List.foldr_cons];omega
theorem sum_drop {l:List Ex}{k:Nat}{a:Ex}(n:Nat)(h:l[k]? = some a):n+((l.drop k).map Ef).sum=(n+Ef a)+((l.drop (k+1)).map Ef).sum:=by
 rw [A4 h];simp only [Ao,Jq];omega

theorem size_pos (e:Ex):1<=Ef e:=by rw [Ls];omega
theorem iS (e:Ex)(h:Ef e<=1048576):e.args.length<=1048576:=by
 rw [Ls] at h
 have:∀l:List Ex,l.length<=(l.map Ef).sum:=by
  intro l
  induction l with
  | nil=>exact Be _
  | cons x r ih=>simp only [A8,Ao,Jq];have:=size_pos x;omega
 have:=this e.args;omega

theorem kZ {α:Type}{f:α->Int}:∀{l:List α},Dk f l=0->∀a∈l,f a=0
  | [],_,_,h=>by cases h
  | x::r,h,a,ha=>by
    simp only [Dk] at h;by_cases hx:f x=0
    . rw [if_neg (by simp [hx])] at h
      rcases Cu.1 ha with rfl | ha
      . exact hx
      exact kZ h a ha
    rw [if_pos (by simpa using hx)] at h;exact absurd h hx
theorem Ir {e:Ex}(h:Ip e=0):Jd e=0/\∀a∈e.args,Ip a=0:=by
 rw [nodesS_eq] at h;by_cases hx:Jd e=0
 .
  rw [if_neg (by simp [hx])] at h;exact ⟨hx,kZ h⟩
 rw [if_pos (by simpa using hx)] at h;exact absurd h hx
theorem Vo {e:Ex}(h:Jd e=0):0<=e.op/\e.op<=12/\(e.args.length:Int)=U3 e.op:=by
 unfold Jd at h;split at h
 . cases h
 split at h
 . cases h
 rename_i h1 h2;simp at h1 h2;exact ⟨h1.1,h1.2,h2⟩

theorem node_field {e:Ex}(h:Jd e=0):0<=e.field:=by
  have hf:Mj e=0->(Lg e.op).2=false->e.field=0:=by
    intro h1 h2;unfold Mj at h1;split at h1
    . cases h1
    . rename_i h3
      simp [h2] at h3;exact h3.1.1.2
  unfold Jd at h;split at h
  . cases h
  split at h
  . cases h
  split at h
  . cases h
  rename_i h1 h2 h3;cases hu:(Lg e.op).2 with
  | true=>
    simp [hu] at h3;omega
  | false=>
    have:Mj e=0:=by
      split at h
      . cases h
      split at h
      . split at h
        . rename_i h4
          exact absurd h (by simpa using h4)
        exact h
      exact h
    rw [hf this hu];exact D6 _


def Rl (a b:Ex):Bool:=a.op != b.op||a.var != b.var||a.field != b.field||a.kind != b.kind || !eqV a.val b.val||(a.args.length:Int) != (b.args.length:Int)

mutual
def Fx:Ex->Ex->Bool
 | ⟨op,args,var,field,kind,val⟩,b=>if Rl ⟨op,args,var,field,kind,val⟩ b then false else Wj args b.args
def Wj:List Ex->List Ex->Bool
 | [],_=>true
 | a::r,l=>if !Fx a (l.headD wD) then false else Wj r l.tail
end
theorem Se (a b:Ex):Fx a b=if Rl a b then false else Wj a.args b.args:=by cases a;rw [Fx]

theorem Qq (a b:Ex):Fx a b=true↔a=b:=by
  induction a using Ex.ind generalizing b with
  | h a ih=>
    have hL:∀(l m:List Ex),(∀x∈l,∀y,Fx x y=true↔x=y)->l.length=m.length->(Wj l m=true↔l=m):=by
      intro l
      induction l with
      | nil=>intro m _ hl;cases m with | nil=>simp [Wj] | cons _ _=>simp at hl
      | cons x r ihl=>
        intro m hx hl;cases m with
        | nil=>simp at hl
        | cons y s=>
          have h1:=hx x (by simp) y;have h2:=ihl s (fun z hz=>hx z (by simp [hz])) (by simpa using hl);rw [List.cons.injEq];show (if (!Fx x y)=true then false else Wj r s)=true↔x=y/\r=s;by_cases hs:Fx x y=true
          . rw [if_neg (by simp [hs]),h2];simp [h1.1 hs]
          . rw [if_pos (by simp [hs])]
            have:¬x=y:=fun e=>hs (h1.2 e)
            simp [this]
    rw [Se];by_cases hh:Rl a b=true
    . rw [if_pos hh]
      constructor
      . intro h;cases h
      . intro e;subst e
        simp [Rl] at hh
    . rw [if_neg hh]
      have hh':=hh;simp [Rl] at hh;obtain ⟨⟨⟨⟨⟨h1,h2⟩,h3⟩,h4⟩,h5⟩,h6⟩:=hh;rw [hL _ _ (fun x hx y=>ih x hx y) (by omega)]
      cases a with | mk _ _ _ _ _ av=>cases b with | mk _ _ _ _ _ bv=>
        cases av;cases bv
        simp_all
theorem nC (a:Ex):Fx a a=true:=(Qq a a).2 rfl


theorem node_var {e:Ex}(h:Jd e=0):0<=e.var/\e.var<16:=by
  have hf:Mj e=0->(Lg e.op).1=false->e.var=0:=by
    intro h1 h2;unfold Mj at h1;split at h1
    . cases h1
    . rename_i h3
      simp [h2] at h3;exact h3.1.1.1
  unfold Jd at h;split at h
  . cases h
  split at h
  . cases h
  split at h
  . cases h
  rename_i h1 h2 h3;cases hu:(Lg e.op).1 with
  | true=>
    simp [hu] at h3;omega
  | false=>
    have:Mj e=0:=by
      split at h
      . cases h
      split at h
      . split at h
        . rename_i h4
          exact absurd h (by simpa using h4)
        exact h
      exact h
    rw [hf this hu];omega


structure Fi where
 name:List UInt8
 kind:Int
structure e8Sc where
 name:List UInt8
 fields:List Fi
structure Va where
 name:List UInt8
 type:Int
def cFi (f:Fi):List AV:=[.str f.name,.int .i64 f.kind]
def Oh (s:e8Sc):List AV:=[.str s.name,.sl 2 (s.fields.map cFi)]
def U6 (v:Va):List AV:=[.str v.name,.int .i64 v.type]
def Zt:e8Sc:=⟨[],[]⟩
def fi0:Fi:=⟨[],0⟩
def va0:Va:=⟨[],0⟩

def letS (n:Int):Bool:=n==95||(decide (97<=n)&&decide (n<=122))||(decide (65<=n)&&decide (n<=90))
def rX (n:Int):Bool:=decide (48<=n)&&decide (n<=57)
def chS (b:UInt8):Bool:=letS b.toNat||rX b.toNat
def Lz (s:List UInt8):Bool:=!(s.length==0)&&decide (s.length<=24) && !rX ((s.headD 0).toNat)&&s.all chS
def timeB:List UInt8:=[116,105,109,101]
def eU (s:List UInt8):Bool:=Lz s && !(s==timeB)

def Ja (seen:List (List UInt8))(f:Fi):Int:=
 if !eU f.name then 8 else if seen.contains f.name then 7 else if decide (f.kind<0)||decide (3<=f.kind) then 1 else 0
def Ld:List (List UInt8)->List Fi->Int
 | _,[]=>0
 | seen,f::r=>if Ja seen f != 0 then Ja seen f else Ld (seen ++ [f.name]) r
def Ot (s:e8Sc):Int:=if !Lz s.name then 8 else if decide (8<(s.fields.length:Int)) then 5 else Ld [] s.fields
def Nj (seen:List (List UInt8))(s:e8Sc):Int:=if Ot s != 0 then Ot s else if seen.contains s.name then 7 else 0
def N3:List (List UInt8)->List e8Sc->Int
 | _,[]=>0
 | seen,s::r=>if Nj seen s != 0 then Nj seen s else N3 (seen ++ [s.name]) r
def Fv (l:List e8Sc):Int:=if decide (16<(l.length:Int)) then 5 else N3 [] l

def Tx (ns:List (List UInt8))(n:List UInt8):Int:=if ns.contains n then ((ns.idxOf n:Nat):Int) else -1

structure Pt where
 op:Int
 args:List Pt
 type:Int
 var:Int
 scope:Int
 span:Int
 cond:Ex
def pt0:Pt:=⟨0,[],0,0,0,0,wD⟩
mutual
def Xa:Pt->List AV
 | ⟨o,asx,t,v,s,n,c⟩=>[.int .i64 o,.sl 14 (vV asx),.int .i64 t,.int .i64 v,.int .i64 s,.int .i64 n,.int .i64 c.op,.sl 8 (c.args.map Ix),.int .i64 c.var,.int .i64 c.field,.int .i64 c.kind,.int .i64 c.val.kind,.int .i64 c.val.num,.str c.val.text]
def vV:List Pt->List (List AV)
 | []=>[]
 | a::r=>Xa a::vV r
end
@[reducible] def cPt (p : Pt) : List AV := [.int .i64 p.op, .sl 14 (p.args.map Xa), .int .i64 p.type, .int .i64 p.var, .int .i64 p.scope, .int .i64 p.span, .int .i64 p.cond.op, .sl 8 (p.cond.args.map Ix), .int .i64 p.cond.var, .int .i64 p.cond.field, .int .i64 p.cond.kind, .int .i64 p.cond.val.kind, .int .i64 p.cond.val.num, .str p.cond.val.text]
theorem pH:∀l:List Pt,vV l=l.map Xa
 | []=>by rw [vV,A0]
 | a::r=>by rw [vV,pH r,Ao]
theorem rZ (p:Pt):Xa p=cPt p:=by
 cases p;rw [Xa,pH]
mutual
def L2:Pt->Nat
 | ⟨_,asx,_,_,_,_,_⟩=>ptNs asx+1
def ptNs:List Pt->Nat
 | []=>0
 | a::r=>L2 a+ptNs r
end
theorem yN:∀l:List Pt,ptNs l=(l.map L2).sum
 | []=>by rw [ptNs];rfl
 | a::r=>by rw [ptNs,yN r,Ao,Jq]
theorem Oy (p:Pt):L2 p=(p.args.map L2).sum+1:=by cases p;rw [L2,yN]
theorem Pt.ind {Q:Pt->Prop}(h:∀e,(∀a∈e.args,Q a)->Q e):∀e,Q e:=by
  have key:∀n e,L2 e<=n->Q e:=by
    intro n
    induction n with
    | zero=>intro e he;rw [Oy] at he;omega
    | succ n ih=>
      intro e he;refine h e fun a ha=>ih a ?_
      rw [Oy] at he
      have:∀l:List Pt,a∈l->L2 a<=(l.map L2).sum:=by
        intro l
        induction l with
        | nil=>intro h;cases h
        | cons x r ih2=>
          intro h;rw [Ao,Jq];rcases Cu.1 h with rfl | h
          . omega
          have:=ih2 h;omega
      have:=this _ ha;omega
  exact fun e=>key _ e (Be _)

structure Fa where
 pos:Int
 err:Int
def Np:Fa:=⟨0,0⟩
def rR (f:Fa):List AV:=[.int .i64 f.pos,.int .i64 f.err]
def Ia (f:Syn->Fa):List Syn->Fa
 | []=>Np
 | x::r=>if ((f x).err != 0) then f x else Ia f r

mutual
def Lb:Syn->List Syn
 | ⟨k,x,n,m,kids,p⟩=>if (k==5) then [⟨k,x,n,m,kids,p⟩] else if (k==10) then kids.getD 1 Iz::evH kids else if (k==12) then evH kids else evL kids
def evH:List Syn->List Syn
 | []=>[]
 | x::_=>Lb x
def evL:List Syn->List Syn
 | []=>[]
 | x::r=>Lb x++evL r
end
theorem evL_map:∀l:List Syn,evL l=l.flatMap Lb
 | []=>by rw [evL];rfl
 | x::r=>by rw [evL,evL_map r,J9]
theorem sH {l:List Syn}(h:0<l.length):evH l=Lb (l.getD 0 Iz):=by
 cases l with
 | nil=>simp at h
 | cons x r=>rw [evH];rfl
theorem aF (t:Syn):Lb t=if (t.kind==5) then [t] else if (t.kind==10) then Aq t 1::evH t.kids else if (t.kind==12) then evH t.kids else t.kids.flatMap Lb:=by
 cases t;rw [Lb,evL_map];rfl

abbrev H4 (T:List e8Sc):List Ac:=T.map (·.name)
abbrev H5 (V:List Va):List Ac:=V.map (·.name)
def Js (l:List Ac)(n:Ac):Int:=if l.contains n then ((l.idxOf n:Nat):Int) else 0
def Lo (T:List e8Sc)(V:List Va)(t:Syn):Int:=
 if ((V.length:Int)==16) then 5 else if !((H4 T).contains t.text) then 8 else if (H5 V).contains t.name then 7 else 0
def K9 (T:List e8Sc)(t:Syn):Va:=⟨t.name,Js (H4 T) t.text⟩
def K8 (T:List e8Sc):List Va->List Syn->List Va×Fa
 | V,[]=>(V,Np)
 | V,t::r=>if (Lo T V t != 0) then (V,⟨t.pos,Lo T V t⟩) else K8 T (V ++ [K9 T t]) r
def Ei (s:e8Sc)(n:Ac):Int:=Tx (s.fields.map (·.name)) n
def Qt (T:List e8Sc)(V:List Va)(v:Int):e8Sc:=(T[((V[v.toNat]?).getD va0).type.toNat]?).getD Zt

def Tr (T:List e8Sc)(n:Ac):List Va->List Int->List Int×Bool
 | [],out=>(out,true)
 | v::r,out=>if decide (Ei ((T[v.type.toNat]?).getD Zt) n<0) then ([],false) else Tr T n r (out.set v.type.toNat (Ei ((T[v.type.toNat]?).getD Zt) n))
def Pf (T:List e8Sc)(V:List Va)(n:Ac):List Int×Bool:=Tr T n V (List.replicate T.length (-1))

section
variable (T:List e8Sc) (V:List Va)
def Jk (t:Syn):Fa:=
 if ((t.kind != 14)&&(t.kind != 15))&&(t.kind != 16) then Np
 else if !((H5 V).contains t.text) then ⟨t.pos,8⟩
 else if (t.kind==15)||((t.kind==14)&&(t.name==Ej)) then Np
 else if decide (Ei (Qt T V (Js (H5 V) t.text)) t.name<0) then ⟨t.pos,6⟩
 else Np
mutual
def Fr:Syn->Fa
 | ⟨k,x,n,m,kids,p⟩=>if ((Jk T V ⟨k,x,n,m,kids,p⟩).err != 0) then Jk T V ⟨k,x,n,m,kids,p⟩ else Aag kids
def Aag:List Syn->Fa
 | []=>Np
 | x::r=>if ((Fr x).err != 0) then Fr x else Aag r
end
theorem nS:∀l:List Syn,Aag T V l=Ia (Fr T V) l
 | []=>by rw [Aag,Ia]
 | x::r=>by rw [Aag,Ia,nS r]
theorem Uy (t:Syn):Fr T V t=if ((Jk T V t).err != 0) then Jk T V t else Ia (Fr T V) t.kids:=by
 cases t;rw [Fr,nS]

def Wr (t:Syn):Vl:=if (t.name==Gg) then ⟨1,t.num,[]⟩ else if (t.name==Ha) then ⟨2,0,t.text⟩ else ⟨0,t.num,[]⟩
def Ml (t:Syn)(asx:List Ex):Ex:=
 if (t.kind==13) then ⟨0,[],0,0,0,Wr t⟩
 else if (t.kind==14) then if (t.name==Ej) then ⟨2,[],Js (H5 V) t.text,0,0,v0⟩ else ⟨1,[],Js (H5 V) t.text,Ei (Qt T V (Js (H5 V) t.text)) t.name,0,v0⟩
 else if (t.kind==15) then ⟨3,[],Js (H5 V) t.text,0,0,v0⟩
 else if (t.kind==16) then ⟨4,[],Js (H5 V) t.text,Ei (Qt T V (Js (H5 V) t.text)) t.name,t.num,if decide ((0:Int)<(t.kids.length:Int)) then Wr (Aq t 0) else v0⟩
 else if (t.kind==18) then ⟨12,asx,0,0,0,v0⟩
 else ⟨t.num,asx,0,0,0,v0⟩
mutual
def Dv:Syn->Ex
 | ⟨k,x,n,m,kids,p⟩=>Ml T V ⟨k,x,n,m,kids,p⟩ (wF kids)
def wF:List Syn->List Ex
 | []=>[]
 | x::r=>Dv x::wF r
end
theorem pM:∀l:List Syn,wF T V l=l.map (Dv T V)
 | []=>by rw [wF,A0]
 | x::r=>by rw [wF,pM r,Ao]
theorem Hg (t:Syn):Dv T V t=Ml T V t (t.kids.map (Dv T V)):=by cases t;rw [Dv,pM]

def Jp:Ex:=⟨0,[],0,0,0,⟨1,1,[]⟩⟩
def Iv (t:Syn):Ex:=if decide ((0:Int)<(t.kids.length:Int)) then Dv T V (Aq t 0) else Jp
structure Nx where
 next:Int
 scopes:Int
def Pu (t:Syn)(s:Nx)(asx:List Pt):Pt:=
 if (t.kind==5) then ⟨0,asx,Js (H4 T) t.text,s.next,0,0,Iv T V t⟩
 else if (t.kind==10) then ⟨5,asx,Js (H4 T) (Aq t 1).text,s.next,s.scopes,0,Iv T V (Aq t 1)⟩
 else if (t.kind==11) then ⟨6,asx,0,0,s.scopes,t.num,wD⟩
 else if (t.kind==12) then ⟨7,asx,0,0,0,0,Dv T V (Aq t 1)⟩
 else ⟨t.kind-5,asx,0,0,0,0,wD⟩
def Uq (t:Syn)(s:Nx):Nx:=⟨if (t.kind==5)||(t.kind==10) then s.next+1 else s.next,if (t.kind==10)||(t.kind==11) then s.scopes+1 else s.scopes⟩
mutual
def Iy:Syn->Nx->Pt×Nx
  | ⟨k,x,n,m,kids,p⟩,s=>
    if (k==5) then (Pu T V ⟨k,x,n,m,kids,p⟩ s [],Uq ⟨k,x,n,m,kids,p⟩ s)
    else if (k==10)||(k==12) then (Pu T V ⟨k,x,n,m,kids,p⟩ s (ptHR kids (Uq ⟨k,x,n,m,kids,p⟩ s)).1,(ptHR kids (Uq ⟨k,x,n,m,kids,p⟩ s)).2)
    else (Pu T V ⟨k,x,n,m,kids,p⟩ s (E0 kids (Uq ⟨k,x,n,m,kids,p⟩ s)).1,(E0 kids (Uq ⟨k,x,n,m,kids,p⟩ s)).2)
def ptHR:List Syn->Nx->List Pt×Nx
 | [],s=>([],s)
 | x::_,s=>([(Iy x s).1],(Iy x s).2)
def E0:List Syn->Nx->List Pt×Nx
 | [],s=>([],s)
 | x::r,s=>((Iy x s).1::(E0 r (Iy x s).2).1,(E0 r (Iy x s).2).2)
end
def Cn (t:Syn):List Syn:=if (t.kind==5) then [] else if (t.kind==10)||(t.kind==12) then t.kids.take 1 else t.kids
theorem ptHR_take:∀(l:List Syn) (s:Nx),ptHR T V l s=E0 T V (l.take 1) s
 | [],s=>by rw [ptHR,List.take_nil,E0]
 | x::r,s=>by rw [ptHR,bH,List.take_zero,E0,E0]
theorem jL (t:Syn)(s:Nx):Iy T V t s=(Pu T V t s (E0 T V (Cn t) (Uq t s)).1,(E0 T V (Cn t) (Uq t s)).2):=by
  cases t with | mk k x n m kids p=>
  rw [Iy];unfold Cn;cases h1:(k==5) with
  | true=>simp only [h1,if_true];rw [E0]
  | false=>
    simp only [h1,Ah,if_false];cases h2:(k==10)||(k==12) with
    | true=>simp only [h2,if_true];rw [ptHR_take]
    | false=>simp only [h2,Ah,if_false]
theorem yL:∀(l r:List Syn) (s:Nx),E0 T V (l++r) s=((E0 T V l s).1++(E0 T V r (E0 T V l s).2).1,(E0 T V r (E0 T V l s).2).2)
 | [],r,s=>by rw [Cv,E0];rfl
 | x::l,r,s=>by rw [Cp,E0,yL l r,E0];rfl
end
end Go.Proofs.YtibcelnfkhdjaaaGreatDoor
