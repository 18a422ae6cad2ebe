/-
  Several texts in one: M12, M13, EM, EM2, EM3, EM4, EM5, EM6, EM10. No condition.
-/
import Derived.Test.YtckhoadldibflaaGreatDoorK01
import Derived.Lib.ItoaLen
import Derived.Test.YtckhoadldibflaaGreatDoorAw
import Derived.IntWalk
set_option linter.unusedVariables false
set_option linter.unusedSimpArgs false
namespace Go.Proofs.YtckhoadldibflaaGreatDoor
open Go Go.Aw

abbrev Js:Am:=[58]
abbrev G8:Am:=[105,110,116]
abbrev F0:Am:=[98,111,111,108]
abbrev Gl:Am:=[115,116,114,105,110,103]
abbrev Md:Am:=[116,121,112,101]
abbrev Ya:Am:=[123]
abbrev Mw:Am:=[125]
abbrev Fk:Am:=[113,117,101,114,121]
abbrev Z0:Am:=[98,121]
abbrev Gb:Am:=[109,97,116,99,104]
abbrev Gi:Am:=[114,101,116,117,114,110]
abbrev dM:Am:=[59]
abbrev Co:Am:=[44]
abbrev Y8:Am:=[105,102]
abbrev Dt:Am:=[40]
abbrev F2:Am:=[41]
abbrev Ru:Am:=[115,101,113]
abbrev Rs:Am:=[97,108,116]
abbrev Rr:Am:=[97,108,108]
abbrev Lr:Am:=[112,108,117,115]
abbrev Jr:Am:=[108,97,99,107,115]
abbrev Ht:Am:=[119,105,116,104,105,110]
abbrev Ha:Am:=[119,104,101,114,101]
abbrev mZ:Am:=[111,114]
abbrev dF:Am:=[97,110,100]
abbrev jE:Am:=[43]
abbrev Vt:Am:=[45]
abbrev Ur:Am:=[110,111,116]
abbrev qI:Am:=[60]
abbrev sM:Am:=[60,61]
abbrev w_gt:Am:=[62]
abbrev w_ge:Am:=[62,61]
abbrev jJ:Am:=[61,61]
abbrev oP:Am:=[33,61]
abbrev cS:Am:=[109,105,110]
abbrev dT:Am:=[109,97,120]
abbrev Tb:Am:=[102,105,114,115,116]
abbrev Xd:Am:=[108,97,115,116]
abbrev bP:Am:=[46]
abbrev cG:Am:=[115,117,109]
abbrev Ty:Am:=[99,111,117,110,116]
abbrev Eh:Am:=[116,105,109,101]
abbrev Ma:Am:=[116,114,117,101]
abbrev Jy:Am:=[102,97,108,115,101]

structure Syn where
 kind:Int
 text:Am
 name:Am
 num:Int
 kids:List Syn
 pos:Int
def Mz:Syn:=⟨0,[],[],0,[],0⟩

structure PS where
 toks:List Tok
 pos:Nat
 fin:Int
 depth:Int
 bad:Int
 whr:Int

def dA (st:PS):Tok:=st.toks.getD st.pos Ll
def Cy (st:PS):Int:=if decide ((st.pos:Int)<(st.toks.length:Int)) then (dA st).pos else st.fin
def Ft (e:Int)(st:PS):PS:=if (st.bad==0) then { st with bad:=e,whr:=Cy st } else st
def adv (st:PS):PS:={ st with pos:=st.pos+1 }
def Hv (st:PS):PS:={ st with depth:=IntKind.i64.wrap (st.depth+1) }
def Hj (st:PS):PS:={ st with depth:=IntKind.i64.wrap (st.depth-1) }
@[reducible] def endP (st : PS) : Bool := (st.bad != 0) || decide ((st.toks.length : Int) ≤ (st.pos : Int))

def Hn (w:Am)(st:PS):Bool:=if endP st then false else ((dA st).text==w)&&(((dA st).kind==3)||(((dA st).kind==0)&&lM w))
def Nc (w:Am)(st:PS):PS:=if Hn w st then adv st else st
def Ce (w:Am)(st:PS):PS:=if (st.bad==0) && !(Hn w st) then Ft 4 st else Nc w st
def Sz (k:Int)(st:PS):Bool:=if endP st then false else ((dA st).kind==k)&&((k != 0) || !(lM (dA st).text))
def Dw (k:Int)(st:PS):PS:=if Sz k st then adv st else Ft 4 st
def Hh (k:Int)(st:PS):Am:=if Sz k st then (dA st).text else []
def Yq (st:PS):Int:=if Sz 1 st then (Z9 (dA st).text).1 else 0

def L4 (read:Syn→PS→Syn×PS)(z:Syn)(st:PS):Syn×PS:=
 if ((if decide (64≤st.depth) then Ft 12 st else st).bad != 0) then (z,if decide (64≤st.depth) then Ft 12 st else st)
 else ((read z (adv (Hv st))).1,Hj (read z (adv (Hv st))).2)

def Jc (F:PS→Syn×PS):Nat→PS→List Syn→List Syn×PS
 | 0,st,out=>(out,st)
 | n+1,st,out=>if Hn Co st then Jc F n (F (adv st)).2 (out ++ [(F (adv st)).1]) else (out,st)
def A8 (st:PS):Nat:=st.toks.length-st.pos+1
def T5 (F:PS→Syn×PS)(st:PS):List Syn×PS:=Jc F (A8 (F st).2) (F st).2 [(F st).1]

def uR (st:PS):Syn×PS:=
 if Hn G8 (Ce Js (Dw 0 st)) then (⟨2,Hh 0 st,[],0,[],Cy st⟩,adv (Ce Js (Dw 0 st)))
 else if Hn F0 (Ce Js (Dw 0 st)) then (⟨2,Hh 0 st,[],1,[],Cy st⟩,adv (Ce Js (Dw 0 st)))
 else if Hn Gl (Ce Js (Dw 0 st)) then (⟨2,Hh 0 st,[],2,[],Cy st⟩,adv (Ce Js (Dw 0 st)))
 else (⟨2,Hh 0 st,[],0,[],Cy st⟩,Ft 4 (Ce Js (Dw 0 st)))

def kindP (st:PS):Syn×PS:=
 let s1:=Ce Md st
 let s2:=Ce Ya (Dw 0 s1)
 if (s2.bad==0) && !(Hn Mw s2) then (⟨1,Hh 0 s1,[],0,(T5 uR s2).1,Cy st⟩,Ce Mw (T5 uR s2).2)
 else (⟨1,Hh 0 s1,[],0,[],Cy st⟩,Ce Mw s2)

def Kr (op:Int)(a b:Syn)(at':Int):Syn:=⟨17,[],[],op,[a,b],at'⟩

def F5 (st:PS):Syn×PS:=
 if Hn Vt st then (⟨13,[],G8,0-Yq (adv st),[],Cy st⟩,Dw 1 (adv st))
 else if Sz 1 st then (⟨13,[],G8,Yq st,[],Cy st⟩,Dw 1 st)
 else if Hn Ma st then (⟨13,[],F0,1,[],Cy st⟩,adv st)
 else if Hn Jy st then (⟨13,[],F0,0,[],Cy st⟩,adv st)
 else (⟨13,Hh 2 st,Gl,0,[],Cy st⟩,Dw 2 st)

def lF (st:PS):(Am×Am)×PS:=
 let s1:=Ce Dt st
 let s2:=Ce bP (Dw 0 s1)
 ((Hh 0 s1,Hh 0 s2),Dw 0 s2)

def totL:List (Am×Int):=[(cS,2),(dT,3),(Tb,4),(Xd,5)]
def In (E:PS→Syn×PS)(st:PS):Syn×PS:=
  if Hn Dt st then L4 (fun _ s=>((E s).1,Ce F2 (E s).2)) Mz st
  else match totL.find? (fun s=>Hn s.1 st) with
    | some s=>
      let i:=lF (adv st)
      let s1:=Ce Co i.2
      (⟨16,i.1.1,i.1.2,s.2,[(F5 s1).1],Cy st⟩,Ce F2 (F5 s1).2)
    | none=>
      if Hn cG st then
        let i:=lF (adv st)
        (⟨16,i.1.1,i.1.2,1,[],Cy st⟩,Ce F2 i.2)
      else if Hn Ty st then
        let s1:=Ce Dt (adv st)
        (⟨15,Hh 0 s1,[],0,[],Cy st⟩,Ce F2 (Dw 0 s1))
      else if Sz 0 st then
        let s1:=Ce bP (Dw 0 st)
        if Hn Eh s1 then (⟨14,Hh 0 st,Eh,0,[],Cy st⟩,adv s1)
        else (⟨14,Hh 0 st,Hh 0 s1,0,[],Cy st⟩,Dw 0 s1)
      else F5 st

def Oh (F:PS→Syn×PS)(sg:List (Am×Int)):Nat→PS→Syn→Syn×PS
  | 0,st,out=>(out,st)
  | n+1,st,out=>match sg.find? (fun s=>Hn s.1 st) with
    | some s=>Oh F sg n (F (adv st)).2 (Kr s.2 out (F (adv st)).1 out.pos)
    | none=>(out,st)
def Ps (F:PS→Syn×PS)(sg:List (Am×Int))(st:PS):Syn×PS:=Oh F sg (A8 (F st).2) (F st).2 (F st).1
def orL:List (Am×Int):=[(mZ,11)]
def andL:List (Am×Int):=[(dF,10)]
def sumL:List (Am×Int):=[(jE,5),(Vt,6)]
def Jh (E:PS→Syn×PS)(st:PS):Syn×PS:=Ps (In E) sumL st

def M2 (E:PS→Syn×PS)(st:PS):Syn×PS:=
 let a:=(Jh E st).1
 let s:=(Jh E st).2
 let b:=(Jh E (adv s)).1
 let s':=(Jh E (adv s)).2
 if Hn qI s then (Kr 7 a b a.pos,s')
 else if Hn sM s then (Kr 8 a b a.pos,s')
 else if Hn w_gt s then (Kr 7 b a a.pos,s')
 else if Hn w_ge s then (Kr 8 b a a.pos,s')
 else if Hn jJ s then (Kr 9 a b a.pos,s')
 else if Hn oP s then (⟨18,[],[],0,[Kr 9 a b a.pos],a.pos⟩,s')
 else (a,s)
def Wq (E N:PS→Syn×PS)(st:PS):Syn×PS:=
 if !(Hn Ur st) then M2 E st
 else L4 (fun z s=>({ z with kids:=[(N s).1] },(N s).2)) ⟨18,[],[],0,[],Cy st⟩ st
def andP (E N:PS→Syn×PS)(st:PS):Syn×PS:=Ps (Wq E N) andL st
def orP (E N:PS→Syn×PS)(st:PS):Syn×PS:=Ps (andP E N) orL st
def D2 (st:PS):Syn×PS:=(Mz,st)
def Ry:Nat→(PS→Syn×PS)×(PS→Syn×PS)
 | 0=>(Wq D2 D2,orP D2 D2)
 | n+1=>(Wq (Ry n).2 (Ry n).1,orP (Ry n).2 (Ry n).1)
def exprN (n:Nat):PS→Syn×PS:=(Ry n).2

def J9 (E:PS→Syn×PS)(st:PS):Syn×PS:=
 let s2:=Dw 0 (Dw 0 st)
 if Hn Y8 s2 then (⟨5,Hh 0 st,Hh 0 (Dw 0 st),0,[(E (adv s2)).1],Cy st⟩,(E (adv s2)).2)
 else (⟨5,Hh 0 st,Hh 0 (Dw 0 st),0,[],Cy st⟩,s2)

def formL:List (Am×Int):=[(Ru,6),(Rs,7),(Rr,8),(Lr,9),(Jr,10),(Ht,11),(Ha,12)]
def fB (T:PS→Syn×PS)(z:Syn)(st:PS):Syn×PS:=
 let r:=T (Ce Co st)
 let l:=Jc T (A8 r.2) r.2 (z.kids ++ [r.1])
 ({ z with kids:=l.1 },l.2)
def Gd (E T:PS→Syn×PS)(k:Int)(z:Syn)(st:PS):Syn×PS:=
 if decide (k≤8) then fB T z st
 else if (k==9) then (z,st)
 else if (k==10) then ({ z with kids:=z.kids ++ [(J9 E (Ce Co st)).1] },(J9 E (Ce Co st)).2)
 else if (k==11) then ({ z with num:=Yq (Ce Co st) },Dw 1 (Ce Co st))
 else ({ z with kids:=z.kids ++ [(E (Ce Co st)).1] },(E (Ce Co st)).2)
def Z3 (E T:PS→Syn×PS)(st:PS):Syn×PS:=
 match formL.find? (fun f=>Hn f.1 st) with
 | some f=>L4 (fun z s=>
  let r:=T (Ce Dt s)
  let q:=Gd E T f.2 { z with kids:=[r.1] } r.2
  (q.1,Ce F2 q.2)) ⟨f.2,[],[],0,[],Cy st⟩ st
 | none=>J9 E st
def pN (E:PS→Syn×PS):Nat→PS→Syn×PS
 | 0=>Z3 E D2
 | n+1=>Z3 E (pN E n)

def kT (st:PS)(at':Int):Syn×PS:=
 if Hn Z0 st then (⟨4,Hh 0 (adv st),[],0,[],Cy (adv st)⟩,Dw 0 (adv st)) else (⟨4,[],[],0,[],at'⟩,st)
def G5 (E T:PS→Syn×PS)(st:PS):Syn×PS:=
 let s1:=Ce Fk st
 let k:=kT (Dw 0 s1) (Cy st)
 let p:=T (Ce Gb k.2)
 let l:=T5 E (Ce Gi p.2)
 (⟨3,Hh 0 s1,[],0,[k.1,p.1]++l.1,Cy st⟩,Ce dM l.2)

def dH (w:Am)(F:PS→Syn×PS):Nat→PS→List Syn→List Syn×PS
 | 0,st,out=>(out,st)
 | n+1,st,out=>if Hn w st then dH w F n (F st).2 (out ++ [(F st).1]) else (out,st)
def progP (E T:PS→Syn×PS)(st:PS):Syn×PS:=
 let t:=dH Md kindP (A8 st) st []
 let q:=dH Fk (G5 E T) (A8 t.2) t.2 t.1
 (⟨0,[],[],0,q.1,0⟩,q.2)

def Mi (l:List Tok)(n:Int):PS:=⟨l,0,n,0,0,0⟩
def Pv (r:Syn×PS):Syn×Int×Int:=
 let s:=if decide ((r.2.pos:Int)<(r.2.toks.length:Int)) then Ft 4 r.2 else r.2
 if (s.bad != 0) then (Mz,s.whr,s.bad) else (r.1,0,0)
def Do (F:PS→Syn×PS)(s:Am):Syn×Int×Int:=
 if ((G0 s).2.2 != 0) then (Mz,(G0 s).2.1,(G0 s).2.2) else Pv (F (Mi (G0 s).1 s.length))
def EE:PS→Syn×PS:=exprN 64
def TT:PS→Syn×PS:=pN EE 64
def pExpr (s:Am):Syn×Int×Int:=Do EE s
def pPat (s:Am):Syn×Int×Int:=Do TT s
def pQuery (s:Am):Syn×Int×Int:=Do (G5 EE TT) s
def pProg (s:Am):Syn×Int×Int:=Do (progP EE TT) s

def Om (w:Am)(st:PS):Bool:=if endP st then false else ((dA st).text==w)&&(((dA st).kind==3)||((dA st).kind==0))
def accR (w:Am)(st:PS):PS:=if Om w st then adv st else st
def I0 (w:Am)(st:PS):PS:=if Om w st then adv st else Ft 4 st
def nxtR (k:Int)(st:PS):Bool:=if endP st then false else ((dA st).kind==k)&&((k != 0) || !(kJ (dA st).text))
def Qi (k:Int)(st:PS):PS:=if nxtR k st then adv st else Ft 4 st
def Mp (k:Int)(st:PS):Am:=if nxtR k st then (dA st).text else []
def sO (st:PS):Int:=(numR (Mp 1 st)).1
def xJ (st:PS):PS:=Hv (if decide (64≤st.depth) then Ft 12 st else st)

def yG (st:PS):Syn×PS:=
 let s1:=I0 Js (Qi 0 st)
 if Om F0 s1 then (⟨2,Mp 0 st,[],1,[],Cy st⟩,adv s1)
 else if Om Gl s1 then (⟨2,Mp 0 st,[],2,[],Cy st⟩,adv s1)
 else (⟨2,Mp 0 st,[],0,[],Cy st⟩,I0 G8 s1)
def Xf (F:PS→Syn×PS):Nat→PS→List Syn→List Syn×PS
 | 0,st,out=>(out,st)
 | n+1,st,out=>if Om Co st then Xf F n (F (adv st)).2 (out ++ [(F (adv st)).1]) else (out,st)
def typedR (st:PS):Syn×PS:=
 let s1:=I0 Md st
 let s2:=I0 Ya (Qi 0 s1)
 if Om Mw s2 then (⟨1,Mp 0 s1,[],0,[],Cy st⟩,adv s2)
 else
  let r:=yG s2
  let l:=Xf yG (A8 r.2) r.2 [r.1]
  (⟨1,Mp 0 s1,[],0,l.1,Cy st⟩,I0 Mw l.2)
def yV (st:PS):Syn×PS:=
 if Om Vt st then (⟨13,[],G8,0-sO (adv st),[],Cy st⟩,Qi 1 (adv st))
 else if Om Ma st then (⟨13,[],F0,1,[],Cy st⟩,adv st)
 else if Om Jy st then (⟨13,[],F0,0,[],Cy st⟩,adv st)
 else if nxtR 2 st then (⟨13,Mp 2 st,Gl,0,[],Cy st⟩,Qi 2 st)
 else (⟨13,[],G8,sO st,[],Cy st⟩,Qi 1 st)
def aggR (st:PS):Int:=
 if Om cG st then 1 else if Om cS st then 2 else if Om dT st then 3 else if Om Tb st then 4 else if Om Xd st then 5 else 0
def totR (k:Int)(st:PS):Syn×PS:=
 let s1:=I0 Dt (adv st)
 let s2:=I0 bP (Qi 0 s1)
 let s3:=Qi 0 s2
 if (k != 1) then
  let c:=yV (I0 Co s3)
  (⟨16,Mp 0 s1,Mp 0 s2,k,[c.1],Cy st⟩,I0 F2 c.2)
 else (⟨16,Mp 0 s1,Mp 0 s2,k,[],Cy st⟩,I0 F2 s3)
def nT (E:PS→Syn×PS)(st:PS):Syn×PS:=
 if Om Dt st then
  let e:=E (I0 Dt (xJ st))
  (e.1,Hj (I0 F2 e.2))
 else if Om Ty st then
  let s1:=I0 Dt (adv st)
  (⟨15,Mp 0 s1,[],0,[],Cy st⟩,I0 F2 (Qi 0 s1))
 else if (aggR st != 0) then totR (aggR st) st
 else if !(nxtR 0 st) then yV st
 else
  let s1:=I0 bP (Qi 0 st)
  if Om Eh s1 then (⟨14,Mp 0 st,Eh,0,[],Cy st⟩,adv s1)
  else (⟨14,Mp 0 st,Mp 0 s1,0,[],Cy st⟩,Qi 0 s1)
def uP (F:PS→Syn×PS):Nat→PS→Syn→Syn×PS
 | 0,st,out=>(out,st)
 | n+1,st,out=>if Om jE st||Om Vt st then uP F n (F (adv st)).2 (Kr (if Om Vt st then 6 else 5) out (F (adv st)).1 out.pos) else (out,st)
def sumR (E:PS→Syn×PS)(st:PS):Syn×PS:=uP (nT E) (A8 (nT E st).2) (nT E st).2 (nT E st).1
def cmpR (E:PS→Syn×PS)(st:PS):Syn×PS:=
 let a:=(sumR E st).1
 let s:=(sumR E st).2
 let b:=(sumR E (adv s)).1
 let s':=(sumR E (adv s)).2
 if Om qI s then (Kr 7 a b a.pos,s')
 else if Om sM s then (Kr 8 a b a.pos,s')
 else if Om w_gt s then (Kr 7 b a a.pos,s')
 else if Om w_ge s then (Kr 8 b a a.pos,s')
 else if Om jJ s then (Kr 9 a b a.pos,s')
 else if Om oP s then (⟨18,[],[],0,[Kr 9 a b a.pos],a.pos⟩,s')
 else (a,s)
def rB (E N:PS→Syn×PS)(st:PS):Syn×PS:=
 if !(Om Ur st) then cmpR E st
 else
  let r:=N (I0 Ur (xJ st))
  (⟨18,[],[],0,[r.1],Cy st⟩,Hj r.2)
def Zd (w:Am)(op:Int)(F:PS→Syn×PS):Nat→PS→Syn→Syn×PS
 | 0,st,out=>(out,st)
 | n+1,st,out=>if Om w st then Zd w op F n (F (adv st)).2 (Kr op out (F (adv st)).1 out.pos) else (out,st)
def andR (E N:PS→Syn×PS)(st:PS):Syn×PS:=Zd dF 10 (rB E N) (A8 (rB E N st).2) (rB E N st).2 (rB E N st).1
def orR (E N:PS→Syn×PS)(st:PS):Syn×PS:=Zd mZ 11 (andR E N) (A8 (andR E N st).2) (andR E N st).2 (andR E N st).1
def jR:Nat→(PS→Syn×PS)×(PS→Syn×PS)
 | 0=>(rB D2 D2,orR D2 D2)
 | n+1=>(rB (jR n).2 (jR n).1,orR (jR n).2 (jR n).1)
def exprNR (n:Nat):PS→Syn×PS:=(jR n).2
def lY (E:PS→Syn×PS)(st:PS):Syn×PS:=
 let s2:=Qi 0 (Qi 0 st)
 if Om Y8 s2 then (⟨5,Mp 0 st,Mp 0 (Qi 0 st),0,[(E (adv s2)).1],Cy st⟩,(E (adv s2)).2)
 else (⟨5,Mp 0 st,Mp 0 (Qi 0 st),0,[],Cy st⟩,s2)
def uZ (st:PS):Int:=
 if Om Ru st then 6 else if Om Rs st then 7 else if Om Rr st then 8 else if Om Lr st then 9 else if Om Jr st then 10 else if Om Ht st then 11 else if Om Ha st then 12 else 5
def restR (E T:PS→Syn×PS)(k:Int)(z:Syn)(st:PS):Syn×PS:=
 if ((k==6)||(k==7))||(k==8) then
  let r:=T (I0 Co st)
  let l:=Xf T (A8 r.2) r.2 (z.kids ++ [r.1])
  ({ z with kids:=l.1 },l.2)
 else if (k==10) then ({ z with kids:=z.kids ++ [(lY E (I0 Co st)).1] },(lY E (I0 Co st)).2)
 else if (k==11) then ({ z with num:=sO (I0 Co st) },Qi 1 (I0 Co st))
 else if (k==12) then ({ z with kids:=z.kids ++ [(E (I0 Co st)).1] },(E (I0 Co st)).2)
 else (z,st)
def patR (E T:PS→Syn×PS)(st:PS):Syn×PS:=
 if (uZ st==5) then lY E st
 else
  let r:=T (I0 Dt (adv (xJ st)))
  let q:=restR E T (uZ st) ⟨uZ st,[],[],0,[r.1],Cy st⟩ r.2
  (q.1,Hj (I0 F2 q.2))
def patNR (E:PS→Syn×PS):Nat→PS→Syn×PS
 | 0=>patR E D2
 | n+1=>patR E (patNR E n)
def keyRR (st:PS)(at':Int):Syn×PS:=
 if Om Z0 st then (⟨4,Mp 0 (adv st),[],0,[],Cy (adv st)⟩,Qi 0 (adv st)) else (⟨4,[],[],0,[],at'⟩,st)
def queryR (E T:PS→Syn×PS)(st:PS):Syn×PS:=
 let s1:=I0 Fk st
 let k:=keyRR (Qi 0 s1) (Cy st)
 let p:=T (I0 Gb k.2)
 let e:=E (I0 Gi p.2)
 let l:=Xf E (A8 e.2) e.2 [k.1,p.1,e.1]
 (⟨3,Mp 0 s1,[],0,l.1,Cy st⟩,I0 dM l.2)
def eO (w:Am)(F:PS→Syn×PS):Nat→PS→List Syn→List Syn×PS
 | 0,st,out=>(out,st)
 | n+1,st,out=>if Om w st then eO w F n (F st).2 (out ++ [(F st).1]) else (out,st)
def progR (E T:PS→Syn×PS)(st:PS):Syn×PS:=
 let t:=eO Md typedR (A8 st) st []
 let q:=eO Fk (queryR E T) (A8 t.2) t.2 t.1
 (⟨0,[],[],0,q.1,0⟩,q.2)
def doneR (r:Syn×PS):Syn×Int×Int:=
 let s:=if (r.2.bad==0)&&decide ((r.2.pos:Int)<(r.2.toks.length:Int)) then Ft 4 r.2 else r.2
 if (s.bad != 0) then (Mz,s.whr,s.bad) else (r.1,0,0)
def parseR (F:PS→Syn×PS)(s:Am):Syn×Int×Int:=
 if ((oN s).2.2 != 0) then (Mz,(oN s).2.1,(oN s).2.2) else doneR (F (Mi (oN s).1 s.length))
def EER:PS→Syn×PS:=exprNR 65
def TTR:PS→Syn×PS:=patNR EER 65

mutual
def Cl:Syn→List AV
 | ⟨kind,text,name,num,kids,pos⟩=>[.int .i64 kind,.str text,.str name,.int .i64 num,.sl 6 (jX kids),.int .i64 pos]
def jX:List Syn→List (List AV)
 | []=>[]
 | e::r=>Cl e::jX r
end
theorem bL:∀l:List Syn,jX l=l.map Cl
 | []=>by simp [jX]
 | e::r=>by simp [jX,bL r]
@[reducible] def cSyn (e : Syn) : List AV := [.int .i64 e.kind, .str e.text, .str e.name, .int .i64 e.num, .sl 6 (e.kids.map Cl), .int .i64 e.pos]
theorem Ba (e:Syn):Cl e=cSyn e:=by
 cases e
 simp [Cl,cSyn,bL]
theorem Fc {l:List Syn}{k:Nat}{a:Syn}(h:l[k]? = some a):(l.map Cl)[k]? = some (cSyn a):=by
 simp [h,Ba]
@[reducible] def cP (st : PS) : List AV := [.sl 3 (st.toks.map fV), .int .i64 (st.pos : Int), .int .i64 st.fin, .int .i64 st.depth, .int .i64 st.bad, .int .i64 st.whr]
theorem Syn.ind {P:Syn→Prop}(h:∀e,(∀a∈e.kids,P a)→P e):∀e,P e:=by
 intro e;exact Syn.rec (motive_1:=P) (motive_2:=fun l=>∀a∈l,P a) (fun k t n m kids p ih=>h _ ih) (by simp) (fun a l ha hl=>by simp only [G2,forall_eq_or_imp];exact ⟨ha,hl⟩) e


inductive Pl where
 | only (k:Int)
 | pats
 | exps
@[reducible] def isPat (k : Int) : Bool := decide (5 ≤ k) && decide (k ≤ 12)
@[reducible] def isExp (k : Int) : Bool := decide (13 ≤ k) && decide (k ≤ 18)
def Pl.at:Pl→Int→Bool
 | .only k,x=>x==k
 | .pats,x=>isPat x
 | .exps,x=>isExp x
def Pl.role:Pl→Int
 | .only k=>if k≤4 then k else if k==5 then 6 else 8
 | .pats=>5
 | .exps=>7
def Pl.ok:Pl→Prop
 | .only k=>k=0∨k=1∨k=2∨k=3∨k=4∨k=5∨k=13
 | _=>True

def A3 (t:Syn)(i:Nat):Syn:=t.kids.getD i Mz
def Ec (t:Syn)(i:Nat):Pl:=
 if (t.kind==0) then if ((A3 t i).kind==1)&&(((i:Int)==0)||((A3 t (i-1)).kind==1)) then .only 1 else .only 3
 else if (t.kind==1) then .only 2
 else if (t.kind==3) then if ((i:Int)==0) then .only 4 else if ((i:Int)==1) then .pats else .exps
 else if (t.kind==10) then if ((i:Int)==1) then .only 5 else .pats
 else if (t.kind==12) then if ((i:Int)==1) then .exps else .pats
 else if (t.kind==16) then .only 13
 else if ((t.kind==5)||(t.kind==17))||(t.kind==18) then .exps
 else .pats
def Ei (t:Syn):Bool:=
 if (t.kind==0)||(t.kind==1) then true
 else if (t.kind==3) then decide (3≤(t.kids.length:Int))
 else if (t.kind==5) then decide ((t.kids.length:Int)≤1)
 else if ((t.kind==6)||(t.kind==7))||(t.kind==8) then decide (2≤(t.kids.length:Int))
 else if ((t.kind==9)||(t.kind==11))||(t.kind==18) then ((t.kids.length:Int)==1)
 else if ((t.kind==10)||(t.kind==12))||(t.kind==17) then ((t.kids.length:Int)==2)
 else if (t.kind==16) then if (t.num==1) then ((t.kids.length:Int)==0) else ((t.kids.length:Int)==1)
 else ((t.kids.length:Int)==0)
def Px (k:Int):Bool×Bool:=
 if ((k==5)||(k==14))||(k==16) then (true,true)
 else if ((((k==1)||(k==2))||(k==3))||(k==4))||(k==15) then (true,false)
 else (false,false)
def qX (s:Am):Bool:=Ze s==0
def Pf (t:Syn):Bool:=
 if ((Px t.kind).1 && !qX t.text)&&((t.kind != 4) || !(t.text == [])) then false
 else (!(Px t.kind).2||qX t.name)||((t.kind==14)&&(t.name==Eh))
def Ho (t:Syn):Int:=
 if (t.name==G8) then if (decide (t.num < -1099511627776)||decide (1099511627776<t.num)) then 2 else if !(t.text == []) then 3 else 0
 else if (t.name==F0) then if (decide (t.num<0)||decide (1<t.num)) then 2 else if !(t.text == []) then 3 else 0
 else if (t.name==Gl) then if decide (64<(t.text.length:Int)) then 13 else if (t.num != 0) then 3 else 0
 else 1
def Nm (t:Syn):Int:=
 if (t.kind==2) then if (decide (t.num<0)||decide (2<t.num)) then 1 else 0
 else if (t.kind==16) then if (decide (t.num<1)||decide (5<t.num)) then 1 else 0
 else if (t.kind==17) then if (decide (t.num<5)||decide (11<t.num)) then 1 else 0
 else if (t.kind==11) then if (decide (t.num<0)||decide (1099511627776<t.num)) then 2 else 0
 else if (decide (t.num<0)||decide (0<t.num)) then 3 else 0
def C9 (t:Syn):Int:=
 if (t.kind==13) then Ho t
 else if (Nm t != 0) then Nm t
 else if (!(Px t.kind).1 && !(t.text == []))||(!(Px t.kind).2 && !(t.name == [])) then 3 else 0
def Ro (p:Pl)(t:Syn):Int:=
 if !(p.at t.kind) then 1 else if !(Ei t) then 15 else if !(Pf t) then 8 else C9 t
def cO:List Int→Int
 | []=>0
 | x::r=>if (x != 0) then x else cO r
mutual
def A4:Syn→Pl→Int
 | ⟨k,x,n,m,kids,p⟩,at'=>if (Ro at' ⟨k,x,n,m,kids,p⟩ != 0) then Ro at' ⟨k,x,n,m,kids,p⟩ else cO (Zh kids ((List.range kids.length).map (Ec ⟨k,x,n,m,kids,p⟩)))
def Zh:List Syn→List Pl→List Int
 | [],_=>[]
 | x::r,[]=>[]
 | x::r,p::q=>A4 x p::Zh r q
end

def G1 (p k:Int):Bool:=if (p==17) then (k==17)||(k==18) else if (p==18) then (k==17) else false
mutual
def Fz:Syn→Nat
 | ⟨k,_,_,_,kids,_⟩=>Ff k kids+(if (k==18)||(isPat k&&(k != 5)) then 1 else 0)
def Ff (k:Int):List Syn→Nat
 | []=>0
 | x::r=>max (Fz x+(if G1 k x.kind then 1 else 0)) (Ff k r)
end

def Cz:List Am→Am
 | []=>[]
 | [x]=>x
 | x::y::r=>x ++ [44,32]++Cz (y::r)
def L5 (n:Int):Am:=if (n==1) then F0 else if (n==2) then Gl else G8
def Zo (n:Int):Am:=if (n==1) then cG else if (n==2) then cS else if (n==3) then dT else if (n==4) then Tb else Xd
def Ld (n:Int):Am:=
 if (n==5) then jE else if (n==6) then Vt else if (n==7) then qI else if (n==8) then sM else if (n==9) then jJ else if (n==10) then dF else mZ
def Vm (k:Int):Am:=
 if (k==6) then Ru else if (k==7) then Rs else if (k==8) then Rr else if (k==9) then Lr else if (k==10) then Jr else if (k==11) then Ht else Ha
def Ss (t:Syn):Am:=
 if (t.name==G8) then Lib.itoa t.num
 else if (t.name==F0) then if (t.num==1) then Ma else Jy
 else (N8 t.text).1
def F8 (p:Syn)(k:Syn)(s:Am):Am:=if G1 p.kind k.kind then [40]++s ++ [41] else s
def Fj (t:Syn)(ws:List Am):Am:=
 if (t.kind==0) then ws.flatten
 else if (t.kind==1) then Md ++ [32]++t.text ++ [32,123]++(if ws == [] then [] else [32]++Cz ws ++ [32]) ++ [125,10]
 else if (t.kind==2) then t.text ++ [58,32]++L5 t.num
 else if (t.kind==3) then Fk ++ [32]++t.text++(if (A3 t 0).text == [] then [] else [32]++Z0 ++ [32]++(A3 t 0).text) ++ [10]++Gb ++ [32]++ws.getD 1 [] ++ [10]++Gi ++ [32]++Cz (ws.drop 2) ++ [59,10]
 else if (t.kind==5) then t.text ++ [32]++t.name++(if ws == [] then [] else [32]++Y8 ++ [32]++ws.getD 0 [])
 else if (t.kind==13) then Ss t
 else if (t.kind==14) then t.text ++ [46]++t.name
 else if (t.kind==15) then Ty ++ [40]++t.text ++ [41]
 else if (t.kind==16) then Zo t.num ++ [40]++t.text ++ [46]++t.name++(if ws == [] then [] else [44,32]++ws.getD 0 []) ++ [41]
 else if (t.kind==17) then F8 t (A3 t 0) (ws.getD 0 []) ++ [32]++Ld t.num ++ [32]++F8 t (A3 t 1) (ws.getD 1 [])
 else if (t.kind==18) then Ur ++ [32]++F8 t (A3 t 0) (ws.getD 0 [])
 else Vm t.kind ++ [40]++Cz ws++(if (t.kind==11) then [44,32]++Lib.itoa t.num else []) ++ [41]
mutual
def Ak:Syn→Am
 | ⟨k,x,n,m,kids,p⟩=>Fj ⟨k,x,n,m,kids,p⟩ (Nr kids)
def Nr:List Syn→List Am
 | []=>[]
 | x::r=>Ak x::Nr r
end
def By (t:Syn)(p:Pl):Am×Int:=
 if (A4 t p != 0) then ([],A4 t p)
 else if decide (64<(Fz t:Int)) then ([],12)
 else if decide (65536<((Ak t).length:Int)) then ([],13)
 else (Ak t,0)

mutual
def H9:Syn→Int
 | ⟨_,_,_,_,kids,_⟩=>Ib kids 1
def Ib:List Syn→Int→Int
 | [],n=>n
 | x::r,n=>if decide (n≤200) then Ib r (IntKind.i64.wrap (n+H9 x)) else n
end
mutual
def Rx:Syn→Int
 | ⟨_,_,_,_,kids,_⟩=>IntKind.i64.wrap (To kids 0+1)
def To:List Syn→Int→Int
 | [],d=>d
 | x::r,d=>To r (max d (Rx x))
end
mutual
def I7:Syn→Bool
 | ⟨k,x,n,m,kids,p⟩=>if (((decide (80<(x.length:Int))||decide (80<(n.length:Int)))||decide (200<H9 ⟨k,x,n,m,kids,p⟩))||decide (90<Rx ⟨k,x,n,m,kids,p⟩)) then false else Xu kids
def Xu:List Syn→Bool
 | []=>true
 | x::r=>if !(I7 x) then false else Xu r
end

theorem Yi:∀l:List Syn,Nr l=l.map Ak
 | []=>by rw [Nr,C8]
 | x::r=>by rw [Nr,Yi r,Dn]
theorem Jb (t:Syn):Ak t=Fj t (t.kids.map Ak):=by cases t;rw [Ak,Yi]
theorem M8 (t:Syn):Fz t=Ff t.kind t.kids+(if (t.kind==18)||(isPat t.kind&&(t.kind != 5)) then 1 else 0):=by cases t;rw [Fz]
theorem aL (t:Syn):H9 t=Ib t.kids 1:=by cases t;rw [H9]
theorem vV (t:Syn):Rx t=IntKind.i64.wrap (To t.kids 0+1):=by cases t;rw [Rx]
theorem cW (t:Syn):I7 t=if (((decide (80<(t.text.length:Int))||decide (80<(t.name.length:Int)))||decide (200<H9 t))||decide (90<Rx t)) then false else Xu t.kids:=by cases t;rw [I7]

def Ko (t:Syn):Nat→List Syn→Int
 | _,[]=>0
 | i,x::r=>if (A4 x (Ec t i) != 0) then A4 x (Ec t i) else Ko t (i+1) r
theorem Qv (t:Syn)(p:Pl):A4 t p=if (Ro p t != 0) then Ro p t else Ko t 0 t.kids:=by
 have h:∀(l:List Syn) (i:Nat),cO (Zh l ((List.range' i l.length).map (Ec t)))=Ko t i l:=by
  intro l
  induction l with
  | nil=>intro i;rw [Zh,Ko];rfl
  | cons x r ih=>intro i;rw [Ep,List.range'_succ,Dn,Zh,cO,Ko,ih]
 rw [←h t.kids 0,←List.range_eq_range'];cases t;rw [A4]

theorem D0:({ data:=#[] }:ByteArray).data.toList=([]:List UInt8):=rfl

structure Vl where
 kind:Int
 num:Int
 text:List UInt8
deriving DecidableEq

structure Ex where
 op:Int
 args:List Ex
 var:Int
 field:Int
 kind:Int
 val:Vl

structure Ev where
 source:Int
 seq:Int
 type:Int
 time:Int
 values:List Vl

structure Ac where
 kind:Int
 count:Int
 val:Vl

def v0:Vl:=⟨0,0,[]⟩
def oR:Ev:=⟨0,0,0,0,[]⟩
def Un:Ex:=⟨0,[],0,0,0,v0⟩
def ac0:Ac:=⟨0,0,v0⟩

@[reducible] def eqV (v w : Vl) : Bool := v.kind == w.kind && (v.num == w.num && v.text == w.text)
@[reducible] def isV0 (v : Vl) : Bool := v.kind == 0 && (v.num == 0 && v.text == [])
def cV (v:Vl):List AV:=[.int .i64 v.kind,.int .i64 v.num,.str v.text]

mutual
def M5:Ex→List AV
 | ⟨op,args,var,field,kind,val⟩=>[.int .i64 op,.sl 8 (gD args),.int .i64 var,.int .i64 field,.int .i64 kind,.int .i64 val.kind,.int .i64 val.num,.str val.text]
def gD:List Ex→List (List AV)
 | []=>[]
 | e::r=>M5 e::gD r
end

theorem bA:∀l:List Ex,gD l=l.map M5
 | []=>by simp [gD]
 | e::r=>by simp [gD,bA r]

def cE (e:Ex):List AV:=[.int .i64 e.op,.sl 8 (e.args.map M5),.int .i64 e.var,.int .i64 e.field,.int .i64 e.kind,.int .i64 e.val.kind,.int .i64 e.val.num,.str e.val.text]
def cEv (e:Ev):List AV:=[.int .i64 e.source,.int .i64 e.seq,.int .i64 e.type,.int .i64 e.time,.sl 3 (e.values.map cV)]
def cAc (a:Ac):List AV:=[.int .i64 a.kind,.int .i64 a.count,.int .i64 a.val.kind,.int .i64 a.val.num,.str a.val.text]
def cEvs (l:List Ev):List AV:=[.sl 5 (l.map cEv)]
def cEnv (l:List (List Ev)):List AV:=[.sl 1 (l.map cEvs)]

theorem Qt (e:Ex):M5 e=cE e:=by
 cases e
 simp [M5,cE,bA]

theorem Ex.ind {P:Ex→Prop}(h:∀e,(∀a∈e.args,P a)→P e):∀e,P e:=by
 intro e;exact Ex.rec (motive_1:=P) (motive_2:=fun l=>∀a∈l,P a) (fun op args v f k val ih=>h _ ih) (by simp) (fun a l ha hl=>by simp only [G2,forall_eq_or_imp];exact ⟨ha,hl⟩) e

theorem Jq {l:List Ex}{k:Nat}{a:Ex}(h:l[k]? = some a):(l.map M5)[k]? = some (cE a):=by
 simp [h,Qt]
theorem Dv {α:Type}{f:α→List AV}{l:List α}{k:Nat}{a:α}(h:l[k]? = some a):(l.map f)[k]? = some (f a):=by simp [h]

theorem Cc {α:Type}{l:List α}{k:Nat}(h:decide ((k:Int)<(l.length:Int))=true):∃a,l[k]? = some a:=by
 have:k<l.length:=by simpa using h
 exact ⟨_,List.getElem?_eq_getElem this⟩
theorem Bu {α:Type}{l:List α}{k:Nat}{a:α}(h:l[k]? = some a):k<l.length:=(List.getElem?_eq_some_iff.1 h).1
theorem A5 {α:Type}{l:List α}{k:Nat}{a:α}(h:l[k]? = some a):l.drop k=a::l.drop (k+1):=by
 obtain ⟨h1,h2⟩:=List.getElem?_eq_some_iff.1 h;rw [←h2];exact Wt h1
theorem Eu {α:Type}{l:List α}{k:Nat}{a:α}(h:l[k]? = some a):l.take (k+1)=l.take k ++ [a]:=by
 rw [List.take_add_one,h];rfl
theorem Dm {α:Type}{l:List α}{k:Nat}(h:decide ((k:Int)<(l.length:Int))=false):l.take k=l:=by
 have:¬k<l.length:=by simpa using h
 exact List.take_of_length_le (by omega)
theorem cU {α:Type}{l:List α}{v:Int}(h0:0≤v)(h:v<(l.length:Int)):∃a,l[v.toNat]? = some a:=⟨_,List.getElem?_eq_getElem (by omega)⟩
theorem E3 {α:Type}{l:List α}{k:Nat}(h:decide ((k:Int)<(l.length:Int))=false):l.drop k = []:=by
 have:¬k<l.length:=by simpa using h
 exact Wd (by omega)


def Pk (b:Bool):Vl:=if b then ⟨1,1,[]⟩ else ⟨1,0,[]⟩

def Pp (v:Vl):Int:=
 if v.kind==0&&(decide (v.num < -1099511627776)||decide (1099511627776<v.num)) then 2
 else if v.kind==1&&v.num != 0&&v.num != 1 then 2
 else if decide (64<(v.text.length:Int)) then 13 else 0

def Cn (v:Vl):Int:=
 if v.kind==0||v.kind==1 then (if !(v.text == []) then 3 else Pp v)
 else if v.kind==2 then (if v.num != 0 then 3 else Pp v)
 else 1

def Iz (v:Vl):Int:=
 if decide (v.kind<0)||decide (2<v.kind) then 1
 else if v.kind==2 then (if v.num != 0 then 3 else if decide (64<(v.text.length:Int)) then 13 else 0)
 else if !(v.text == []) then 3
 else if v.kind==1&&(decide (v.num<0)||decide (1<v.num))||decide (v.num < -1099511627776)||decide (1099511627776<v.num) then 2 else 0
theorem H7 (v:Vl):Iz v=Cn v:=by
 unfold Iz Cn Pp;obtain ⟨k,n,t⟩:=v;by_cases ht:t = []
 ·
  subst ht;simp only [Nv,Gs,H5,beq_iff_eq,bne_iff_ne,ne_eq,not_true,if_false,Ch,BEq.rfl,Ew,Bz,Ew,Bz]
  repeat' split
  all_goals first | rfl | omega
 simp only [Nv,Gs,H5,beq_iff_eq,bne_iff_ne,ne_eq,ht,not_false_eq_true,if_true,Dp,Pu]
 repeat' split
 all_goals first | rfl | omega

def lN (k:Int):Bool:=decide (0≤k)&&decide (k≤5)
def oB (k:Int)(v:Vl):Bool:=v.kind==0||(k != 1&&k != 2&&k != 3)
def Lx (k:Int)(v:Vl):Bool:=v.kind==0||k==0||k==4||k==5

def combS (k:Int)(a b:Vl):Vl:=
 if k==1 then ⟨0,IntKind.i64.wrap (a.num+b.num),[]⟩ else if k==2 then ⟨0,min a.num b.num,[]⟩ else if k==3 then ⟨0,max a.num b.num,[]⟩ else if k==4 then a else if k==5 then b else v0
def singleS (k:Int)(v:Vl):Vl:=if k==0 then v0 else v
def mergedS (a b:Ac):Ac:=if a.count==0 then b else if b.count==0 then a else ⟨a.kind,IntKind.i64.wrap (a.count+b.count),combS a.kind a.val b.val⟩

def Q5 (a:Ac):Int:=
 if !lN a.kind then 1
 else if decide (a.count<0)||decide (4096<a.count) then 2
 else if (if a.count==0||a.kind==0 then isV0 a.val
  else if a.kind==1 then a.val.kind==0&&a.val.text == []&&decide (0-a.count*1099511627776≤a.val.num)&&decide (a.val.num≤a.count*1099511627776)
  else Cn a.val==0&&oB a.kind a.val) then 0 else 3

def racheckS (a:Ac):Int:=
 if !lN a.kind then 1
 else if decide (a.count<0)||decide (4096<a.count) then 2
 else if a.count==0||a.kind==0 then (if !isV0 a.val then 3 else 0)
 else if a.kind==1 then (if a.val.kind != 0 || !(a.val.text == [])||decide (a.val.num<0-a.count*1099511627776)||decide (a.count*1099511627776<a.val.num) then 3 else 0)
 else if Cn a.val != 0 || !Lx a.kind a.val then 3 else 0
def cM (k:Int)(v:Vl):Int:=if Cn v != 0 then Cn v else if !oB k v then 9 else 0

def resultS (a:Ac)(o:Vl):Vl×Int:=
 if Q5 a != 0 then (v0,Q5 a)
 else if cM a.kind o != 0 then (v0,cM a.kind o)
 else if a.kind==0 then (⟨0,a.count,[]⟩,0)
 else if a.count==0&&a.kind != 1 then (o,0)
 else (a.val,0)

def stepS (k:Int)(a:Ac)(v:Vl):Ac:=mergedS a ⟨k,1,singleS k v⟩
def foldS (k:Int)(l:List Vl):Ac:=l.foldl (stepS k) ⟨k,0,v0⟩

def A2 {α:Type}(f:α→Int):List α→Int
 | []=>0
 | a::r=>if f a != 0 then f a else A2 f r

def ofS (k:Int)(l:List Vl)(o:Vl):Vl×Int:=
 if !lN k then (v0,1)
 else if decide (4096<(l.length:Int)) then (v0,5)
 else if A2 (cM k) l != 0 then (v0,A2 (cM k) l)
 else resultS (foldS k l) o


def Fg (op:Int):Bool×Bool:=if op=1∨op=4 then (true,true) else if op=2∨op=3 then (true,false) else (false,false)
def Ia (op:Int):Int:=if op<0∨12<op then 0 else if op<5 then 0 else if op=12 then 1 else 2
def Nz (k:Int)(v:Vl):Bool:=v.kind==0||k==4||k==5

def Po (e:Ex):Int:=
 if Cn e.val != 0 then Cn e.val
 else if e.op==4&&(!Nz e.kind e.val||(e.kind==1 && !isV0 e.val)) then 9 else 0

def E8 (e:Ex):Int:=
 if !(Fg e.op).1&&e.var != 0||(!(Fg e.op).2&&e.field != 0)||(!(e.op==4)&&e.kind != 0)||(!(e.op==4||e.op==0) && !isV0 e.val) then 3 else 0

def Ge (e:Ex):Int:=
 if !decide (0≤e.op∧e.op≤12) then 1
 else if (e.args.length:Int) != Ia e.op then 15
 else if ((Fg e.op).1&&(decide (e.var<0)||decide (16≤e.var)))||((Fg e.op).2&&(decide (e.field<0)||decide (8≤e.field))) then 2
 else if e.op==4&&(decide (e.kind<1)||decide (5<e.kind)) then 1
 else if e.op==4||e.op==0 then (if Po e != 0 then Po e else E8 e)
 else E8 e

mutual
def H4 (f:Ex→Int):Ex→Int
 | ⟨op,args,var,field,kind,val⟩=>if f ⟨op,args,var,field,kind,val⟩ != 0 then f ⟨op,args,var,field,kind,val⟩ else Xx f args
def Xx (f:Ex→Int):List Ex→Int
 | []=>0
 | e::r=>if H4 f e != 0 then H4 f e else Xx f r
end
theorem T3 (f:Ex→Int):∀l,Xx f l=A2 (H4 f) l
 | []=>by simp [Xx,A2]
 | e::r=>by simp [Xx,A2,T3 f r]
theorem Vc (f:Ex→Int)(e:Ex):H4 f e=if f e != 0 then f e else A2 (H4 f) e.args:=by
 cases e;rw [H4,T3]
abbrev Jl:Ex→Int:=H4 Ge
theorem Up (e:Ex):Jl e=if Ge e != 0 then Ge e else A2 Jl e.args:=Vc Ge e

mutual
def Bw:Ex→Nat
 | ⟨_,args,_,_,_,_⟩=>1+Xl args
def Xl:List Ex→Nat
 | []=>0
 | e::r=>Bw e+Xl r
end
mutual
def Ez:Ex→Nat
 | ⟨_,args,_,_,_,_⟩=>Te args+1
def Te:List Ex→Nat
 | []=>0
 | e::r=>max (Ez e) (Te r)
end
theorem Xr:∀l,Xl l=(l.map Bw).sum
 | []=>by simp [Xl]
 | e::r=>by simp [Xl,Xr r]
theorem Ga (e:Ex):Bw e=1+(e.args.map Bw).sum:=by cases e;rw [Bw,Xr]
theorem Tj:∀l,Te l=(l.map Ez).foldr max 0
 | []=>by simp [Te]
 | e::r=>by simp [Te,Tj r]
theorem Uv (e:Ex):Ez e=(e.args.map Ez).foldr max 0+1:=by cases e;rw [Ez,Tj]

theorem lT {l:List Ex}{a:Ex}(f:Ex→Nat)(h:a∈l):f a≤(l.map f).sum:=by
  induction l with
  | nil=>cases h
  | cons x r ih=>
    simp only [Dn,Ki];rcases G2.1 h with rfl | h
    · omega
    have:=ih h;omega
theorem Hu {e a:Ex}(h:a∈e.args):Bw a<Bw e:=by
 have:=lT Bw h;have:=Ga e;omega
theorem Jt (e:Ex):Ez e≤Bw e:=by
  refine Ex.ind (P:=fun e=>Ez e≤Bw e) (fun e ih=>?_) e;rw [Uv,Ga]
  have:∀l:List Ex,(∀a∈l,Ez a≤Bw a)→(l.map Ez).foldr max 0≤(l.map Bw).sum:=by
    intro l
    induction l with
    | nil=>intro _;exact C4 _
    | cons x r ihr=>
      intro h;simp only [Dn,List.foldr_cons,Ki];have h1:=h x (by simp);have h2:=ihr fun a ha=>h a (by simp [ha])
      omega
  have:=this e.args ih;omega

mutual
def F1 (L:Nat):Ex→Nat
 | ⟨_,args,_,_,_,_⟩=>Fe L args 1
def Fe (L:Nat):List Ex→Nat→Nat
 | [],n=>n
 | e::r,n=>if n≤L then Fe L r (n+F1 L e) else n
end
theorem aI (L:Nat)(e:Ex):F1 L e=Fe L e.args 1:=by cases e;rw [F1]
theorem Zm (L:Nat)(e:Ex):F1 L e=Bw e∨(L<F1 L e∧F1 L e≤Bw e):=by
  refine Ex.ind (P:=fun e=>F1 L e=Bw e∨(L<F1 L e∧F1 L e≤Bw e)) (fun e ih=>?_) e;rw [aI,Ga]
  have:∀(l:List Ex) (n:Nat),(∀a∈l,F1 L a=Bw a∨(L<F1 L a∧F1 L a≤Bw a))→Fe L l n=n+(l.map Bw).sum∨(L<Fe L l n∧Fe L l n≤n+(l.map Bw).sum):=by
    intro l
    induction l with
    | nil=>intro n _;simp [Fe]
    | cons x r ihr=>
      intro n h;simp only [Fe,Dn,Ki];have h1:=h x (by simp);have h2:=ihr (n+F1 L x) fun a ha=>h a (by simp [ha])
      split
      · have hmono:n+F1 L x≤Fe L r (n+F1 L x):=by
          have:∀(l:List Ex) (m:Nat),m≤Fe L l m:=by
            intro l
            induction l with
            | nil=>intro m;simp [Fe]
            | cons y s ihs => intro m; simp only [Fe]; split
                              · exact Kx (Nat.le_add_right _ _) (ihs _)
                              exact C4 _
          exact this r _
        omega
      omega
  have:=this e.args 1 ih;omega
theorem gG (L:Nat)(e:Ex):L<F1 L e↔L<Bw e:=by
 rcases Zm L e with h | h
 · rw [h]
 omega
def Cf (e:Ex):Int:=if decide (64<(Bw e:Int)) then 5 else if decide (12<(Ez e:Int)) then 12 else Jl e

def Kj (op k k0:Int):Bool:=if op==5||op==6||op==7||op==8 then k==0 else if op==10||op==11||op==12 then k==1 else if op==9 then k==k0 else true
def Fs (op:Int)(kinds:List Int):Int:=A2 (fun k=>if Kj op k (kinds.headD 0) then 0 else 9) kinds
def demandS (op:Int):Int:=if op==5||op==6||op==7||op==8 then 0 else if op==10||op==11||op==12 then 1 else -1

structure Evr where
 vars:List (List Ev)
 own:Int
 event:Ev

def OPS:List (Int×AV):=[(5,.fn (.func 0) [] [.ptr [.fn (.func 0) [] []]]),(6,.fn (.func 0) [] [.ptr [.fn (.func 0) [] []]]),(7,.fn (.func 0) [] []),(8,.fn (.func 0) [] []),(10,.fn (.func 0) [] []),(11,.fn (.func 0) [] []),(12,.fn (.func 0) [] [])]
def cX (x:Evr):List AV:=[.sl 1 (x.vars.map cEvs),.int .i64 x.own,.int .i64 x.event.source,.int .i64 x.event.seq,.int .i64 x.event.type,.int .i64 x.event.time,.sl 3 (x.event.values.map cV),.mapv OPS]
def Evr.ok (x:Evr):Prop:=∀l∈x.vars,l.length≤1048576

def Qm (vars:List (List Ev))(v:Int):List Ev:=if decide (v<0)||decide ((vars.length:Int)≤v) then [] else (vars[v.toNat]?).getD []

def P6 (e:Ev)(k:Int):Vl×Int:=if decide ((e.values.length:Int)≤k) then (v0,6) else ((e.values[k.toNat]?).getD v0,0)

def totalS (x:Evr)(e:Ex):Vl×Int:=
 let l:=Qm x.vars e.var
 if A2 (fun v=>(P6 v e.field).2) l != 0 then (v0,A2 (fun v=>(P6 v e.field).2) l) else ofS e.kind (l.map fun v=>(P6 v e.field).1) e.val

def readS (last:Ev)(e:Ex):Vl×Int:=
 if e.op==2 then (⟨0,last.time,[]⟩,0)
 else if (P6 last e.field).2==0 then (if Cn (P6 last e.field).1 != 0 then (v0,Cn (P6 last e.field).1) else ((P6 last e.field).1,0))
 else (v0,(P6 last e.field).2)

def leafS (x:Evr)(e:Ex):Vl×Int:=
 if e.op==0 then (e.val,0)
 else if e.op==3 then (⟨0,(Qm x.vars e.var).length,[]⟩,0)
 else if e.op==4 then totalS x e
 else if e.var != x.own then (if ((Qm x.vars e.var).length:Int)==0 then (v0,10) else readS ((Qm x.vars e.var).getLast?.getD oR) e)
 else readS x.event e

def lastS (vars:List (List Ev))(v own:Int)(ev:Ev):Ev×Bool:=
 if v==own then (ev,true) else if ((Qm vars v).length:Int)==0 then (oR,false) else ((Qm vars v).getLast?.getD oR,true)
def sW (op:Int)(a b:Int):Vl:=
 if op==5 then ⟨0,IntKind.i64.wrap (a+b),[]⟩ else if op==6 then ⟨0,IntKind.i64.wrap (a-b),[]⟩
 else if op==7 then Pk (decide (a<b)) else if op==8 then Pk (decide (a≤b))
 else if op==10 then Pk (a==1&&b==1) else if op==11 then Pk (a==1||b==1) else Pk (a != 1)

def twoS (op:Int)(v w:Vl):Vl:=if op==9 then Pk (eqV v w) else sW op v.num w.num

def nodeV (op:Int)(l:List Vl):Vl×Int:=
 if Fs op (l.map (·.kind)) != 0 then (v0,Fs op (l.map (·.kind)))
 else if op==9 then (Pk (eqV (l.headD v0) ((l[1]?).getD v0)),0)
 else (sW op (l.headD v0).num (l.getLastD v0).num,0)

mutual
def Yc (x:Evr):Ex→Vl×Int
  | ⟨op,args,var,field,kind,val⟩=>
    if args.isEmpty then leafS x ⟨op,args,var,field,kind,val⟩
    else if (bM x args).2 != 0 then (v0,(bM x args).2) else nodeV op (bM x args).1
def bM (x:Evr):List Ex→List Vl×Int
 | []=>([],0)
 | e::r=>if (Yc x e).2 != 0 then ([],(Yc x e).2) else if (bM x r).2 != 0 then ([],(bM x r).2) else ((Yc x e).1::(bM x r).1,0)
end

def EvalS (x:Evr)(e:Ex):Vl×Int:=if Cf e != 0 then (v0,Cf e) else Yc x e
def TruthS (x:Evr)(e:Ex):Bool:=(EvalS x e).2==0&&eqV (EvalS x e).1 (Pk true)


def Xj (k:Int)(v:Vl):Int:=if Cn v != 0 then Cn v else if !Lx k v then 9 else 0
def rresultS (a:Ac)(o:Vl):Vl×Int:=
 if Q5 a != 0 then (v0,Q5 a)
 else if Xj a.kind o != 0 then (v0,Xj a.kind o)
 else if a.kind==0 then (⟨0,a.count,[]⟩,0)
 else if a.count==0&&a.kind != 1 then (o,0)
 else (a.val,0)
def addS (a:Ac)(v:Vl):Ac×Int:=
 if Q5 a != 0 then (ac0,Q5 a)
 else if Xj a.kind v != 0 then (ac0,Xj a.kind v)
 else if a.count==4096 then (ac0,5)
 else if a.kind==0 then (⟨a.kind,IntKind.i64.wrap (a.count+1),v0⟩,0)
 else if decide (0<a.count) then (⟨a.kind,IntKind.i64.wrap (a.count+1),combS a.kind a.val v⟩,0)
 else (⟨a.kind,IntKind.i64.wrap (a.count+1),v⟩,0)


theorem Qa {l:List Ex}{k:Nat}{a:Ex}(d:Nat)(h:l[k]? = some a):max d (((l.drop k).map Ez).foldr max 0)=max (max d (Ez a)) (((l.drop (k+1)).map Ez).foldr max 0):=by
 rw [A5 h];simp only [Dn,List.foldr_cons];omega
theorem gN {l:List Ex}{k:Nat}{a:Ex}(n:Nat)(h:l[k]? = some a):n+((l.drop k).map Bw).sum=(n+Bw a)+((l.drop (k+1)).map Bw).sum:=by
 rw [A5 h];simp only [Dn,Ki];omega

theorem tF (e:Ex):1≤Bw e:=by rw [Ga];omega
theorem Q4 (e:Ex)(h:Bw e≤1048576):e.args.length≤1048576:=by
 rw [Ga] at h
 have:∀l:List Ex,l.length≤(l.map Bw).sum:=by
  intro l
  induction l with
  | nil=>exact C4 _
  | cons x r ih=>simp only [Ep,Dn,Ki];have:=tF x;omega
 have:=this e.args;omega
theorem eT {L n:Nat}(h:L<n):∀l:List Ex,Fe L l n=n
 | []=>rfl
 | _::_=>by rw [Fe,if_neg (by omega)]

def Jk (e:Ex):Int:=
 if decide ((if 0≤e.op∧e.op≤12 then Ia e.op else -1)<0) then 1
 else if (e.args.length:Int) != (if 0≤e.op∧e.op≤12 then Ia e.op else -1) then 15
 else if ((Fg e.op).1&&(decide (e.var<0)||decide (16≤e.var)))||((Fg e.op).2&&(decide (e.field<0)||decide (8≤e.field))) then 2
 else if e.op==4&&(decide (e.kind<1)||decide (5<e.kind)) then 1
 else if e.op==4||e.op==0 then (if Cn e.val != 0 then Cn e.val else if e.op==4&&(!Lx e.kind e.val||(e.kind==1 && !isV0 e.val)) then 9 else E8 e)
 else if e.op==4&&(!Lx e.kind e.val||(e.kind==1 && !isV0 e.val)) then 9
 else E8 e

theorem G6 (e:Ex):Jk e=Ge e:=by
  unfold Jk Ge;by_cases h:0≤e.op∧e.op≤12
  · have ha : ¬ Ia e.op < 0 := by unfold Ia; repeat' split
                                  all_goals omega
    simp only [h,and_self,if_true,decide_true,Ew,Bz,if_false,ha,decide_false];split
    · rfl
    split
    · rfl
    by_cases h4:e.op=4
    · simp only [h4,BEq.rfl,Lk,O4,if_true]
      by_cases hk:(decide (e.kind<1)||decide (5<e.kind))=true
      · rw [if_pos hk,if_pos hk]
      · rw [if_neg hk,if_neg hk]
        have hs:Lx e.kind e.val=Nz e.kind e.val:=by
          simp at hk;unfold Lx Nz;have:(e.kind==0)=false:=by simp;omega
          rw [this];simp
        unfold Po;rw [hs,h4];by_cases hv:Cn e.val=0
        · rw [hv]
          simp only [bne_self_eq_false,Bz,if_false,BEq.rfl,Lk];by_cases hb:(!Nz e.kind e.val||(e.kind==1 && !isV0 e.val))=true
          · rw [if_pos hb,if_pos hb];rfl
          rw [if_neg hb,if_neg hb];rfl
        simp [hv]
    · have h4':(e.op==4)=false:=by simp [h4]
      simp only [h4',Rp,Bz,if_false,Lb];unfold Po;simp only [h4',Rp,Bz,if_false];by_cases hv:Cn e.val=0
      · simp [hv]
      simp [hv]
  simp [h]

theorem Sa {α:Type}{f:α→Int}:∀{l:List α},A2 f l=0→∀a∈l,f a=0
  | [],_,_,h=>by cases h
  | x::r,h,a,ha=>by
    simp only [A2] at h;by_cases hx:f x=0
    · rw [if_neg (by simp [hx])] at h
      rcases G2.1 ha with rfl | ha
      · exact hx
      exact Sa h a ha
    rw [if_pos (by simpa using hx)] at h;exact absurd h hx
theorem mR {e:Ex}(h:Jl e=0):Ge e=0∧∀a∈e.args,Jl a=0:=by
 rw [Up] at h;by_cases hx:Ge e=0
 ·
  rw [if_neg (by simp [hx])] at h;exact ⟨hx,Sa h⟩
 rw [if_pos (by simpa using hx)] at h;exact absurd h hx
theorem lL {e:Ex}(h:Ge e=0):0≤e.field:=by
  have hf:E8 e=0→(Fg e.op).2=false→e.field=0:=by
    intro h1 h2;unfold E8 at h1;split at h1
    · cases h1
    · rename_i h3
      simp [h2] at h3;exact h3.1.1.2
  unfold Ge at h;split at h
  · cases h
  split at h
  · cases h
  split at h
  · cases h
  rename_i h1 h2 h3;cases hu:(Fg e.op).2 with
  | true=>
    simp [hu] at h3;omega
  | false=>
    have:E8 e=0:=by
      split at h
      · cases h
      split at h
      · split at h
        · rename_i h4
          exact absurd h (by simpa using h4)
        exact h
      exact h
    rw [hf this hu];exact R0 _


mutual
def rebS (f:Ex→Ex):Ex→Ex
 | ⟨op,args,var,field,kind,val⟩=>f ⟨op,rebL f args,var,field,kind,val⟩
def rebL (f:Ex→Ex):List Ex→List Ex
 | []=>[]
 | e::r=>rebS f e::rebL f r
end
def outS (f:Ex→Ex)(e:Ex):Ex:=⟨e.op,e.args.map (rebS f),e.var,e.field,e.kind,e.val⟩
def qB (e:Ex):Ex:=e.args.headD Un
def arg1 (e:Ex):Ex:=(e.args[1]?).getD Un
def tZ (v:Vl):Ex:=⟨0,[],0,0,0,v⟩
def isC (a:Ex)(b:Bool):Bool:=a.op==0&&eqV a.val (Pk b)

def nL (x:Evr)(e:Ex):Vl×Bool:=
 if e.args.any (fun a=>a.op != 0) then (v0,false) else if (e.args.length:Int)==0 then (v0,false) else ((Yc x e).1,(Yc x e).2==0&&Cn (Yc x e).1==0)

def fnodeS (x:Evr)(e:Ex):Ex:=
 if (nL x e).2 then tZ (nL x e).1
 else if e.op==12&&(qB e).op==12 then qB (qB e)
 else if e.op != 10&&e.op != 11 then e
 else if isC (qB e) (e.op==10) then arg1 e
 else if isC (arg1 e) (e.op==10) then qB e
 else if isC (qB e) (!(e.op==10))||isC (arg1 e) (!(e.op==10)) then tZ (Pk (!(e.op==10)))
 else e

def xz:Evr:=⟨[],-1,oR⟩
def FoldS (e:Ex):Ex×Int:=if Cf e != 0 then (Un,Cf e) else (rebS (fnodeS xz) e,0)

def Lj (a b:Ex):Bool:=a.op != b.op||a.var != b.var||a.field != b.field||a.kind != b.kind || !eqV a.val b.val||(a.args.length:Int) != (b.args.length:Int)

mutual
def Fx:Ex→Ex→Bool
 | ⟨op,args,var,field,kind,val⟩,b=>if Lj ⟨op,args,var,field,kind,val⟩ b then false else Ot args b.args
def Ot:List Ex→List Ex→Bool
 | [],_=>true
 | a::r,l=>if !Fx a (l.headD Un) then false else Ot r l.tail
end
theorem Lo (a b:Ex):Fx a b=if Lj a b then false else Ot a.args b.args:=by cases a;rw [Fx]

theorem pL (a b:Ex):Fx a b=true↔a=b:=by
  induction a using Ex.ind generalizing b with
  | h a ih=>
    have hL:∀(l m:List Ex),(∀x∈l,∀y,Fx x y=true↔x=y)→l.length=m.length→(Ot l m=true↔l=m):=by
      intro l
      induction l with
      | nil=>intro m _ hl;cases m with | nil=>simp [Ot] | cons _ _=>simp at hl
      | cons x r ihl=>
        intro m hx hl;cases m with
        | nil=>simp at hl
        | cons y s=>
          have h1:=hx x (by simp) y;have h2:=ihl s (fun z hz=>hx z (by simp [hz])) (by simpa using hl);rw [List.cons.injEq];show (if (!Fx x y)=true then false else Ot r s)=true↔x=y∧r=s;by_cases hs:Fx x y=true
          · rw [if_neg (by simp [hs]),h2];simp [h1.1 hs]
          · rw [if_pos (by simp [hs])]
            have:¬x=y:=fun e=>hs (h1.2 e)
            simp [this]
    rw [Lo];by_cases hh:Lj a b=true
    · rw [if_pos hh]
      constructor
      · intro h;cases h
      · intro e;subst e
        simp [Lj] at hh
    · rw [if_neg hh]
      have hh':=hh;simp [Lj] at hh;obtain ⟨⟨⟨⟨⟨h1,h2⟩,h3⟩,h4⟩,h5⟩,h6⟩:=hh;rw [hL _ _ (fun x hx y=>ih x hx y) (by omega)]
      cases a with | mk _ _ _ _ _ av=>cases b with | mk _ _ _ _ _ bv=>
        cases av;cases bv
        simp_all
theorem Ni (a:Ex):Fx a a=true:=(pL a a).2 rfl


def atS (to:List Int)(v:Int):Int:=(to[v.toNat]?).getD 0
def dW (to:List Int)(e:Ex):Int:=
 if !(Fg e.op).1 then 0 else if decide ((to.length:Int)≤e.var) then 6 else if decide (atS to e.var<0)||decide (16≤atS to e.var) then 2 else 0
def vH (to:List Int)(e:Ex):Ex:=if (Fg e.op).1 then ⟨e.op,e.args,atS to e.var,e.field,e.kind,e.val⟩ else e
def renS (to:List Int)(e:Ex):Ex×Int:=if H4 (dW to) e != 0 then (Un,H4 (dW to) e) else (rebS (vH to) e,0)
def RenameS (e:Ex)(to:List Int):Ex×Int:=if Cf e != 0 then (Un,Cf e) else renS to e

theorem xW {e:Ex}(h:Ge e=0):0≤e.var∧e.var<16:=by
  have hf:E8 e=0→(Fg e.op).1=false→e.var=0:=by
    intro h1 h2;unfold E8 at h1;split at h1
    · cases h1
    · rename_i h3
      simp [h2] at h3;exact h3.1.1.1
  unfold Ge at h;split at h
  · cases h
  split at h
  · cases h
  split at h
  · cases h
  rename_i h1 h2 h3;cases hu:(Fg e.op).1 with
  | true=>
    simp [hu] at h3;omega
  | false=>
    have:E8 e=0:=by
      split at h
      · cases h
      split at h
      · split at h
        · rename_i h4
          exact absurd h (by simpa using h4)
        exact h
      exact h
    rw [hf this hu];omega


structure Fi where
 name:List UInt8
 kind:Int
structure e8Sc where
 name:List UInt8
 fields:List Fi
structure Va where
 name:List UInt8
 type:Int
def cFi (f:Fi):List AV:=[.str f.name,.int .i64 f.kind]
def Mt (s:e8Sc):List AV:=[.str s.name,.sl 2 (s.fields.map cFi)]
def O2 (v:Va):List AV:=[.str v.name,.int .i64 v.type]
def cR:e8Sc:=⟨[],[]⟩
def fi0:Fi:=⟨[],0⟩
def va0:Va:=⟨[],0⟩

def letS (n:Int):Bool:=n==95||(decide (97≤n)&&decide (n≤122))||(decide (65≤n)&&decide (n≤90))
def hU (n:Int):Bool:=decide (48≤n)&&decide (n≤57)
def rU (b:UInt8):Bool:=letS b.toNat||hU b.toNat
def Mb (s:List UInt8):Bool:=!(s.length==0)&&decide (s.length≤24) && !hU ((s.headD 0).toNat)&&s.all rU
def timeB:List UInt8:=[116,105,109,101]
def cL (s:List UInt8):Bool:=Mb s && !(s==timeB)

def Hr (seen:List (List UInt8))(f:Fi):Int:=
 if !cL f.name then 8 else if seen.contains f.name then 7 else if decide (f.kind<0)||decide (3≤f.kind) then 1 else 0
def Kt:List (List UInt8)→List Fi→Int
 | _,[]=>0
 | seen,f::r=>if Hr seen f != 0 then Hr seen f else Kt (seen ++ [f.name]) r
def Mk (s:e8Sc):Int:=if !Mb s.name then 8 else if decide (8<(s.fields.length:Int)) then 5 else Kt [] s.fields
def Km (seen:List (List UInt8))(s:e8Sc):Int:=if Mk s != 0 then Mk s else if seen.contains s.name then 7 else 0
def Li:List (List UInt8)→List e8Sc→Int
 | _,[]=>0
 | seen,s::r=>if Km seen s != 0 then Km seen s else Li (seen ++ [s.name]) r
def Fw (l:List e8Sc):Int:=if decide (16<(l.length:Int)) then 5 else Li [] l

def Kc (ns:List (List UInt8))(n:List UInt8):Int:=if ns.contains n then ((ns.idxOf n:Nat):Int) else -1
def So (n:Int)(v:Va):Int:=if decide (v.type<0)||decide (n≤v.type) then 6 else 0
def T1 (types:List e8Sc)(vars:List Va):Int:=if decide (16<(vars.length:Int)) then 5 else A2 (So types.length) vars

def Zv (types:List e8Sc)(vars:List Va)(v:Int):List Fi:=((types[((vars[v.toNat]?).getD va0).type.toNat]?).getD cR).fields
def Yo (l:List Fi)(k:Int):Int:=((l[k.toNat]?).getD fi0).kind
def Kk (types:List e8Sc)(vars:List Va)(e:Ex):Int×Int:=
 if e.op==0 then (e.val.kind,0)
 else if decide ((vars.length:Int)≤e.var) then (0,6)
 else if e.op==2||e.op==3 then (0,0)
 else if decide (((Zv types vars e.var).length:Int)≤e.field) then (0,6)
 else if e.op==4&&(Yo (Zv types vars e.var) e.field != e.val.kind || !Nz e.kind ⟨Yo (Zv types vars e.var) e.field,0,[]⟩) then (0,9)
 else (Yo (Zv types vars e.var) e.field,0)
def zW (op:Int):Int:=if op==5||op==6 then 0 else 1

mutual
def Ee (types:List e8Sc)(vars:List Va):Ex→Int×Int
  | ⟨op,args,var,field,kind,val⟩=>
    if args.isEmpty then Kk types vars ⟨op,args,var,field,kind,val⟩
    else if (Jv types vars args).2 != 0 then (0,(Jv types vars args).2)
    else if Fs op (Jv types vars args).1 != 0 then (0,Fs op (Jv types vars args).1) else (zW op,0)
def Jv (types:List e8Sc)(vars:List Va):List Ex→List Int×Int
 | []=>([],0)
 | e::r=>if (Ee types vars e).2 != 0 then ([],(Ee types vars e).2) else if (Jv types vars r).2 != 0 then ([],(Jv types vars r).2) else ((Ee types vars e).1::(Jv types vars r).1,0)
end
theorem Uo (types:List e8Sc)(vars:List Va):∀l,(Jv types vars l).2=A2 (fun a=>(Ee types vars a).2) l
  | []=>by simp [Jv,A2]
  | e::r=>by
    have:=Uo types vars r;by_cases h:((Ee types vars e).2 != 0)=true
    · rw [Jv,A2,if_pos h,if_pos h]
    · rw [Jv,A2,if_neg h,if_neg h,←this]
      by_cases h2:((Jv types vars r).2 != 0)=true
      · rw [if_pos h2]
      · rw [if_neg h2]
        have h3:(Jv types vars r).2=0:=by simpa using h2
        exact h3.symm
theorem iK (types:List e8Sc)(vars:List Va):∀l,A2 (fun a=>(Ee types vars a).2) l=0→(Jv types vars l).1=l.map fun a=>(Ee types vars a).1
  | [],_=>by simp [Jv]
  | e::r,h=>by
    simp only [A2] at h;by_cases h1:((Ee types vars e).2 != 0)=true
    · rw [if_pos h1] at h;simp [h] at h1
    · rw [if_neg h1] at h
      have h2:¬((Jv types vars r).2 != 0)=true:=by rw [Uo,h];simp
      rw [Jv,if_neg h1,if_neg h2];simp [iK types vars r h]
theorem Lg (types:List e8Sc)(vars:List Va)(e:Ex):Ee types vars e=if e.args.isEmpty then Kk types vars e else if A2 (fun a=>(Ee types vars a).2) e.args != 0 then (0,A2 (fun a=>(Ee types vars a).2) e.args)
  else if Fs e.op (e.args.map fun a=>(Ee types vars a).1) != 0 then (0,Fs e.op (e.args.map fun a=>(Ee types vars a).1)) else (zW e.op,0):=by
 cases e with | mk op args var field kind val=>
 rw [Ee];simp only [Uo];by_cases h:A2 (fun a=>(Ee types vars a).2) args=0
 · simp [h,iK types vars args h]
 simp [h]
def T9 (types:List e8Sc)(vars:List Va)(e:Ex):Int×Int:=
 if Fw types != 0 then (0,Fw types) else if T1 types vars != 0 then (0,T1 types vars) else if Cf e != 0 then (0,Cf e) else Ee types vars e

def shortS (types:List e8Sc)(vars:List Va):Bool:=!((types.take 30).any fun s=>decide (12<(s.fields.length:Int)))&&(decide ((types.length:Int)≤20)&&decide ((vars.length:Int)≤20))

end Go.Proofs.YtckhoadldibflaaGreatDoor
