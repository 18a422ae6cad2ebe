/-
  Several texts in one: M12, M13, EM, EM2, EM3, EM4, EM5, EM6, EM10. No condition.
-/
import Derived.Test.YtckhoadldibflaaGreatDoorK01
import Derived.Lib.ItoaLen
import Derived.Test.YtckhoadldibflaaGreatDoorAw
import Derived.IntWalk
set_option linter.unusedVariables false
set_option linter.unusedSimpArgs false
namespace Go.Proofs.YtckhoadldibflaaGreatDoor
open Go Go.Aw

abbrev Lp:A1:=[58]
abbrev Gz:A1:=[105,110,116]
abbrev Fy:A1:=[98,111,111,108]
abbrev Ee:A1:=[115,116,114,105,110,103]
abbrev Ln:A1:=[116,121,112,101]
abbrev iR:A1:=[123]
abbrev Ql:A1:=[125]
abbrev Hr:A1:=[113,117,101,114,121]
abbrev aT:A1:=[98,121]
abbrev Ij:A1:=[109,97,116,99,104]
abbrev Hw:A1:=[114,101,116,117,114,110]
abbrev w_semi:A1:=[59]
abbrev Dg:A1:=[44]
abbrev Xh:A1:=[105,102]
abbrev F9:A1:=[40]
abbrev Kc:A1:=[41]
abbrev Sw:A1:=[115,101,113]
abbrev Sx:A1:=[97,108,116]
abbrev Sq:A1:=[97,108,108]
abbrev Mz:A1:=[112,108,117,115]
abbrev Kt:A1:=[108,97,99,107,115]
abbrev Hq:A1:=[119,105,116,104,105,110]
abbrev Ic:A1:=[119,104,101,114,101]
abbrev Aaa:A1:=[111,114]
abbrev nE:A1:=[97,110,100]
abbrev w_add:A1:=[43]
abbrev dT:A1:=[45]
abbrev Ww:A1:=[110,111,116]
abbrev w_lt:A1:=[60]
abbrev w_le:A1:=[60,61]
abbrev w_gt:A1:=[62]
abbrev w_ge:A1:=[62,61]
abbrev w_eqq:A1:=[61,61]
abbrev w_neq:A1:=[33,61]
abbrev eY:A1:=[109,105,110]
abbrev eF:A1:=[109,97,120]
abbrev T7:A1:=[102,105,114,115,116]
abbrev Yq:A1:=[108,97,115,116]
abbrev rJ:A1:=[46]
abbrev fY:A1:=[115,117,109]
abbrev aJ:A1:=[99,111,117,110,116]
abbrev E6:A1:=[116,105,109,101]
abbrev Mv:A1:=[116,114,117,101]
abbrev Kx:A1:=[102,97,108,115,101]

structure Syn where
 kind:Int
 text:A1
 name:A1
 num:Int
 kids:List Syn
 pos:Int
def Oy:Syn:=⟨0,[],[],0,[],0⟩

structure PS where
 toks:List Tok
 pos:Nat
 fin:Int
 depth:Int
 bad:Int
 whr:Int

def gE (st:PS):Tok:=st.toks.getD st.pos Mh
def Dj (st:PS):Int:=if decide ((st.pos:Int)<(st.toks.length:Int)) then (gE st).pos else st.fin
def Ge (e:Int)(st:PS):PS:=if (st.bad==0) then { st with bad:=e,whr:=Dj st } else st
def adv (st:PS):PS:={ st with pos:=st.pos+1 }
def Kb (st:PS):PS:={ st with depth:=IntKind.i64.wrap (st.depth+1) }
def Kq (st:PS):PS:={ st with depth:=IntKind.i64.wrap (st.depth-1) }
@[reducible] def endP (st : PS) : Bool := (st.bad != 0) || decide ((st.toks.length : Int) ≤ (st.pos : Int))

def K4 (w:A1)(st:PS):Bool:=if endP st then false else ((gE st).text==w)&&(((gE st).kind==3)||(((gE st).kind==0)&&sT w))
def Np (w:A1)(st:PS):PS:=if K4 w st then adv st else st
def C5 (w:A1)(st:PS):PS:=if (st.bad==0) && !(K4 w st) then Ge 4 st else Np w st
def Tw (k:Int)(st:PS):Bool:=if endP st then false else ((gE st).kind==k)&&((k != 0) || !(sT (gE st).text))
def Ez (k:Int)(st:PS):PS:=if Tw k st then adv st else Ge 4 st
def Hx (k:Int)(st:PS):A1:=if Tw k st then (gE st).text else []
def Y9 (st:PS):Int:=if Tw 1 st then (bM (gE st).text).1 else 0

def Nw (read:Syn→PS→Syn×PS)(z:Syn)(st:PS):Syn×PS:=
 if ((if decide (64≤st.depth) then Ge 12 st else st).bad != 0) then (z,if decide (64≤st.depth) then Ge 12 st else st)
 else ((read z (adv (Kb st))).1,Kq (read z (adv (Kb st))).2)

def Kn (F:PS→Syn×PS):Nat→PS→List Syn→List Syn×PS
 | 0,st,out=>(out,st)
 | n+1,st,out=>if K4 Dg st then Kn F n (F (adv st)).2 (out ++ [(F (adv st)).1]) else (out,st)
def Bg (st:PS):Nat:=st.toks.length-st.pos+1
def Uq (F:PS→Syn×PS)(st:PS):List Syn×PS:=Kn F (Bg (F st).2) (F st).2 [(F st).1]

def wY (st:PS):Syn×PS:=
 if K4 Gz (C5 Lp (Ez 0 st)) then (⟨2,Hx 0 st,[],0,[],Dj st⟩,adv (C5 Lp (Ez 0 st)))
 else if K4 Fy (C5 Lp (Ez 0 st)) then (⟨2,Hx 0 st,[],1,[],Dj st⟩,adv (C5 Lp (Ez 0 st)))
 else if K4 Ee (C5 Lp (Ez 0 st)) then (⟨2,Hx 0 st,[],2,[],Dj st⟩,adv (C5 Lp (Ez 0 st)))
 else (⟨2,Hx 0 st,[],0,[],Dj st⟩,Ge 4 (C5 Lp (Ez 0 st)))

def kindP (st:PS):Syn×PS:=
 let s1:=C5 Ln st
 let s2:=C5 iR (Ez 0 s1)
 if (s2.bad==0) && !(K4 Ql s2) then (⟨1,Hx 0 s1,[],0,(Uq wY s2).1,Dj st⟩,C5 Ql (Uq wY s2).2)
 else (⟨1,Hx 0 s1,[],0,[],Dj st⟩,C5 Ql s2)

def Px (op:Int)(a b:Syn)(at':Int):Syn:=⟨17,[],[],op,[a,b],at'⟩

def Gy (st:PS):Syn×PS:=
 if K4 dT st then (⟨13,[],Gz,0-Y9 (adv st),[],Dj st⟩,Ez 1 (adv st))
 else if Tw 1 st then (⟨13,[],Gz,Y9 st,[],Dj st⟩,Ez 1 st)
 else if K4 Mv st then (⟨13,[],Fy,1,[],Dj st⟩,adv st)
 else if K4 Kx st then (⟨13,[],Fy,0,[],Dj st⟩,adv st)
 else (⟨13,Hx 2 st,Ee,0,[],Dj st⟩,Ez 2 st)

def nH (st:PS):(A1×A1)×PS:=
 let s1:=C5 F9 st
 let s2:=C5 rJ (Ez 0 s1)
 ((Hx 0 s1,Hx 0 s2),Ez 0 s2)

def totL:List (A1×Int):=[(eY,2),(eF,3),(T7,4),(Yq,5)]
def Jd (E:PS→Syn×PS)(st:PS):Syn×PS:=
  if K4 F9 st then Nw (fun _ s=>((E s).1,C5 Kc (E s).2)) Oy st
  else match totL.find? (fun s=>K4 s.1 st) with
    | some s=>
      let i:=nH (adv st)
      let s1:=C5 Dg i.2
      (⟨16,i.1.1,i.1.2,s.2,[(Gy s1).1],Dj st⟩,C5 Kc (Gy s1).2)
    | none=>
      if K4 fY st then
        let i:=nH (adv st)
        (⟨16,i.1.1,i.1.2,1,[],Dj st⟩,C5 Kc i.2)
      else if K4 aJ st then
        let s1:=C5 F9 (adv st)
        (⟨15,Hx 0 s1,[],0,[],Dj st⟩,C5 Kc (Ez 0 s1))
      else if Tw 0 st then
        let s1:=C5 rJ (Ez 0 st)
        if K4 E6 s1 then (⟨14,Hx 0 st,E6,0,[],Dj st⟩,adv s1)
        else (⟨14,Hx 0 st,Hx 0 s1,0,[],Dj st⟩,Ez 0 s1)
      else Gy st

def Oe (F:PS→Syn×PS)(sg:List (A1×Int)):Nat→PS→Syn→Syn×PS
  | 0,st,out=>(out,st)
  | n+1,st,out=>match sg.find? (fun s=>K4 s.1 st) with
    | some s=>Oe F sg n (F (adv st)).2 (Px s.2 out (F (adv st)).1 out.pos)
    | none=>(out,st)
def Q3 (F:PS→Syn×PS)(sg:List (A1×Int))(st:PS):Syn×PS:=Oe F sg (Bg (F st).2) (F st).2 (F st).1
def orL:List (A1×Int):=[(Aaa,11)]
def andL:List (A1×Int):=[(nE,10)]
def sumL:List (A1×Int):=[(w_add,5),(dT,6)]
def Wp (E:PS→Syn×PS)(st:PS):Syn×PS:=Q3 (Jd E) sumL st

def Ot (E:PS→Syn×PS)(st:PS):Syn×PS:=
 let a:=(Wp E st).1
 let s:=(Wp E st).2
 let b:=(Wp E (adv s)).1
 let s':=(Wp E (adv s)).2
 if K4 w_lt s then (Px 7 a b a.pos,s')
 else if K4 w_le s then (Px 8 a b a.pos,s')
 else if K4 w_gt s then (Px 7 b a a.pos,s')
 else if K4 w_ge s then (Px 8 b a a.pos,s')
 else if K4 w_eqq s then (Px 9 a b a.pos,s')
 else if K4 w_neq s then (⟨18,[],[],0,[Px 9 a b a.pos],a.pos⟩,s')
 else (a,s)
def X2 (E N:PS→Syn×PS)(st:PS):Syn×PS:=
 if !(K4 Ww st) then Ot E st
 else Nw (fun z s=>({ z with kids:=[(N s).1] },(N s).2)) ⟨18,[],[],0,[],Dj st⟩ st
def andP (E N:PS→Syn×PS)(st:PS):Syn×PS:=Q3 (X2 E N) andL st
def orP (E N:PS→Syn×PS)(st:PS):Syn×PS:=Q3 (andP E N) orL st
def E4 (st:PS):Syn×PS:=(Oy,st)
def S1:Nat→(PS→Syn×PS)×(PS→Syn×PS)
 | 0=>(X2 E4 E4,orP E4 E4)
 | n+1=>(X2 (S1 n).2 (S1 n).1,orP (S1 n).2 (S1 n).1)
def exprN (n:Nat):PS→Syn×PS:=(S1 n).2

def K6 (E:PS→Syn×PS)(st:PS):Syn×PS:=
 let s2:=Ez 0 (Ez 0 st)
 if K4 Xh s2 then (⟨5,Hx 0 st,Hx 0 (Ez 0 st),0,[(E (adv s2)).1],Dj st⟩,(E (adv s2)).2)
 else (⟨5,Hx 0 st,Hx 0 (Ez 0 st),0,[],Dj st⟩,s2)

def formL:List (A1×Int):=[(Sw,6),(Sx,7),(Sq,8),(Mz,9),(Kt,10),(Hq,11),(Ic,12)]
def lR (T:PS→Syn×PS)(z:Syn)(st:PS):Syn×PS:=
 let r:=T (C5 Dg st)
 let l:=Kn T (Bg r.2) r.2 (z.kids ++ [r.1])
 ({ z with kids:=l.1 },l.2)
def Ho (E T:PS→Syn×PS)(k:Int)(z:Syn)(st:PS):Syn×PS:=
 if decide (k≤8) then lR T z st
 else if (k==9) then (z,st)
 else if (k==10) then ({ z with kids:=z.kids ++ [(K6 E (C5 Dg st)).1] },(K6 E (C5 Dg st)).2)
 else if (k==11) then ({ z with num:=Y9 (C5 Dg st) },Ez 1 (C5 Dg st))
 else ({ z with kids:=z.kids ++ [(E (C5 Dg st)).1] },(E (C5 Dg st)).2)
def bN (E T:PS→Syn×PS)(st:PS):Syn×PS:=
 match formL.find? (fun f=>K4 f.1 st) with
 | some f=>Nw (fun z s=>
  let r:=T (C5 F9 s)
  let q:=Ho E T f.2 { z with kids:=[r.1] } r.2
  (q.1,C5 Kc q.2)) ⟨f.2,[],[],0,[],Dj st⟩ st
 | none=>K6 E st
def sO (E:PS→Syn×PS):Nat→PS→Syn×PS
 | 0=>bN E E4
 | n+1=>bN E (sO E n)

def nZ (st:PS)(at':Int):Syn×PS:=
 if K4 aT st then (⟨4,Hx 0 (adv st),[],0,[],Dj (adv st)⟩,Ez 0 (adv st)) else (⟨4,[],[],0,[],at'⟩,st)
def H9 (E T:PS→Syn×PS)(st:PS):Syn×PS:=
 let s1:=C5 Hr st
 let k:=nZ (Ez 0 s1) (Dj st)
 let p:=T (C5 Ij k.2)
 let l:=Uq E (C5 Hw p.2)
 (⟨3,Hx 0 s1,[],0,[k.1,p.1]++l.1,Dj st⟩,C5 w_semi l.2)

def eJ (w:A1)(F:PS→Syn×PS):Nat→PS→List Syn→List Syn×PS
 | 0,st,out=>(out,st)
 | n+1,st,out=>if K4 w st then eJ w F n (F st).2 (out ++ [(F st).1]) else (out,st)
def progP (E T:PS→Syn×PS)(st:PS):Syn×PS:=
 let t:=eJ Ln kindP (Bg st) st []
 let q:=eJ Hr (H9 E T) (Bg t.2) t.2 t.1
 (⟨0,[],[],0,q.1,0⟩,q.2)

def Oc (l:List Tok)(n:Int):PS:=⟨l,0,n,0,0,0⟩
def Ud (r:Syn×PS):Syn×Int×Int:=
 let s:=if decide ((r.2.pos:Int)<(r.2.toks.length:Int)) then Ge 4 r.2 else r.2
 if (s.bad != 0) then (Oy,s.whr,s.bad) else (r.1,0,0)
def Eo (F:PS→Syn×PS)(s:A1):Syn×Int×Int:=
 if ((H8 s).2.2 != 0) then (Oy,(H8 s).2.1,(H8 s).2.2) else Ud (F (Oc (H8 s).1 s.length))
def EE:PS→Syn×PS:=exprN 64
def TT:PS→Syn×PS:=sO EE 64
def pExpr (s:A1):Syn×Int×Int:=Eo EE s
def pPat (s:A1):Syn×Int×Int:=Eo TT s
def pQuery (s:A1):Syn×Int×Int:=Eo (H9 EE TT) s
def pProg (s:A1):Syn×Int×Int:=Eo (progP EE TT) s

def Pm (w:A1)(st:PS):Bool:=if endP st then false else ((gE st).text==w)&&(((gE st).kind==3)||((gE st).kind==0))
def accR (w:A1)(st:PS):PS:=if Pm w st then adv st else st
def Jv (w:A1)(st:PS):PS:=if Pm w st then adv st else Ge 4 st
def nxtR (k:Int)(st:PS):Bool:=if endP st then false else ((gE st).kind==k)&&((k != 0) || !(bP (gE st).text))
def Qt (k:Int)(st:PS):PS:=if nxtR k st then adv st else Ge 4 st
def My (k:Int)(st:PS):A1:=if nxtR k st then (gE st).text else []
def uV (st:PS):Int:=(numR (My 1 st)).1
def Aaf (st:PS):PS:=Kb (if decide (64≤st.depth) then Ge 12 st else st)

def vB (st:PS):Syn×PS:=
 let s1:=Jv Lp (Qt 0 st)
 if Pm Fy s1 then (⟨2,My 0 st,[],1,[],Dj st⟩,adv s1)
 else if Pm Ee s1 then (⟨2,My 0 st,[],2,[],Dj st⟩,adv s1)
 else (⟨2,My 0 st,[],0,[],Dj st⟩,Jv Gz s1)
def Yc (F:PS→Syn×PS):Nat→PS→List Syn→List Syn×PS
 | 0,st,out=>(out,st)
 | n+1,st,out=>if Pm Dg st then Yc F n (F (adv st)).2 (out ++ [(F (adv st)).1]) else (out,st)
def typedR (st:PS):Syn×PS:=
 let s1:=Jv Ln st
 let s2:=Jv iR (Qt 0 s1)
 if Pm Ql s2 then (⟨1,My 0 s1,[],0,[],Dj st⟩,adv s2)
 else
  let r:=vB s2
  let l:=Yc vB (Bg r.2) r.2 [r.1]
  (⟨1,My 0 s1,[],0,l.1,Dj st⟩,Jv Ql l.2)
def yE (st:PS):Syn×PS:=
 if Pm dT st then (⟨13,[],Gz,0-uV (adv st),[],Dj st⟩,Qt 1 (adv st))
 else if Pm Mv st then (⟨13,[],Fy,1,[],Dj st⟩,adv st)
 else if Pm Kx st then (⟨13,[],Fy,0,[],Dj st⟩,adv st)
 else if nxtR 2 st then (⟨13,My 2 st,Ee,0,[],Dj st⟩,Qt 2 st)
 else (⟨13,[],Gz,uV st,[],Dj st⟩,Qt 1 st)
def aggR (st:PS):Int:=
 if Pm fY st then 1 else if Pm eY st then 2 else if Pm eF st then 3 else if Pm T7 st then 4 else if Pm Yq st then 5 else 0
def totR (k:Int)(st:PS):Syn×PS:=
 let s1:=Jv F9 (adv st)
 let s2:=Jv rJ (Qt 0 s1)
 let s3:=Qt 0 s2
 if (k != 1) then
  let c:=yE (Jv Dg s3)
  (⟨16,My 0 s1,My 0 s2,k,[c.1],Dj st⟩,Jv Kc c.2)
 else (⟨16,My 0 s1,My 0 s2,k,[],Dj st⟩,Jv Kc s3)
def qJ (E:PS→Syn×PS)(st:PS):Syn×PS:=
 if Pm F9 st then
  let e:=E (Jv F9 (Aaf st))
  (e.1,Kq (Jv Kc e.2))
 else if Pm aJ st then
  let s1:=Jv F9 (adv st)
  (⟨15,My 0 s1,[],0,[],Dj st⟩,Jv Kc (Qt 0 s1))
 else if (aggR st != 0) then totR (aggR st) st
 else if !(nxtR 0 st) then yE st
 else
  let s1:=Jv rJ (Qt 0 st)
  if Pm E6 s1 then (⟨14,My 0 st,E6,0,[],Dj st⟩,adv s1)
  else (⟨14,My 0 st,My 0 s1,0,[],Dj st⟩,Qt 0 s1)
def vZ (F:PS→Syn×PS):Nat→PS→Syn→Syn×PS
 | 0,st,out=>(out,st)
 | n+1,st,out=>if Pm w_add st||Pm dT st then vZ F n (F (adv st)).2 (Px (if Pm dT st then 6 else 5) out (F (adv st)).1 out.pos) else (out,st)
def sumR (E:PS→Syn×PS)(st:PS):Syn×PS:=vZ (qJ E) (Bg (qJ E st).2) (qJ E st).2 (qJ E st).1
def cmpR (E:PS→Syn×PS)(st:PS):Syn×PS:=
 let a:=(sumR E st).1
 let s:=(sumR E st).2
 let b:=(sumR E (adv s)).1
 let s':=(sumR E (adv s)).2
 if Pm w_lt s then (Px 7 a b a.pos,s')
 else if Pm w_le s then (Px 8 a b a.pos,s')
 else if Pm w_gt s then (Px 7 b a a.pos,s')
 else if Pm w_ge s then (Px 8 b a a.pos,s')
 else if Pm w_eqq s then (Px 9 a b a.pos,s')
 else if Pm w_neq s then (⟨18,[],[],0,[Px 9 a b a.pos],a.pos⟩,s')
 else (a,s)
def tX (E N:PS→Syn×PS)(st:PS):Syn×PS:=
 if !(Pm Ww st) then cmpR E st
 else
  let r:=N (Jv Ww (Aaf st))
  (⟨18,[],[],0,[r.1],Dj st⟩,Kq r.2)
def aQ (w:A1)(op:Int)(F:PS→Syn×PS):Nat→PS→Syn→Syn×PS
 | 0,st,out=>(out,st)
 | n+1,st,out=>if Pm w st then aQ w op F n (F (adv st)).2 (Px op out (F (adv st)).1 out.pos) else (out,st)
def andR (E N:PS→Syn×PS)(st:PS):Syn×PS:=aQ nE 10 (tX E N) (Bg (tX E N st).2) (tX E N st).2 (tX E N st).1
def orR (E N:PS→Syn×PS)(st:PS):Syn×PS:=aQ Aaa 11 (andR E N) (Bg (andR E N st).2) (andR E N st).2 (andR E N st).1
def jQ:Nat→(PS→Syn×PS)×(PS→Syn×PS)
 | 0=>(tX E4 E4,orR E4 E4)
 | n+1=>(tX (jQ n).2 (jQ n).1,orR (jQ n).2 (jQ n).1)
def exprNR (n:Nat):PS→Syn×PS:=(jQ n).2
def mR (E:PS→Syn×PS)(st:PS):Syn×PS:=
 let s2:=Qt 0 (Qt 0 st)
 if Pm Xh s2 then (⟨5,My 0 st,My 0 (Qt 0 st),0,[(E (adv s2)).1],Dj st⟩,(E (adv s2)).2)
 else (⟨5,My 0 st,My 0 (Qt 0 st),0,[],Dj st⟩,s2)
def wF (st:PS):Int:=
 if Pm Sw st then 6 else if Pm Sx st then 7 else if Pm Sq st then 8 else if Pm Mz st then 9 else if Pm Kt st then 10 else if Pm Hq st then 11 else if Pm Ic st then 12 else 5
def restR (E T:PS→Syn×PS)(k:Int)(z:Syn)(st:PS):Syn×PS:=
 if ((k==6)||(k==7))||(k==8) then
  let r:=T (Jv Dg st)
  let l:=Yc T (Bg r.2) r.2 (z.kids ++ [r.1])
  ({ z with kids:=l.1 },l.2)
 else if (k==10) then ({ z with kids:=z.kids ++ [(mR E (Jv Dg st)).1] },(mR E (Jv Dg st)).2)
 else if (k==11) then ({ z with num:=uV (Jv Dg st) },Qt 1 (Jv Dg st))
 else if (k==12) then ({ z with kids:=z.kids ++ [(E (Jv Dg st)).1] },(E (Jv Dg st)).2)
 else (z,st)
def patR (E T:PS→Syn×PS)(st:PS):Syn×PS:=
 if (wF st==5) then mR E st
 else
  let r:=T (Jv F9 (adv (Aaf st)))
  let q:=restR E T (wF st) ⟨wF st,[],[],0,[r.1],Dj st⟩ r.2
  (q.1,Kq (Jv Kc q.2))
def patNR (E:PS→Syn×PS):Nat→PS→Syn×PS
 | 0=>patR E E4
 | n+1=>patR E (patNR E n)
def keyRR (st:PS)(at':Int):Syn×PS:=
 if Pm aT st then (⟨4,My 0 (adv st),[],0,[],Dj (adv st)⟩,Qt 0 (adv st)) else (⟨4,[],[],0,[],at'⟩,st)
def queryR (E T:PS→Syn×PS)(st:PS):Syn×PS:=
 let s1:=Jv Hr st
 let k:=keyRR (Qt 0 s1) (Dj st)
 let p:=T (Jv Ij k.2)
 let e:=E (Jv Hw p.2)
 let l:=Yc E (Bg e.2) e.2 [k.1,p.1,e.1]
 (⟨3,My 0 s1,[],0,l.1,Dj st⟩,Jv w_semi l.2)
def eP (w:A1)(F:PS→Syn×PS):Nat→PS→List Syn→List Syn×PS
 | 0,st,out=>(out,st)
 | n+1,st,out=>if Pm w st then eP w F n (F st).2 (out ++ [(F st).1]) else (out,st)
def progR (E T:PS→Syn×PS)(st:PS):Syn×PS:=
 let t:=eP Ln typedR (Bg st) st []
 let q:=eP Hr (queryR E T) (Bg t.2) t.2 t.1
 (⟨0,[],[],0,q.1,0⟩,q.2)
def doneR (r:Syn×PS):Syn×Int×Int:=
 let s:=if (r.2.bad==0)&&decide ((r.2.pos:Int)<(r.2.toks.length:Int)) then Ge 4 r.2 else r.2
 if (s.bad != 0) then (Oy,s.whr,s.bad) else (r.1,0,0)
def parseR (F:PS→Syn×PS)(s:A1):Syn×Int×Int:=
 if ((rL s).2.2 != 0) then (Oy,(rL s).2.1,(rL s).2.2) else doneR (F (Oc (rL s).1 s.length))
def EER:PS→Syn×PS:=exprNR 65
def TTR:PS→Syn×PS:=patNR EER 65

mutual
def Cr:Syn→List AV
 | ⟨kind,text,name,num,kids,pos⟩=>[.int .i64 kind,.str text,.str name,.int .i64 num,.sl 6 (kP kids),.int .i64 pos]
def kP:List Syn→List (List AV)
 | []=>[]
 | e::r=>Cr e::kP r
end
theorem bW:∀l:List Syn,kP l=l.map Cr
 | []=>by simp [kP]
 | e::r=>by simp [kP,bW r]
@[reducible] def cSyn (e : Syn) : List AV := [.int .i64 e.kind, .str e.text, .str e.name, .int .i64 e.num, .sl 6 (e.kids.map Cr), .int .i64 e.pos]
theorem Bn (e:Syn):Cr e=cSyn e:=by
 cases e
 simp [Cr,cSyn,bW]
theorem Cl {l:List Syn}{k:Nat}{a:Syn}(h:l[k]? = some a):(l.map Cr)[k]? = some (cSyn a):=by
 simp [h,Bn]
@[reducible] def cP (st : PS) : List AV := [.sl 3 (st.toks.map jW), .int .i64 (st.pos : Int), .int .i64 st.fin, .int .i64 st.depth, .int .i64 st.bad, .int .i64 st.whr]
theorem Syn.ind {P:Syn→Prop}(h:∀e,(∀a∈e.kids,P a)→P e):∀e,P e:=by
 intro e;exact Syn.rec (motive_1:=P) (motive_2:=fun l=>∀a∈l,P a) (fun k t n m kids p ih=>h _ ih) (by simp) (fun a l ha hl=>by simp only [Hp,forall_eq_or_imp];exact ⟨ha,hl⟩) e


inductive Pl where
 | only (k:Int)
 | pats
 | exps
@[reducible] def isPat (k : Int) : Bool := decide (5 ≤ k) && decide (k ≤ 12)
@[reducible] def isExp (k : Int) : Bool := decide (13 ≤ k) && decide (k ≤ 18)
def Pl.at:Pl→Int→Bool
 | .only k,x=>x==k
 | .pats,x=>isPat x
 | .exps,x=>isExp x
def Pl.role:Pl→Int
 | .only k=>if k≤4 then k else if k==5 then 6 else 8
 | .pats=>5
 | .exps=>7
def Pl.ok:Pl→Prop
 | .only k=>k=0∨k=1∨k=2∨k=3∨k=4∨k=5∨k=13
 | _=>True

def Bb (t:Syn)(i:Nat):Syn:=t.kids.getD i Oy
def Eh (t:Syn)(i:Nat):Pl:=
 if (t.kind==0) then if ((Bb t i).kind==1)&&(((i:Int)==0)||((Bb t (i-1)).kind==1)) then .only 1 else .only 3
 else if (t.kind==1) then .only 2
 else if (t.kind==3) then if ((i:Int)==0) then .only 4 else if ((i:Int)==1) then .pats else .exps
 else if (t.kind==10) then if ((i:Int)==1) then .only 5 else .pats
 else if (t.kind==12) then if ((i:Int)==1) then .exps else .pats
 else if (t.kind==16) then .only 13
 else if ((t.kind==5)||(t.kind==17))||(t.kind==18) then .exps
 else .pats
def En (t:Syn):Bool:=
 if (t.kind==0)||(t.kind==1) then true
 else if (t.kind==3) then decide (3≤(t.kids.length:Int))
 else if (t.kind==5) then decide ((t.kids.length:Int)≤1)
 else if ((t.kind==6)||(t.kind==7))||(t.kind==8) then decide (2≤(t.kids.length:Int))
 else if ((t.kind==9)||(t.kind==11))||(t.kind==18) then ((t.kids.length:Int)==1)
 else if ((t.kind==10)||(t.kind==12))||(t.kind==17) then ((t.kids.length:Int)==2)
 else if (t.kind==16) then if (t.num==1) then ((t.kids.length:Int)==0) else ((t.kids.length:Int)==1)
 else ((t.kids.length:Int)==0)
def Pb (k:Int):Bool×Bool:=
 if ((k==5)||(k==14))||(k==16) then (true,true)
 else if ((((k==1)||(k==2))||(k==3))||(k==4))||(k==15) then (true,false)
 else (false,false)
def oV (s:A1):Bool:=Yw s==0
def Tc (t:Syn):Bool:=
 if ((Pb t.kind).1 && !oV t.text)&&((t.kind != 4) || !(t.text == [])) then false
 else (!(Pb t.kind).2||oV t.name)||((t.kind==14)&&(t.name==E6))
def Gl (t:Syn):Int:=
 if (t.name==Gz) then if (decide (t.num < -1099511627776)||decide (1099511627776<t.num)) then 2 else if !(t.text == []) then 3 else 0
 else if (t.name==Fy) then if (decide (t.num<0)||decide (1<t.num)) then 2 else if !(t.text == []) then 3 else 0
 else if (t.name==Ee) then if decide (64<(t.text.length:Int)) then 13 else if (t.num != 0) then 3 else 0
 else 1
def Ny (t:Syn):Int:=
 if (t.kind==2) then if (decide (t.num<0)||decide (2<t.num)) then 1 else 0
 else if (t.kind==16) then if (decide (t.num<1)||decide (5<t.num)) then 1 else 0
 else if (t.kind==17) then if (decide (t.num<5)||decide (11<t.num)) then 1 else 0
 else if (t.kind==11) then if (decide (t.num<0)||decide (1099511627776<t.num)) then 2 else 0
 else if (decide (t.num<0)||decide (0<t.num)) then 3 else 0
def Dn (t:Syn):Int:=
 if (t.kind==13) then Gl t
 else if (Ny t != 0) then Ny t
 else if (!(Pb t.kind).1 && !(t.text == []))||(!(Pb t.kind).2 && !(t.name == [])) then 3 else 0
def Wh (p:Pl)(t:Syn):Int:=
 if !(p.at t.kind) then 1 else if !(En t) then 15 else if !(Tc t) then 8 else Dn t
def fL:List Int→Int
 | []=>0
 | x::r=>if (x != 0) then x else fL r
mutual
def Ba:Syn→Pl→Int
 | ⟨k,x,n,m,kids,p⟩,at'=>if (Wh at' ⟨k,x,n,m,kids,p⟩ != 0) then Wh at' ⟨k,x,n,m,kids,p⟩ else fL (Zt kids ((List.range kids.length).map (Eh ⟨k,x,n,m,kids,p⟩)))
def Zt:List Syn→List Pl→List Int
 | [],_=>[]
 | x::r,[]=>[]
 | x::r,p::q=>Ba x p::Zt r q
end

def Gc (p k:Int):Bool:=if (p==17) then (k==17)||(k==18) else if (p==18) then (k==17) else false
mutual
def Gf:Syn→Nat
 | ⟨k,_,_,_,kids,_⟩=>Iz k kids+(if (k==18)||(isPat k&&(k != 5)) then 1 else 0)
def Iz (k:Int):List Syn→Nat
 | []=>0
 | x::r=>max (Gf x+(if Gc k x.kind then 1 else 0)) (Iz k r)
end

def Ci:List A1→A1
 | []=>[]
 | [x]=>x
 | x::y::r=>x ++ [44,32]++Ci (y::r)
def J6 (n:Int):A1:=if (n==1) then Fy else if (n==2) then Ee else Gz
def Nl (n:Int):A1:=if (n==1) then fY else if (n==2) then eY else if (n==3) then eF else if (n==4) then T7 else Yq
def Hs (n:Int):A1:=
 if (n==5) then w_add else if (n==6) then dT else if (n==7) then w_lt else if (n==8) then w_le else if (n==9) then w_eqq else if (n==10) then nE else Aaa
def Lb (k:Int):A1:=
 if (k==6) then Sw else if (k==7) then Sx else if (k==8) then Sq else if (k==9) then Mz else if (k==10) then Kt else if (k==11) then Hq else Ic
def Lg (t:Syn):A1:=
 if (t.name==Gz) then Lib.itoa t.num
 else if (t.name==Fy) then if (t.num==1) then Mv else Kx
 else (Lz t.text).1
def E2 (p:Syn)(k:Syn)(s:A1):A1:=if Gc p.kind k.kind then [40]++s ++ [41] else s
def Df (t:Syn)(ws:List A1):A1:=
 if (t.kind==0) then ws.flatten
 else if (t.kind==1) then Ln ++ [32]++t.text ++ [32,123]++(if ws == [] then [] else [32]++Ci ws ++ [32]) ++ [125,10]
 else if (t.kind==2) then t.text ++ [58,32]++J6 t.num
 else if (t.kind==3) then Hr ++ [32]++t.text++(if (Bb t 0).text == [] then [] else [32]++aT ++ [32]++(Bb t 0).text) ++ [10]++Ij ++ [32]++ws.getD 1 [] ++ [10]++Hw ++ [32]++Ci (ws.drop 2) ++ [59,10]
 else if (t.kind==5) then t.text ++ [32]++t.name++(if ws == [] then [] else [32]++Xh ++ [32]++ws.getD 0 [])
 else if (t.kind==13) then Lg t
 else if (t.kind==14) then t.text ++ [46]++t.name
 else if (t.kind==15) then aJ ++ [40]++t.text ++ [41]
 else if (t.kind==16) then Nl t.num ++ [40]++t.text ++ [46]++t.name++(if ws == [] then [] else [44,32]++ws.getD 0 []) ++ [41]
 else if (t.kind==17) then E2 t (Bb t 0) (ws.getD 0 []) ++ [32]++Hs t.num ++ [32]++E2 t (Bb t 1) (ws.getD 1 [])
 else if (t.kind==18) then Ww ++ [32]++E2 t (Bb t 0) (ws.getD 0 [])
 else Lb t.kind ++ [40]++Ci ws++(if (t.kind==11) then [44,32]++Lib.itoa t.num else []) ++ [41]
mutual
def Ah:Syn→A1
 | ⟨k,x,n,m,kids,p⟩=>Df ⟨k,x,n,m,kids,p⟩ (N9 kids)
def N9:List Syn→List A1
 | []=>[]
 | x::r=>Ah x::N9 r
end
def Bh (t:Syn)(p:Pl):A1×Int:=
 if (Ba t p != 0) then ([],Ba t p)
 else if decide (64<(Gf t:Int)) then ([],12)
 else if decide (65536<((Ah t).length:Int)) then ([],13)
 else (Ah t,0)

mutual
def Iu:Syn→Int
 | ⟨_,_,_,_,kids,_⟩=>I1 kids 1
def I1:List Syn→Int→Int
 | [],n=>n
 | x::r,n=>if decide (n≤200) then I1 r (IntKind.i64.wrap (n+Iu x)) else n
end
mutual
def Sv:Syn→Int
 | ⟨_,_,_,_,kids,_⟩=>IntKind.i64.wrap (Ui kids 0+1)
def Ui:List Syn→Int→Int
 | [],d=>d
 | x::r,d=>Ui r (max d (Sv x))
end
mutual
def G0:Syn→Bool
 | ⟨k,x,n,m,kids,p⟩=>if (((decide (80<(x.length:Int))||decide (80<(n.length:Int)))||decide (200<Iu ⟨k,x,n,m,kids,p⟩))||decide (90<Sv ⟨k,x,n,m,kids,p⟩)) then false else Z2 kids
def Z2:List Syn→Bool
 | []=>true
 | x::r=>if !(G0 x) then false else Z2 r
end

theorem Z1:∀l:List Syn,N9 l=l.map Ah
 | []=>by rw [N9,Di]
 | x::r=>by rw [N9,Z1 r,E7]
theorem Dd (t:Syn):Ah t=Df t (t.kids.map Ah):=by cases t;rw [Ah,Z1]
theorem cN (t:Syn):Gf t=Iz t.kind t.kids+(if (t.kind==18)||(isPat t.kind&&(t.kind != 5)) then 1 else 0):=by cases t;rw [Gf]
theorem bZ (t:Syn):Iu t=I1 t.kids 1:=by cases t;rw [Iu]
theorem vD (t:Syn):Sv t=IntKind.i64.wrap (Ui t.kids 0+1):=by cases t;rw [Sv]
theorem gP (t:Syn):G0 t=if (((decide (80<(t.text.length:Int))||decide (80<(t.name.length:Int)))||decide (200<Iu t))||decide (90<Sv t)) then false else Z2 t.kids:=by cases t;rw [G0]

def Lc (t:Syn):Nat→List Syn→Int
 | _,[]=>0
 | i,x::r=>if (Ba x (Eh t i) != 0) then Ba x (Eh t i) else Lc t (i+1) r
theorem Vd (t:Syn)(p:Pl):Ba t p=if (Wh p t != 0) then Wh p t else Lc t 0 t.kids:=by
 have h:∀(l:List Syn) (i:Nat),fL (Zt l ((List.range' i l.length).map (Eh t)))=Lc t i l:=by
  intro l
  induction l with
  | nil=>intro i;rw [Zt,Lc];rfl
  | cons x r ih=>intro i;rw [Cj,List.range'_succ,E7,Zt,fL,Lc,ih]
 rw [←h t.kids 0,←List.range_eq_range'];cases t;rw [Ba]

theorem Eu:({ data:=#[] }:ByteArray).data.toList=([]:List UInt8):=rfl

structure Vl where
 kind:Int
 num:Int
 text:List UInt8
deriving DecidableEq

structure Ex where
 op:Int
 args:List Ex
 var:Int
 field:Int
 kind:Int
 val:Vl

structure Ev where
 source:Int
 seq:Int
 type:Int
 time:Int
 values:List Vl

structure Ac where
 kind:Int
 count:Int
 val:Vl

def v0:Vl:=⟨0,0,[]⟩
def rF:Ev:=⟨0,0,0,0,[]⟩
def Ps:Ex:=⟨0,[],0,0,0,v0⟩
def ac0:Ac:=⟨0,0,v0⟩

@[reducible] def eqV (v w : Vl) : Bool := v.kind == w.kind && (v.num == w.num && v.text == w.text)
@[reducible] def isV0 (v : Vl) : Bool := v.kind == 0 && (v.num == 0 && v.text == [])
def cV (v:Vl):List AV:=[.int .i64 v.kind,.int .i64 v.num,.str v.text]

mutual
def M2:Ex→List AV
 | ⟨op,args,var,field,kind,val⟩=>[.int .i64 op,.sl 8 (lK args),.int .i64 var,.int .i64 field,.int .i64 kind,.int .i64 val.kind,.int .i64 val.num,.str val.text]
def lK:List Ex→List (List AV)
 | []=>[]
 | e::r=>M2 e::lK r
end

theorem bY:∀l:List Ex,lK l=l.map M2
 | []=>by simp [lK]
 | e::r=>by simp [lK,bY r]

def cE (e:Ex):List AV:=[.int .i64 e.op,.sl 8 (e.args.map M2),.int .i64 e.var,.int .i64 e.field,.int .i64 e.kind,.int .i64 e.val.kind,.int .i64 e.val.num,.str e.val.text]
def cEv (e:Ev):List AV:=[.int .i64 e.source,.int .i64 e.seq,.int .i64 e.type,.int .i64 e.time,.sl 3 (e.values.map cV)]
def cAc (a:Ac):List AV:=[.int .i64 a.kind,.int .i64 a.count,.int .i64 a.val.kind,.int .i64 a.val.num,.str a.val.text]
def cEvs (l:List Ev):List AV:=[.sl 5 (l.map cEv)]
def cEnv (l:List (List Ev)):List AV:=[.sl 1 (l.map cEvs)]

theorem O6 (e:Ex):M2 e=cE e:=by
 cases e
 simp [M2,cE,bY]

theorem Ex.ind {P:Ex→Prop}(h:∀e,(∀a∈e.args,P a)→P e):∀e,P e:=by
 intro e;exact Ex.rec (motive_1:=P) (motive_2:=fun l=>∀a∈l,P a) (fun op args v f k val ih=>h _ ih) (by simp) (fun a l ha hl=>by simp only [Hp,forall_eq_or_imp];exact ⟨ha,hl⟩) e

theorem Lh {l:List Ex}{k:Nat}{a:Ex}(h:l[k]? = some a):(l.map M2)[k]? = some (cE a):=by
 simp [h,O6]
theorem Ct {α:Type}{f:α→List AV}{l:List α}{k:Nat}{a:α}(h:l[k]? = some a):(l.map f)[k]? = some (f a):=by simp [h]

theorem By {α:Type}{l:List α}{k:Nat}(h:decide ((k:Int)<(l.length:Int))=true):∃a,l[k]? = some a:=by
 have:k<l.length:=by simpa using h
 exact ⟨_,List.getElem?_eq_getElem this⟩
theorem Bj {α:Type}{l:List α}{k:Nat}{a:α}(h:l[k]? = some a):k<l.length:=(List.getElem?_eq_some_iff.1 h).1
theorem Ax {α:Type}{l:List α}{k:Nat}{a:α}(h:l[k]? = some a):l.drop k=a::l.drop (k+1):=by
 obtain ⟨h1,h2⟩:=List.getElem?_eq_some_iff.1 h;rw [←h2];exact X8 h1
theorem C2 {α:Type}{l:List α}{k:Nat}{a:α}(h:l[k]? = some a):l.take (k+1)=l.take k ++ [a]:=by
 rw [List.take_add_one,h];rfl
theorem Cn {α:Type}{l:List α}{k:Nat}(h:decide ((k:Int)<(l.length:Int))=false):l.take k=l:=by
 have:¬k<l.length:=by simpa using h
 exact List.take_of_length_le (by omega)
theorem D8 {α:Type}{l:List α}{k:Nat}(h:decide ((k:Int)<(l.length:Int))=false):l.drop k = []:=by
 have:¬k<l.length:=by simpa using h
 exact O7 (by omega)


def Ru (b:Bool):Vl:=if b then ⟨1,1,[]⟩ else ⟨1,0,[]⟩

def Qh (v:Vl):Int:=
 if v.kind==0&&(decide (v.num < -1099511627776)||decide (1099511627776<v.num)) then 2
 else if v.kind==1&&v.num != 0&&v.num != 1 then 2
 else if decide (64<(v.text.length:Int)) then 13 else 0

def C3 (v:Vl):Int:=
 if v.kind==0||v.kind==1 then (if !(v.text == []) then 3 else Qh v)
 else if v.kind==2 then (if v.num != 0 then 3 else Qh v)
 else 1

def Jq (v:Vl):Int:=
 if decide (v.kind<0)||decide (2<v.kind) then 1
 else if v.kind==2 then (if v.num != 0 then 3 else if decide (64<(v.text.length:Int)) then 13 else 0)
 else if !(v.text == []) then 3
 else if v.kind==1&&(decide (v.num<0)||decide (1<v.num))||decide (v.num < -1099511627776)||decide (1099511627776<v.num) then 2 else 0
theorem Iy (v:Vl):Jq v=C3 v:=by
 unfold Jq C3 Qh;obtain ⟨k,n,t⟩:=v;by_cases ht:t = []
 ·
  subst ht;simp only [N2,G2,Hi,beq_iff_eq,bne_iff_ne,ne_eq,not_true,if_false,Cw,BEq.rfl,Ce,B0,Ce,B0]
  repeat' split
  all_goals first | rfl | omega
 simp only [N2,G2,Hi,beq_iff_eq,bne_iff_ne,ne_eq,ht,not_false_eq_true,if_true,Et,Ov]
 repeat' split
 all_goals first | rfl | omega

def nB (k:Int):Bool:=decide (0≤k)&&decide (k≤5)
def pI (k:Int)(v:Vl):Bool:=v.kind==0||(k != 1&&k != 2&&k != 3)
def Mp (k:Int)(v:Vl):Bool:=v.kind==0||k==0||k==4||k==5

def combS (k:Int)(a b:Vl):Vl:=
 if k==1 then ⟨0,IntKind.i64.wrap (a.num+b.num),[]⟩ else if k==2 then ⟨0,min a.num b.num,[]⟩ else if k==3 then ⟨0,max a.num b.num,[]⟩ else if k==4 then a else if k==5 then b else v0
def singleS (k:Int)(v:Vl):Vl:=if k==0 then v0 else v
def mergedS (a b:Ac):Ac:=if a.count==0 then b else if b.count==0 then a else ⟨a.kind,IntKind.i64.wrap (a.count+b.count),combS a.kind a.val b.val⟩

def R0 (a:Ac):Int:=
 if !nB a.kind then 1
 else if decide (a.count<0)||decide (4096<a.count) then 2
 else if (if a.count==0||a.kind==0 then isV0 a.val
  else if a.kind==1 then a.val.kind==0&&a.val.text == []&&decide (0-a.count*1099511627776≤a.val.num)&&decide (a.val.num≤a.count*1099511627776)
  else C3 a.val==0&&pI a.kind a.val) then 0 else 3

def racheckS (a:Ac):Int:=
 if !nB a.kind then 1
 else if decide (a.count<0)||decide (4096<a.count) then 2
 else if a.count==0||a.kind==0 then (if !isV0 a.val then 3 else 0)
 else if a.kind==1 then (if a.val.kind != 0 || !(a.val.text == [])||decide (a.val.num<0-a.count*1099511627776)||decide (a.count*1099511627776<a.val.num) then 3 else 0)
 else if C3 a.val != 0 || !Mp a.kind a.val then 3 else 0
def fB (k:Int)(v:Vl):Int:=if C3 v != 0 then C3 v else if !pI k v then 9 else 0

def resultS (a:Ac)(o:Vl):Vl×Int:=
 if R0 a != 0 then (v0,R0 a)
 else if fB a.kind o != 0 then (v0,fB a.kind o)
 else if a.kind==0 then (⟨0,a.count,[]⟩,0)
 else if a.count==0&&a.kind != 1 then (o,0)
 else (a.val,0)

def stepS (k:Int)(a:Ac)(v:Vl):Ac:=mergedS a ⟨k,1,singleS k v⟩
def foldS (k:Int)(l:List Vl):Ac:=l.foldl (stepS k) ⟨k,0,v0⟩

def B3 {α:Type}(f:α→Int):List α→Int
 | []=>0
 | a::r=>if f a != 0 then f a else B3 f r

def ofS (k:Int)(l:List Vl)(o:Vl):Vl×Int:=
 if !nB k then (v0,1)
 else if decide (4096<(l.length:Int)) then (v0,5)
 else if B3 (fB k) l != 0 then (v0,B3 (fB k) l)
 else resultS (foldS k l) o


def Hc (op:Int):Bool×Bool:=if op=1∨op=4 then (true,true) else if op=2∨op=3 then (true,false) else (false,false)
def Iv (op:Int):Int:=if op<0∨12<op then 0 else if op<5 then 0 else if op=12 then 1 else 2
def Oz (k:Int)(v:Vl):Bool:=v.kind==0||k==4||k==5

def Q7 (e:Ex):Int:=
 if C3 e.val != 0 then C3 e.val
 else if e.op==4&&(!Oz e.kind e.val||(e.kind==1 && !isV0 e.val)) then 9 else 0

def Hd (e:Ex):Int:=
 if !(Hc e.op).1&&e.var != 0||(!(Hc e.op).2&&e.field != 0)||(!(e.op==4)&&e.kind != 0)||(!(e.op==4||e.op==0) && !isV0 e.val) then 3 else 0

def J5 (e:Ex):Int:=
 if !decide (0≤e.op∧e.op≤12) then 1
 else if (e.args.length:Int) != Iv e.op then 15
 else if ((Hc e.op).1&&(decide (e.var<0)||decide (16≤e.var)))||((Hc e.op).2&&(decide (e.field<0)||decide (8≤e.field))) then 2
 else if e.op==4&&(decide (e.kind<1)||decide (5<e.kind)) then 1
 else if e.op==4||e.op==0 then (if Q7 e != 0 then Q7 e else Hd e)
 else Hd e

mutual
def Iw (f:Ex→Int):Ex→Int
 | ⟨op,args,var,field,kind,val⟩=>if f ⟨op,args,var,field,kind,val⟩ != 0 then f ⟨op,args,var,field,kind,val⟩ else aA f args
def aA (f:Ex→Int):List Ex→Int
 | []=>0
 | e::r=>if Iw f e != 0 then Iw f e else aA f r
end
theorem T9 (f:Ex→Int):∀l,aA f l=B3 (Iw f) l
 | []=>by simp [aA,B3]
 | e::r=>by simp [aA,B3,T9 f r]
theorem Vo (f:Ex→Int)(e:Ex):Iw f e=if f e != 0 then f e else B3 (Iw f) e.args:=by
 cases e;rw [Iw,T9]
abbrev Oa:Ex→Int:=Iw J5
theorem cG (e:Ex):Oa e=if J5 e != 0 then J5 e else B3 Oa e.args:=Vo J5 e

mutual
def Cg:Ex→Nat
 | ⟨_,args,_,_,_,_⟩=>1+aD args
def aD:List Ex→Nat
 | []=>0
 | e::r=>Cg e+aD r
end
mutual
def Fw:Ex→Nat
 | ⟨_,args,_,_,_,_⟩=>U3 args+1
def U3:List Ex→Nat
 | []=>0
 | e::r=>max (Fw e) (U3 r)
end
theorem Zo:∀l,aD l=(l.map Cg).sum
 | []=>by simp [aD]
 | e::r=>by simp [aD,Zo r]
theorem G5 (e:Ex):Cg e=1+(e.args.map Cg).sum:=by cases e;rw [Cg,Zo]
theorem Tv:∀l,U3 l=(l.map Fw).foldr max 0
 | []=>by simp [U3]
 | e::r=>by simp [U3,Tv r]
theorem U9 (e:Ex):Fw e=(e.args.map Fw).foldr max 0+1:=by cases e;rw [Fw,Tv]

theorem mG {l:List Ex}{a:Ex}(f:Ex→Nat)(h:a∈l):f a≤(l.map f).sum:=by
  induction l with
  | nil=>cases h
  | cons x r ih=>
    simp only [E7,J3];rcases Hp.1 h with rfl | h
    · omega
    have:=ih h;omega
theorem Jx {e a:Ex}(h:a∈e.args):Cg a<Cg e:=by
 have:=mG Cg h;have:=G5 e;omega
theorem Kr (e:Ex):Fw e≤Cg e:=by
  refine Ex.ind (P:=fun e=>Fw e≤Cg e) (fun e ih=>?_) e;rw [U9,G5]
  have:∀l:List Ex,(∀a∈l,Fw a≤Cg a)→(l.map Fw).foldr max 0≤(l.map Cg).sum:=by
    intro l
    induction l with
    | nil=>intro _;exact C6 _
    | cons x r ihr=>
      intro h;simp only [E7,List.foldr_cons,J3];have h1:=h x (by simp);have h2:=ihr fun a ha=>h a (by simp [ha])
      omega
  have:=this e.args ih;omega

mutual
def Gx (L:Nat):Ex→Nat
 | ⟨_,args,_,_,_,_⟩=>F6 L args 1
def F6 (L:Nat):List Ex→Nat→Nat
 | [],n=>n
 | e::r,n=>if n≤L then F6 L r (n+Gx L e) else n
end
theorem dL (L:Nat)(e:Ex):Gx L e=F6 L e.args 1:=by cases e;rw [Gx]
theorem Zc (L:Nat)(e:Ex):Gx L e=Cg e∨(L<Gx L e∧Gx L e≤Cg e):=by
  refine Ex.ind (P:=fun e=>Gx L e=Cg e∨(L<Gx L e∧Gx L e≤Cg e)) (fun e ih=>?_) e;rw [dL,G5]
  have:∀(l:List Ex) (n:Nat),(∀a∈l,Gx L a=Cg a∨(L<Gx L a∧Gx L a≤Cg a))→F6 L l n=n+(l.map Cg).sum∨(L<F6 L l n∧F6 L l n≤n+(l.map Cg).sum):=by
    intro l
    induction l with
    | nil=>intro n _;simp [F6]
    | cons x r ihr=>
      intro n h;simp only [F6,E7,J3];have h1:=h x (by simp);have h2:=ihr (n+Gx L x) fun a ha=>h a (by simp [ha])
      split
      · have hmono:n+Gx L x≤F6 L r (n+Gx L x):=by
          have:∀(l:List Ex) (m:Nat),m≤F6 L l m:=by
            intro l
            induction l with
            | nil=>intro m;simp [F6]
            | cons y s ihs => intro m; simp only [F6]; split
                              · exact Lq (Nat.le_add_right _ _) (ihs _)
                              exact C6 _
          exact this r _
        omega
      omega
  have:=this e.args 1 ih;omega
theorem kQ (L:Nat)(e:Ex):L<Gx L e↔L<Cg e:=by
 rcases Zc L e with h | h
 · rw [h]
 omega
def De (e:Ex):Int:=if decide (64<(Cg e:Int)) then 5 else if decide (12<(Fw e:Int)) then 12 else Oa e

def e8okS (op k k0:Int):Bool:=if op==5||op==6||op==7||op==8 then k==0 else if op==10||op==11||op==12 then k==1 else if op==9 then k==k0 else true
def Sc (op:Int)(kinds:List Int):Int:=B3 (fun k=>if e8okS op k (kinds.headD 0) then 0 else 9) kinds
def demandS (op:Int):Int:=if op==5||op==6||op==7||op==8 then 0 else if op==10||op==11||op==12 then 1 else -1

structure Evr where
 vars:List (List Ev)
 own:Int
 event:Ev

def OPS:List (Int×AV):=[(5,.fn (.func 0) [] [.ptr [.fn (.func 0) [] []]]),(6,.fn (.func 0) [] [.ptr [.fn (.func 0) [] []]]),(7,.fn (.func 0) [] []),(8,.fn (.func 0) [] []),(10,.fn (.func 0) [] []),(11,.fn (.func 0) [] []),(12,.fn (.func 0) [] [])]
def cX (x:Evr):List AV:=[.sl 1 (x.vars.map cEvs),.int .i64 x.own,.int .i64 x.event.source,.int .i64 x.event.seq,.int .i64 x.event.type,.int .i64 x.event.time,.sl 3 (x.event.values.map cV),.mapv OPS]
def Evr.ok (x:Evr):Prop:=∀l∈x.vars,l.length≤1048576

def Sf (vars:List (List Ev))(v:Int):List Ev:=if decide (v<0)||decide ((vars.length:Int)≤v) then [] else (vars[v.toNat]?).getD []

def Rv (e:Ev)(k:Int):Vl×Int:=if decide ((e.values.length:Int)≤k) then (v0,6) else ((e.values[k.toNat]?).getD v0,0)

def totalS (x:Evr)(e:Ex):Vl×Int:=
 let l:=Sf x.vars e.var
 if B3 (fun v=>(Rv v e.field).2) l != 0 then (v0,B3 (fun v=>(Rv v e.field).2) l) else ofS e.kind (l.map fun v=>(Rv v e.field).1) e.val

def readS (last:Ev)(e:Ex):Vl×Int:=
 if e.op==2 then (⟨0,last.time,[]⟩,0)
 else if (Rv last e.field).2==0 then (if C3 (Rv last e.field).1 != 0 then (v0,C3 (Rv last e.field).1) else ((Rv last e.field).1,0))
 else (v0,(Rv last e.field).2)

def leafS (x:Evr)(e:Ex):Vl×Int:=
 if e.op==0 then (e.val,0)
 else if e.op==3 then (⟨0,(Sf x.vars e.var).length,[]⟩,0)
 else if e.op==4 then totalS x e
 else if e.var != x.own then (if ((Sf x.vars e.var).length:Int)==0 then (v0,10) else readS ((Sf x.vars e.var).getLast?.getD rF) e)
 else readS x.event e

def lastS (vars:List (List Ev))(v own:Int)(ev:Ev):Ev×Bool:=
 if v==own then (ev,true) else if ((Sf vars v).length:Int)==0 then (rF,false) else ((Sf vars v).getLast?.getD rF,true)
def vR (op:Int)(a b:Int):Vl:=
 if op==5 then ⟨0,IntKind.i64.wrap (a+b),[]⟩ else if op==6 then ⟨0,IntKind.i64.wrap (a-b),[]⟩
 else if op==7 then Ru (decide (a<b)) else if op==8 then Ru (decide (a≤b))
 else if op==10 then Ru (a==1&&b==1) else if op==11 then Ru (a==1||b==1) else Ru (a != 1)

def twoS (op:Int)(v w:Vl):Vl:=if op==9 then Ru (eqV v w) else vR op v.num w.num

def nodeV (op:Int)(l:List Vl):Vl×Int:=
 if Sc op (l.map (·.kind)) != 0 then (v0,Sc op (l.map (·.kind)))
 else if op==9 then (Ru (eqV (l.headD v0) ((l[1]?).getD v0)),0)
 else (vR op (l.headD v0).num (l.getLastD v0).num,0)

mutual
def aE (x:Evr):Ex→Vl×Int
  | ⟨op,args,var,field,kind,val⟩=>
    if args.isEmpty then leafS x ⟨op,args,var,field,kind,val⟩
    else if (cT x args).2 != 0 then (v0,(cT x args).2) else nodeV op (cT x args).1
def cT (x:Evr):List Ex→List Vl×Int
 | []=>([],0)
 | e::r=>if (aE x e).2 != 0 then ([],(aE x e).2) else if (cT x r).2 != 0 then ([],(cT x r).2) else ((aE x e).1::(cT x r).1,0)
end

def EvalS (x:Evr)(e:Ex):Vl×Int:=if De e != 0 then (v0,De e) else aE x e
def TruthS (x:Evr)(e:Ex):Bool:=(EvalS x e).2==0&&eqV (EvalS x e).1 (Ru true)


def Yo (k:Int)(v:Vl):Int:=if C3 v != 0 then C3 v else if !Mp k v then 9 else 0
def rresultS (a:Ac)(o:Vl):Vl×Int:=
 if R0 a != 0 then (v0,R0 a)
 else if Yo a.kind o != 0 then (v0,Yo a.kind o)
 else if a.kind==0 then (⟨0,a.count,[]⟩,0)
 else if a.count==0&&a.kind != 1 then (o,0)
 else (a.val,0)
def addS (a:Ac)(v:Vl):Ac×Int:=
 if R0 a != 0 then (ac0,R0 a)
 else if Yo a.kind v != 0 then (ac0,Yo a.kind v)
 else if a.count==4096 then (ac0,5)
 else if a.kind==0 then (⟨a.kind,IntKind.i64.wrap (a.count+1),v0⟩,0)
 else if decide (0<a.count) then (⟨a.kind,IntKind.i64.wrap (a.count+1),combS a.kind a.val v⟩,0)
 else (⟨a.kind,IntKind.i64.wrap (a.count+1),v⟩,0)


theorem Qi {l:List Ex}{k:Nat}{a:Ex}(d:Nat)(h:l[k]? = some a):max d (((l.drop k).map Fw).foldr max 0)=max (max d (Fw a)) (((l.drop (k+1)).map Fw).foldr max 0):=by
 rw [Ax h];simp only [E7,List.foldr_cons];omega
theorem kL {l:List Ex}{k:Nat}{a:Ex}(n:Nat)(h:l[k]? = some a):n+((l.drop k).map Cg).sum=(n+Cg a)+((l.drop (k+1)).map Cg).sum:=by
 rw [Ax h];simp only [E7,J3];omega

theorem wS (e:Ex):1≤Cg e:=by rw [G5];omega
theorem Up (e:Ex)(h:Cg e≤1048576):e.args.length≤1048576:=by
 rw [G5] at h
 have:∀l:List Ex,l.length≤(l.map Cg).sum:=by
  intro l
  induction l with
  | nil=>exact C6 _
  | cons x r ih=>simp only [Cj,E7,J3];have:=wS x;omega
 have:=this e.args;omega
theorem fP {L n:Nat}(h:L<n):∀l:List Ex,F6 L l n=n
 | []=>rfl
 | _::_=>by rw [F6,if_neg (by omega)]

def Kf (e:Ex):Int:=
 if decide ((if 0≤e.op∧e.op≤12 then Iv e.op else -1)<0) then 1
 else if (e.args.length:Int) != (if 0≤e.op∧e.op≤12 then Iv e.op else -1) then 15
 else if ((Hc e.op).1&&(decide (e.var<0)||decide (16≤e.var)))||((Hc e.op).2&&(decide (e.field<0)||decide (8≤e.field))) then 2
 else if e.op==4&&(decide (e.kind<1)||decide (5<e.kind)) then 1
 else if e.op==4||e.op==0 then (if C3 e.val != 0 then C3 e.val else if e.op==4&&(!Mp e.kind e.val||(e.kind==1 && !isV0 e.val)) then 9 else Hd e)
 else if e.op==4&&(!Mp e.kind e.val||(e.kind==1 && !isV0 e.val)) then 9
 else Hd e

theorem Hu (e:Ex):Kf e=J5 e:=by
  unfold Kf J5;by_cases h:0≤e.op∧e.op≤12
  · have ha : ¬ Iv e.op < 0 := by unfold Iv; repeat' split
                                  all_goals omega
    simp only [h,and_self,if_true,decide_true,Ce,B0,if_false,ha,decide_false];split
    · rfl
    split
    · rfl
    by_cases h4:e.op=4
    · simp only [h4,BEq.rfl,K5,Q5,if_true]
      by_cases hk:(decide (e.kind<1)||decide (5<e.kind))=true
      · rw [if_pos hk,if_pos hk]
      · rw [if_neg hk,if_neg hk]
        have hs:Mp e.kind e.val=Oz e.kind e.val:=by
          simp at hk;unfold Mp Oz;have:(e.kind==0)=false:=by simp;omega
          rw [this];simp
        unfold Q7;rw [hs,h4];by_cases hv:C3 e.val=0
        · rw [hv]
          simp only [bne_self_eq_false,B0,if_false,BEq.rfl,K5];by_cases hb:(!Oz e.kind e.val||(e.kind==1 && !isV0 e.val))=true
          · rw [if_pos hb,if_pos hb];rfl
          rw [if_neg hb,if_neg hb];rfl
        simp [hv]
    · have h4':(e.op==4)=false:=by simp [h4]
      simp only [h4',Sm,B0,if_false,Md];unfold Q7;simp only [h4',Sm,B0,if_false];by_cases hv:C3 e.val=0
      · simp [hv]
      simp [hv]
  simp [h]


mutual
def rebS (f:Ex→Ex):Ex→Ex
 | ⟨op,args,var,field,kind,val⟩=>f ⟨op,rebL f args,var,field,kind,val⟩
def rebL (f:Ex→Ex):List Ex→List Ex
 | []=>[]
 | e::r=>rebS f e::rebL f r
end
def outS (f:Ex→Ex)(e:Ex):Ex:=⟨e.op,e.args.map (rebS f),e.var,e.field,e.kind,e.val⟩
def uC (e:Ex):Ex:=e.args.headD Ps
def arg1 (e:Ex):Ex:=(e.args[1]?).getD Ps
def vE (v:Vl):Ex:=⟨0,[],0,0,0,v⟩
def isC (a:Ex)(b:Bool):Bool:=a.op==0&&eqV a.val (Ru b)

def rN (x:Evr)(e:Ex):Vl×Bool:=
 if e.args.any (fun a=>a.op != 0) then (v0,false) else if (e.args.length:Int)==0 then (v0,false) else ((aE x e).1,(aE x e).2==0&&C3 (aE x e).1==0)

def fnodeS (x:Evr)(e:Ex):Ex:=
 if (rN x e).2 then vE (rN x e).1
 else if e.op==12&&(uC e).op==12 then uC (uC e)
 else if e.op != 10&&e.op != 11 then e
 else if isC (uC e) (e.op==10) then arg1 e
 else if isC (arg1 e) (e.op==10) then uC e
 else if isC (uC e) (!(e.op==10))||isC (arg1 e) (!(e.op==10)) then vE (Ru (!(e.op==10)))
 else e

def xz:Evr:=⟨[],-1,rF⟩
def FoldS (e:Ex):Ex×Int:=if De e != 0 then (Ps,De e) else (rebS (fnodeS xz) e,0)

def L8 (a b:Ex):Bool:=a.op != b.op||a.var != b.var||a.field != b.field||a.kind != b.kind || !eqV a.val b.val||(a.args.length:Int) != (b.args.length:Int)

mutual
def Gs:Ex→Ex→Bool
 | ⟨op,args,var,field,kind,val⟩,b=>if L8 ⟨op,args,var,field,kind,val⟩ b then false else Pf args b.args
def Pf:List Ex→List Ex→Bool
 | [],_=>true
 | a::r,l=>if !Gs a (l.headD Ps) then false else Pf r l.tail
end
theorem L2 (a b:Ex):Gs a b=if L8 a b then false else Pf a.args b.args:=by cases a;rw [Gs]

theorem tG (a b:Ex):Gs a b=true↔a=b:=by
  induction a using Ex.ind generalizing b with
  | h a ih=>
    have hL:∀(l m:List Ex),(∀x∈l,∀y,Gs x y=true↔x=y)→l.length=m.length→(Pf l m=true↔l=m):=by
      intro l
      induction l with
      | nil=>intro m _ hl;cases m with | nil=>simp [Pf] | cons _ _=>simp at hl
      | cons x r ihl=>
        intro m hx hl;cases m with
        | nil=>simp at hl
        | cons y s=>
          have h1:=hx x (by simp) y;have h2:=ihl s (fun z hz=>hx z (by simp [hz])) (by simpa using hl);rw [List.cons.injEq];show (if (!Gs x y)=true then false else Pf r s)=true↔x=y∧r=s;by_cases hs:Gs x y=true
          · rw [if_neg (by simp [hs]),h2];simp [h1.1 hs]
          · rw [if_pos (by simp [hs])]
            have:¬x=y:=fun e=>hs (h1.2 e)
            simp [this]
    rw [L2];by_cases hh:L8 a b=true
    · rw [if_pos hh]
      constructor
      · intro h;cases h
      · intro e;subst e
        simp [L8] at hh
    · rw [if_neg hh]
      have hh':=hh;simp [L8] at hh;obtain ⟨⟨⟨⟨⟨h1,h2⟩,h3⟩,h4⟩,h5⟩,h6⟩:=hh;rw [hL _ _ (fun x hx y=>ih x hx y) (by omega)]
      cases a with | mk _ _ _ _ _ av=>cases b with | mk _ _ _ _ _ bv=>
        cases av;cases bv
        simp_all
theorem Oj (a:Ex):Gs a a=true:=(tG a a).2 rfl


def atS (to:List Int)(v:Int):Int:=(to[v.toNat]?).getD 0
def eK (to:List Int)(e:Ex):Int:=
 if !(Hc e.op).1 then 0 else if decide ((to.length:Int)≤e.var) then 6 else if decide (atS to e.var<0)||decide (16≤atS to e.var) then 2 else 0
def vU (to:List Int)(e:Ex):Ex:=if (Hc e.op).1 then ⟨e.op,e.args,atS to e.var,e.field,e.kind,e.val⟩ else e
def renS (to:List Int)(e:Ex):Ex×Int:=if Iw (eK to) e != 0 then (Ps,Iw (eK to) e) else (rebS (vU to) e,0)
def RenameS (e:Ex)(to:List Int):Ex×Int:=if De e != 0 then (Ps,De e) else renS to e


structure Fi where
 name:List UInt8
 kind:Int
structure e8Sc where
 name:List UInt8
 fields:List Fi
structure Va where
 name:List UInt8
 type:Int
def lY (f:Fi):List AV:=[.str f.name,.int .i64 f.kind]
def F1 (s:e8Sc):List AV:=[.str s.name,.sl 2 (s.fields.map lY)]
def Ls (v:Va):List AV:=[.str v.name,.int .i64 v.type]
def sc0:e8Sc:=⟨[],[]⟩
def fi0:Fi:=⟨[],0⟩
def va0:Va:=⟨[],0⟩

def Vp (n:Int):Bool:=n==95||(decide (97≤n)&&decide (n≤122))||(decide (65≤n)&&decide (n≤90))
def Ve (n:Int):Bool:=decide (48≤n)&&decide (n≤57)
def eV (b:UInt8):Bool:=Vp b.toNat||Ve b.toNat
def Hf (s:List UInt8):Bool:=!(s.length==0)&&decide (s.length≤24) && !Ve ((s.headD 0).toNat)&&s.all eV
def xN:List UInt8:=[116,105,109,101]
def Rx (s:List UInt8):Bool:=Hf s && !(s==xN)

def El (seen:List (List UInt8))(f:Fi):Int:=
 if !Rx f.name then 8 else if seen.contains f.name then 7 else if decide (f.kind<0)||decide (3≤f.kind) then 1 else 0
def Jy:List (List UInt8)→List Fi→Int
 | _,[]=>0
 | seen,f::r=>if El seen f != 0 then El seen f else Jy (seen ++ [f.name]) r
def Hm (s:e8Sc):Int:=if !Hf s.name then 8 else if decide (8<(s.fields.length:Int)) then 5 else Jy [] s.fields
def Hg (seen:List (List UInt8))(s:e8Sc):Int:=if Hm s != 0 then Hm s else if seen.contains s.name then 7 else 0
def Km:List (List UInt8)→List e8Sc→Int
 | _,[]=>0
 | seen,s::r=>if Hg seen s != 0 then Hg seen s else Km (seen ++ [s.name]) r
def Fv (l:List e8Sc):Int:=if decide (16<(l.length:Int)) then 5 else Km [] l

def B4 (ns:List (List UInt8))(n:List UInt8):Int:=if ns.contains n then ((ns.idxOf n:Nat):Int) else -1
theorem P0 {ns:List (List UInt8)}{k:Nat}{n:List UInt8}(h:ns[k]? = some n):decide (B4 ns n<(k:Int))=(ns.take k).contains n:=by
 have hm:n∈ns:=B6 h;have hc:ns.contains n=true:=by simpa using hm
 unfold B4;rw [if_pos hc]
 have key:ns.idxOf n<k↔n∈ns.take k:=by
  constructor
  ·
   intro hlt;have h1:ns.idxOf n<ns.length:=List.idxOf_lt_length_of_mem hm;have h2:ns[ns.idxOf n]=n:=List.getElem_idxOf h1;rw [List.mem_take_iff_getElem];exact ⟨ns.idxOf n,by omega,h2⟩
  intro hmem;obtain ⟨i,hi,he⟩:=List.mem_take_iff_getElem.1 hmem
  have:ns.idxOf n≤i:=by
   refine Nat.le_of_not_lt fun hlt=>?_
   have h4:=List.not_of_lt_findIdx (p:=fun x=>x==n) (xs:=ns) (i:=i) hlt;simp only [he] at h4;simp at h4
  omega
 by_cases hk:ns.idxOf n<k
 ·
  have h2:=key.1 hk;have e1:decide (((ns.idxOf n:Nat):Int)<(k:Int))=true:=by simp;omega
  rw [e1];symm;simpa using h2
 have h2:¬n∈ns.take k:=fun h=>hk (key.2 h)
 have e1:decide (((ns.idxOf n:Nat):Int)<(k:Int))=false:=by simp;omega
 rw [e1];symm;simpa using h2
def varE (n:Int)(v:Va):Int:=if decide (v.type<0)||decide (n≤v.type) then 6 else 0
def varsE (types:List e8Sc)(vars:List Va):Int:=if decide (16<(vars.length:Int)) then 5 else B3 (varE types.length) vars

def pK (types:List e8Sc)(vars:List Va)(v:Int):List Fi:=((types[((vars[v.toNat]?).getD va0).type.toNat]?).getD sc0).fields
def mE (l:List Fi)(k:Int):Int:=((l[k.toNat]?).getD fi0).kind
def leafK (types:List e8Sc)(vars:List Va)(e:Ex):Int×Int:=
 if e.op==0 then (e.val.kind,0)
 else if decide ((vars.length:Int)≤e.var) then (0,6)
 else if e.op==2||e.op==3 then (0,0)
 else if decide (((pK types vars e.var).length:Int)≤e.field) then (0,6)
 else if e.op==4&&(mE (pK types vars e.var) e.field != e.val.kind || !Oz e.kind ⟨mE (pK types vars e.var) e.field,0,[]⟩) then (0,9)
 else (mE (pK types vars e.var) e.field,0)
def resK (op:Int):Int:=if op==5||op==6 then 0 else 1

mutual
def rW (types:List e8Sc)(vars:List Va):Ex→Int×Int
  | ⟨op,args,var,field,kind,val⟩=>
    if args.isEmpty then leafK types vars ⟨op,args,var,field,kind,val⟩
    else if (Y1 types vars args).2 != 0 then (0,(Y1 types vars args).2)
    else if Sc op (Y1 types vars args).1 != 0 then (0,Sc op (Y1 types vars args).1) else (resK op,0)
def Y1 (types:List e8Sc)(vars:List Va):List Ex→List Int×Int
 | []=>([],0)
 | e::r=>if (rW types vars e).2 != 0 then ([],(rW types vars e).2) else if (Y1 types vars r).2 != 0 then ([],(Y1 types vars r).2) else ((rW types vars e).1::(Y1 types vars r).1,0)
end
def KindS (types:List e8Sc)(vars:List Va)(e:Ex):Int×Int:=
 if Fv types != 0 then (0,Fv types) else if varsE types vars != 0 then (0,varsE types vars) else if De e != 0 then (0,De e) else rW types vars e

def shortS (types:List e8Sc)(vars:List Va):Bool:=!((types.take 30).any fun s=>decide (12<(s.fields.length:Int)))&&(decide ((types.length:Int)≤20)&&decide ((vars.length:Int)≤20))

end Go.Proofs.YtckhoadldibflaaGreatDoor
