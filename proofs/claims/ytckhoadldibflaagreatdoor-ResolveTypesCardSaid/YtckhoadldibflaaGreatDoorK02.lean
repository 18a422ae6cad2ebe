/-
  Several texts in one: M12, M13. No condition.
-/
import Derived.Test.YtckhoadldibflaaGreatDoorK01
import Derived.Lib.ItoaLen
set_option linter.unusedVariables false
set_option linter.unusedSimpArgs false
namespace Go.Proofs.YtckhoadldibflaaGreatDoor
open Go Go.Aw

abbrev I3:Aq:=[58]
abbrev E3:Aq:=[105,110,116]
abbrev D3:Aq:=[98,111,111,108]
abbrev Da:Aq:=[115,116,114,105,110,103]
abbrev I5:Aq:=[116,121,112,101]
abbrev Z9:Aq:=[123]
abbrev Mg:Aq:=[125]
abbrev Fk:Aq:=[113,117,101,114,121]
abbrev T7:Aq:=[98,121]
abbrev Gd:Aq:=[109,97,116,99,104]
abbrev Fw:Aq:=[114,101,116,117,114,110]
abbrev jO:Aq:=[59]
abbrev Co:Aq:=[44]
abbrev Rp:Aq:=[105,102]
abbrev Eh:Aq:=[40]
abbrev H0:Aq:=[41]
abbrev Nm:Aq:=[115,101,113]
abbrev Nq:Aq:=[97,108,116]
abbrev Nn:Aq:=[97,108,108]
abbrev Ke:Aq:=[112,108,117,115]
abbrev Ib:Aq:=[108,97,99,107,115]
abbrev Fr:Aq:=[119,105,116,104,105,110]
abbrev Ge:Aq:=[119,104,101,114,101]
abbrev lC:Aq:=[111,114]
abbrev cB:Aq:=[97,110,100]
abbrev pC:Aq:=[43]
abbrev Wq:Aq:=[45]
abbrev Rb:Aq:=[110,111,116]
abbrev zJ:Aq:=[60]
abbrev yJ:Aq:=[60,61]
abbrev w_gt:Aq:=[62]
abbrev w_ge:Aq:=[62,61]
abbrev lK:Aq:=[61,61]
abbrev vU:Aq:=[33,61]
abbrev X1:Aq:=[109,105,110]
abbrev Xw:Aq:=[109,97,120]
abbrev Oz:Aq:=[102,105,114,115,116]
abbrev Sn:Aq:=[108,97,115,116]
abbrev eV:Aq:=[46]
abbrev X9:Aq:=[115,117,109]
abbrev Ui:Aq:=[99,111,117,110,116]
abbrev E5:Aq:=[116,105,109,101]
abbrev J5:Aq:=[116,114,117,101]
abbrev Ik:Aq:=[102,97,108,115,101]

structure Syn where
 kind:Int
 text:Aq
 name:Aq
 num:Int
 kids:List Syn
 pos:Int
def Lc:Syn:=⟨0,[],[],0,[],0⟩

structure PS where
 toks:List Tok
 pos:Nat
 fin:Int
 depth:Int
 bad:Int
 whr:Int

def Xd (st:PS):Tok:=st.toks.getD st.pos Jx
def Ct (st:PS):Int:=if decide ((st.pos:Int)<(st.toks.length:Int)) then (Xd st).pos else st.fin
def Eo (e:Int)(st:PS):PS:=if (st.bad==0) then { st with bad:=e,whr:=Ct st } else st
def adv (st:PS):PS:={ st with pos:=st.pos+1 }
def Hu (st:PS):PS:={ st with depth:=IntKind.i64.wrap (st.depth+1) }
def Id (st:PS):PS:={ st with depth:=IntKind.i64.wrap (st.depth-1) }
@[reducible] def endP (st : PS) : Bool := (st.bad != 0) || decide ((st.toks.length : Int) ≤ (st.pos : Int))

def Im (w:Aq)(st:PS):Bool:=if endP st then false else ((Xd st).text==w)&&(((Xd st).kind==3)||(((Xd st).kind==0)&&iC w))
def Kr (w:Aq)(st:PS):PS:=if Im w st then adv st else st
def Cg (w:Aq)(st:PS):PS:=if (st.bad==0) && !(Im w st) then Eo 4 st else Kr w st
def Pf (k:Int)(st:PS):Bool:=if endP st then false else ((Xd st).kind==k)&&((k != 0) || !(iC (Xd st).text))
def Dm (k:Int)(st:PS):PS:=if Pf k st then adv st else Eo 4 st
def Fv (k:Int)(st:PS):Aq:=if Pf k st then (Xd st).text else []
def S7 (st:PS):Int:=if Pf 1 st then (U6 (Xd st).text).1 else 0

def Kn (read:Syn→PS→Syn×PS)(z:Syn)(st:PS):Syn×PS:=
 if ((if decide (64≤st.depth) then Eo 12 st else st).bad != 0) then (z,if decide (64≤st.depth) then Eo 12 st else st)
 else ((read z (adv (Hu st))).1,Id (read z (adv (Hu st))).2)

def Ht (F:PS→Syn×PS):Nat→PS→List Syn→List Syn×PS
 | 0,st,out=>(out,st)
 | n+1,st,out=>if Im Co st then Ht F n (F (adv st)).2 (out ++ [(F (adv st)).1]) else (out,st)
def Bb (st:PS):Nat:=st.toks.length-st.pos+1
def Pi (F:PS→Syn×PS)(st:PS):List Syn×PS:=Ht F (Bb (F st).2) (F st).2 [(F st).1]

def kT (st:PS):Syn×PS:=
 if Im E3 (Cg I3 (Dm 0 st)) then (⟨2,Fv 0 st,[],0,[],Ct st⟩,adv (Cg I3 (Dm 0 st)))
 else if Im D3 (Cg I3 (Dm 0 st)) then (⟨2,Fv 0 st,[],1,[],Ct st⟩,adv (Cg I3 (Dm 0 st)))
 else if Im Da (Cg I3 (Dm 0 st)) then (⟨2,Fv 0 st,[],2,[],Ct st⟩,adv (Cg I3 (Dm 0 st)))
 else (⟨2,Fv 0 st,[],0,[],Ct st⟩,Eo 4 (Cg I3 (Dm 0 st)))

def wE (st:PS):Syn×PS:=
 let s1:=Cg I5 st
 let s2:=Cg Z9 (Dm 0 s1)
 if (s2.bad==0) && !(Im Mg s2) then (⟨1,Fv 0 s1,[],0,(Pi kT s2).1,Ct st⟩,Cg Mg (Pi kT s2).2)
 else (⟨1,Fv 0 s1,[],0,[],Ct st⟩,Cg Mg s2)

def Lw (op:Int)(a b:Syn)(at':Int):Syn:=⟨17,[],[],op,[a,b],at'⟩

def Ez (st:PS):Syn×PS:=
 if Im Wq st then (⟨13,[],E3,0-S7 (adv st),[],Ct st⟩,Dm 1 (adv st))
 else if Pf 1 st then (⟨13,[],E3,S7 st,[],Ct st⟩,Dm 1 st)
 else if Im J5 st then (⟨13,[],D3,1,[],Ct st⟩,adv st)
 else if Im Ik st then (⟨13,[],D3,0,[],Ct st⟩,adv st)
 else (⟨13,Fv 2 st,Da,0,[],Ct st⟩,Dm 2 st)

def aV (st:PS):(Aq×Aq)×PS:=
 let s1:=Cg Eh st
 let s2:=Cg eV (Dm 0 s1)
 ((Fv 0 s1,Fv 0 s2),Dm 0 s2)

def totL:List (Aq×Int):=[(X1,2),(Xw,3),(Oz,4),(Sn,5)]
def G3 (E:PS→Syn×PS)(st:PS):Syn×PS:=
  if Im Eh st then Kn (fun _ s=>((E s).1,Cg H0 (E s).2)) Lc st
  else match totL.find? (fun s=>Im s.1 st) with
    | some s=>
      let i:=aV (adv st)
      let s1:=Cg Co i.2
      (⟨16,i.1.1,i.1.2,s.2,[(Ez s1).1],Ct st⟩,Cg H0 (Ez s1).2)
    | none=>
      if Im X9 st then
        let i:=aV (adv st)
        (⟨16,i.1.1,i.1.2,1,[],Ct st⟩,Cg H0 i.2)
      else if Im Ui st then
        let s1:=Cg Eh (adv st)
        (⟨15,Fv 0 s1,[],0,[],Ct st⟩,Cg H0 (Dm 0 s1))
      else if Pf 0 st then
        let s1:=Cg eV (Dm 0 st)
        if Im E5 s1 then (⟨14,Fv 0 st,E5,0,[],Ct st⟩,adv s1)
        else (⟨14,Fv 0 st,Fv 0 s1,0,[],Ct st⟩,Dm 0 s1)
      else Ez st

def Ld (F:PS→Syn×PS)(sg:List (Aq×Int)):Nat→PS→Syn→Syn×PS
  | 0,st,out=>(out,st)
  | n+1,st,out=>match sg.find? (fun s=>Im s.1 st) with
    | some s=>Ld F sg n (F (adv st)).2 (Lw s.2 out (F (adv st)).1 out.pos)
    | none=>(out,st)
def Mw (F:PS→Syn×PS)(sg:List (Aq×Int))(st:PS):Syn×PS:=Ld F sg (Bb (F st).2) (F st).2 (F st).1
def orL:List (Aq×Int):=[(lC,11)]
def pW:List (Aq×Int):=[(cB,10)]
def zO:List (Aq×Int):=[(pC,5),(Wq,6)]
def P4 (E:PS→Syn×PS)(st:PS):Syn×PS:=Mw (G3 E) zO st

def Lm (E:PS→Syn×PS)(st:PS):Syn×PS:=
 let a:=(P4 E st).1
 let s:=(P4 E st).2
 let b:=(P4 E (adv s)).1
 let s':=(P4 E (adv s)).2
 if Im zJ s then (Lw 7 a b a.pos,s')
 else if Im yJ s then (Lw 8 a b a.pos,s')
 else if Im w_gt s then (Lw 7 b a a.pos,s')
 else if Im w_ge s then (Lw 8 b a a.pos,s')
 else if Im lK s then (Lw 9 a b a.pos,s')
 else if Im vU s then (⟨18,[],[],0,[Lw 9 a b a.pos],a.pos⟩,s')
 else (a,s)
def Sg (E N:PS→Syn×PS)(st:PS):Syn×PS:=
 if !(Im Rb st) then Lm E st
 else Kn (fun z s=>({ z with kids:=[(N s).1] },(N s).2)) ⟨18,[],[],0,[],Ct st⟩ st
def qI (E N:PS→Syn×PS)(st:PS):Syn×PS:=Mw (Sg E N) pW st
def orP (E N:PS→Syn×PS)(st:PS):Syn×PS:=Mw (qI E N) orL st
def Do (st:PS):Syn×PS:=(Lc,st)
def Od:Nat→(PS→Syn×PS)×(PS→Syn×PS)
 | 0=>(Sg Do Do,orP Do Do)
 | n+1=>(Sg (Od n).2 (Od n).1,orP (Od n).2 (Od n).1)
def exprN (n:Nat):PS→Syn×PS:=(Od n).2

def Ip (E:PS→Syn×PS)(st:PS):Syn×PS:=
 let s2:=Dm 0 (Dm 0 st)
 if Im Rp s2 then (⟨5,Fv 0 st,Fv 0 (Dm 0 st),0,[(E (adv s2)).1],Ct st⟩,(E (adv s2)).2)
 else (⟨5,Fv 0 st,Fv 0 (Dm 0 st),0,[],Ct st⟩,s2)

def vD:List (Aq×Int):=[(Nm,6),(Nq,7),(Nn,8),(Ke,9),(Ib,10),(Fr,11),(Ge,12)]
def aP (T:PS→Syn×PS)(z:Syn)(st:PS):Syn×PS:=
 let r:=T (Cg Co st)
 let l:=Ht T (Bb r.2) r.2 (z.kids ++ [r.1])
 ({ z with kids:=l.1 },l.2)
def Fp (E T:PS→Syn×PS)(k:Int)(z:Syn)(st:PS):Syn×PS:=
 if decide (k≤8) then aP T z st
 else if (k==9) then (z,st)
 else if (k==10) then ({ z with kids:=z.kids ++ [(Ip E (Cg Co st)).1] },(Ip E (Cg Co st)).2)
 else if (k==11) then ({ z with num:=S7 (Cg Co st) },Dm 1 (Cg Co st))
 else ({ z with kids:=z.kids ++ [(E (Cg Co st)).1] },(E (Cg Co st)).2)
def U9 (E T:PS→Syn×PS)(st:PS):Syn×PS:=
 match vD.find? (fun f=>Im f.1 st) with
 | some f=>Kn (fun z s=>
  let r:=T (Cg Eh s)
  let q:=Fp E T f.2 { z with kids:=[r.1] } r.2
  (q.1,Cg H0 q.2)) ⟨f.2,[],[],0,[],Ct st⟩ st
 | none=>Ip E st
def iZ (E:PS→Syn×PS):Nat→PS→Syn×PS
 | 0=>U9 E Do
 | n+1=>U9 E (iZ E n)

def cK (st:PS)(at':Int):Syn×PS:=
 if Im T7 st then (⟨4,Fv 0 (adv st),[],0,[],Ct (adv st)⟩,Dm 0 (adv st)) else (⟨4,[],[],0,[],at'⟩,st)
def F9 (E T:PS→Syn×PS)(st:PS):Syn×PS:=
 let s1:=Cg Fk st
 let k:=cK (Dm 0 s1) (Ct st)
 let p:=T (Cg Gd k.2)
 let l:=Pi E (Cg Fw p.2)
 (⟨3,Fv 0 s1,[],0,[k.1,p.1]++l.1,Ct st⟩,Cg jO l.2)

def Yc (w:Aq)(F:PS→Syn×PS):Nat→PS→List Syn→List Syn×PS
 | 0,st,out=>(out,st)
 | n+1,st,out=>if Im w st then Yc w F n (F st).2 (out ++ [(F st).1]) else (out,st)
def progP (E T:PS→Syn×PS)(st:PS):Syn×PS:=
 let t:=Yc I5 wE (Bb st) st []
 let q:=Yc Fk (F9 E T) (Bb t.2) t.2 t.1
 (⟨0,[],[],0,q.1,0⟩,q.2)

def K3 (l:List Tok)(n:Int):PS:=⟨l,0,n,0,0,0⟩
def Po (r:Syn×PS):Syn×Int×Int:=
 let s:=if decide ((r.2.pos:Int)<(r.2.toks.length:Int)) then Eo 4 r.2 else r.2
 if (s.bad != 0) then (Lc,s.whr,s.bad) else (r.1,0,0)
def Di (F:PS→Syn×PS)(s:Aq):Syn×Int×Int:=
 if ((F3 s).2.2 != 0) then (Lc,(F3 s).2.1,(F3 s).2.2) else Po (F (K3 (F3 s).1 s.length))
def EE:PS→Syn×PS:=exprN 64
def TT:PS→Syn×PS:=iZ EE 64
def pExpr (s:Aq):Syn×Int×Int:=Di EE s
def pPat (s:Aq):Syn×Int×Int:=Di TT s
def pQuery (s:Aq):Syn×Int×Int:=Di (F9 EE TT) s
def pProg (s:Aq):Syn×Int×Int:=Di (progP EE TT) s

def Lo (w:Aq)(st:PS):Bool:=if endP st then false else ((Xd st).text==w)&&(((Xd st).kind==3)||((Xd st).kind==0))
def accR (w:Aq)(st:PS):PS:=if Lo w st then adv st else st
def Hc (w:Aq)(st:PS):PS:=if Lo w st then adv st else Eo 4 st
def uB (k:Int)(st:PS):Bool:=if endP st then false else ((Xd st).kind==k)&&((k != 0) || !(U7 (Xd st).text))
def M0 (k:Int)(st:PS):PS:=if uB k st then adv st else Eo 4 st
def J9 (k:Int)(st:PS):Aq:=if uB k st then (Xd st).text else []
def kB (st:PS):Int:=(yB (J9 1 st)).1
def mL (st:PS):PS:=Hu (if decide (64≤st.depth) then Eo 12 st else st)

def mK (st:PS):Syn×PS:=
 let s1:=Hc I3 (M0 0 st)
 if Lo D3 s1 then (⟨2,J9 0 st,[],1,[],Ct st⟩,adv s1)
 else if Lo Da s1 then (⟨2,J9 0 st,[],2,[],Ct st⟩,adv s1)
 else (⟨2,J9 0 st,[],0,[],Ct st⟩,Hc E3 s1)
def Sq (F:PS→Syn×PS):Nat→PS→List Syn→List Syn×PS
 | 0,st,out=>(out,st)
 | n+1,st,out=>if Lo Co st then Sq F n (F (adv st)).2 (out ++ [(F (adv st)).1]) else (out,st)
def Aah (st:PS):Syn×PS:=
 let s1:=Hc I5 st
 let s2:=Hc Z9 (M0 0 s1)
 if Lo Mg s2 then (⟨1,J9 0 s1,[],0,[],Ct st⟩,adv s2)
 else
  let r:=mK s2
  let l:=Sq mK (Bb r.2) r.2 [r.1]
  (⟨1,J9 0 s1,[],0,l.1,Ct st⟩,Hc Mg l.2)
def mF (st:PS):Syn×PS:=
 if Lo Wq st then (⟨13,[],E3,0-kB (adv st),[],Ct st⟩,M0 1 (adv st))
 else if Lo J5 st then (⟨13,[],D3,1,[],Ct st⟩,adv st)
 else if Lo Ik st then (⟨13,[],D3,0,[],Ct st⟩,adv st)
 else if uB 2 st then (⟨13,J9 2 st,Da,0,[],Ct st⟩,M0 2 st)
 else (⟨13,[],E3,kB st,[],Ct st⟩,M0 1 st)
def aggR (st:PS):Int:=
 if Lo X9 st then 1 else if Lo X1 st then 2 else if Lo Xw st then 3 else if Lo Oz st then 4 else if Lo Sn st then 5 else 0
def totR (k:Int)(st:PS):Syn×PS:=
 let s1:=Hc Eh (adv st)
 let s2:=Hc eV (M0 0 s1)
 let s3:=M0 0 s2
 if (k != 1) then
  let c:=mF (Hc Co s3)
  (⟨16,J9 0 s1,J9 0 s2,k,[c.1],Ct st⟩,Hc H0 c.2)
 else (⟨16,J9 0 s1,J9 0 s2,k,[],Ct st⟩,Hc H0 s3)
def eW (E:PS→Syn×PS)(st:PS):Syn×PS:=
 if Lo Eh st then
  let e:=E (Hc Eh (mL st))
  (e.1,Id (Hc H0 e.2))
 else if Lo Ui st then
  let s1:=Hc Eh (adv st)
  (⟨15,J9 0 s1,[],0,[],Ct st⟩,Hc H0 (M0 0 s1))
 else if (aggR st != 0) then totR (aggR st) st
 else if !(uB 0 st) then mF st
 else
  let s1:=Hc eV (M0 0 st)
  if Lo E5 s1 then (⟨14,J9 0 st,E5,0,[],Ct st⟩,adv s1)
  else (⟨14,J9 0 st,J9 0 s1,0,[],Ct st⟩,M0 0 s1)
def mR (F:PS→Syn×PS):Nat→PS→Syn→Syn×PS
 | 0,st,out=>(out,st)
 | n+1,st,out=>if Lo pC st||Lo Wq st then mR F n (F (adv st)).2 (Lw (if Lo Wq st then 6 else 5) out (F (adv st)).1 out.pos) else (out,st)
def uM (E:PS→Syn×PS)(st:PS):Syn×PS:=mR (eW E) (Bb (eW E st).2) (eW E st).2 (eW E st).1
def cmpR (E:PS→Syn×PS)(st:PS):Syn×PS:=
 let a:=(uM E st).1
 let s:=(uM E st).2
 let b:=(uM E (adv s)).1
 let s':=(uM E (adv s)).2
 if Lo zJ s then (Lw 7 a b a.pos,s')
 else if Lo yJ s then (Lw 8 a b a.pos,s')
 else if Lo w_gt s then (Lw 7 b a a.pos,s')
 else if Lo w_ge s then (Lw 8 b a a.pos,s')
 else if Lo lK s then (Lw 9 a b a.pos,s')
 else if Lo vU s then (⟨18,[],[],0,[Lw 9 a b a.pos],a.pos⟩,s')
 else (a,s)
def gD (E N:PS→Syn×PS)(st:PS):Syn×PS:=
 if !(Lo Rb st) then cmpR E st
 else
  let r:=N (Hc Rb (mL st))
  (⟨18,[],[],0,[r.1],Ct st⟩,Id r.2)
def Un (w:Aq)(op:Int)(F:PS→Syn×PS):Nat→PS→Syn→Syn×PS
 | 0,st,out=>(out,st)
 | n+1,st,out=>if Lo w st then Un w op F n (F (adv st)).2 (Lw op out (F (adv st)).1 out.pos) else (out,st)
def qC (E N:PS→Syn×PS)(st:PS):Syn×PS:=Un cB 10 (gD E N) (Bb (gD E N st).2) (gD E N st).2 (gD E N st).1
def orR (E N:PS→Syn×PS)(st:PS):Syn×PS:=Un lC 11 (qC E N) (Bb (qC E N st).2) (qC E N st).2 (qC E N st).1
def aK:Nat→(PS→Syn×PS)×(PS→Syn×PS)
 | 0=>(gD Do Do,orR Do Do)
 | n+1=>(gD (aK n).2 (aK n).1,orR (aK n).2 (aK n).1)
def yG (n:Nat):PS→Syn×PS:=(aK n).2
def bM (E:PS→Syn×PS)(st:PS):Syn×PS:=
 let s2:=M0 0 (M0 0 st)
 if Lo Rp s2 then (⟨5,J9 0 st,J9 0 (M0 0 st),0,[(E (adv s2)).1],Ct st⟩,(E (adv s2)).2)
 else (⟨5,J9 0 st,J9 0 (M0 0 st),0,[],Ct st⟩,s2)
def nO (st:PS):Int:=
 if Lo Nm st then 6 else if Lo Nq st then 7 else if Lo Nn st then 8 else if Lo Ke st then 9 else if Lo Ib st then 10 else if Lo Fr st then 11 else if Lo Ge st then 12 else 5
def restR (E T:PS→Syn×PS)(k:Int)(z:Syn)(st:PS):Syn×PS:=
 if ((k==6)||(k==7))||(k==8) then
  let r:=T (Hc Co st)
  let l:=Sq T (Bb r.2) r.2 (z.kids ++ [r.1])
  ({ z with kids:=l.1 },l.2)
 else if (k==10) then ({ z with kids:=z.kids ++ [(bM E (Hc Co st)).1] },(bM E (Hc Co st)).2)
 else if (k==11) then ({ z with num:=kB (Hc Co st) },M0 1 (Hc Co st))
 else if (k==12) then ({ z with kids:=z.kids ++ [(E (Hc Co st)).1] },(E (Hc Co st)).2)
 else (z,st)
def patR (E T:PS→Syn×PS)(st:PS):Syn×PS:=
 if (nO st==5) then bM E st
 else
  let r:=T (Hc Eh (adv (mL st)))
  let q:=restR E T (nO st) ⟨nO st,[],[],0,[r.1],Ct st⟩ r.2
  (q.1,Id (Hc H0 q.2))
def vO (E:PS→Syn×PS):Nat→PS→Syn×PS
 | 0=>patR E Do
 | n+1=>patR E (vO E n)
def keyRR (st:PS)(at':Int):Syn×PS:=
 if Lo T7 st then (⟨4,J9 0 (adv st),[],0,[],Ct (adv st)⟩,M0 0 (adv st)) else (⟨4,[],[],0,[],at'⟩,st)
def zH (E T:PS→Syn×PS)(st:PS):Syn×PS:=
 let s1:=Hc Fk st
 let k:=keyRR (M0 0 s1) (Ct st)
 let p:=T (Hc Gd k.2)
 let e:=E (Hc Fw p.2)
 let l:=Sq E (Bb e.2) e.2 [k.1,p.1,e.1]
 (⟨3,J9 0 s1,[],0,l.1,Ct st⟩,Hc jO l.2)
def Xp (w:Aq)(F:PS→Syn×PS):Nat→PS→List Syn→List Syn×PS
 | 0,st,out=>(out,st)
 | n+1,st,out=>if Lo w st then Xp w F n (F st).2 (out ++ [(F st).1]) else (out,st)
def progR (E T:PS→Syn×PS)(st:PS):Syn×PS:=
 let t:=Xp I5 Aah (Bb st) st []
 let q:=Xp Fk (zH E T) (Bb t.2) t.2 t.1
 (⟨0,[],[],0,q.1,0⟩,q.2)
def doneR (r:Syn×PS):Syn×Int×Int:=
 let s:=if (r.2.bad==0)&&decide ((r.2.pos:Int)<(r.2.toks.length:Int)) then Eo 4 r.2 else r.2
 if (s.bad != 0) then (Lc,s.whr,s.bad) else (r.1,0,0)
def parseR (F:PS→Syn×PS)(s:Aq):Syn×Int×Int:=
 if ((eM s).2.2 != 0) then (Lc,(eM s).2.1,(eM s).2.2) else doneR (F (K3 (eM s).1 s.length))
def EER:PS→Syn×PS:=yG 65
def TTR:PS→Syn×PS:=vO EER 65

mutual
def Cl:Syn→List AV
 | ⟨kind,text,name,num,kids,pos⟩=>[.int .i64 kind,.str text,.str name,.int .i64 num,.sl 6 (Zb kids),.int .i64 pos]
def Zb:List Syn→List (List AV)
 | []=>[]
 | e::r=>Cl e::Zb r
end
theorem Ww:∀l:List Syn,Zb l=l.map Cl
 | []=>by simp [Zb]
 | e::r=>by simp [Zb,Ww r]
@[reducible] def cSyn (e : Syn) : List AV := [.int .i64 e.kind, .str e.text, .str e.name, .int .i64 e.num, .sl 6 (e.kids.map Cl), .int .i64 e.pos]
theorem Bi (e:Syn):Cl e=cSyn e:=by
 cases e
 simp [Cl,cSyn,Ww]
theorem B6 {l:List Syn}{k:Nat}{a:Syn}(h:l[k]? = some a):(l.map Cl)[k]? = some (cSyn a):=by
 simp [h,Bi]
@[reducible] def cP (st : PS) : List AV := [.sl 3 (st.toks.map Ym), .int .i64 (st.pos : Int), .int .i64 st.fin, .int .i64 st.depth, .int .i64 st.bad, .int .i64 st.whr]
theorem Syn.ind {P:Syn→Prop}(h:∀e,(∀a∈e.kids,P a)→P e):∀e,P e:=by
 intro e
 exact Syn.rec (motive_1:=P) (motive_2:=fun l=>∀a∈l,P a) (fun k t n m kids p ih=>h _ ih) (by simp) (fun a l ha hl=>by simp only [List.mem_cons,forall_eq_or_imp];exact ⟨ha,hl⟩) e


inductive Pl where
 | only (k:Int)
 | pats
 | exps
@[reducible] def isPat (k : Int) : Bool := decide (5 ≤ k) && decide (k ≤ 12)
@[reducible] def isExp (k : Int) : Bool := decide (13 ≤ k) && decide (k ≤ 18)
def Pl.at:Pl→Int→Bool
 | .only k,x=>x==k
 | .pats,x=>isPat x
 | .exps,x=>isExp x
def Pl.role:Pl→Int
 | .only k=>if k≤4 then k else if k==5 then 6 else 8
 | .pats=>5
 | .exps=>7
def Pl.ok:Pl→Prop
 | .only k=>k=0∨k=1∨k=2∨k=3∨k=4∨k=5∨k=13
 | _=>True

def Bn (t:Syn)(i:Nat):Syn:=t.kids.getD i Lc
def Ee (t:Syn)(i:Nat):Pl:=
 if (t.kind==0) then if ((Bn t i).kind==1)&&(((i:Int)==0)||((Bn t (i-1)).kind==1)) then .only 1 else .only 3
 else if (t.kind==1) then .only 2
 else if (t.kind==3) then if ((i:Int)==0) then .only 4 else if ((i:Int)==1) then .pats else .exps
 else if (t.kind==10) then if ((i:Int)==1) then .only 5 else .pats
 else if (t.kind==12) then if ((i:Int)==1) then .exps else .pats
 else if (t.kind==16) then .only 13
 else if ((t.kind==5)||(t.kind==17))||(t.kind==18) then .exps
 else .pats
def Dr (t:Syn):Bool:=
 if (t.kind==0)||(t.kind==1) then true
 else if (t.kind==3) then decide (3≤(t.kids.length:Int))
 else if (t.kind==5) then decide ((t.kids.length:Int)≤1)
 else if ((t.kind==6)||(t.kind==7))||(t.kind==8) then decide (2≤(t.kids.length:Int))
 else if ((t.kind==9)||(t.kind==11))||(t.kind==18) then ((t.kids.length:Int)==1)
 else if ((t.kind==10)||(t.kind==12))||(t.kind==17) then ((t.kids.length:Int)==2)
 else if (t.kind==16) then if (t.num==1) then ((t.kids.length:Int)==0) else ((t.kids.length:Int)==1)
 else ((t.kids.length:Int)==0)
def Lu (k:Int):Bool×Bool:=
 if ((k==5)||(k==14))||(k==16) then (true,true)
 else if ((((k==1)||(k==2))||(k==3))||(k==4))||(k==15) then (true,false)
 else (false,false)
def dQ (s:Aq):Bool:=Tm s==0
def N6 (t:Syn):Bool:=
 if ((Lu t.kind).1 && !dQ t.text)&&((t.kind != 4) || !(t.text == [])) then false
 else (!(Lu t.kind).2||dQ t.name)||((t.kind==14)&&(t.name==E5))
def Er (t:Syn):Int:=
 if (t.name==E3) then if (decide (t.num < -1099511627776)||decide (1099511627776<t.num)) then 2 else if !(t.text == []) then 3 else 0
 else if (t.name==D3) then if (decide (t.num<0)||decide (1<t.num)) then 2 else if !(t.text == []) then 3 else 0
 else if (t.name==Da) then if decide (64<(t.text.length:Int)) then 13 else if (t.num != 0) then 3 else 0
 else 1
def Ko (t:Syn):Int:=
 if (t.kind==2) then if (decide (t.num<0)||decide (2<t.num)) then 1 else 0
 else if (t.kind==16) then if (decide (t.num<1)||decide (5<t.num)) then 1 else 0
 else if (t.kind==17) then if (decide (t.num<5)||decide (11<t.num)) then 1 else 0
 else if (t.kind==11) then if (decide (t.num<0)||decide (1099511627776<t.num)) then 2 else 0
 else if (decide (t.num<0)||decide (0<t.num)) then 3 else 0
def Cu (t:Syn):Int:=
 if (t.kind==13) then Er t
 else if (Ko t != 0) then Ko t
 else if (!(Lu t.kind).1 && !(t.text == []))||(!(Lu t.kind).2 && !(t.name == [])) then 3 else 0
def P9 (p:Pl)(t:Syn):Int:=
 if !(p.at t.kind) then 1 else if !(Dr t) then 15 else if !(N6 t) then 8 else Cu t
def Yh:List Int→Int
 | []=>0
 | x::r=>if (x != 0) then x else Yh r
mutual
def Bg:Syn→Pl→Int
 | ⟨k,x,n,m,kids,p⟩,at'=>if (P9 at' ⟨k,x,n,m,kids,p⟩ != 0) then P9 at' ⟨k,x,n,m,kids,p⟩ else Yh (Tt kids ((List.range kids.length).map (Ee ⟨k,x,n,m,kids,p⟩)))
def Tt:List Syn→List Pl→List Int
 | [],_=>[]
 | x::r,[]=>[]
 | x::r,p::q=>Bg x p::Tt r q
end

def El (p k:Int):Bool:=if (p==17) then (k==17)||(k==18) else if (p==18) then (k==17) else false
mutual
def En:Syn→Nat
 | ⟨k,_,_,_,kids,_⟩=>Gr k kids+(if (k==18)||(isPat k&&(k != 5)) then 1 else 0)
def Gr (k:Int):List Syn→Nat
 | []=>0
 | x::r=>max (En x+(if El k x.kind then 1 else 0)) (Gr k r)
end

def B3:List Aq→Aq
 | []=>[]
 | [x]=>x
 | x::y::r=>x ++ [44,32]++B3 (y::r)
def Hp (n:Int):Aq:=if (n==1) then D3 else if (n==2) then Da else E3
def Kk (n:Int):Aq:=if (n==1) then X9 else if (n==2) then X1 else if (n==3) then Xw else if (n==4) then Oz else Sn
def Fq (n:Int):Aq:=
 if (n==5) then pC else if (n==6) then Wq else if (n==7) then zJ else if (n==8) then yJ else if (n==9) then lK else if (n==10) then cB else lC
def Iv (k:Int):Aq:=
 if (k==6) then Nm else if (k==7) then Nq else if (k==8) then Nn else if (k==9) then Ke else if (k==10) then Ib else if (k==11) then Fr else Ge
def Iy (t:Syn):Aq:=
 if (t.name==E3) then Lib.itoa t.num
 else if (t.name==D3) then if (t.num==1) then J5 else Ik
 else (Ja t.text).1
def Dp (p:Syn)(k:Syn)(s:Aq):Aq:=if El p.kind k.kind then [40]++s ++ [41] else s
def Cp (t:Syn)(ws:List Aq):Aq:=
 if (t.kind==0) then ws.flatten
 else if (t.kind==1) then I5 ++ [32]++t.text ++ [32,123]++(if ws == [] then [] else [32]++B3 ws ++ [32]) ++ [125,10]
 else if (t.kind==2) then t.text ++ [58,32]++Hp t.num
 else if (t.kind==3) then Fk ++ [32]++t.text++(if (Bn t 0).text == [] then [] else [32]++T7 ++ [32]++(Bn t 0).text) ++ [10]++Gd ++ [32]++ws.getD 1 [] ++ [10]++Fw ++ [32]++B3 (ws.drop 2) ++ [59,10]
 else if (t.kind==5) then t.text ++ [32]++t.name++(if ws == [] then [] else [32]++Rp ++ [32]++ws.getD 0 [])
 else if (t.kind==13) then Iy t
 else if (t.kind==14) then t.text ++ [46]++t.name
 else if (t.kind==15) then Ui ++ [40]++t.text ++ [41]
 else if (t.kind==16) then Kk t.num ++ [40]++t.text ++ [46]++t.name++(if ws == [] then [] else [44,32]++ws.getD 0 []) ++ [41]
 else if (t.kind==17) then Dp t (Bn t 0) (ws.getD 0 []) ++ [32]++Fq t.num ++ [32]++Dp t (Bn t 1) (ws.getD 1 [])
 else if (t.kind==18) then Rb ++ [32]++Dp t (Bn t 0) (ws.getD 0 [])
 else Iv t.kind ++ [40]++B3 ws++(if (t.kind==11) then [44,32]++Lib.itoa t.num else []) ++ [41]
mutual
def Ah:Syn→Aq
 | ⟨k,x,n,m,kids,p⟩=>Cp ⟨k,x,n,m,kids,p⟩ (La kids)
def La:List Syn→List Aq
 | []=>[]
 | x::r=>Ah x::La r
end
def Bo (t:Syn)(p:Pl):Aq×Int:=
 if (Bg t p != 0) then ([],Bg t p)
 else if decide (64<(En t:Int)) then ([],12)
 else if decide (65536<((Ah t).length:Int)) then ([],13)
 else (Ah t,0)

mutual
def Gt:Syn→Int
 | ⟨_,_,_,_,kids,_⟩=>Gs kids 1
def Gs:List Syn→Int→Int
 | [],n=>n
 | x::r,n=>if decide (n≤200) then Gs r (IntKind.i64.wrap (n+Gt x)) else n
end
mutual
def Np:Syn→Int
 | ⟨_,_,_,_,kids,_⟩=>IntKind.i64.wrap (Pj kids 0+1)
def Pj:List Syn→Int→Int
 | [],d=>d
 | x::r,d=>Pj r (max d (Np x))
end
mutual
def Fl:Syn→Bool
 | ⟨k,x,n,m,kids,p⟩=>if (((decide (80<(x.length:Int))||decide (80<(n.length:Int)))||decide (200<Gt ⟨k,x,n,m,kids,p⟩))||decide (90<Np ⟨k,x,n,m,kids,p⟩)) then false else Ub kids
def Ub:List Syn→Bool
 | []=>true
 | x::r=>if !(Fl x) then false else Ub r
end

theorem Tp:∀l:List Syn,La l=l.map Ah
 | []=>by rw [La,List.map_nil]
 | x::r=>by rw [La,Tp r,List.map_cons]
theorem Cn (t:Syn):Ah t=Cp t (t.kids.map Ah):=by cases t;rw [Ah,Tp]
theorem Wn (t:Syn):En t=Gr t.kind t.kids+(if (t.kind==18)||(isPat t.kind&&(t.kind != 5)) then 1 else 0):=by cases t;rw [En]
theorem Wz (t:Syn):Gt t=Gs t.kids 1:=by cases t;rw [Gt]
theorem lL (t:Syn):Np t=IntKind.i64.wrap (Pj t.kids 0+1):=by cases t;rw [Np]
theorem Xq (t:Syn):Fl t=if (((decide (80<(t.text.length:Int))||decide (80<(t.name.length:Int)))||decide (200<Gt t))||decide (90<Np t)) then false else Ub t.kids:=by cases t;rw [Fl]

def It (t:Syn):Nat→List Syn→Int
 | _,[]=>0
 | i,x::r=>if (Bg x (Ee t i) != 0) then Bg x (Ee t i) else It t (i+1) r
theorem Re (t:Syn)(p:Pl):Bg t p=if (P9 p t != 0) then P9 p t else It t 0 t.kids:=by
 have h:∀(l:List Syn) (i:Nat),Yh (Tt l ((List.range' i l.length).map (Ee t)))=It t i l:=by
  intro l
  induction l with
  | nil=>intro i;rw [Tt,It];rfl
  | cons x r ih=>intro i;rw [List.length_cons,List.range'_succ,List.map_cons,Tt,Yh,It,ih]
 rw [←h t.kids 0,←List.range_eq_range']
 cases t;rw [Bg]
end Go.Proofs.YtckhoadldibflaaGreatDoor
