/-
  Several texts in one: W13a, R2, Q0, R3, Ay. No condition.
-/
import Derived.Test.YtckhoadldibflaaGreatDoorK01
import Derived.Test.YtckhoadldibflaaGreatDoorK02
import Derived.Test.YtckhoadldibflaaGreatDoorK04
import Derived.Test.YtckhoadldibflaaGreatDoorK05
import Derived.KernelRfl
import Derived.Test.YtckhoadldibflaaGreatDoorK03
import Derived.Test.YtckhoadldibflaaGreatDoorTab
import Derived.Test.YtckhoadldibflaaGreatDoorAx
set_option linter.unusedVariables false
set_option linter.unusedSimpArgs false
namespace Go.Proofs.YtckhoadldibflaaGreatDoor
open Go Go.Aw
set_option maxHeartbeats 3200000
set_option maxRecDepth 20000

theorem Bi {α:Type}{c:Bool}{a b:α}(h:c=false):(if c=true then a else b)=b:=iN h
theorem mH {α:Type}{l:List α}{k:Nat}(h:k<l.length):∃x,l[k]? = some x:=⟨_,List.getElem?_eq_getElem h⟩
theorem Mf {α:Type}{l:List α}{k:Nat}{x:α}(h:l[k]? = some x):k<l.length:=(List.getElem?_eq_some_iff.1 h).1
theorem fE {t:Syn}{k:Nat}(h:k<t.kids.length):t.kids[k]? = some (Bb t k):=by simp [Bb,Nv,List.getElem?_eq_getElem h]
theorem Ul {t:Syn}{i:Nat}{x:Bool}(hi:i<t.kids.length)(hG:Me [(x,true),((((i:Int)==0)),false)]):0≤(i:Int)-1∧(t.kids.map Cr)[((i:Int)-1).toNat]? = some (cSyn (Bb t (i-1))):=by
 have h0:((i:Int)==0)=false:=hG (((i:Int)==0),false) (by simp);have h1:i≠0:=by intro e;subst e;cases h0
 have hw:(i:Int)-1=((i-1:Nat):Int):=by omega
 rw [hw,gK];exact ⟨by omega,Cl (fE (by omega))⟩
def gY:Pl→AV
 | .only k=>.fn (.func 153) [] [.ptr [.int .i64 k]]
 | .pats=>.fn (.func 206) [] []
 | .exps=>.fn (.func 266) [] []

theorem w_pats (k:Int):An Tryz.prog 206 [.int .i64 k] (.bool (isPat k)):=by
 refine An.body (n:=9) tok Tryz.func206 rfl rfl rfl fun H=>?_
 refine Ad (Qp Au (Bs (Qp Am (Qp Gb (Qp A9 (Qg [] Qw Am (Qg [(6,_)] Qw Ox (Qp Ea (Qp Au (Rb (Qr (.bool _) ?_)))))))))));rfl
theorem w_exps (k:Int):An Tryz.prog 266 [.int .i64 k] (.bool (isExp k)):=by
 refine An.body (n:=9) tok Tryz.func266 rfl rfl rfl fun H=>?_
 refine Ad (Qp Au (Bs (Qp Am (Qp Gb (Qp A9 (Qg [] Qw Am (Qg [(6,_)] Qw Ox (Qp Ea (Qp Au (Rb (Qr (.bool _) ?_)))))))))));rfl
theorem Rw (k:Int):An Tryz.prog 88 [.int .i64 k] (gY (.only k)):=by
 refine An.body (n:=4) tok Tryz.func88 rfl rfl rfl fun H=>?_
 refine Ad (Qp (Ts (v:=Iq _) (cs:=[Iq _]) rfl rfl rfl) (Qp Qk (Bs (Qp (B1 (l:=[]) (l':=[.ptr _]) rfl rfl) (Qp (A8 (v:=.fn _ _ _) rfl) (Rb (Qr (.fn _ _ _) ?_)))))));rfl
theorem w_only1 (k x:Int):An Tryz.prog 153 [.int .i64 x,.ptr [.int .i64 k]] (.bool (x==k)):=by
 refine An.body (n:=7) tok Tryz.func153 rfl rfl rfl fun H=>?_
 refine Ad (Qp Au (Bs (Qp Am (Qp Bf (Qp Ap (Qp Au (Rb (Qr (.bool _) ?_))))))));rfl
theorem jM (p k:Int):An Tryz.prog 205 [.int .i64 p,.int .i64 k] (.bool (Gc p k)):=by
 refine An.body (n:=18) tok Tryz.func205 rfl rfl rfl fun H=>?_
 refine Ad (Qp Au (Ae (Rd (Qp Am (Ae (AW.block (Ad (Qp Ap (Qp Au (Ae (Ao (fun hc1=>Ad (Qp Am (Qp Ap (Qp A9 (Qg [] Qw Am (Qg [(11,_)] Qw Ap (Qp Cf (Qp Au (Rb (B9 (Av (Qr (.bool _) ?_)))))))))))) fun hc1=>?_)))))))))))
 · simp only [Ag,Gc,hc1,↓reduceIte,B0]
 refine Ad (Qp Ap (Qp Au (Ae (Ao (fun hc2=>Ad (Qp Am (Qp Ap (Qp Au (Ra (Qr (.bool _) ?_)))))) fun hc2=>Rf (Ad (Qp Au (Rb (Qr (.bool _) ?_))))))))
 · simp only [Ag,Gc,hc1,hc2,↓reduceIte,B0]
 simp only [Ag,Gc,hc1,hc2,↓reduceIte,B0]
theorem pl_fn (p:Pl):∃f first cap,gY p = .fn (.func f) first cap∧Tm Tryz.prog f=true∧∀k,An Tryz.prog f (first ++ [.int .i64 k]++cap) (.bool (p.at k)):=by
 cases p with
 | only k=>exact ⟨_,_,_,rfl,by kernel_rfl,fun x=>w_only1 k x⟩
 | pats=>exact ⟨_,_,_,rfl,by kernel_rfl,fun x=>w_pats x⟩
 | exps=>exact ⟨_,_,_,rfl,by kernel_rfl,fun x=>w_exps x⟩
theorem w_shaped (t:Syn):An Tryz.prog 201 [.agg (cSyn t)] (.bool (En t)):=by
 refine An.body (n:=49) tok Tryz.func201 rfl rfl rfl fun H=>?_
 refine Ad (Qp (Ed Aq) (Qp Au (Bs (Qp (Qf Ef) (Qp B7 ?_)))));refine Qp (Ai (n:=t.kids.length) tok rfl rfl rfl (by simp)) ?_;refine Qp Al (Ae (Rd (Qp (Qf Aq) (Qp Bf (Ae (AW.block ?_))))));refine AW.Aas (fun (_:Unit)=>(⟨[(1,.ptr (cSyn t)),(3,.int .i64 (t.kids.length:Int)),(8,.int .i64 t.kind),(9,.bool (((t.kind==0)||(t.kind==1))))],H,49⟩:St)) (fun _=>True) ?_ ?_
 ·
  refine Ad (Qp Ap (Qp Au (Ae (Ao (fun hc1=>A7 ?_) fun hc1=>AW.region (Qp Ap (Qp Au (Ae ?_)))))))
  ·
   refine ⟨(),?_,GS.weaken ⟨rfl,rfl,rfl,congrArg AV.bool (by simp [*]),trivial⟩ (.refl _)⟩
   trivial
  refine ⟨(),?_,GS.weaken ⟨rfl,rfl,rfl,congrArg AV.bool (by simp [*]),trivial⟩ (.refl _)⟩
  trivial
 rintro _ _;refine Ao (fun hc2=>Ad (Qp Au (Ra (Qr (.bool _) ?_)))) fun hc2=>Ad (Qp Ap (Qp Au (Ae (Ao (fun hc3=>Ad (Qp Am (Qp Gb (Qp Au (Ra (Qr (.bool _) ?_)))))) fun hc3=>Ad (Qp Ap (Qp Au (Ae (Ao (fun hc4=>Ad (Qp Am (Qp Ox (Qp Au (Ra (Qr (.bool _) ?_)))))) fun hc4=>?_))))))))
 · simp only [Ag,En,hc2,↓reduceIte,B0]
 · simp only [Ag,En,hc2,hc3,↓reduceIte,B0]
 · simp only [Ag,En,hc2,hc3,hc4,↓reduceIte,B0]
 refine AW.Aas (fun (_:Unit)=>(⟨[(1,.ptr (cSyn t)),(3,.int .i64 (t.kids.length:Int)),(8,.int .i64 t.kind),(20,.bool ((((t.kind==6)||(t.kind==7))||(t.kind==8))))],H,49⟩:St)) (fun _=>True) ?_ ?_
 ·
  refine Ad (Qp Ap (Qp Au (Ae (Ao (fun hc5=>A7 ?_) fun hc5=>Ad (Qp Ap (Qp Au (Ae (Ao (fun hc6=>A7 ?_) fun hc6=>AW.region (Qp Ap (Qp Au (Ae ?_)))))))))))
  ·
   refine ⟨(),?_,GS.weaken ⟨rfl,rfl,rfl,congrArg AV.bool (by simp [*]),trivial⟩ (.refl _)⟩
   trivial
  ·
   refine ⟨(),?_,GS.weaken ⟨rfl,rfl,rfl,congrArg AV.bool (by simp [*]),trivial⟩ (.refl _)⟩
   trivial
  refine ⟨(),?_,GS.weaken ⟨rfl,rfl,rfl,congrArg AV.bool (by simp [*]),trivial⟩ (.refl _)⟩
  trivial
 rintro _ _;refine Ao (fun hc7=>Ad (Qp Am (Qp Gb (Qp Au (Ra (Qr (.bool _) ?_)))))) fun hc7=>?_
 · simp only [Ag,En,hc2,hc3,hc4,hc7,↓reduceIte,B0]
 refine AW.Aas (fun (_:Unit)=>(⟨[(1,.ptr (cSyn t)),(3,.int .i64 (t.kids.length:Int)),(8,.int .i64 t.kind),(26,.bool ((((t.kind==9)||(t.kind==11))||(t.kind==18))))],H,49⟩:St)) (fun _=>True) ?_ ?_
 ·
  refine Ad (Qp Ap (Qp Au (Ae (Ao (fun hc8=>A7 ?_) fun hc8=>Ad (Qp Ap (Qp Au (Ae (Ao (fun hc9=>A7 ?_) fun hc9=>AW.region (Qp Ap (Qp Au (Ae ?_)))))))))))
  ·
   refine ⟨(),?_,GS.weaken ⟨rfl,rfl,rfl,congrArg AV.bool (by simp [*]),trivial⟩ (.refl _)⟩
   trivial
  ·
   refine ⟨(),?_,GS.weaken ⟨rfl,rfl,rfl,congrArg AV.bool (by simp [*]),trivial⟩ (.refl _)⟩
   trivial
  refine ⟨(),?_,GS.weaken ⟨rfl,rfl,rfl,congrArg AV.bool (by simp [*]),trivial⟩ (.refl _)⟩
  trivial
 rintro _ _;refine Ao (fun hc10=>Ad (Qp Am (Qp Ap (Qp Au (Ra (Qr (.bool _) ?_)))))) fun hc10=>?_
 · simp only [Ag,En,hc2,hc3,hc4,hc7,hc10,↓reduceIte,B0]
 refine AW.Aas (fun (_:Unit)=>(⟨[(1,.ptr (cSyn t)),(3,.int .i64 (t.kids.length:Int)),(8,.int .i64 t.kind),(32,.bool ((((t.kind==10)||(t.kind==12))||(t.kind==17))))],H,49⟩:St)) (fun _=>True) ?_ ?_
 ·
  refine Ad (Qp Ap (Qp Au (Ae (Ao (fun hc11=>A7 ?_) fun hc11=>Ad (Qp Ap (Qp Au (Ae (Ao (fun hc12=>A7 ?_) fun hc12=>AW.region (Qp Ap (Qp Au (Ae ?_)))))))))))
  ·
   refine ⟨(),?_,GS.weaken ⟨rfl,rfl,rfl,congrArg AV.bool (by simp [*]),trivial⟩ (.refl _)⟩
   trivial
  ·
   refine ⟨(),?_,GS.weaken ⟨rfl,rfl,rfl,congrArg AV.bool (by simp [*]),trivial⟩ (.refl _)⟩
   trivial
  refine ⟨(),?_,GS.weaken ⟨rfl,rfl,rfl,congrArg AV.bool (by simp [*]),trivial⟩ (.refl _)⟩
  trivial
 rintro _ _;refine Ao (fun hc13=>Ad (Qp Am (Qp Ap (Qp Au (Ra (Qr (.bool _) ?_)))))) fun hc13=>?_
 · simp only [Ag,En,hc2,hc3,hc4,hc7,hc10,hc13,↓reduceIte,B0]
 refine Ad (Qp Ap (Qp Au (Ae (Ao (fun hc14=>Rd (Qp (Qf J8) (Qp Bf (Qp Ap (Ae (Ao (fun hc15=>Ad (Qp Am (Qp Ap (Qp Au (Rc (B9 (Av (Qr (.bool _) ?_)))))))) fun hc15=>A7 (Ad (Qp Am (Qp Ap (Qp Au (Ra (Qr (.bool _) ?_)))))))))))) fun hc14=>?_))))
 · simp only [Ag,En,hc2,hc3,hc4,hc7,hc10,hc13,hc14,hc15,↓reduceIte,B0]
 · simp only [Ag,En,hc2,hc3,hc4,hc7,hc10,hc13,hc14,hc15,↓reduceIte,B0]
 refine Rf (Ad (Qp Am (Qp Ap (Qp Au (Rb (Qr (.bool _) ?_))))));simp only [Ag,En,hc2,hc3,hc4,hc7,hc10,hc13,hc14,↓reduceIte,B0]
theorem yO (k:Int):An Tryz.prog 263 [.int .i64 k] (.tuple [.bool (Pb k).1,.bool (Pb k).2]):=by
 refine An.body (n:=15) tok Tryz.func263 rfl rfl rfl fun H=>?_
 refine Ad (Qp Au (Qp Au (Ae (Rd (Qp Am (Ae (AW.block ?_)))))));refine AW.Aas (fun (_:Unit)=>(⟨[(4,.int .i64 k),(5,.bool ((((k==5)||(k==14))||(k==16))))],H,15⟩:St)) (fun _=>True) ?_ ?_
 ·
  refine Ad (Qp Ap (Qp Au (Ae (Ao (fun hc1=>A7 ?_) fun hc1=>Ad (Qp Ap (Qp Au (Ae (Ao (fun hc2=>A7 ?_) fun hc2=>AW.region (Qp Ap (Qp Au (Ae ?_)))))))))))
  ·
   refine ⟨(),?_,GS.weaken ⟨rfl,congrArg AV.bool (by simp [*]),trivial⟩ (.refl _)⟩
   trivial
  ·
   refine ⟨(),?_,GS.weaken ⟨rfl,congrArg AV.bool (by simp [*]),trivial⟩ (.refl _)⟩
   trivial
  refine ⟨(),?_,GS.weaken ⟨rfl,congrArg AV.bool (by simp [*]),trivial⟩ (.refl _)⟩
  trivial
 rintro _ _;refine Ao (fun hc3=>Ad (Qp Au (Qp Au (Ra (M6 (.bool _) (.bool _) ?_))))) fun hc3=>?_
 · simp only [Ag,Pb,hc3,↓reduceIte,B0]
 refine AW.Aas (fun (_:Unit)=>(⟨[(4,.int .i64 k),(9,.bool ((((((k==1)||(k==2))||(k==3))||(k==4))||(k==15))))],H,15⟩:St)) (fun _=>True) ?_ ?_
 ·
  refine Ad (Qp Ap (Qp Au (Ae (Ao (fun hc4=>A7 ?_) fun hc4=>Ad (Qp Ap (Qp Au (Ae (Ao (fun hc5=>A7 ?_) fun hc5=>Ad (Qp Ap (Qp Au (Ae (Ao (fun hc6=>A7 ?_) fun hc6=>Ad (Qp Ap (Qp Au (Ae (Ao (fun hc7=>A7 ?_) fun hc7=>AW.region (Qp Ap (Qp Au (Ae ?_)))))))))))))))))))
  ·
   refine ⟨(),?_,GS.weaken ⟨rfl,congrArg AV.bool (by simp [*]),trivial⟩ (.refl _)⟩
   trivial
  ·
   refine ⟨(),?_,GS.weaken ⟨rfl,congrArg AV.bool (by simp [*]),trivial⟩ (.refl _)⟩
   trivial
  ·
   refine ⟨(),?_,GS.weaken ⟨rfl,congrArg AV.bool (by simp [*]),trivial⟩ (.refl _)⟩
   trivial
  ·
   refine ⟨(),?_,GS.weaken ⟨rfl,congrArg AV.bool (by simp [*]),trivial⟩ (.refl _)⟩
   trivial
  refine ⟨(),?_,GS.weaken ⟨rfl,congrArg AV.bool (by simp [*]),trivial⟩ (.refl _)⟩
  trivial
 rintro _ _;refine Ao (fun hc8=>Ad (Qp Au (Qp Au (Ra (M6 (.bool _) (.bool _) ?_))))) fun hc8=>Rf (Ad (Qp Au (Qp Au (Rb (M6 (.bool _) (.bool _) ?_)))))
 · simp only [Ag,Pb,hc3,hc8,↓reduceIte,B0]
 simp only [Ag,Pb,hc3,hc8,↓reduceIte,B0]
theorem w_is (s:A1)(hl:s.length≤1048576):An Tryz.prog 262 [.str s] (.bool (oV s)):=by
 refine An.body (n:=6) tok Tryz.func262 rfl rfl rfl fun H=>?_
 refine Ad (Qp Au (Bs (Qp D2 (Qp (Qc rfl (c20 s hl)) (Qp Ap (Qp Au (Rb (Qr (.bool _) ?_))))))));rfl
theorem w_named (t:Syn)(ht:t.text.length≤1048576)(hn:t.name.length≤1048576):An Tryz.prog 202 [.agg (cSyn t)] (.bool (Tc t)):=by
 refine An.body (n:=48) tok Tryz.func202 rfl rfl rfl fun H=>?_
 refine Ad (Qp (Ed Aq) (Qp Au (Bs (Qp (A8 (v:=.fn _ _ _) rfl) (Bs (Qp (Qf Aq) (Qp Bf (Qp (Qc rfl (yO t.kind)) (Qp Lm (Qp gX (Qp gX (Qp Au (Qp Au (Ae (Rd (Qp A9 (Qp A9 (AOL.Aal (y:=.fn _ _ _) _ [] rfl (uB.all trivial) (fun hG=>A0 (v:=.fn _ _ _) rfl) rfl ?_))))))))))))))))));refine Qg [] Qw (Qf Ik) (Qg [(15,_)] Qw C9 ?_);refine AOL.Aal (y:=.bool _) _ [(16,_),(14,_)] rfl (uB.all ⟨Ent.Aak _ _,Ent.Aak _ _,trivial⟩) (fun hG=>Om (by kernel_rfl) rfl rfl rfl (w_is t.text ht)) rfl ?_;refine Qg [(17,_)] Qw Ew (Qp Ea (Qp A9 (Qg [] Qw (Qf Aq) (Qg [(21,_)] Qw Bf (Qg [(22,_)] Qw Bu (Qg [(23,_)] Qw A9 (Qg [] Qw (Qf Ik) (Qg [(25,_)] Qw C9 (AOL.Aal (y:=.bool _) _ [(26,_)] rfl (uB.all ⟨Ent.Aak _ _,trivial⟩) (fun hG=>Cs rfl rfl) rfl ?_)))))))));refine Qg [(24,_),(27,_)] Qw Cf (Qp Ea (Ae (Ao (fun hc1=>Ad (Qp Au (Rc (Qr (.bool _) ?_)))) fun hc1=>A7 (Ad (Qp A9 (Qp Ew (Qp A9 (AOL.Aal (y:=.fn _ _ _) _ [] rfl (uB.all trivial) (fun hG=>A0 (v:=.fn _ _ _) rfl) rfl ?_))))))))
 ·
  simp only [Ag,Tc];rw [if_pos hc1]
 refine Qg [] Qw (Qf Po) (Qg [(34,_)] Qw C9 ?_);refine AOL.Aal (y:=.bool _) _ [(35,_),(33,_)] rfl (uB.all ⟨Ent.Aak _ _,Ent.Aak _ _,trivial⟩) (fun hG=>Om (by kernel_rfl) rfl rfl rfl (w_is t.name hn)) rfl ?_;refine Qp Cf (Qp A9 (Qg [] Qw (Qf Aq) (Qg [(39,_)] Qw Bf (Qg [(40,_)] Qw Ap (Qg [(41,_)] Qw A9 (Qg [] Qw (Qf Po) (Qg [(43,_)] Qw C9 (AOL.Aal (y:=.bool _) _ [(44,_)] rfl (uB.all ⟨Ent.Aak _ _,trivial⟩) (fun hG=>A4 rfl rfl) rfl ?_))))))));refine Qg [(42,_),(45,_)] Qw Ea (Qp Cf (Qp Au (Rb (Qr (.bool _) ?_))));simp only [Ag,Tc];rw [Bi hc1]
theorem w_const (t:Syn):An Tryz.prog 264 [.agg (cSyn t)] (.int .i64 (Gl t)):=by
 refine An.body (n:=37) tok Tryz.func264 rfl rfl rfl fun H=>?_
 refine Ad (Qp (Ed Aq) (Qp Al (Bs (Qp Al (Qp Al (Ae (Rd (Qp (Qf Po) ?_))))))));refine Qp C9 (Ae (AW.block (Ad (Qp (A4 rfl rfl) (Qp Au (Ae (Ao (fun hc1=>Rf (AW.seq (AW.block (Ad (Qp (Qf J8) (Qp Bf (Qp Am (Qp Bp (Qp A9 (Qg [] Qw (Qf J8) (Qg [(28,_)] Qw Bf (Qg [] Qw Am (AOL.Aal (y:=.bool _) _ [(29,_),(30,_)] rfl (uB.all ⟨Ent.Aak _ _,Ent.Aak _ _,trivial⟩) (fun hG=>Ss rfl rfl) rfl ?_))))))))))))) fun hc1=>?_)))))))
 ·
  refine Qp Cf (Qp Au (Ae (Ao (fun hc2=>Ad (Qp Al (Ra (Qr (Iq _) ?_)))) fun hc2=>Ad (Qp (Qf Ik) (Qp C9 (Qp (Cs rfl rfl) (Qp Au (Ae (Ao (fun hc3=>Ad (Qp Al (Ra (Qr (Iq _) ?_)))) fun hc3=>Rf (Ad (Qp Al (Rb (Qr (Iq _) ?_)))))))))))))
  ·
   simp only [Ag,Gl];rw [if_pos hc1,if_pos hc2]
  ·
   simp only [Ag,Gl];rw [if_pos hc1,Bi hc2,if_pos hc3]
  simp only [Ag,Gl];rw [if_pos hc1,Bi hc2,Bi hc3]
 refine Ad (Qp (A4 rfl rfl) (Qp Au (Ae (Ao (fun hc4=>AW.region (Qp Al (Qp Al (Rk (AW.seq (AW.block (Ad (Qp (Qf J8) (Qp Bf (Qp Am (Qp Bp (Qp A9 (Qg [] Qw (Qf J8) (Qg [(28,_)] Qw Bf (Qg [] Qw Am (AOL.Aal (y:=.bool _) _ [(29,_),(30,_)] rfl (uB.all ⟨Ent.Aak _ _,Ent.Aak _ _,trivial⟩) (fun hG=>Ss rfl rfl) rfl ?_)))))))))))))))) fun hc4=>?_))))
 ·
  refine Qp Cf (Qp Au (Ae (Ao (fun hc5=>Ad (Qp Al (Ra (Qr (Iq _) ?_)))) fun hc5=>Ad (Qp (Qf Ik) (Qp C9 (Qp (Cs rfl rfl) (Qp Au (Ae (Ao (fun hc6=>Ad (Qp Al (Ra (Qr (Iq _) ?_)))) fun hc6=>Rf (Ad (Qp Al (Rb (Qr (Iq _) ?_)))))))))))))
  ·
   simp only [Ag,Gl];rw [Bi hc1,if_pos hc4,if_pos hc5]
  ·
   simp only [Ag,Gl];rw [Bi hc1,if_pos hc4,Bi hc5,if_pos hc6]
  simp only [Ag,Gl];rw [Bi hc1,if_pos hc4,Bi hc5,Bi hc6]
 refine Ad (Qp (A4 rfl rfl) (Qp Au (Ae (Ao (fun hc7=>AW.seq (AW.block (Ad (Qp (Qf Ik) (Qp C9 ?_))))) fun hc7=>Ad (Qp Al (Ra (Qr (Iq _) ?_)))))))
 ·
  refine Qp (Bx tok rfl rfl rfl rfl) (Qp Do (Qp Au (Ae (Ao (fun hc8=>Ad (Qp Al (Ra (B9 (Av (Qr (Iq _) ?_)))))) fun hc8=>Ad (Qp (Qf J8) (Qp Bf (Qp Bu (Qp Au (Ae (Ao (fun hc9=>Ad (Qp Al (Ra (B9 (Av (Qr (Iq _) ?_)))))) fun hc9=>Rf (Ad (Qp Al (Ra (Qr (Iq _) ?_))))))))))))))
  ·
   simp only [Ag,Gl];rw [Bi hc1,Bi hc4,if_pos hc7,if_pos hc8]
  ·
   simp only [Ag,Gl];rw [Bi hc1,Bi hc4,if_pos hc7,Bi hc8,if_pos hc9]
  simp only [Ag,Gl];rw [Bi hc1,Bi hc4,if_pos hc7,Bi hc8,Bi hc9]
 simp only [Ag,Gl];rw [Bi hc1,Bi hc4,Bi hc7]
theorem w_number (t:Syn):An Tryz.prog 265 [.agg (cSyn t)] (.int .i64 (Ny t)):=by
 refine An.body (n:=27) tok Tryz.func265 rfl rfl rfl fun H=>?_
 refine Ad (Qp (Ed Aq) (Qp Al (Bs (Qp Al (Qp Al (Qp Al (Ae (Rd (Qp (Qf Aq) (Qp Bf (Ae (AW.block (Ad (Qp Ap (Qp Au (Ae (Ao (fun hc1=>?_) fun hc1=>?_)))))))))))))))))
 ·
  refine AW.region (Qp Al (Qp Al (Qp Al (Rk (Rd (Qp (Qf J8) (Qp Bf (Qp Am (Qp Bp (Qp A9 (Qg [] Qw (Qf J8) (Qg [(21,_)] Qw Bf (Qg [] Qw Am (AOL.Aal (y:=.bool _) _ [(22,_),(23,_)] rfl (uB.all ⟨Ent.Aak _ _,Ent.Aak _ _,trivial⟩) (fun hG=>Ss rfl rfl) rfl ?_))))))))))))));refine Qp Cf (Ae (Ao (fun hc2=>Ad (Qp Am (Qp Al (Rc (Qr (Iq _) ?_))))) fun hc2=>A7 (Ad (Qp Al (Rb (Qr (Iq _) ?_))))))
  · simp only [Ag,Ny,hc1,hc2,↓reduceIte,B0]
  simp only [Ag,Ny,hc1,hc2,↓reduceIte,B0]
 refine Ad (Qp Ap (Qp Au (Ae (Ao (fun hc3=>AW.region (Qp Al (Qp Al (Qp Al (Rk (Rd (Qp (Qf J8) (Qp Bf (Qp Am (Qp Bp (Qp A9 (Qg [] Qw (Qf J8) (Qg [(21,_)] Qw Bf (Qg [] Qw Am (AOL.Aal (y:=.bool _) _ [(22,_),(23,_)] rfl (uB.all ⟨Ent.Aak _ _,Ent.Aak _ _,trivial⟩) (fun hG=>Ss rfl rfl) rfl ?_))))))))))))))) fun hc3=>?_))))
 ·
  refine Qp Cf (Ae (Ao (fun hc4=>Ad (Qp Am (Qp Al (Rc (Qr (Iq _) ?_))))) fun hc4=>A7 (Ad (Qp Al (Rb (Qr (Iq _) ?_))))))
  · simp only [Ag,Ny,hc1,hc3,hc4,↓reduceIte,B0]
  simp only [Ag,Ny,hc1,hc3,hc4,↓reduceIte,B0]
 refine Ad (Qp Ap (Qp Au (Ae (Ao (fun hc5=>AW.region (Qp Al (Qp Al (Qp Al (Rk (Rd (Qp (Qf J8) (Qp Bf (Qp Am (Qp Bp (Qp A9 (Qg [] Qw (Qf J8) (Qg [(21,_)] Qw Bf (Qg [] Qw Am (AOL.Aal (y:=.bool _) _ [(22,_),(23,_)] rfl (uB.all ⟨Ent.Aak _ _,Ent.Aak _ _,trivial⟩) (fun hG=>Ss rfl rfl) rfl ?_))))))))))))))) fun hc5=>?_))))
 ·
  refine Qp Cf (Ae (Ao (fun hc6=>Ad (Qp Am (Qp Al (Rc (Qr (Iq _) ?_))))) fun hc6=>A7 (Ad (Qp Al (Rb (Qr (Iq _) ?_))))))
  · simp only [Ag,Ny,hc1,hc3,hc5,hc6,↓reduceIte,B0]
  simp only [Ag,Ny,hc1,hc3,hc5,hc6,↓reduceIte,B0]
 refine Ad (Qp Ap (Qp Au (Ae (Ao (fun hc7=>AW.region (Qp Al (Qp Al (Rk (Rd (Qp (Qf J8) (Qp Bf (Qp Am (Qp Bp (Qp A9 (Qg [] Qw (Qf J8) (Qg [(21,_)] Qw Bf (Qg [] Qw Am (AOL.Aal (y:=.bool _) _ [(22,_),(23,_)] rfl (uB.all ⟨Ent.Aak _ _,Ent.Aak _ _,trivial⟩) (fun hG=>Ss rfl rfl) rfl ?_)))))))))))))) fun hc7=>?_))))
 ·
  refine Qp Cf (Ae (Ao (fun hc8=>Ad (Qp Am (Qp Al (Rc (Qr (Iq _) ?_))))) fun hc8=>A7 (Ad (Qp Al (Rb (Qr (Iq _) ?_))))))
  · simp only [Ag,Ny,hc1,hc3,hc5,hc7,hc8,↓reduceIte,B0]
  simp only [Ag,Ny,hc1,hc3,hc5,hc7,hc8,↓reduceIte,B0]
 refine Rf (Rd (Qp (Qf J8) (Qp Bf (Qp Am (Qp Bp (Qp A9 (Qg [] Qw (Qf J8) (Qg [(21,_)] Qw Bf (Qg [] Qw Am (AOL.Aal (y:=.bool _) _ [(22,_),(23,_)] rfl (uB.all ⟨Ent.Aak _ _,Ent.Aak _ _,trivial⟩) (fun hG=>Ss rfl rfl) rfl ?_))))))))));refine Qp Cf (Ae (Ao (fun hc9=>Ad (Qp Am (Qp Al (Rc (Qr (Iq _) ?_))))) fun hc9=>A7 (Ad (Qp Al (Rb (Qr (Iq _) ?_))))))
 · simp only [Ag,Ny,hc1,hc3,hc5,hc7,hc9,↓reduceIte,B0]
 simp only [Ag,Ny,hc1,hc3,hc5,hc7,hc9,↓reduceIte,B0]
theorem uQ (t:Syn):An Tryz.prog 203 [.agg (cSyn t)] (.int .i64 (Dn t)):=by
 refine An.body (n:=38) tok Tryz.func203 rfl rfl rfl fun H=>?_
 refine Ad (Qp (Ed Aq) (Qp Al (Ae (Rd (Qp (Qf Aq) (Qp Bf (Qp Ap (Ae (Ao (fun hc1=>Ad (Qp (Bo Aq) (Qp (Qc rfl (w_const t)) (Qp Al (Rc (Qr (Iq _) ?_)))))) fun hc1=>?_)))))))))
 ·
  simp only [Ag,Dn];rw [if_pos hc1]
 refine A7 (Rd (Qp (Bo Aq) (Qp (Qc rfl (w_number t)) (Qp Al (Bs (Qp Am (Qp Bu (Ae (Ao (fun hc2=>Ad (Qp Am (Qp Al (Rc (Qr (Iq _) ?_))))) fun hc2=>?_)))))))))
 ·
  simp only [Ag,Dn];rw [Bi hc1,if_pos hc2]
 refine A7 (Rd (Qp (Qf Aq) (Qp Bf (Qp (Qc rfl (yO t.kind)) (Qp Lm (Qp gX (Qp gX (Qp Au (Qp Au (Bs (Qp A9 (Qp Ew (Qp A9 (Qg [] Qw (Qf Ik) (Qg [(25,_)] Qw C9 (AOL.Aal (y:=.bool _) _ [(26,_)] rfl (uB.all ⟨Ent.Aak _ _,trivial⟩) (fun hG=>Cs rfl rfl) rfl ?_))))))))))))))));refine Qp Ea (Qp A9 (Qg [] Qw A9 (Qg [(30,_)] Qw Ew (Qg [(31,_)] Qw A9 (Qg [] Qw (Qf Po) (Qg [(33,_)] Qw C9 (AOL.Aal (y:=.bool _) _ [(34,_)] rfl (uB.all ⟨Ent.Aak _ _,trivial⟩) (fun hG=>Cs rfl rfl) rfl ?_)))))));refine Qg [(32,_),(35,_)] Qw Ea (Qp Cf (Ae (Ao (fun hc3=>Ad (Qp Al (Rc (Qr (Iq _) ?_)))) fun hc3=>A7 (Ad (Qp Al (Rb (Qr (Iq _) ?_)))))))
 ·
  simp only [Ag,Dn];rw [Bi hc1,Bi hc2,if_pos hc3]
 simp only [Ag,Dn];rw [Bi hc1,Bi hc2,Bi hc3]
theorem w_kid (t:Syn)(i:Nat)(hi:i<t.kids.length)(hl:t.kids.length≤1048576):An Tryz.prog 204 [.agg (cSyn t),.int .i64 (i:Int)] (gY (Eh t i)):=by
 refine An.body (n:=59) tok Tryz.func204 rfl rfl rfl fun H=>?_
 refine Ad (Qp (Ed Aq) (Qp Qk (Ae (Rd (Qp (Qf Aq) (Qp Bf (Ae (AW.block (Ad (Qp Ap (Qp Au (Ae (Ao (fun hc1=>Rd (Qp (Qf Ef) (Qp B7 (Qp Am ?_)))) fun hc1=>Ad (Qp Ap (Qp Au (Ae (Ao (fun hc3=>Ad (Qp (Qc rfl (Rw _)) (Qp (A8 (v:=.fn _ _ _) rfl) (Ra (Qr (.fn _ _ _) ?_))))) fun hc3=>?_)))))))))))))))))
 ·
  refine Qp (Aa (c:=cSyn (Bb t i)) tok rfl rfl rfl rfl rfl rfl (by omega) (Cl (fE hi))) ?_;refine Qp (Qf Aq) (Qp Bf (Qp Ap (Qp A9 (Qg [] Qw Am (Qg [(17,_)] Qw Ap (Qg [(18,_)] Qw A9 (Qg [] Qw (Qf Ef) (Qg [(20,_)] Qw B7 (Qg [] Qw Am ?_)))))))));refine AOL.Aal (y:=Iq _) _ [(22,_)] rfl (uB.all ⟨Ent.Aak _ _,trivial⟩) (fun hG=>P_sub rfl rfl rfl (by constructor <;> omega)) rfl ?_;refine AOL.Aal (y:=.ptr _) _ [(21,_),(23,_)] rfl (uB.all ⟨Ent.Aak _ _,Ent.Aak _ _,trivial⟩) (fun hG=>Aa (c:=cSyn (Bb t (i-1))) tok rfl rfl rfl rfl rfl rfl ((Ul hi hG).1) ((Ul hi hG).2)) rfl ?_;refine Qg [(24,_)] Qw (Qf Aq) (Qg [(25,_)] Qw Bf (Qg [(26,_)] Qw Ap (Qg [(19,_),(27,_)] Qw Cf (Qp Ea (Ae (Ao (fun hc2=>Ad (Qp (Qc rfl (Rw _)) (Qp (A8 (v:=.fn _ _ _) rfl) (Rc (B9 (Av (Qr (.fn _ _ _) ?_))))))) fun hc2=>A7 (Ad (Qp (Qc rfl (Rw _)) (Qp (A8 (v:=.fn _ _ _) rfl) (Ra (Qr (.fn _ _ _) ?_)))))))))))
  · simp only [Ag,Eh,gY,hc1,hc2,↓reduceIte,B0]
  simp only [Ag,Eh,gY,hc1,hc2,↓reduceIte,B0]
 · simp only [Ag,Eh,gY,hc1,hc3,↓reduceIte,B0]
 refine Ad (Qp Ap (Qp Au (Ae (Ao (fun hc4=>?_) fun hc4=>Ad (Qp Ap (Qp Au (Ae (Ao (fun hc7=>Ad (Qp Am (Qp Ap (Ae (Ao (fun hc8=>Ad (Qp (Qc rfl (Rw _)) (Qp (A8 (v:=.fn _ _ _) rfl) (Ra (Qr (.fn _ _ _) ?_))))) fun hc8=>Rf (Ad (Qp (A8 (v:=.fn _ _ _) rfl) (Rb (Qr (.fn _ _ _) ?_))))))))) fun hc7=>?_))))))))
 ·
  refine Rd (Qp Am (Ae (AW.block (Ad (Qp Ap (Qp Au (Ae (Ao (fun hc5=>Ad (Qp (Qc rfl (Rw _)) (Qp (A8 (v:=.fn _ _ _) rfl) (Ra (B9 (Av (Qr (.fn _ _ _) ?_))))))) fun hc5=>Ad (Qp Ap (Qp Au (Ae (Ao (fun hc6=>Ad (Qp (A8 (v:=.fn _ _ _) rfl) (Ra (B9 (Av (Qr (.fn _ _ _) ?_)))))) fun hc6=>Rf (Ad (Qp (A8 (v:=.fn _ _ _) rfl) (Ra (Qr (.fn _ _ _) ?_))))))))))))))))
  · simp only [Ag,Eh,gY,hc1,hc3,hc4,hc5,↓reduceIte,B0]
  · simp only [Ag,Eh,gY,hc1,hc3,hc4,hc5,hc6,↓reduceIte,B0]
  simp only [Ag,Eh,gY,hc1,hc3,hc4,hc5,hc6,↓reduceIte,B0]
 · simp only [Ag,Eh,gY,hc1,hc3,hc4,hc7,hc8,↓reduceIte,B0]
 · simp only [Ag,Eh,gY,hc1,hc3,hc4,hc7,hc8,↓reduceIte,B0]
 refine Ad (Qp Ap (Qp Au (Ae (Ao (fun hc9=>Ad (Qp Am (Qp Ap (Ae (Ao (fun hc10=>Ad (Qp (A8 (v:=.fn _ _ _) rfl) (Ra (Qr (.fn _ _ _) ?_)))) fun hc10=>Rf (Ad (Qp (A8 (v:=.fn _ _ _) rfl) (Rb (Qr (.fn _ _ _) ?_))))))))) fun hc9=>Ad (Qp Ap (Qp Au (Ae (Ao (fun hc11=>Ad (Qp (Qc rfl (Rw _)) (Qp (A8 (v:=.fn _ _ _) rfl) (Ra (Qr (.fn _ _ _) ?_))))) fun hc11=>?_))))))))
 · simp only [Ag,Eh,gY,hc1,hc3,hc4,hc7,hc9,hc10,↓reduceIte,B0]
 · simp only [Ag,Eh,gY,hc1,hc3,hc4,hc7,hc9,hc10,↓reduceIte,B0]
 · simp only [Ag,Eh,gY,hc1,hc3,hc4,hc7,hc9,hc11,↓reduceIte,B0]
 refine AW.Aas (fun (_:Unit)=>(⟨[(2,.ptr (cSyn t)),(55,.bool ((((t.kind==5)||(t.kind==17))||(t.kind==18))))],H,59⟩:St)) (fun _=>True) ?_ ?_
 ·
  refine Ad (Qp Ap (Qp Au (Ae (Ao (fun hc12=>A7 ?_) fun hc12=>Ad (Qp Ap (Qp Au (Ae (Ao (fun hc13=>A7 ?_) fun hc13=>AW.region (Qp Ap (Qp Au (Ae ?_)))))))))))
  ·
   refine ⟨(),?_,GS.weaken ⟨rfl,congrArg AV.bool (by simp [*]),trivial⟩ (.refl _)⟩
   trivial
  ·
   refine ⟨(),?_,GS.weaken ⟨rfl,congrArg AV.bool (by simp [*]),trivial⟩ (.refl _)⟩
   trivial
  refine ⟨(),?_,GS.weaken ⟨rfl,congrArg AV.bool (by simp [*]),trivial⟩ (.refl _)⟩
  trivial
 rintro _ _;refine Ao (fun hc14=>Ad (Qp (A8 (v:=.fn _ _ _) rfl) (Ra (Qr (.fn _ _ _) ?_)))) fun hc14=>Rf (Ad (Qp (A8 (v:=.fn _ _ _) rfl) (Rb (Qr (.fn _ _ _) ?_))))
 · simp only [Ag,Eh,gY,hc1,hc3,hc4,hc7,hc9,hc11,hc14,↓reduceIte,B0]
 simp only [Ag,Eh,gY,hc1,hc3,hc4,hc7,hc9,hc11,hc14,↓reduceIte,B0]
end Go.Proofs.YtckhoadldibflaaGreatDoor

namespace Go.Aw
open Go
section
variable {P:Program} {T:List (Nat×TD)} {d:Option Nat} {ty:TypeId} {pos:String} {aft:Array Edge} {gd:Option (Nat×Bool)} {ρ:Operand→AV} {K:List HO→Prop}
theorem iA {t:TypeId}{m k v:Operand}{kt et b i:Nat}{td tk:TD}{n:List UInt8}{ks:List (List UInt8)}{x:Int}{H H2:List HO}(hT:H5 P T)(ht:Br T t=some td)(hk:td.kind = .map kt et)(htk:Br T kt=some tk)(hkk:tk.kind = .str)
  (hm:ρ m = .val (.map (some b))) (hkey:ρ k = .str n) (hv:ρ v = .int .i64 x) (hH:H[i]? = some (.smap b (M3 ks))) (hx:x=(ks.length:Int)) (hnew:ks.contains n=false) (hH2:H.set i (.smap b (M3 (ks ++ [n])))=H2) :
  Mn P ⟨d,.mapUpdate t m k v,ty,pos,aft,gd⟩ ρ H (fun y H'=>y = .junk∧H'=H2):=by
 subst hx;exact Xd hT ht hk htk hkk hm hkey hv hH (smI_new hnew) (by rw [smI_add];exact hH2)
end
end Go.Aw
namespace Go.Proofs.YtckhoadldibflaaGreatDoor
open Go Go.Aw

def bQ {α:Type}(p:α→Bool):List α→Int
 | []=>-1
 | a::r=>if p a then 0 else if bQ p r<0 then -1 else bQ p r+1
theorem lB {α:Type}{p:α→Bool}:∀{l:List α} {k:Nat} {a:α},l[k]? = some a→(l.take k).any p=false→p a=true→bQ p l=(k:Int)
  | [],k,a,h,_,_=>by simp at h
  | b::r,0,a,h,_,hp=>by simp at h;subst h;rw [bQ,if_pos hp];rfl
  | b::r,k+1,a,h,hn,hp=>by
    rw [lE,bR,Ke] at hn;have ih:=lB (l:=r) (k:=k) (by simpa using h) hn.2 hp;rw [bQ,if_neg (by rw [hn.1];decide),ih,if_neg (by omega)];omega
theorem dC {α:Type}{p:α→Bool}:∀{l:List α},l.any p=false→bQ p l = -1
  | [],_=>rfl
  | b::r,h=>by
    rw [bR,Ke] at h;rw [bQ,if_neg (by rw [h.1];decide),dC h.2];rfl
theorem Zr {α:Type}(f:α→A1)(n:A1):∀l:List α,bQ (fun a=>f a==n) l=B4 (l.map f) n
  | []=>rfl
  | a::r=>by
    have ih:=Zr f n r;unfold B4 at ih ⊢;rw [bQ,E7,List.contains_cons,List.idxOf_cons,ih];by_cases h:f a=n
    · subst h;simp
    · have h1:(f a==n)=false:=by rw [Ov];exact h
      have h2:(n==f a)=false:=by rw [Ov];exact fun e=>h e.symm
      rw [h1,h2,if_neg (by decide),Md];cases hc:(r.map f).contains n with
      | false=>simp
      | true=>simp;omega
theorem Gu {α:Type}{l:List α}{k:Nat}{a:α}{p:α→Bool}(h:(l.take k).any p=false)(ha:l[k]? = some a)(hp:p a=false):(l.take (k+1)).any p=false:=by
 rw [List.take_add_one,ha];simp [h,hp]
theorem Rh {f:Syn→Fa}:∀{l:List Syn} {k:Nat} {a:Syn},l[k]? = some a→(l.take k).any (fun x=>(f x).err != 0)=false→((f a).err != 0)=true→La f l=f a
  | [],k,a,h,_,_=>by simp at h
  | b::r,0,a,h,_,hp=>by simp at h;subst h;rw [La,if_pos hp]
  | b::r,k+1,a,h,hn,hp=>by
    rw [lE,bR,Ke] at hn;rw [La,if_neg (by rw [hn.1];decide)];exact Rh (by simpa using h) hn.2 hp
theorem Nz {f:Syn→Fa}:∀{l:List Syn},l.any (fun x=>(f x).err != 0)=false→La f l=Mt
  | [],_=>rfl
  | b::r,h=>by
    rw [bR,Ke] at h;rw [La,if_neg (by rw [h.1];decide)];exact Nz h.2
theorem Bz {l:List Syn}{k:Nat}{a:Syn}(h:l[k]? = some a):(l.map Cr)[k]? = some (cSyn a):=by rw [List.getElem?_map,h];exact congrArg some (Bn a)
theorem Cp {t:Syn}{k:Nat}(h:k<t.kids.length):t.kids[k]? = some (Bb t k):=by unfold Bb;rw [Nv,List.getElem?_eq_getElem h];rfl
def Vs (T:List e8Sc)(V:List Va)(s:Nx):List AV:=[.sl 2 (T.map F1),.smapv (M3 (G8 T)),.sl 2 (V.map Ls),.smapv (M3 (Fq V)),.int .i64 s.next,.int .i64 s.scopes]
set_option maxRecDepth 100000

theorem Gk {t:Syn}{p:Pl}(h:Ba t p=0):Wh p t=0∧Lc t 0 t.kids=0:=by
 rw [Vd] at h;split at h
 · rename_i h1;rw [h] at h1;cases h1
 rename_i h1;exact ⟨by simpa using h1,h⟩
theorem kI {t:Syn}:∀(l:List Syn) (i:Nat),Lc t i l=0→∀j a,l[j]? = some a→Ba a (Eh t (i+j))=0
  | [],i,_,j,a,h=>by simp at h
  | x::r,i,h,j,a,ha=>by
    rw [Lc] at h;split at h
    · rename_i h1;rw [h] at h1;cases h1
    · rename_i h1
      cases j with
      | zero=>rw [List.getElem?_cons_zero] at ha;cases ha;simpa using h1
      | succ j=>rw [List.getElem?_cons_succ] at ha;have:=kI r (i+1) h j a ha;rwa [show i+1+j=i+(j+1) by omega] at this
theorem Gg {p:Pl}{t:Syn}(h:Wh p t=0):p.at t.kind=true∧En t=true∧Tc t=true∧Dn t=0:=by
 unfold Wh at h;split at h
 · cases h
 split at h
 · cases h
 split at h
 · cases h
 rename_i h1 h2 h3;exact ⟨by simpa using h1,by simpa using h2,by simpa using h3,h⟩
theorem Fj {t:Syn}{p:Pl}(h:Ba t p=0){j:Nat}{a:Syn}(ha:t.kids[j]? = some a):Ba a (Eh t j)=0∧(Eh t j).at a.kind=true:=by
 have h1:=kI t.kids 0 (Gk h).2 j a ha;rw [Ie] at h1;exact ⟨h1,(Gg (Gk h1).1).1⟩
theorem Wl {k:Int}(h:Pl.at .exps k=true):13≤k∧k≤18:=by
 simp only [Pl.at,isExp,G2,Hi] at h;exact h
theorem Vf {k:Int}(h:Pl.at .pats k=true):5≤k∧k≤12:=by
 simp only [Pl.at,isPat,G2,Hi] at h;exact h
theorem E5 {n k:Int}(h:Pl.at (.only n) k=true):k=n:=by
 simpa [Pl.at] using h
theorem iV {t:Syn}{j:Nat}{k:Int}(h:(Eh t j).at k=true):1≤k∧k≤18:=by
 unfold Eh at h
 repeat' split at h
 all_goals first | (have:=E5 h;omega) | (have:=Wl h;omega) | (have:=Vf h;omega)

section
variable {t:Syn} {p:Pl}
theorem Yv (h:(t.kids.length:Int)=1):∃a,t.kids = [a]:=by
 match hk:t.kids with
 | []=>rw [hk] at h;cases h
 | [a]=>exact ⟨a,rfl⟩
 | a::b::r=>rw [hk] at h;simp only [Cj] at h;omega
theorem iT (h:(t.kids.length:Int)=2):∃a b,t.kids = [a,b]:=by
 match hk:t.kids with
 | []=>rw [hk] at h;cases h
 | [a]=>rw [hk] at h;simp only [Cj,Cw] at h;omega
 | [a,b]=>exact ⟨a,b,rfl⟩
 | a::b::c::r=>rw [hk] at h;simp only [Cj] at h;omega
theorem pM (hf:Dn t=0)(hk:t.kind=17):t.num=5∨t.num=6∨t.num=7∨t.num=8∨t.num=9∨t.num=10∨t.num=11:=by
 unfold Dn Ny at hf;rw [hk] at hf
 have hf2:(decide (t.num<5)||decide (11<t.num))=false:=by
  cases hq:(decide (t.num<5)||decide (11<t.num)) with
  | false=>rfl
  | true=>rw [hq] at hf;cases hf
 simp only [Ke,U8] at hf2;omega
theorem cH (hf:Dn t=0)(hk:t.kind=2):0≤t.num∧t.num≤2:=by
 unfold Dn Ny at hf;rw [hk] at hf
 have hf2:(decide (t.num<0)||decide (2<t.num))=false:=by
  cases hq:(decide (t.num<0)||decide (2<t.num)) with
  | false=>rfl
  | true=>rw [hq] at hf;cases hf
 simp only [Ke,U8] at hf2;omega
theorem dY (hf:Dn t=0)(hk:t.kind=16):1≤t.num∧t.num≤5:=by
 unfold Dn Ny at hf;rw [hk] at hf
 have hf2:(decide (t.num<1)||decide (5<t.num))=false:=by
  cases hq:(decide (t.num<1)||decide (5<t.num)) with
  | false=>rfl
  | true=>rw [hq] at hf;cases hf
 simp only [Ke,U8] at hf2;omega
theorem mJ (hf:Dn t=0)(hk:t.kind=11):0≤t.num∧t.num≤1099511627776:=by
 unfold Dn Ny at hf;rw [hk] at hf
 have hf2:(decide (t.num<0)||decide (1099511627776<t.num))=false:=by
  cases hq:(decide (t.num<0)||decide (1099511627776<t.num)) with
  | false=>rfl
  | true=>rw [hq] at hf;cases hf
 simp only [Ke,U8] at hf2;omega
theorem zK (hf:Dn t=0)(hk:t.kind≠13∧t.kind≠2∧t.kind≠16∧t.kind≠17∧t.kind≠11):t.num=0:=by
 obtain ⟨k1,k2,k3,k4,k5⟩:=hk;have e:∀k:Int,t.kind≠k→¬(t.kind==k)=true:=fun k h=>by simpa using h
 unfold Dn at hf;rw [if_neg (e _ k1)] at hf;split at hf
 · rename_i h1;rw [hf] at h1;cases h1
 rename_i h1;have h2:Ny t=0:=by simpa using h1
 unfold Ny at h2;rw [if_neg (e _ k2),if_neg (e _ k3),if_neg (e _ k4),if_neg (e _ k5)] at h2;split at h2
 · cases h2
 rename_i h3;simp only [N2,Hi,not_or] at h3;omega
theorem mO (hf:Dn t=0)(hk:t.kind=13) : -1099511627776≤t.num∧t.num≤1099511627776:=by
 unfold Dn at hf;rw [hk] at hf
 replace hf:Gl t=0:=hf
 unfold Gl at hf
 repeat' split at hf
 all_goals first
  | exact absurd hf (by decide)
  | (simp only [N2,Hi,not_or,Bool.not_eq_true,bne_eq_false_iff_eq] at *;omega)
end

theorem wrap_sm {n:Int}(h0 : -1000≤n)(h1:n≤1000):IntKind.i64.wrap n=n:=by
 unfold IntKind.wrap IntKind.signed IntKind.bits;simp only [↓reduceIte,K5,Hi,ge_iff_le];split <;> omega
mutual
def Fk:Syn→Nat
 | ⟨_,_,_,_,kids,_⟩=>1+E8 kids
def E8:List Syn→Nat
 | []=>0
 | x::r=>Fk x+E8 r
end
theorem E1 (t:Syn):Fk t=1+E8 t.kids:=by cases t;rw [Fk]
theorem Rs:∀l:List Syn,l.length≤E8 l
  | []=>Dh _
  | x::r=>by
    have:=Rs r;have h:=E1 x;rw [E8,Cj];omega
theorem eL:∀{l:List Syn} {a:Syn},a∈l→Fk a≤E8 l
  | x::r,a,h=>by
    rw [E8];rcases Hp.1 h with rfl | h
    · omega
    have:=eL h;omega
theorem H1 {t:Syn}(h:G0 t=true):t.text.length≤80∧t.name.length≤80∧Iu t≤200∧Sv t≤90∧Z2 t.kids=true:=by
 rw [gP] at h;split at h
 · cases h
 rename_i h1;simp only [N2,Hi,not_or] at h1;exact ⟨by omega,by omega,by omega,by omega,h⟩
theorem kH:∀{l:List Syn},Z2 l=true→∀a∈l,G0 a=true
  | x::r,h,a,ha=>by
    rw [Z2] at h;split at h
    · cases h
    · rename_i h1
      rcases Hp.1 ha with rfl | ha
      · simpa using h1
      exact kH h a ha
theorem Ks {t a:Syn}(h:G0 t=true)(ha:a∈t.kids):G0 a=true:=kH (H1 h).2.2.2.2 a ha
theorem Zg:∀(l:List Syn) (n:Int),(∀a∈l,Iu a=(Fk a:Int)∧Fk a≤200)→0≤n→I1 l n≤200→I1 l n=n+(E8 l:Int)
  | [],n,_,_,_=>by rw [I1,E8];simp
  | x::r,n,h,h0,h2=>by
    rw [I1] at h2 ⊢;split at h2
    · rename_i h1
      rw [if_pos h1];simp only [Hi] at h1;obtain ⟨e,hx⟩:=h x (So ..);have hw:IntKind.i64.wrap (n+Iu x)=n+(Fk x:Int):=by rw [e];exact wrap_sm (by omega) (by omega)
      rw [hw] at h2 ⊢;rw [Zg r _ (fun a ha=>h a (Pv _ ha)) (by omega) h2,E8];omega
    · rename_i h1
      simp only [Hi] at h1;omega
theorem Ya (t:Syn):G0 t=true→Iu t=(Fk t:Int)∧Fk t≤200:=by
 refine Syn.ind (P:=fun t=>G0 t=true→Iu t=(Fk t:Int)∧Fk t≤200) (fun t ih h=>?_) t;have hp:=H1 h;have e:=bZ t;have h3:=hp.2.2.1;rw [e] at h3;have h4:=Zg t.kids 1 (fun a ha=>ih a ha (Ks h ha)) (by omega) h3;have h5:=E1 t;rw [e];exact ⟨by omega,by omega⟩
theorem eQ {t:Syn}(h:G0 t=true):t.kids.length≤200:=by
 have h1:=(Ya t h).2;have h2:=Rs t.kids;rw [E1] at h1;omega
theorem kF {t:Syn}(h:G0 t=true):t.text.length≤1048576∧t.name.length≤1048576:=by
 have:=H1 h;exact ⟨by omega,by omega⟩
mutual
theorem U5:∀t:Syn,Gf t≤2*Fk t
  | ⟨k,_,_,_,kids,_⟩=>by
    have h:=Y2 k kids;rw [Gf,Fk];split <;> omega
theorem Y2 (k:Int):∀l:List Syn,Iz k l≤2*E8 l+1
  | []=>by rw [Iz];omega
  | x::r=>by
    have h1:=U5 x;have h2:=Y2 k r;have h3:=E1 x;rw [Iz,E8];split <;> omega
end
def Td (ws:List A1):Nat:=(ws.map List.length).sum
theorem N3 (x:A1)(r:List A1):Td (x::r)=x.length+Td r:=rfl
theorem Uv:∀ws:List A1,(Ci ws).length≤Td ws+2*ws.length
  | []=>by simp [Ci]
  | [x]=>by simp [Ci,Td]
  | x::y::r=>by
    have:=Uv (y::r);rw [Ci,N3];simp only [Cb,Cj,Cw] at this ⊢;omega
theorem iO:∀ws:List A1,(ws.getD 0 []).length+(ws.getD 1 []).length+(Ci (ws.drop 2)).length≤Td ws+2*ws.length
  | []=>by simp [Ci]
  | [x]=>by simp [Ci,Td]
  | x::y::r=>by
    have:=Uv r;simp only [List.getD_cons_zero,List.getD_cons_succ,List.drop_succ_cons,Sj,N3,Cj];omega
theorem Zq:∀ws:List A1,ws.flatten.length=Td ws
 | []=>rfl
 | x::r=>by rw [Cv,Cb,Zq r,N3]
theorem L1 (p k:Syn)(s:A1):(E2 p k s).length≤s.length+2:=by
 unfold E2;split
 · simp only [Cb,Cj,Cw];omega
 omega
theorem uK (c:UInt8):(Mg c).length≤4:=by
 unfold Mg;split
 · simp
 split <;> simp
theorem Tn:∀s:A1,(Ei s).length≤4*s.length
  | []=>by simp [Ei]
  | c::r=>by
    have h1:=Tn r;have h2:=uK c;rw [Ei];simp only [Cb,Cj];omega
theorem lit_len {t:Syn}(hi : -1099511627776≤t.num∧t.num≤1099511627776)(hx:t.text.length≤80):(Lg t).length≤330:=by
 unfold Lg;split
 · have:=Lib.itoa_length_le t.num (by omega) (by omega);omega
 split
 · split <;> decide
 unfold Lz;split
 · simp
 have:=Tn t.text;simp only [Cb,Cj,Cw];omega
theorem Vw:(∀n,(J6 n).length≤8)∧(∀n,(Nl n).length≤8)∧(∀n,(Hs n).length≤8)∧(∀n,(Lb n).length≤8):=by
 refine ⟨fun n=>?_,fun n=>?_,fun n=>?_,fun n=>?_⟩
 ·
  unfold J6;repeat' split
  all_goals decide
 ·
  unfold Nl;repeat' split
  all_goals decide
 ·
  unfold Hs;repeat' split
  all_goals decide
 unfold Lb;repeat' split
 all_goals decide
theorem Dk {c:Prop}[Decidable c]{a b:A1}{n:Nat}(ha:a.length≤n)(hb:b.length≤n):(if c then a else b).length≤n:=by split <;> assumption
theorem vJ {t:Syn}{ws:List A1}(hi : -1099511627776≤t.num∧t.num≤1099511627776)(hx:t.text.length≤80)(hn:t.name.length≤80)(h0:(Bb t 0).text.length≤80):(Df t ws).length≤Td ws+2*ws.length+400:=by
 have h1:=Uv ws;have h2:=iO ws;have h3:=Zq ws;have h4:=lit_len hi hx;obtain ⟨w1,w2,w3,w4⟩:=Vw;have k1:=w1 t.num;have k2:=w2 t.num;have k3:=w3 t.num;have k4:=w4 t.kind;have h5:=Lib.itoa_length_le t.num (by omega) (by omega);have r0:=L1 t (Bb t 0) (ws.getD 0 []);have r1:=L1 t (Bb t 1) (ws.getD 1 []);unfold Df;refine Dk (by omega) (Dk ?_ (Dk ?_ (Dk ?_ (Dk ?_ (Dk (by omega) (Dk ?_ (Dk ?_ (Dk ?_ (Dk ?_ (Dk ?_ ?_))))))))))
 ·
  have:(if (ws == [])=true then [] else [32]++Ci ws ++ [32]:A1).length≤(Ci ws).length+2:=Dk (by simp) (by simp);simp only [Cb,Cj,Cw] at this ⊢;omega
 · simp only [Cb,Cj,Cw];omega
 ·
  have:(if ((Bb t 0).text == [])=true then [] else [32]++aT ++ [32]++(Bb t 0).text:A1).length≤90:=Dk (by simp) (by simp only [Cb,Cj,Cw];omega);simp only [Cb,Cj,Cw] at this ⊢;omega
 ·
  have:(if (ws == [])=true then [] else [32]++Xh ++ [32]++ws.getD 0 []:A1).length≤(ws.getD 0 []).length+6:=Dk (by simp) (by simp only [Cb,Cj,Cw];omega);simp only [Cb,Cj,Cw] at this ⊢;omega
 · simp only [Cb,Cj,Cw];omega
 · simp only [Cb,Cj,Cw];omega
 ·
  have:(if (ws == [])=true then [] else [44,32]++ws.getD 0 []:A1).length≤(ws.getD 0 []).length+2:=Dk (by simp) (by simp only [Cb,Cj,Cw];omega);simp only [Cb,Cj,Cw] at this ⊢;omega
 · simp only [Cb,Cj,Cw];omega
 · simp only [Cb,Cj,Cw];omega
 have:(if (t.kind==11)=true then [44,32]++Lib.itoa t.num else []:A1).length≤30:=Dk (by simp only [Cb,Cj,Cw];omega) (by simp);simp only [Cb,Cj,Cw] at this ⊢;omega
theorem aK {t:Syn}{p:Pl}(h:Ba t p=0) : -1099511627776≤t.num∧t.num≤1099511627776:=by
 obtain ⟨_,_,_,hf⟩:=Gg (Gk h).1;by_cases k1:t.kind=13
 · exact mO hf k1
 by_cases k2:t.kind=2
 · have:=cH hf k2;omega
 by_cases k3:t.kind=16
 · have:=dY hf k3;omega
 by_cases k4:t.kind=17
 · have:=pM hf k4;omega
 by_cases k5:t.kind=11
 · have:=mJ hf k5;omega
 have:=zK hf ⟨k1,k2,k3,k4,k5⟩;omega
theorem uF {t:Syn}(h:G0 t=true):(Bb t 0).text.length≤80:=by
 unfold Bb;rw [Nv];cases hq:t.kids[0]? with
 | none=>simp [Oy]
 | some a=>exact (H1 (Ks h (B6 hq))).1
theorem tH (t:Syn):∀p,Ba t p=0→G0 t=true→(Ah t).length+2≤500*Fk t:=by
  refine Syn.ind (P:=fun t=>∀p,Ba t p=0→G0 t=true→(Ah t).length+2≤500*Fk t) (fun t ih p h hf=>?_) t;have hp:=H1 hf;rw [Dd];have h1:=vJ (ws:=t.kids.map Ah) (aK h) hp.1 hp.2.1 (uF hf)
  have h2:Td (t.kids.map Ah)+2*t.kids.length≤500*E8 t.kids:=by
    have key:∀l:List Syn,(∀a∈l,(Ah a).length+2≤500*Fk a)→Td (l.map Ah)+2*l.length≤500*E8 l:=by
      intro l
      induction l with
      | nil=>intro _;simp [Td]
      | cons x r ihl=>
        intro hl;have h3:=hl x (So ..);have h4:=ihl fun a ha=>hl a (Pv _ ha)
        rw [E7,N3,E8,Cj];omega
    refine key _ fun a ha=>?_
    obtain ⟨j,hj⟩:=lI.1 ha;exact ih a ha _ (Fj h hj).1 (Ks hf ha)
  have h3:=Rs t.kids;have h4:=E1 t;rw [D9] at h1;omega
mutual
def wC:Syn→Nat
 | ⟨_,x,n,_,kids,_⟩=>1+x.length+n.length+wL kids
def wL:List Syn→Nat
 | []=>0
 | x::r=>wC x+wL r
end
theorem dG (t:Syn):wC t=1+t.text.length+t.name.length+wL t.kids:=by cases t;rw [wC]
theorem rT:∀{l:List Syn} {a:Syn},a∈l→wC a≤wL l
  | x::r,a,h=>by
    rw [wL];rcases Hp.1 h with rfl | h
    · omega
    have:=rT h;omega
mutual
theorem cnt_w:∀t:Syn,Fk t≤wC t
  | ⟨_,x,n,_,kids,_⟩=>by
    have:=oG kids;rw [Fk,wC];omega
theorem oG:∀l:List Syn,E8 l≤wL l
  | []=>by rw [E8,wL];exact C6 _
  | x::r=>by
    have h1:=cnt_w x;have h2:=oG r;rw [E8,wL];omega
end
def Es (t:Syn):Prop:=wC t≤1000000
theorem C4 {t a:Syn}(h:Es t)(ha:a∈t.kids):Es a:=by
 have h1:=rT ha;have h2:=dG t;unfold Es at h ⊢;omega
theorem iM {t:Syn}(h:Es t):t.text.length≤1048576∧t.name.length≤1048576:=by
 have h2:=dG t;unfold Es at h;exact ⟨by omega,by omega⟩
theorem He {t:Syn}(h:Es t):Fk t≤1000000:=Lq (cnt_w t) h
theorem E3 {t:Syn}(h:Es t):t.kids.length≤1000000:=by
 have h1:=He h;have h2:=Rs t.kids;rw [E1] at h1;omega
theorem few_w (t:Syn):G0 t=true→wC t≤161*Fk t:=by
  refine Syn.ind (P:=fun t=>G0 t=true→wC t≤161*Fk t) (fun t ih h=>?_) t;have hp:=H1 h
  have key:∀l:List Syn,(∀a∈l,wC a≤161*Fk a)→wL l≤161*E8 l:=by
    intro l
    induction l with
    | nil=>intro _;rw [wL];exact Dh _
    | cons x r ihl=>
      intro hl;have h3:=hl x (So ..);have h4:=ihl fun a ha=>hl a (Pv _ ha)
      rw [wL,E8];omega
  have h1:=key t.kids fun a ha=>ih a ha (Ks h ha)
  have h2:=dG t;have h3:=E1 t;omega
theorem few_big {t:Syn}(h:G0 t=true):wC t≤32200:=by
 have h1:=few_w t h;have h2:=(Ya t h).2;omega
theorem Og {t:Syn}(h:G0 t=true):Es t:=by
 have:=few_big h;unfold Es;omega
theorem zI {t:Syn}{B:Nat}(hi : -1099511627776≤t.num∧t.num≤1099511627776)(hx:t.text.length≤B):(Lg t).length≤4*B+30:=by
 unfold Lg;split
 · have:=Lib.itoa_length_le t.num (by omega) (by omega);omega
 split
 ·
  split
  · show (4:Nat)≤_;omega
  show (5:Nat)≤_;omega
 unfold Lz;split
 · simp
 have:=Tn t.text;simp only [Cb,Cj,Cw];omega
theorem tA {t:Syn}{ws:List A1}{B:Nat}(hi : -1099511627776≤t.num∧t.num≤1099511627776)(hx:t.text.length≤B)(hn:t.name.length≤B)(h0:(Bb t 0).text.length≤B):(Df t ws).length≤Td ws+2*ws.length+(4*B+60):=by
 have h1:=Uv ws;have h2:=iO ws;have h3:=Zq ws;have h4:=zI hi hx;obtain ⟨w1,w2,w3,w4⟩:=Vw;have k1:=w1 t.num;have k2:=w2 t.num;have k3:=w3 t.num;have k4:=w4 t.kind;have h5:=Lib.itoa_length_le t.num (by omega) (by omega);have r0:=L1 t (Bb t 0) (ws.getD 0 []);have r1:=L1 t (Bb t 1) (ws.getD 1 []);have q1:Ln.length=4:=rfl;have q2:Hr.length=5:=rfl;have q3:aT.length=2:=rfl;have q4:Ij.length=5:=rfl;have q5:Hw.length=6:=rfl;have q6:Xh.length=2:=rfl;have q7:aJ.length=5:=rfl;have q8:Ww.length=3:=rfl;unfold Df;refine Dk (by omega) (Dk ?_ (Dk ?_ (Dk ?_ (Dk ?_ (Dk (by omega) (Dk ?_ (Dk ?_ (Dk ?_ (Dk ?_ (Dk ?_ ?_))))))))))
 ·
  have:(if (ws == [])=true then [] else [32]++Ci ws ++ [32]:A1).length≤(Ci ws).length+2:=Dk (by simp) (by simp);simp only [Cb,Cj,Cw] at this ⊢;omega
 · simp only [Cb,Cj,Cw];omega
 ·
  have:(if ((Bb t 0).text == [])=true then [] else [32]++aT ++ [32]++(Bb t 0).text:A1).length≤B+4:=Dk (by simp) (by simp only [Cb,Cj,Cw];omega);simp only [Cb,Cj,Cw] at this ⊢;omega
 ·
  have:(if (ws == [])=true then [] else [32]++Xh ++ [32]++ws.getD 0 []:A1).length≤(ws.getD 0 []).length+6:=Dk (by simp) (by simp only [Cb,Cj,Cw];omega);simp only [Cb,Cj,Cw] at this ⊢;omega
 · simp only [Cb,Cj,Cw];omega
 · simp only [Cb,Cj,Cw];omega
 ·
  have:(if (ws == [])=true then [] else [44,32]++ws.getD 0 []:A1).length≤(ws.getD 0 []).length+2:=Dk (by simp) (by simp only [Cb,Cj,Cw];omega);simp only [Cb,Cj,Cw] at this ⊢;omega
 · simp only [Cb,Cj,Cw];omega
 · simp only [Cb,Cj,Cw];omega
 have:(if (t.kind==11)=true then [44,32]++Lib.itoa t.num else []:A1).length≤30:=Dk (by simp only [Cb,Cj,Cw];omega) (by simp);simp only [Cb,Cj,Cw] at this ⊢;omega
theorem mI {B:Nat}(t:Syn):∀p,Ba t p=0→wC t≤B→(Ah t).length+2≤(4*B+64)*Fk t:=by
  refine Syn.ind (P:=fun t=>∀p,Ba t p=0→wC t≤B→(Ah t).length+2≤(4*B+64)*Fk t) (fun t ih p h hf=>?_) t;have hw:=dG t
  have hk0:(Bb t 0).text.length≤B:=by
    unfold Bb;rw [Nv];cases hq:t.kids[0]? with
    | none=>simp [Oy]
    | some a=>
      have h3:=rT (B6 hq);have h4:=dG a;show a.text.length≤B;omega
  rw [Dd];have h1:=tA (B:=B) (ws:=t.kids.map Ah) (aK h) (by omega) (by omega) hk0
  have h2:Td (t.kids.map Ah)+2*t.kids.length≤(4*B+64)*E8 t.kids:=by
    have key:∀l:List Syn,(∀a∈l,(Ah a).length+2≤(4*B+64)*Fk a)→Td (l.map Ah)+2*l.length≤(4*B+64)*E8 l:=by
      intro l
      induction l with
      | nil=>intro _;simp [Td]
      | cons x r ihl=>
        intro hl;have h3:=hl x (So ..);have h4:=ihl fun a ha=>hl a (Pv _ ha)
        have h5:=Nat.mul_add (4*B+64) (Fk x) (E8 r);rw [E7,N3,E8,Cj];omega
    refine key _ fun a ha=>?_
    obtain ⟨j,hj⟩:=lI.1 ha;exact ih a ha _ (Fj h hj).1 (Lq (rT ha) (by omega))
  have h4:=E1 t;rw [D9] at h1;rw [h4,Nat.mul_add];omega
theorem med_big {t:Syn}{p:Pl}(h:Ba t p=0)(hf:Es t):(Ah t).length≤10000000000000:=by
 have h1:=mI (B:=1000000) t p h hf;have h2:(4*1000000+64)*Fk t≤(4*1000000+64)*1000000:=Nat.mul_le_mul_left _ (He hf);omega
structure RvOK (T:List e8Sc) (V:List Va):Prop where
 tl:T.length≤1048576
 fl:∀s∈T,s.fields.length≤1048576
 vl:V.length≤1048576
 ty:∀v∈V,0≤v.type∧v.type<(T.length:Int)
theorem Rr {T:List e8Sc}{V:List Va}(h:RvOK T V){v:Va}(hv:v∈V):∃sc,T[v.type.toNat]? = some sc:=by
 have:=h.ty v hv;exact ⟨_,List.getElem?_eq_getElem (show v.type.toNat<T.length by omega)⟩
theorem Ka {l:List A1}{n:A1}(h:l.contains n=true):0≤M4 l n∧M4 l n<(l.length:Int):=by
 unfold M4;rw [if_pos h];have:=List.idxOf_lt_length_iff.2 (List.contains_iff_mem.1 h);omega
theorem fF {V:List Va}{n:A1}(h:(Fq V).contains n=true):∃va,V[(M4 (Fq V) n).toNat]? = some va:=by
 have:=Ka h;rw [D9] at this;exact ⟨_,List.getElem?_eq_getElem (show (M4 (Fq V) n).toNat<V.length by omega)⟩
theorem gF {T:List e8Sc}{V:List Va}{v:Int}{va:Va}{sc:e8Sc}(h:V[v.toNat]? = some va)(hs:T[va.type.toNat]? = some sc):nL T V v=sc:=by
 unfold nL;rw [h];show (T[va.type.toNat]?).getD sc0=sc;rw [hs];rfl
section
variable {T:List e8Sc} {V:List Va} {t:Syn}
theorem fJ (h:(((t.kind != 14)&&(t.kind != 15))&&(t.kind != 16))=true):Hn T V t=Mt:=if_pos h
theorem aZ (h:(((t.kind != 14)&&(t.kind != 15))&&(t.kind != 16))=false):Hn T V t=if !((Fq V).contains t.text) then ⟨t.pos,8⟩ else if (t.kind==15)||((t.kind==14)&&(t.name==E6)) then Mt else if decide (Gj (nL T V (M4 (Fq V) t.text)) t.name<0) then ⟨t.pos,6⟩ else Mt:=Bi h
theorem look_2 (h:(((t.kind != 14)&&(t.kind != 15))&&(t.kind != 16))=false)(h2:(!((Fq V).contains t.text))=true):Hn T V t=⟨t.pos,8⟩:=(aZ h).trans (if_pos h2)
theorem mC (h:(((t.kind != 14)&&(t.kind != 15))&&(t.kind != 16))=false)(h2:(!((Fq V).contains t.text))=false)(h3:((t.kind==15)||((t.kind==14)&&(t.name==E6)))=true):Hn T V t=Mt:=(aZ h).trans ((Bi h2).trans (if_pos h3))
theorem wW (h:(((t.kind != 14)&&(t.kind != 15))&&(t.kind != 16))=false)(h2:(!((Fq V).contains t.text))=false)(h3:((t.kind==15)||((t.kind==14)&&(t.name==E6)))=false)(h4:decide (Gj (nL T V (M4 (Fq V) t.text)) t.name<0)=true):Hn T V t=⟨t.pos,6⟩:=(aZ h).trans ((Bi h2).trans ((Bi h3).trans (if_pos h4)))
theorem uW (h:(((t.kind != 14)&&(t.kind != 15))&&(t.kind != 16))=false)(h2:(!((Fq V).contains t.text))=false)(h3:((t.kind==15)||((t.kind==14)&&(t.name==E6)))=false)(h4:decide (Gj (nL T V (M4 (Fq V) t.text)) t.name<0)=false):Hn T V t=Mt:=(aZ h).trans ((Bi h2).trans ((Bi h3).trans (Bi h4)))
theorem oI (h:((Hn T V t).err != 0)=true):D0 T V t=Hn T V t:=(Zp T V t).trans (if_pos h)
theorem Vr (h:((Hn T V t).err != 0)=false):D0 T V t=La (D0 T V) t.kids:=(Zp T V t).trans (Bi h)
theorem dH {f:Syn→Fa}:∀{l:List Syn},(La f l).err=0→∀a∈l,(f a).err=0
  | [],_,a,ha=>by cases ha
  | x::r,h,a,ha=>by
    rw [La] at h;by_cases hx:(f x).err=0
    · rw [if_neg (by simp [hx])] at h
      rcases Hp.1 ha with rfl | ha
      · exact hx
      exact dH h a ha
    rw [if_pos (by simpa using hx)] at h;exact absurd h hx
theorem Eb (h:(D0 T V t).err=0):(Hn T V t).err=0∧∀a∈t.kids,(D0 T V a).err=0:=by
 rw [Zp] at h;by_cases hx:(Hn T V t).err=0
 · rw [if_neg (by simp [hx])] at h;exact ⟨hx,dH h⟩
 rw [if_pos (by simpa using hx)] at h;exact absurd h hx
theorem Ro (h:(Hn T V t).err=0)(hk:t.kind=14∨t.kind=15∨t.kind=16):(Fq V).contains t.text=true:=by
 have h0:(((t.kind != 14)&&(t.kind != 15))&&(t.kind != 16))=false:=by rcases hk with h | h | h <;> simp [h]
 rw [aZ h0] at h;cases hc:(Fq V).contains t.text with
 | true=>rfl
 | false=>rw [hc,if_pos (by decide)] at h;cases h
theorem oU {xs:List Ex}(h1:(t.kind==13)=true):Ng T V t xs=⟨0,[],0,0,0,Wo t⟩:=if_pos h1
theorem pB {xs:List Ex}(h1:(t.kind==13)=false)(h2:(t.kind==14)=true)(h3:(t.name==E6)=true):Ng T V t xs=⟨2,[],M4 (Fq V) t.text,0,0,v0⟩:=(Bi h1).trans ((if_pos h2).trans (if_pos h3))
theorem rK {xs:List Ex}{sc:e8Sc}(h1:(t.kind==13)=false)(h2:(t.kind==14)=true)(h3:(t.name==E6)=false)(hs:nL T V (M4 (Fq V) t.text)=sc):Ng T V t xs=⟨1,[],M4 (Fq V) t.text,Gj sc t.name,0,v0⟩:=by subst hs;exact (Bi h1).trans ((if_pos h2).trans (Bi h3))
theorem qQ {xs:List Ex}(h1:(t.kind==13)=false)(h2:(t.kind==14)=false)(h4:(t.kind==15)=true):Ng T V t xs=⟨3,[],M4 (Fq V) t.text,0,0,v0⟩:=(Bi h1).trans ((Bi h2).trans (if_pos h4))
theorem pF {xs:List Ex}{sc:e8Sc}(h1:(t.kind==13)=false)(h2:(t.kind==14)=false)(h4:(t.kind==15)=false)(h5:(t.kind==16)=true)(hs:nL T V (M4 (Fq V) t.text)=sc)(h6:decide ((0:Int)<(t.kids.length:Int))=true) :
  Ng T V t xs=⟨4,[],M4 (Fq V) t.text,Gj sc t.name,t.num,Wo (Bb t 0)⟩:=by
 subst hs;refine (Bi h1).trans ((Bi h2).trans ((Bi h4).trans ((if_pos h5).trans ?_)));rw [if_pos h6]
theorem rE {xs:List Ex}{sc:e8Sc}(h1:(t.kind==13)=false)(h2:(t.kind==14)=false)(h4:(t.kind==15)=false)(h5:(t.kind==16)=true)(hs:nL T V (M4 (Fq V) t.text)=sc)(h6:decide ((0:Int)<(t.kids.length:Int))=false) :
  Ng T V t xs=⟨4,[],M4 (Fq V) t.text,Gj sc t.name,t.num,v0⟩:=by
 subst hs;refine (Bi h1).trans ((Bi h2).trans ((Bi h4).trans ((if_pos h5).trans ?_)));rw [Bi h6]
theorem qA {xs:List Ex}(h1:(t.kind==13)=false)(h2:(t.kind==14)=false)(h4:(t.kind==15)=false)(h5:(t.kind==16)=false)(h7:(t.kind==18)=true):Ng T V t xs=⟨12,xs,0,0,0,v0⟩:=(Bi h1).trans ((Bi h2).trans ((Bi h4).trans ((Bi h5).trans (if_pos h7))))
theorem qK {xs:List Ex}(h1:(t.kind==13)=false)(h2:(t.kind==14)=false)(h4:(t.kind==15)=false)(h5:(t.kind==16)=false)(h7:(t.kind==18)=false):Ng T V t xs=⟨t.num,xs,0,0,0,v0⟩:=(Bi h1).trans ((Bi h2).trans ((Bi h4).trans ((Bi h5).trans (Bi h7))))
end
end Go.Proofs.YtckhoadldibflaaGreatDoor

namespace Go.Aw
section
variable {P:Program} {T:List (Nat×TD)} {d:Option Nat} {ty:TypeId} {pos:String} {aft:Array Edge} {gd:Option (Nat×Bool)} {ρ:Operand→AV}
def bufsOne (H:List HO):Prop:=∀v es E z,HO.buf v es E z∈H→v.oneCell'=true
theorem B5.front3 {f:FuncId}{args:List AV}{H R:List HO}{Q:AV→List HO→Prop}{o1 o2 o3:HO}(k3 k2 k1:Nat)(hk3:H[k3]? = some o3)(hk2:(H.eraseIdx k3)[k2]? = some o2)(hk1:((H.eraseIdx k3).eraseIdx k2)[k1]? = some o1)(hR:((H.eraseIdx k3).eraseIdx k2).eraseIdx k1=R)
  (h:B5 P f (o1::o2::o3::R) args Q):B5 P f H args Q:=by
 subst hR;refine h.perm ?_;have h1:=Jc hk3;have h2:=Jc hk2;have h3:=Jc hk1;refine h1.trans ((h2.cons o3).trans (((h3.cons o2).cons o3).trans ?_));exact (List.Perm.swap o2 o3 _).trans (((List.Perm.swap o1 o3 _).cons o2).trans (List.Perm.swap o1 o2 _))
end
end Go.Aw
