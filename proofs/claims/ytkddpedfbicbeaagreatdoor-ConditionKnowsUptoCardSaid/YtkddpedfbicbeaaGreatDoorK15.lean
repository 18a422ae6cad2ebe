/-
  Several texts in one: Y2, Y14, Y15. No condition.
-/
import Derived.Test.YtkddpedfbicbeaaGreatDoorK01
import Derived.Test.YtkddpedfbicbeaaGreatDoorK02
import Derived.Test.YtkddpedfbicbeaaGreatDoorK04
import Derived.KernelRfl
import Derived.Test.YtkddpedfbicbeaaGreatDoorK08
import Derived.Test.YtkddpedfbicbeaaGreatDoorK14
import Derived.Test.YtkddpedfbicbeaaGreatDoorK12
import Derived.Test.YtkddpedfbicbeaaGreatDoorK09
namespace Go.Proofs.YtkddpedfbicbeaaGreatDoor
open Go Go.Aw
set_option maxHeartbeats 3200000
set_option maxRecDepth 20000
set_option linter.unusedVariables false
set_option linter.unusedSimpArgs false

theorem d_vcheck (k n:Int)(t:List UInt8):APure Tryz.prog 143 [.agg [.int .i64 k,.int .i64 n,.str t]] (.int .i64 (vcheckS ⟨k,n,t⟩)):=c94 ⟨k,n,t⟩
theorem d_read (e:Ex)(ev:Ev)(hf:(e.op == 1)=true→0≤e.field)(hl:ev.values.length≤1048576):APure Tryz.prog 99 [.agg (cE e),.agg (cEv ev)] (.tuple [.agg (cV (readE e ev).1),.int .i64 (readE e ev).2]):=by
 refine APure.body (n:=29) tok Tryz.func99 rfl rfl rfl fun H=>?_
 refine Qsr (Qp Qbe ?_)
 refine Qp (Qbx [.int .i64 _,.int .i64 _,.int .i64 _,.int .i64 _,_]) ?_
 refine Qe (E_alloc (l:=[.int .i64 0,.int .i64 0,.str []]) (by kernel_rfl)) ?_
 rintro _ _ ⟨b4,rfl,rfl⟩
 refine Qp Qai ?_
 refine Qns (Qp (Qf [.int .i64 _,_]) ?_)
 refine Qp Qli ?_
 refine Qp (Qbd [.int .i64 _,.int .i64 _,.str _]) ?_
 refine Qe (E_alloc (l:=[.int .i64 0,.int .i64 0,.str []]) (by kernel_rfl)) ?_
 rintro _ _ ⟨b6,rfl,rfl⟩
 refine Qe (E_store (k:=0) (v:=.agg _) (cs':=[.int .i64 _,.int .i64 _,.str _]) (H2:=_::_::_) tok rfl rfl rfl rfl (rfl) rfl rfl rfl rfl) ?_
 rintro _ _ ⟨rfl,rfl⟩
 refine Qnn (AW.seq (Qsr (Qp Qf0 ?_)))
 refine Qp Qli ?_
 refine Qp Qceq ?_
 refine Qnn (Qif (fun hc1=>?_) fun hc1=>?_)
 ·
  have hf0:=hf hc1
  refine AW.seq (Qsr (Qp Qf3 ?_))
  refine Qp Qli ?_
  refine Qp (Qf [_]) ?_
  refine Qp Qls ?_
  refine Qp (P_len_sl (n:=ev.values.length) tok rfl rfl rfl (by simp)) ?_
  refine Qp Qcgq ?_
  refine Qnn (Qif (fun hc2=>?_) fun hc2=>?_)
  ·
   refine Qsr ?_
   refine AOL.pk (P_load_box_agg (k:=0) (l:=[.int .i64 _,.int .i64 _,.str _]) tok rfl rfl rfl rfl rfl) rfl rfl ?_
   refine Qe (E_store (k:=1) (v:=.agg _) (cs':=[.int .i64 _,.int .i64 _,.str _]) (H2:=_::_::_) tok rfl rfl rfl rfl (rfl) rfl rfl rfl rfl) ?_
   rintro _ _ ⟨rfl,rfl⟩
   refine Qp Qai ?_
   refine Qnn (Qrt (thenR ?_))
   refine ⟨.inr rfl,[.agg [.int .i64 _,.int .i64 _,.str _],.int .i64 _],.cons (.box _ _ _ 1 _ _ _ _ rfl rfl rfl rfl rfl rfl) <| .cons (.tmp _ _ rfl) <| .nil,.cons _ (.cons _ (.refl _)),?_⟩
   exact Eq.trans rfl (congrArg (fun q:Vl×Int=>AV.tuple [.agg (cV q.1),.int .i64 q.2]) (readE_off hc1 hc2)).symm
  ·
   refine (some_off hf0 hc2).elim fun v hvv=>?_
   refine Qst (AW.region (Qp (Qf [_]) ?_))
   refine Qp Qls ?_
   refine Qp Qf3 ?_
   refine Qp Qli ?_
   refine Qp (P_indexAddr (c:=[.int .i64 _,.int .i64 _,.str _]) tok rfl rfl rfl rfl rfl rfl (by omega) (map_at hvv)) ?_
   refine Qp (Qlg [.int .i64 _,.int .i64 _,.str _]) ?_
   refine Qe (E_store (k:=0) (v:=.agg _) (cs':=[.int .i64 _,.int .i64 _,.str _]) (H2:=_::_::_) tok rfl rfl rfl rfl (rfl) rfl rfl rfl rfl) ?_
   rintro _ _ ⟨rfl,rfl⟩
   refine Qnn (AW.seq ?_)
   refine AW.draw mixed (fun H'=>_∈H') (List.mem_of_getElem? (i:=0) rfl) (by kernel_rfl) ?_
   refine Qn 0 rfl (OpP.mem (fun k=>P_load_box_agg (k:=k) (l:=[.int .i64 _,.int .i64 _,.str _]) tok rfl rfl rfl rfl rfl) (fun _ h=>h)) ?_
   refine Qn 1 rfl (OpP.mem (fun k=>P_load_box_agg (k:=k) (l:=[.int .i64 _,.int .i64 _,.str _]) tok rfl rfl rfl rfl rfl) (fun _ h=>h)) ?_
   refine Qn 2 rfl (Qc rfl (d_vcheck _ _ _)) ?_
   refine Canon.eff _ _ 3 _ _ rfl (by kernel_rfl) rfl rfl (E_store (k:=1) (v:=.agg _) (cs':=[.int .i64 _,.int .i64 _,.str _]) (H2:=_::_::_) tok rfl rfl rfl rfl (rfl) rfl rfl rfl rfl) (by rintro _ _ ⟨rfl,rfl⟩;simp) ?_
   rintro _ _ ⟨rfl,rfl⟩
   refine Qn 4 rfl Qai ?_
   refine Canon.done _ _ (by kernel_rfl) ?_
   refine thenN (AW.ret ?_)
   refine ⟨.inr rfl,[.agg [.int .i64 _,.int .i64 _,.str _],.int .i64 _],.cons (.box _ _ _ 1 _ _ _ _ rfl rfl rfl rfl rfl rfl) <| .cons (.tmp _ _ rfl) <| .nil,.cons _ (.cons _ (.refl _)),?_⟩
   exact Eq.trans rfl (congrArg (fun q:Vl×Int=>AV.tuple [.agg (cV q.1),.int .i64 q.2]) (readE_at hc1 hc2 hvv)).symm
 ·
  refine Qst (AW.seq ?_)
  refine AW.draw mixed (fun H'=>_∈H') (List.mem_of_getElem? (i:=0) rfl) (by kernel_rfl) ?_
  refine Qn 0 rfl (OpP.mem (fun k=>P_load_box_agg (k:=k) (l:=[.int .i64 _,.int .i64 _,.str _]) tok rfl rfl rfl rfl rfl) (fun _ h=>h)) ?_
  refine Qn 1 rfl (OpP.mem (fun k=>P_load_box_agg (k:=k) (l:=[.int .i64 _,.int .i64 _,.str _]) tok rfl rfl rfl rfl rfl) (fun _ h=>h)) ?_
  refine Qn 2 rfl (Qc rfl (d_vcheck _ _ _)) ?_
  refine Canon.eff _ _ 3 _ _ rfl (by kernel_rfl) rfl rfl (E_store (k:=1) (v:=.agg _) (cs':=[.int .i64 _,.int .i64 _,.str _]) (H2:=_::_::_) tok rfl rfl rfl rfl (rfl) rfl rfl rfl rfl) (by rintro _ _ ⟨rfl,rfl⟩;simp) ?_
  rintro _ _ ⟨rfl,rfl⟩
  refine Qn 4 rfl Qai ?_
  refine Canon.done _ _ (by kernel_rfl) ?_
  refine thenN (AW.ret ?_)
  refine ⟨.inr rfl,[.agg [.int .i64 _,.int .i64 _,.str _],.int .i64 _],.cons (.box _ _ _ 1 _ _ _ _ rfl rfl rfl rfl rfl rfl) <| .cons (.tmp _ _ rfl) <| .nil,.cons _ (.cons _ (.refl _)),?_⟩
  exact Eq.trans rfl (congrArg (fun q:Vl×Int=>AV.tuple [.agg (cV q.1),.int .i64 q.2]) (readE_time hc1)).symm
theorem d_known (vars:List (List Ev))(hv:vars.length≤1048576)(hx:∀l∈vars,l.length≤1048576)(hy:∀l∈vars,∀v∈l,v.values.length≤1048576)(e:Ex)(hn:nodesS e=0)(hs:sizeN e≤1048576):APure Tryz.prog 61 [.agg (cE e),.agg (cEnv vars)] (.tuple [.agg (cE (knownE vars e).1),.int .i64 (knownE vars e).2]):=by
 revert hn hs
 induction e using Ex.ind
 rename_i e ih
 intro hn hs
 have hz:=nodes_zero hn
 have hal:=args_le e hs
 refine APure.body (n:=86) tok Tryz.func61 rfl rfl rfl fun H=>?_
 refine Qsr (Qe (E_box (v:=.agg _) (cs:=[.int .i64 _,_,.int .i64 _,.int .i64 _,.int .i64 _,.int .i64 _,.int .i64 _,.str _]) rfl rfl (rfl)) ?_)
 rintro _ _ ⟨b2,rfl,rfl⟩
 refine Qp (Qbx [_]) ?_
 refine Qe (E_alloc (l:=[.int .i64 0,.sl 8 [],.int .i64 0,.int .i64 0,.int .i64 0,.int .i64 0,.int .i64 0,.str []]) (by kernel_rfl)) ?_
 rintro _ _ ⟨b4,rfl,rfl⟩
 refine Qp Qai ?_
 refine Qnn (AW.seq (Qsr (Qp Qfv ?_)))
 refine AOL.pk (P_load_box (k:=1) (c:=.int .i64 _) tok rfl rfl rfl rfl) rfl rfl ?_
 refine Qp Qceq ?_
 refine Qp Qmb ?_
 refine Qg [] Qw Qfv ?_
 refine AOL.gk (y:=.int .i64 _) _ [(18,_)] rfl (EntL.all ⟨Ent.self _ _,trivial⟩) (fun hG=>P_load_box (k:=1) (c:=.int .i64 _) tok rfl rfl rfl rfl) rfl rfl ?_
 refine Qg [(19,_)] Qw Qceq ?_
 refine Qp Qpo ?_
 refine Qnn (Qif (fun hc1=>?_) fun hc1=>?_)
 ·
  have hv0:=var_nonneg hz.1 hc1
  have hf:(e.op == 1)=true→0≤e.field:=fun h=>field_nonneg hz.1 (eq_of_beq h)
  refine AW.seq (Qsr (Qp Qfv ?_))
  refine AOL.pk (P_load_box (k:=1) (c:=.int .i64 _) tok rfl rfl rfl rfl) rfl rfl ?_
  refine Qp (Qf [_]) ?_
  refine Qp Qls ?_
  refine Qp (P_len_sl (n:=vars.length) tok rfl rfl rfl (by simp)) ?_
  refine Qp Qcgq ?_
  refine Qp Qmb ?_
  refine Qg [] Qw (Qf [_]) ?_
  refine Qg [(29,_)] Qw Qls ?_
  refine Qg [] Qw Qfv ?_
  refine AOL.gk (y:=.int .i64 _) _ [(31,_)] rfl (EntL.all ⟨Ent.self _ _,trivial⟩) (fun hG=>P_load_box (k:=1) (c:=.int .i64 _) tok rfl rfl rfl rfl) rfl rfl ?_
  refine AOL.g (y:=.ptr _) _ [(30,_),(32,_)] rfl (EntL.all ⟨Ent.self _ _,Ent.self _ _,trivial⟩) (fun hG=>P_indexAddr (c:=[_]) tok rfl rfl rfl rfl rfl rfl (hv0) (map_at (get_off hv0 hG))) rfl ?_
  refine Qg [(33,_)] Qw Qls ?_
  refine AOL.g (y:=.int .i64 _) _ [(34,_)] rfl (EntL.all ⟨Ent.self _ _,trivial⟩) (fun hG=>P_len_sl (n:=((vars[e.var.toNat]?).getD []).length) tok rfl rfl rfl (by simp)) rfl ?_
  refine Qg [(35,_)] Qw Qceq ?_
  refine Qp Qpo ?_
  refine Qnn (Qif (fun hc2=>?_) fun hc2=>?_)
  ·
   have h0:=known_none hv0 hc2
   refine Qsr ?_
   refine AOL.pk (P_load_box_agg (k:=1) (l:=[.int .i64 _,_,.int .i64 _,.int .i64 _,.int .i64 _,.int .i64 _,.int .i64 _,.str _]) tok rfl rfl rfl rfl rfl) rfl rfl ?_
   refine Qe (E_store (k:=0) (v:=.agg _) (cs':=[.int .i64 _,_,.int .i64 _,.int .i64 _,.int .i64 _,.int .i64 _,.int .i64 _,.str _]) (H2:=_::_::_) tok rfl rfl rfl rfl (rfl) rfl rfl rfl rfl) ?_
   rintro _ _ ⟨rfl,rfl⟩
   refine Qp Qai ?_
   refine Qnn (Qrt (thenR ?_))
   refine ⟨.inr rfl,[.agg [.int .i64 _,_,.int .i64 _,.int .i64 _,.int .i64 _,.int .i64 _,.int .i64 _,.str _],.int .i64 _],.cons (.box _ _ _ 0 _ _ _ _ rfl rfl rfl rfl rfl rfl) <| .cons (.tmp _ _ rfl) <| .nil,.cons _ (.cons _ (.refl _)),?_⟩
   exact Eq.trans rfl (congrArg (fun q:Ex×Int=>AV.tuple [.agg (cE q.1),.int .i64 q.2]) (knownE_none hc1 h0)).symm
  ·
   refine (known_some hv0 hc2).elim fun l hl0=>?_
   have hl:=hl0.1
   have hlp:=hl0.2
   have hml:=List.mem_of_getElem? hl
   have hll:=hx l hml
   refine (some_last hlp).elim fun v hmv=>?_
   have hev:=events_at hv0 hl
   refine Qst (Qsr (Qp (Qf [_]) ?_))
   refine Qp Qls ?_
   refine Qp Qfv ?_
   refine AOL.pk (P_load_box (k:=1) (c:=.int .i64 _) tok rfl rfl rfl rfl) rfl rfl ?_
   refine Qp (P_indexAddr (c:=[_]) tok rfl rfl rfl rfl rfl rfl (hv0) (map_at hl)) ?_
   refine Qp Qls ?_
   refine Qp Qas ?_
   refine Qnn (AW.seq ?_)
   refine AW.draw mixed (fun H'=>_∈H') (List.mem_of_getElem? (i:=1) rfl) (by kernel_rfl) ?_
   refine Qn 0 rfl (OpP.mem (fun k=>P_load_box_agg (k:=k) (l:=[.int .i64 _,_,.int .i64 _,.int .i64 _,.int .i64 _,.int .i64 _,.int .i64 _,.str _]) tok rfl rfl rfl rfl rfl) (fun _ h=>h)) ?_
   refine Qn 1 rfl Qms ?_
   refine Qn 2 rfl Qms ?_
   refine Qn 3 rfl (P_len_sl (n:=l.length) tok rfl rfl rfl (by simp)) ?_
   refine Qn 4 rfl (P_sub rfl rfl rfl (by constructor <;> omega)) ?_
   refine Qn 5 rfl (P_indexAddr (c:=[.int .i64 _,.int .i64 _,.int .i64 _,.int .i64 _,_]) tok rfl rfl rfl rfl rfl rfl (by omega) (last_at hlp hmv)) ?_
   refine Qn 6 rfl (Qlg [.int .i64 _,.int .i64 _,.int .i64 _,.int .i64 _,_]) ?_
   refine Qn 7 rfl (Qc rfl (d_read e v hf (hy l hml v (List.mem_of_getElem? hmv)))) ?_
   refine Qn 8 rfl Qmu ?_
   refine Qn 9 rfl (P_extract (v:=.agg [.int .i64 _,.int .i64 _,.str _]) rfl rfl) ?_
   refine Qn 10 rfl Qxi ?_
   refine Canon.eff _ _ 11 _ _ rfl (by kernel_rfl) rfl rfl (E_alloc (l:=[.int .i64 0,.int .i64 0,.str []]) (by kernel_rfl)) (by rintro _ _ ⟨b7,rfl,rfl⟩;simp) ?_
   rintro _ _ ⟨b7,rfl,rfl⟩
   refine Canon.eff _ _ 12 _ _ rfl (by kernel_rfl) rfl rfl (E_store (k:=0) (v:=.agg _) (cs':=[.int .i64 _,.int .i64 _,.str _]) (H2:=_::_::_::_) tok rfl rfl rfl rfl (rfl) rfl rfl rfl rfl) (by rintro _ _ ⟨rfl,rfl⟩;simp) ?_
   rintro _ _ ⟨rfl,rfl⟩
   refine Qn 13 rfl Qai ?_
   refine Canon.done _ _ (by kernel_rfl) ?_
   refine thenN ?_
   refine AW.ghost (GS.freeze (t:=7) 0 rfl rfl) ?_
   refine Qsr (Qp (Qlg [.int .i64 _,.int .i64 _,.str _]) ?_)
   refine Qp (Qbd [.int .i64 _,_,.int .i64 _,.int .i64 _,.int .i64 _,.int .i64 _,.int .i64 _,.str _]) ?_
   refine Qp Qmi ?_
   refine Qe (E_store (k:=0) (v:=.agg _) (cs':=[.int .i64 _,_,.int .i64 _,.int .i64 _,.int .i64 _,.int .i64 _,.int .i64 _,.str _]) (H2:=_::_::_) tok rfl rfl rfl rfl (rfl) rfl rfl rfl rfl) ?_
   rintro _ _ ⟨rfl,rfl⟩
   refine Qp Qai ?_
   refine Qnn (Qrt ?_)
   refine ⟨.inr rfl,[.agg [.int .i64 _,_,.int .i64 _,.int .i64 _,.int .i64 _,.int .i64 _,.int .i64 _,.str _],.int .i64 _],.cons (.box _ _ _ 0 _ _ _ _ rfl rfl rfl rfl rfl rfl) <| .cons (.tmp _ _ rfl) <| .nil,.cons _ (.cons _ (.refl _)),?_⟩
   exact Eq.trans rfl (congrArg (fun q:Ex×Int=>AV.tuple [.agg (cE q.1),.int .i64 q.2]) (knownE_last hc1 hev hmv)).symm
 ·
  refine Qst (Qsr (Qp Qfv ?_))
  refine AOL.pk (P_load_box (k:=1) (c:=.sl _ _) tok rfl rfl rfl rfl) rfl rfl ?_
  refine Qp Qas ?_
  refine Qns (Qp Qfv ?_)
  refine Qe (E_store (k:=1) (v:=.val _) (cs':=[.int .i64 _,_,.int .i64 _,.int .i64 _,.int .i64 _,.int .i64 _,.int .i64 _,.str _]) (H2:=_::_::_) tok rfl rfl rfl rfl (rfl) rfl rfl rfl rfl) ?_
  rintro _ _ ⟨rfl,rfl⟩
  refine AOL.ghost (GS.cellRow 1 1 30 8 rfl rfl rfl rfl) ?_
  refine Qnn (AW.seq (Qsr (Qp Qms ?_)))
  refine Qp (P_len_sl (n:=e.args.length) tok rfl rfl rfl (by simp)) ?_
  refine Qp Qmi ?_
  refine Qnn (AW.block ?_)
  refine AW.loopS (fun (p:Nat×List (List AV)×Value)=>(⟨[(2,.val (.pointer (some ⟨b2,0,none⟩))),(3,.ptr (cEnv vars)),(4,.val (.pointer (some ⟨b4,0,none⟩))),(62,.sl 8 (e.args.map encE)),(63,.int .i64 e.args.length),(64,.int .i64 (p.1:Int))],.row p.2.2 p.2.1.length 30 8 :: .box b4 30 [.int .i64 0,.sl 8 [],.int .i64 0,.int .i64 0,.int .i64 0,.int .i64 0,.int .i64 0,.str []] :: .box b2 30 [.int .i64 e.op,.row p.2.2 8 p.2.1,.int .i64 e.var,.int .i64 e.field,.int .i64 e.kind,.int .i64 e.val.kind,.int .i64 e.val.num,.str e.val.text]::H,86⟩:St)) (fun (p:Nat×List (List AV)×Value)=>p.1≤e.args.length∧(∀x∈e.args.take p.1,(knownE vars x).2=0)∧p.2.1=((e.args.take p.1).map (fun x=>(knownE vars x).1)).map encE) (fun (p:Nat×List (List AV)×Value)=>e.args.length - p.1) ((0,[],.slice none 0 0)) ?_ (GS.weaken ⟨rfl,rfl,rfl,rfl,rfl,rfl,trivial⟩ (.refl _)) ?_
  · exact ⟨Nat.zero_le _,by simp,by simp⟩
  ·
   rintro p hR
   refine Qsr (Qp Qclt ?_)
   refine Qnn (AW.seq (Qif (fun hc3=>?_) fun hc3=>?_))
   ·
    obtain ⟨a,ha⟩:=get_lt hc3
    have hlt:=get_lt' ha
    have hm:=List.mem_of_getElem? ha
    have hsc:∀c∈p.2.1,scalars c=true:=by rw [hR.2.2];exact sc_map fun a=>by rw [encE_eq];rfl
    refine Qst (AW.seq (AW.block (Qsr (Qp (P_indexAddr (c:=[.int .i64 _,_,.int .i64 _,.int .i64 _,.int .i64 _,.int .i64 _,.int .i64 _,.str _]) tok rfl rfl rfl rfl rfl rfl (by omega) (encE_at ha)) ?_))))
    refine Qp Qle ?_
    refine Qe (E_alloc (l:=[.int .i64 0,.sl 8 [],.int .i64 0,.int .i64 0,.int .i64 0,.int .i64 0,.int .i64 0,.str []]) (by kernel_rfl)) ?_
    rintro _ _ ⟨b11,rfl,rfl⟩
    refine Qe (E_store (k:=0) (v:=.agg _) (cs':=[.int .i64 _,_,.int .i64 _,.int .i64 _,.int .i64 _,.int .i64 _,.int .i64 _,.str _]) (H2:=_::_::_::_::_) tok rfl rfl rfl rfl (rfl) rfl rfl rfl rfl) ?_
    rintro _ _ ⟨rfl,rfl⟩
    refine AOL.ghost (GS.freeze (t:=11) 0 rfl rfl) ?_
    refine Qns (Qp Qle ?_)
    refine Qp (Qlg [_]) ?_
    refine Qp (Qc rfl (ih a hm (hz.2 a hm) (by have:=size_arg hm;omega))) ?_
    refine Qp Qmu ?_
    refine Qp (P_extract (v:=.agg [.int .i64 _,_,.int .i64 _,.int .i64 _,.int .i64 _,.int .i64 _,.int .i64 _,.str _]) rfl rfl) ?_
    refine Qp Qxi ?_
    refine Qe (E_alloc (l:=[.int .i64 0,.sl 8 [],.int .i64 0,.int .i64 0,.int .i64 0,.int .i64 0,.int .i64 0,.str []]) (by kernel_rfl)) ?_
    rintro _ _ ⟨b12,rfl,rfl⟩
    refine Qe (E_store (k:=0) (v:=.agg _) (cs':=[.int .i64 _,_,.int .i64 _,.int .i64 _,.int .i64 _,.int .i64 _,.int .i64 _,.str _]) (H2:=_::_::_::_::_) tok rfl rfl rfl rfl (rfl) rfl rfl rfl rfl) ?_
    rintro _ _ ⟨rfl,rfl⟩
    refine Qp Qai ?_
    refine AOL.ghost (GS.freeze (t:=12) 0 rfl rfl) ?_
    refine Qnn (AW.seq (Qsr (Qp Qmi ?_)))
    refine Qp Qcne ?_
    refine Qnn (Qif (fun hc4=>?_) fun hc4=>?_)
    ·
     refine Qsr (Qp Qle ?_)
     refine Qp Qmi ?_
     refine Qe (E_store (k:=1) (v:=.agg _) (cs':=[.int .i64 _,_,.int .i64 _,.int .i64 _,.int .i64 _,.int .i64 _,.int .i64 _,.str _]) (H2:=_::_::_::_) tok rfl rfl rfl rfl (rfl) rfl rfl rfl rfl) ?_
     rintro _ _ ⟨rfl,rfl⟩
     refine Qp Qai ?_
     refine Qnn (Qrt (blkR (thenR (thenR (blkR (thenR ?_))))))
     refine ⟨.inr rfl,[.agg [.int .i64 _,_,.int .i64 _,.int .i64 _,.int .i64 _,.int .i64 _,.int .i64 _,.str _],.int .i64 _],.cons (.box _ _ _ 1 _ _ _ _ rfl rfl rfl rfl rfl rfl) <| .cons (.tmp _ _ rfl) <| .nil,.cons _ (.cons _ (.cons _ (.refl _))),?_⟩
     exact Eq.trans rfl (congrArg (fun q:Ex×Int=>AV.tuple [.agg (cE q.1),.int .i64 q.2]) (knownE_bad hc1 hR.2.1 ha hc4)).symm
    ·
     refine Qst (AW.region (Qp Qfv ?_))
     refine AOL.pk (P_load_box (k:=2) (c:=.row _ _ _) tok rfl rfl rfl rfl) rfl rfl ?_
     refine Qp Qle ?_
     refine Qp (P_buildSlice (es:=[[.int .i64 _,_,.int .i64 _,.int .i64 _,.int .i64 _,.int .i64 _,.int .i64 _,.str _]]) tok rfl rfl rfl rfl rfl rfl rfl rfl rfl) ?_
     refine Qe (E_append (k:=0) tok rfl rfl rfl rfl rfl rfl rfl rfl (sc_one rfl) (hsc) (by simp [hR.2.2];omega) (by simp [hR.2.2,maxLen];omega)) ?_
     rintro _ _ ⟨v82,rfl,rfl⟩
     refine Qp Qfv ?_
     refine Qe (E_store (k:=2) (v:=.row _ _ _) (cs':=[.int .i64 _,_,.int .i64 _,.int .i64 _,.int .i64 _,.int .i64 _,.int .i64 _,.str _]) (H2:=_::_::_::_) tok rfl rfl rfl rfl (rfl) rfl rfl rfl rfl) ?_
     rintro _ _ ⟨rfl,rfl⟩
     refine AOL.nil (blkN (thenN (AW.region (Qp Qad ?_))))
     refine Qp Qmi ?_
     refine Qnn ?_
     refine ⟨(p.1+1,p.2.1++[cE (knownE vars a).1],v82),?_,?_,GS.weaken ⟨rfl,rfl,rfl,rfl,rfl,rfl,trivial⟩ (.refl _)⟩
     · simp only;exact ⟨hlt,by rw [take_get ha];intro x hx;rcases List.mem_append.1 hx with h | h;exact hR.2.1 x h;rw [List.mem_singleton.1 h];simpa using hc4,by rw [take_get ha,hR.2.2];simp [encE_eq]⟩
     · first | omega | (simp only;omega)
   ·
    have hte:=take_end hc3
    obtain ⟨k,es,rv⟩:=p
    simp only at hR hte
    have hR2:∀x∈e.args,(knownE vars x).2=0:=by rw [←hte];exact hR.2.1
    obtain rfl:es=(e.args.map (fun x=>(knownE vars x).1)).map encE:=by rw [hR.2.2,hte]
    refine AW.exit ?_
    refine thenE (thenE (blkHit (thenN (Qsr ?_))))
    refine AOL.ghost (GS.cell 2 1 rfl rfl rfl rfl unrow_cell) ?_
    refine AOL.pk (P_load_box_agg (k:=2) (l:=[.int .i64 _,_,.int .i64 _,.int .i64 _,.int .i64 _,.int .i64 _,.int .i64 _,.str _]) tok rfl rfl rfl rfl rfl) rfl rfl ?_
    refine Qe (E_store (k:=1) (v:=.agg _) (cs':=[.int .i64 _,_,.int .i64 _,.int .i64 _,.int .i64 _,.int .i64 _,.int .i64 _,.str _]) (H2:=_::_::_::_) tok rfl rfl rfl rfl (rfl) rfl rfl rfl rfl) ?_
    rintro _ _ ⟨rfl,rfl⟩
    refine Qp Qai ?_
    refine Qnn (AW.ret ?_)
    refine ⟨.inr rfl,[.agg [.int .i64 _,_,.int .i64 _,.int .i64 _,.int .i64 _,.int .i64 _,.int .i64 _,.str _],.int .i64 _],.cons (.box _ _ _ 1 _ _ _ _ rfl rfl rfl rfl rfl rfl) <| .cons (.tmp _ _ rfl) <| .nil,.cons _ (.cons _ (.cons _ (.refl _))),?_⟩
    exact Eq.trans rfl (congrArg (fun q:Ex×Int=>AV.tuple [.agg (cE q.1),.int .i64 q.2]) (knownE_ok hc1 hR2)).symm
theorem r_vcheck (k n:Int)(t:List UInt8):APure Tryz.prog 101 [.agg [.int .i64 k,.int .i64 n,.str t]] (.int .i64 (vcheckS ⟨k,n,t⟩)):=c79 ⟨k,n,t⟩
theorem r_known (vars:List (List Ev))(hv:vars.length≤1048576)(hx:∀l∈vars,l.length≤1048576)(hy:∀l∈vars,∀v∈l,v.values.length≤1048576)(e:Ex)(hn:nodesS e=0)(hs:sizeN e≤1048576):APure Tryz.prog 62 [.agg (cE e),.agg (cEnv vars)] (.tuple [.agg (cE (rknownE vars e).1),.int .i64 (rknownE vars e).2]):=by
 revert hn hs
 induction e using Ex.ind
 rename_i e ih
 intro hn hs
 have hz:=nodes_zero hn
 have hal:=args_le e hs
 have hel:=evs_le hx e.var
 refine APure.body (n:=96) tok Tryz.func62 rfl rfl rfl fun H=>?_
 refine Qsr (Qp Qbe ?_)
 refine Qp (Qbx [_]) ?_
 refine Qe (E_alloc (l:=[.int .i64 0,.sl 8 [],.int .i64 0,.int .i64 0,.int .i64 0,.int .i64 0,.int .i64 0,.str []]) (by kernel_rfl)) ?_
 rintro _ _ ⟨b4,rfl,rfl⟩
 refine Qp Qai ?_
 refine Qnn (AW.seq (Qsr (Qp Qf0 ?_)))
 refine Qp Qli ?_
 refine Qp Qceq ?_
 refine Qp Qmb ?_
 refine Qg [] Qw Qf0 ?_
 refine Qg [(16,_)] Qw Qli ?_
 refine Qg [(17,_)] Qw Qceq ?_
 refine Qp Qpo ?_
 refine Qnn (Qif (fun hc1=>?_) fun hc1=>?_)
 ·
  refine Qsr (Qp (Qlg [_]) ?_)
  refine Qp Qf2 ?_
  refine Qp Qli ?_
  refine Qp (Qc rfl (c95 vars e.var)) ?_
  refine Qp Qas ?_
  refine Qnn (AW.seq (Qsr (Qp Qms ?_)))
  refine Qp (P_len_sl (n:=(eventsS vars e.var).length) tok rfl rfl rfl (by simp)) ?_
  refine Qp Qceq ?_
  refine Qnn (Qif (fun hc2=>?_) fun hc2=>?_)
  ·
   refine Qsr (Qp Qle ?_)
   refine Qe (E_store (k:=0) (v:=.agg _) (cs':=[.int .i64 _,_,.int .i64 _,.int .i64 _,.int .i64 _,.int .i64 _,.int .i64 _,.str _]) (H2:=_::_) tok rfl rfl rfl rfl (rfl) rfl rfl rfl rfl) ?_
   rintro _ _ ⟨rfl,rfl⟩
   refine Qp Qai ?_
   refine Qnn (Qrt (thenR ?_))
   refine ⟨.inr rfl,[.agg [.int .i64 _,_,.int .i64 _,.int .i64 _,.int .i64 _,.int .i64 _,.int .i64 _,.str _],.int .i64 _],.cons (.box _ _ _ 0 _ _ _ _ rfl rfl rfl rfl rfl rfl) <| .cons (.tmp _ _ rfl) <| .nil,.cons _ (.refl _),?_⟩
   exact Eq.trans rfl (congrArg (fun q:Ex×Int=>AV.tuple [.agg (cE q.1),.int .i64 q.2]) (rknownE_none hc1 hc2)).symm
  ·
   have hlp:=events_pos hc2
   have hml:=events_cases hlp
   refine (some_last hlp).elim fun v hmv=>?_
   have hvl:=hy _ hml v (List.mem_of_getElem? hmv)
   refine Qst (Qsr (Qp Qms ?_))
   refine Qp Qms ?_
   refine Qp (P_len_sl (n:=(eventsS vars e.var).length) tok rfl rfl rfl (by simp)) ?_
   refine Qp (P_sub rfl rfl rfl (by constructor <;> omega)) ?_
   refine Qp (P_indexAddr (c:=[.int .i64 _,.int .i64 _,.int .i64 _,.int .i64 _,_]) tok rfl rfl rfl rfl rfl rfl (by omega) (last_at hlp hmv)) ?_
   refine Qp (Qf [.int .i64 _,_]) ?_
   refine Qp Qli ?_
   refine Qp (Qbd [.int .i64 _,.int .i64 _,.str _]) ?_
   refine Qe (E_alloc (l:=[.int .i64 0,.int .i64 0,.str []]) (by kernel_rfl)) ?_
   rintro _ _ ⟨b7,rfl,rfl⟩
   refine Qe (E_store (k:=0) (v:=.agg _) (cs':=[.int .i64 _,.int .i64 _,.str _]) (H2:=_::_::_) tok rfl rfl rfl rfl (rfl) rfl rfl rfl rfl) ?_
   rintro _ _ ⟨rfl,rfl⟩
   refine Qnn (AW.seq (Qsr (Qp Qf0 ?_)))
   refine Qp Qli ?_
   refine Qp Qceq ?_
   refine Qnn (Qif (fun hc3=>?_) fun hc3=>?_)
   ·
    have hf0:=field_nonneg hz.1 (eq_of_beq hc3)
    refine AW.seq (AW.seq ?_)
    refine AW.draw mixed (fun _=>True) trivial (by kernel_rfl) ?_
    refine Qn 0 rfl Qf3 ?_
    refine Qn 1 rfl Qli ?_
    refine Qn 2 rfl Qms ?_
    refine Qn 3 rfl Qms ?_
    refine Qn 4 rfl (P_len_sl (n:=(eventsS vars e.var).length) tok rfl rfl rfl (by simp)) ?_
    refine Qn 5 rfl (P_sub rfl rfl rfl (by constructor <;> omega)) ?_
    refine Qn 6 rfl (P_indexAddr (c:=[.int .i64 _,.int .i64 _,.int .i64 _,.int .i64 _,_]) tok rfl rfl rfl rfl rfl rfl (by omega) (last_at hlp hmv)) ?_
    refine Qn 7 rfl (Qf [_]) ?_
    refine Qn 8 rfl Qls ?_
    refine Qn 9 rfl (P_len_sl (n:=v.values.length) tok rfl rfl rfl (by simp)) ?_
    refine Qn 10 rfl Qcgq ?_
    refine Canon.done _ _ (by kernel_rfl) ?_
    refine thenN (Qif (fun hc4=>?_) fun hc4=>?_)
    ·
     refine Qsr (Qp Qle ?_)
     refine Qe (E_store (k:=1) (v:=.agg _) (cs':=[.int .i64 _,_,.int .i64 _,.int .i64 _,.int .i64 _,.int .i64 _,.int .i64 _,.str _]) (H2:=_::_::_) tok rfl rfl rfl rfl (rfl) rfl rfl rfl rfl) ?_
     rintro _ _ ⟨rfl,rfl⟩
     refine Qp Qai ?_
     refine Qnn (Qrt (thenR (thenR ?_)))
     refine ⟨.inr rfl,[.agg [.int .i64 _,_,.int .i64 _,.int .i64 _,.int .i64 _,.int .i64 _,.int .i64 _,.str _],.int .i64 _],.cons (.box _ _ _ 1 _ _ _ _ rfl rfl rfl rfl rfl rfl) <| .cons (.tmp _ _ rfl) <| .nil,.cons _ (.cons _ (.refl _)),?_⟩
     exact Eq.trans rfl (congrArg (fun q:Ex×Int=>AV.tuple [.agg (cE q.1),.int .i64 q.2]) (rknownE_off hc1 hmv hc3 hc4)).symm
    ·
     refine (some_off hf0 hc4).elim fun w hw=>?_
     refine Qst ?_
     refine AW.draw mixed (fun _=>True) trivial (by kernel_rfl) ?_
     refine Qn 0 rfl Qms ?_
     refine Qn 1 rfl Qms ?_
     refine Qn 2 rfl (P_len_sl (n:=(eventsS vars e.var).length) tok rfl rfl rfl (by simp)) ?_
     refine Qn 3 rfl (P_sub rfl rfl rfl (by constructor <;> omega)) ?_
     refine Qn 4 rfl (P_indexAddr (c:=[.int .i64 _,.int .i64 _,.int .i64 _,.int .i64 _,_]) tok rfl rfl rfl rfl rfl rfl (by omega) (last_at hlp hmv)) ?_
     refine Qn 5 rfl (Qf [_]) ?_
     refine Qn 6 rfl Qls ?_
     refine Qn 7 rfl Qf3 ?_
     refine Qn 8 rfl Qli ?_
     refine Qn 9 rfl (P_indexAddr (c:=[.int .i64 _,.int .i64 _,.str _]) tok rfl rfl rfl rfl rfl rfl (hf0) (map_at hw)) ?_
     refine Qn 10 rfl (Qlg [.int .i64 _,.int .i64 _,.str _]) ?_
     refine Canon.eff _ _ 11 _ _ rfl (by kernel_rfl) rfl rfl (E_store (k:=0) (v:=.agg _) (cs':=[.int .i64 _,.int .i64 _,.str _]) (H2:=_::_::_) tok rfl rfl rfl rfl (rfl) rfl rfl rfl rfl) (fun _ _ _=>trivial) ?_
     rintro _ _ ⟨rfl,rfl⟩
     refine Canon.done _ _ (by kernel_rfl) ?_
     refine thenN (AW.seq ?_)
     refine AW.draw mixed (fun H'=>_∈H') (List.mem_of_getElem? (i:=0) rfl) (by kernel_rfl) ?_
     refine Qn 0 rfl (OpP.mem (fun k=>P_load_box_agg (k:=k) (l:=[.int .i64 _,.int .i64 _,.str _]) tok rfl rfl rfl rfl rfl) (fun _ h=>h)) ?_
     refine Qn 1 rfl (Qbd [.int .i64 _,_,.int .i64 _,.int .i64 _,.int .i64 _,.int .i64 _,.int .i64 _,.str _]) ?_
     refine Qn 2 rfl (OpP.mem (fun k=>P_load_box_agg (k:=k) (l:=[.int .i64 _,.int .i64 _,.str _]) tok rfl rfl rfl rfl rfl) (fun _ h=>h)) ?_
     refine Qn 3 rfl (Qc rfl (r_vcheck _ _ _)) ?_
     refine Canon.eff _ _ 4 _ _ rfl (by kernel_rfl) rfl rfl (E_store (k:=1) (v:=.agg _) (cs':=[.int .i64 _,_,.int .i64 _,.int .i64 _,.int .i64 _,.int .i64 _,.int .i64 _,.str _]) (H2:=_::_::_) tok rfl rfl rfl rfl (rfl) rfl rfl rfl rfl) (by rintro _ _ ⟨rfl,rfl⟩;simp) ?_
     rintro _ _ ⟨rfl,rfl⟩
     refine Qn 5 rfl Qai ?_
     refine Canon.done _ _ (by kernel_rfl) ?_
     refine thenN (Qrt ?_)
     refine ⟨.inr rfl,[.agg [.int .i64 _,_,.int .i64 _,.int .i64 _,.int .i64 _,.int .i64 _,.int .i64 _,.str _],.int .i64 _],.cons (.box _ _ _ 1 _ _ _ _ rfl rfl rfl rfl rfl rfl) <| .cons (.tmp _ _ rfl) <| .nil,.cons _ (.cons _ (.refl _)),?_⟩
     exact Eq.trans rfl (congrArg (fun q:Ex×Int=>AV.tuple [.agg (cE q.1),.int .i64 q.2]) (rknownE_at hc1 hmv hc3 hc4 hw)).symm
   ·
    refine Qst (AW.seq ?_)
    refine AW.draw mixed (fun H'=>_∈H') (List.mem_of_getElem? (i:=0) rfl) (by kernel_rfl) ?_
    refine Qn 0 rfl (OpP.mem (fun k=>P_load_box_agg (k:=k) (l:=[.int .i64 _,.int .i64 _,.str _]) tok rfl rfl rfl rfl rfl) (fun _ h=>h)) ?_
    refine Qn 1 rfl (Qbd [.int .i64 _,_,.int .i64 _,.int .i64 _,.int .i64 _,.int .i64 _,.int .i64 _,.str _]) ?_
    refine Qn 2 rfl (OpP.mem (fun k=>P_load_box_agg (k:=k) (l:=[.int .i64 _,.int .i64 _,.str _]) tok rfl rfl rfl rfl rfl) (fun _ h=>h)) ?_
    refine Qn 3 rfl (Qc rfl (r_vcheck _ _ _)) ?_
    refine Canon.eff _ _ 4 _ _ rfl (by kernel_rfl) rfl rfl (E_store (k:=1) (v:=.agg _) (cs':=[.int .i64 _,_,.int .i64 _,.int .i64 _,.int .i64 _,.int .i64 _,.int .i64 _,.str _]) (H2:=_::_::_) tok rfl rfl rfl rfl (rfl) rfl rfl rfl rfl) (by rintro _ _ ⟨rfl,rfl⟩;simp) ?_
    rintro _ _ ⟨rfl,rfl⟩
    refine Qn 5 rfl Qai ?_
    refine Canon.done _ _ (by kernel_rfl) ?_
    refine thenN (Qrt ?_)
    refine ⟨.inr rfl,[.agg [.int .i64 _,_,.int .i64 _,.int .i64 _,.int .i64 _,.int .i64 _,.int .i64 _,.str _],.int .i64 _],.cons (.box _ _ _ 1 _ _ _ _ rfl rfl rfl rfl rfl rfl) <| .cons (.tmp _ _ rfl) <| .nil,.cons _ (.cons _ (.refl _)),?_⟩
    exact Eq.trans rfl (congrArg (fun q:Ex×Int=>AV.tuple [.agg (cE q.1),.int .i64 q.2]) (rknownE_time hc1 hmv hc3)).symm
 ·
  refine Qst (Qsr (Qp Qle ?_))
  refine Qe (E_alloc (l:=[.int .i64 0,.sl 8 [],.int .i64 0,.int .i64 0,.int .i64 0,.int .i64 0,.int .i64 0,.str []]) (by kernel_rfl)) ?_
  rintro _ _ ⟨b8,rfl,rfl⟩
  refine Qe (E_store (k:=0) (v:=.agg _) (cs':=[.int .i64 _,_,.int .i64 _,.int .i64 _,.int .i64 _,.int .i64 _,.int .i64 _,.str _]) (H2:=_::_::_) tok rfl rfl rfl rfl (rfl) rfl rfl rfl rfl) ?_
  rintro _ _ ⟨rfl,rfl⟩
  refine Qns (Qp Qfv ?_)
  refine Qe (E_store (k:=0) (v:=.val _) (cs':=[.int .i64 _,_,.int .i64 _,.int .i64 _,.int .i64 _,.int .i64 _,.int .i64 _,.str _]) (H2:=_::_::_) tok rfl rfl rfl rfl (rfl) rfl rfl rfl rfl) ?_
  rintro _ _ ⟨rfl,rfl⟩
  refine AOL.ghost (GS.cellRow 0 1 30 8 rfl rfl rfl rfl) ?_
  refine Qnn (AW.seq (Qsr (Qp Qai ?_)))
  refine Qnn (AW.block ?_)
  refine AW.loopS (fun (p:Nat×List (List AV)×Value)=>(⟨[(2,.ptr (cE e)),(3,.ptr (cEnv vars)),(4,.val (.pointer (some ⟨b4,0,none⟩))),(8,.val (.pointer (some ⟨b8,0,none⟩))),(9,.int .i64 (p.1:Int))],.row p.2.2 p.2.1.length 30 8 :: .box b8 30 [.int .i64 e.op,.row p.2.2 8 p.2.1,.int .i64 e.var,.int .i64 e.field,.int .i64 e.kind,.int .i64 e.val.kind,.int .i64 e.val.num,.str e.val.text] :: .box b4 30 [.int .i64 0,.sl 8 [],.int .i64 0,.int .i64 0,.int .i64 0,.int .i64 0,.int .i64 0,.str []]::H,96⟩:St)) (fun (p:Nat×List (List AV)×Value)=>p.1≤e.args.length∧(∀x∈e.args.take p.1,(rknownE vars x).2=0)∧p.2.1=((e.args.take p.1).map (fun x=>(rknownE vars x).1)).map encE) (fun (p:Nat×List (List AV)×Value)=>e.args.length - p.1) ((0,[],.slice none 0 0)) ?_ (GS.weaken ⟨rfl,rfl,rfl,rfl,rfl,trivial⟩ (.refl _)) ?_
  · exact ⟨Nat.zero_le _,by simp,by simp⟩
  ·
   rintro p hR
   refine AW.seq (Qsr (Qp Qmi ?_))
   refine Qp Qf1 ?_
   refine Qp Qls ?_
   refine Qp (P_len_sl (n:=e.args.length) tok rfl rfl rfl (by simp)) ?_
   refine Qp Qclt ?_
   refine Qnn (Qif (fun hc5=>?_) fun hc5=>?_)
   ·
    obtain ⟨a,ha⟩:=get_lt hc5
    have hlt:=get_lt' ha
    have hm:=List.mem_of_getElem? ha
    have hsc:∀c∈p.2.1,scalars c=true:=by rw [hR.2.2];exact sc_map fun a=>by rw [encE_eq];rfl
    refine Qst (AW.seq (AW.block (AW.seq ?_)))
    refine AW.draw mixed (fun _=>True) trivial (by kernel_rfl) ?_
    refine Qn 0 rfl Qf1 ?_
    refine Qn 1 rfl Qls ?_
    refine Qn 2 rfl Qmi ?_
    refine Qn 3 rfl (P_indexAddr (c:=[.int .i64 _,_,.int .i64 _,.int .i64 _,.int .i64 _,.int .i64 _,.int .i64 _,.str _]) tok rfl rfl rfl rfl rfl rfl (by omega) (encE_at ha)) ?_
    refine Qn 4 rfl Qle ?_
    refine Qn 5 rfl (Qlg [_]) ?_
    refine Qn 6 rfl (Qc rfl (ih a hm (hz.2 a hm) (by have:=size_arg hm;omega))) ?_
    refine Qn 7 rfl Qmu ?_
    refine Qn 8 rfl (P_extract (v:=.agg [.int .i64 _,_,.int .i64 _,.int .i64 _,.int .i64 _,.int .i64 _,.int .i64 _,.str _]) rfl rfl) ?_
    refine Qn 9 rfl Qxi ?_
    refine Canon.eff _ _ 10 _ _ rfl (by kernel_rfl) rfl rfl (E_alloc (l:=[.int .i64 0,.sl 8 [],.int .i64 0,.int .i64 0,.int .i64 0,.int .i64 0,.int .i64 0,.str []]) (by kernel_rfl)) (fun _ _ _=>trivial) ?_
    rintro _ _ ⟨b10,rfl,rfl⟩
    refine Canon.eff _ _ 11 _ _ rfl (by kernel_rfl) rfl rfl (E_store (k:=0) (v:=.agg _) (cs':=[.int .i64 _,_,.int .i64 _,.int .i64 _,.int .i64 _,.int .i64 _,.int .i64 _,.str _]) (H2:=_::_::_::_::_) tok rfl rfl rfl rfl (rfl) rfl rfl rfl rfl) (fun _ _ _=>trivial) ?_
    rintro _ _ ⟨rfl,rfl⟩
    refine Qn 12 rfl Qai ?_
    refine Canon.done _ _ (by kernel_rfl) ?_
    refine thenN ?_
    refine AW.ghost (GS.freeze (t:=10) 0 rfl rfl) ?_
    refine AW.seq (Qsr (Qp Qmi ?_))
    refine Qp Qcne ?_
    refine Qnn (Qif (fun hc6=>?_) fun hc6=>?_)
    ·
     refine Qsr (Qp Qle ?_)
     refine Qp Qmi ?_
     refine Qe (E_store (k:=2) (v:=.agg _) (cs':=[.int .i64 _,_,.int .i64 _,.int .i64 _,.int .i64 _,.int .i64 _,.int .i64 _,.str _]) (H2:=_::_::_::_) tok rfl rfl rfl rfl (rfl) rfl rfl rfl rfl) ?_
     rintro _ _ ⟨rfl,rfl⟩
     refine Qp Qai ?_
     refine Qnn (Qrt (blkR (thenR (thenR (blkR (thenR ?_))))))
     refine ⟨.inr rfl,[.agg [.int .i64 _,_,.int .i64 _,.int .i64 _,.int .i64 _,.int .i64 _,.int .i64 _,.str _],.int .i64 _],.cons (.box _ _ _ 2 _ _ _ _ rfl rfl rfl rfl rfl rfl) <| .cons (.tmp _ _ rfl) <| .nil,.cons _ (.cons _ (.cons _ (.refl _))),?_⟩
     exact Eq.trans rfl (congrArg (fun q:Ex×Int=>AV.tuple [.agg (cE q.1),.int .i64 q.2]) (rknownE_bad hc1 hR.2.1 ha hc6)).symm
    ·
     refine Qst (AW.region (Qp Qfv ?_))
     refine AOL.pk (P_load_box (k:=1) (c:=.row _ _ _) tok rfl rfl rfl rfl) rfl rfl ?_
     refine Qp Qle ?_
     refine Qp (P_buildSlice (es:=[[.int .i64 _,_,.int .i64 _,.int .i64 _,.int .i64 _,.int .i64 _,.int .i64 _,.str _]]) tok rfl rfl rfl rfl rfl rfl rfl rfl rfl) ?_
     refine Qe (E_append (k:=0) tok rfl rfl rfl rfl rfl rfl rfl rfl (sc_one rfl) (hsc) (by simp [hR.2.2];omega) (by simp [hR.2.2,maxLen];omega)) ?_
     rintro _ _ ⟨v93,rfl,rfl⟩
     refine Qp Qfv ?_
     refine Qe (E_store (k:=1) (v:=.row _ _ _) (cs':=[.int .i64 _,_,.int .i64 _,.int .i64 _,.int .i64 _,.int .i64 _,.int .i64 _,.str _]) (H2:=_::_::_::_) tok rfl rfl rfl rfl (rfl) rfl rfl rfl rfl) ?_
     rintro _ _ ⟨rfl,rfl⟩
     refine AOL.nil (blkN (thenN (AW.region (Qp Qmi ?_))))
     refine Qp Qad ?_
     refine Qp Qai ?_
     refine Qnn ?_
     refine ⟨(p.1+1,p.2.1++[cE (rknownE vars a).1],v93),?_,?_,GS.weaken ⟨rfl,rfl,rfl,rfl,rfl,trivial⟩ (.refl _)⟩
     · simp only;exact ⟨hlt,by rw [take_get ha];intro x hx;rcases List.mem_append.1 hx with h | h;exact hR.2.1 x h;rw [List.mem_singleton.1 h];simpa using hc6,by rw [take_get ha,hR.2.2];simp [encE_eq]⟩
     · first | omega | (simp only;omega)
   ·
    have hte:=take_end hc5
    obtain ⟨k,es,rv⟩:=p
    simp only at hR hte
    have hR2:∀x∈e.args,(rknownE vars x).2=0:=by rw [←hte];exact hR.2.1
    obtain rfl:es=(e.args.map (fun x=>(rknownE vars x).1)).map encE:=by rw [hR.2.2,hte]
    refine AW.exit ?_
    refine thenE (thenE (blkHit (thenN (Qsr ?_))))
    refine AOL.ghost (GS.cell 1 1 rfl rfl rfl rfl unrow_cell) ?_
    refine AOL.pk (P_load_box_agg (k:=1) (l:=[.int .i64 _,_,.int .i64 _,.int .i64 _,.int .i64 _,.int .i64 _,.int .i64 _,.str _]) tok rfl rfl rfl rfl rfl) rfl rfl ?_
    refine Qe (E_store (k:=2) (v:=.agg _) (cs':=[.int .i64 _,_,.int .i64 _,.int .i64 _,.int .i64 _,.int .i64 _,.int .i64 _,.str _]) (H2:=_::_::_::_) tok rfl rfl rfl rfl (rfl) rfl rfl rfl rfl) ?_
    rintro _ _ ⟨rfl,rfl⟩
    refine Qp Qai ?_
    refine Qnn (AW.ret ?_)
    refine ⟨.inr rfl,[.agg [.int .i64 _,_,.int .i64 _,.int .i64 _,.int .i64 _,.int .i64 _,.int .i64 _,.str _],.int .i64 _],.cons (.box _ _ _ 2 _ _ _ _ rfl rfl rfl rfl rfl rfl) <| .cons (.tmp _ _ rfl) <| .nil,.cons _ (.cons _ (.cons _ (.refl _))),?_⟩
    exact Eq.trans rfl (congrArg (fun q:Ex×Int=>AV.tuple [.agg (cE q.1),.int .i64 q.2]) (rknownE_ok hc1 hR2)).symm
theorem d_Known (vars:List (List Ev))(hv:vars.length≤1048576)(hx:∀l∈vars,l.length≤1048576)(hy:∀l∈vars,∀v∈l,v.values.length≤1048576)(e:Ex)(hs:sizeN e≤1048576):APure Tryz.prog 20 [.agg (cE e),.agg (cEnv vars)] (.tuple [.agg (cE (KnownS vars e).1),.int .i64 (KnownS vars e).2]):=by
 refine APure.body (n:=26) tok Tryz.func20 rfl rfl rfl fun H=>?_
 refine Qsr (Qp Qbe ?_)
 refine Qp (Qbx [_]) ?_
 refine Qe (E_alloc (l:=[.int .i64 0,.sl 8 [],.int .i64 0,.int .i64 0,.int .i64 0,.int .i64 0,.int .i64 0,.str []]) (by kernel_rfl)) ?_
 rintro _ _ ⟨b4,rfl,rfl⟩
 refine Qp Qai ?_
 refine Qnn (AW.seq (Qsr (Qp Qle ?_)))
 refine Qp (Qc rfl (c21 e hs)) ?_
 refine Qp Qai ?_
 refine Qns (Qp Qmi ?_)
 refine Qp Qcne ?_
 refine Qnn (Qif (fun hc1=>?_) fun hc1=>?_)
 ·
  refine Qsr (Qp (Qbd [.int .i64 _,_,.int .i64 _,.int .i64 _,.int .i64 _,.int .i64 _,.int .i64 _,.str _]) ?_)
  refine Qp Qmi ?_
  refine Qe (E_store (k:=0) (v:=.agg _) (cs':=[.int .i64 _,_,.int .i64 _,.int .i64 _,.int .i64 _,.int .i64 _,.int .i64 _,.str _]) (H2:=_::_) tok rfl rfl rfl rfl (rfl) rfl rfl rfl rfl) ?_
  rintro _ _ ⟨rfl,rfl⟩
  refine Qp Qai ?_
  refine Qnn (Qrt ?_)
  refine ⟨.inr rfl,[.agg [.int .i64 _,_,.int .i64 _,.int .i64 _,.int .i64 _,.int .i64 _,.int .i64 _,.str _],.int .i64 _],.cons (.box _ _ _ 0 _ _ _ _ rfl rfl rfl rfl rfl rfl) <| .cons (.tmp _ _ rfl) <| .nil,.cons _ (.refl _),?_⟩
  exact Eq.trans rfl (congrArg (fun q:Ex×Int=>AV.tuple [.agg (cE q.1),.int .i64 q.2]) (KnownS_1 hc1)).symm
 ·
  have hn:=check_nodes' hc1
  refine Qst (Qsr (Qp Qle ?_))
  refine Qp (Qlg [_]) ?_
  refine Qp (Qc rfl (d_known vars hv hx hy e hn hs)) ?_
  refine Qp Qmu ?_
  refine Qp (P_extract (v:=.agg [.int .i64 _,_,.int .i64 _,.int .i64 _,.int .i64 _,.int .i64 _,.int .i64 _,.str _]) rfl rfl) ?_
  refine Qp Qxi ?_
  refine Qe (E_alloc (l:=[.int .i64 0,.sl 8 [],.int .i64 0,.int .i64 0,.int .i64 0,.int .i64 0,.int .i64 0,.str []]) (by kernel_rfl)) ?_
  rintro _ _ ⟨b7,rfl,rfl⟩
  refine Qe (E_store (k:=0) (v:=.agg _) (cs':=[.int .i64 _,_,.int .i64 _,.int .i64 _,.int .i64 _,.int .i64 _,.int .i64 _,.str _]) (H2:=_::_::_) tok rfl rfl rfl rfl (rfl) rfl rfl rfl rfl) ?_
  rintro _ _ ⟨rfl,rfl⟩
  refine Qp Qai ?_
  refine AOL.ghost (GS.freeze (t:=7) 0 rfl rfl) ?_
  refine Qnn (AW.seq (Qsr (Qp Qmi ?_)))
  refine Qp Qcne ?_
  refine Qnn (Qif (fun hc2=>?_) fun hc2=>?_)
  ·
   refine Qsr (Qp (Qbd [.int .i64 _,_,.int .i64 _,.int .i64 _,.int .i64 _,.int .i64 _,.int .i64 _,.str _]) ?_)
   refine Qp Qmi ?_
   refine Qe (E_store (k:=0) (v:=.agg _) (cs':=[.int .i64 _,_,.int .i64 _,.int .i64 _,.int .i64 _,.int .i64 _,.int .i64 _,.str _]) (H2:=_::_) tok rfl rfl rfl rfl (rfl) rfl rfl rfl rfl) ?_
   rintro _ _ ⟨rfl,rfl⟩
   refine Qp Qai ?_
   refine Qnn (Qrt ?_)
   refine ⟨.inr rfl,[.agg [.int .i64 _,_,.int .i64 _,.int .i64 _,.int .i64 _,.int .i64 _,.int .i64 _,.str _],.int .i64 _],.cons (.box _ _ _ 0 _ _ _ _ rfl rfl rfl rfl rfl rfl) <| .cons (.tmp _ _ rfl) <| .nil,.cons _ (.refl _),?_⟩
   exact Eq.trans rfl (congrArg (fun q:Ex×Int=>AV.tuple [.agg (cE q.1),.int .i64 q.2]) (KnownS_2 hc1 hc2)).symm
  ·
   refine Qst (Qsr (Qp Qle ?_))
   refine Qe (E_store (k:=0) (v:=.agg _) (cs':=[.int .i64 _,_,.int .i64 _,.int .i64 _,.int .i64 _,.int .i64 _,.int .i64 _,.str _]) (H2:=_::_) tok rfl rfl rfl rfl (rfl) rfl rfl rfl rfl) ?_
   rintro _ _ ⟨rfl,rfl⟩
   refine Qp Qai ?_
   refine Qnn (AW.ret ?_)
   refine ⟨.inr rfl,[.agg [.int .i64 _,_,.int .i64 _,.int .i64 _,.int .i64 _,.int .i64 _,.int .i64 _,.str _],.int .i64 _],.cons (.box _ _ _ 0 _ _ _ _ rfl rfl rfl rfl rfl rfl) <| .cons (.tmp _ _ rfl) <| .nil,.cons _ (.refl _),?_⟩
   exact Eq.trans rfl (congrArg (fun q:Ex×Int=>AV.tuple [.agg (cE q.1),.int .i64 q.2]) (KnownS_3 hc1 hc2)).symm
theorem r_Known (vars:List (List Ev))(hv:vars.length≤1048576)(hx:∀l∈vars,l.length≤1048576)(hy:∀l∈vars,∀v∈l,v.values.length≤1048576)(e:Ex)(hs:sizeN e≤1048576):APure Tryz.prog 21 [.agg (cE e),.agg (cEnv vars)] (.tuple [.agg (cE (KnownS vars e).1),.int .i64 (KnownS vars e).2]):=by
 refine APure.body (n:=26) tok Tryz.func21 rfl rfl rfl fun H=>?_
 refine Qsr (Qp Qbe ?_)
 refine Qp (Qbx [_]) ?_
 refine Qe (E_alloc (l:=[.int .i64 0,.sl 8 [],.int .i64 0,.int .i64 0,.int .i64 0,.int .i64 0,.int .i64 0,.str []]) (by kernel_rfl)) ?_
 rintro _ _ ⟨b4,rfl,rfl⟩
 refine Qp Qai ?_
 refine Qnn (AW.seq (Qsr (Qp Qle ?_)))
 refine Qp (Qc rfl (c25 e hs)) ?_
 refine Qp Qai ?_
 refine Qns (Qp Qmi ?_)
 refine Qp Qcne ?_
 refine Qnn (Qif (fun hc1=>?_) fun hc1=>?_)
 ·
  refine Qsr (Qp (Qbd [.int .i64 _,_,.int .i64 _,.int .i64 _,.int .i64 _,.int .i64 _,.int .i64 _,.str _]) ?_)
  refine Qp Qmi ?_
  refine Qe (E_store (k:=0) (v:=.agg _) (cs':=[.int .i64 _,_,.int .i64 _,.int .i64 _,.int .i64 _,.int .i64 _,.int .i64 _,.str _]) (H2:=_::_) tok rfl rfl rfl rfl (rfl) rfl rfl rfl rfl) ?_
  rintro _ _ ⟨rfl,rfl⟩
  refine Qp Qai ?_
  refine Qnn (Qrt ?_)
  refine ⟨.inr rfl,[.agg [.int .i64 _,_,.int .i64 _,.int .i64 _,.int .i64 _,.int .i64 _,.int .i64 _,.str _],.int .i64 _],.cons (.box _ _ _ 0 _ _ _ _ rfl rfl rfl rfl rfl rfl) <| .cons (.tmp _ _ rfl) <| .nil,.cons _ (.refl _),?_⟩
  exact Eq.trans rfl (congrArg (fun q:Ex×Int=>AV.tuple [.agg (cE q.1),.int .i64 q.2]) (KnownS_1 hc1)).symm
 ·
  have hn:=check_nodes' hc1
  refine Qst (Qsr (Qp Qle ?_))
  refine Qp (Qlg [_]) ?_
  refine Qp (Qc rfl (r_known vars hv hx hy e hn hs)) ?_
  refine Qp Qmu ?_
  refine Qp (P_extract (v:=.agg [.int .i64 _,_,.int .i64 _,.int .i64 _,.int .i64 _,.int .i64 _,.int .i64 _,.str _]) rfl rfl) ?_
  refine Qp Qxi ?_
  refine Qe (E_alloc (l:=[.int .i64 0,.sl 8 [],.int .i64 0,.int .i64 0,.int .i64 0,.int .i64 0,.int .i64 0,.str []]) (by kernel_rfl)) ?_
  rintro _ _ ⟨b7,rfl,rfl⟩
  refine Qe (E_store (k:=0) (v:=.agg _) (cs':=[.int .i64 _,_,.int .i64 _,.int .i64 _,.int .i64 _,.int .i64 _,.int .i64 _,.str _]) (H2:=_::_::_) tok rfl rfl rfl rfl (rfl) rfl rfl rfl rfl) ?_
  rintro _ _ ⟨rfl,rfl⟩
  refine Qp Qai ?_
  refine AOL.ghost (GS.freeze (t:=7) 0 rfl rfl) ?_
  refine Qnn (AW.seq (Qsr (Qp Qmi ?_)))
  refine Qp Qcne ?_
  refine Qnn (Qif (fun hc2=>?_) fun hc2=>?_)
  ·
   refine Qsr (Qp (Qbd [.int .i64 _,_,.int .i64 _,.int .i64 _,.int .i64 _,.int .i64 _,.int .i64 _,.str _]) ?_)
   refine Qp Qmi ?_
   refine Qe (E_store (k:=0) (v:=.agg _) (cs':=[.int .i64 _,_,.int .i64 _,.int .i64 _,.int .i64 _,.int .i64 _,.int .i64 _,.str _]) (H2:=_::_) tok rfl rfl rfl rfl (rfl) rfl rfl rfl rfl) ?_
   rintro _ _ ⟨rfl,rfl⟩
   refine Qp Qai ?_
   refine Qnn (Qrt ?_)
   refine ⟨.inr rfl,[.agg [.int .i64 _,_,.int .i64 _,.int .i64 _,.int .i64 _,.int .i64 _,.int .i64 _,.str _],.int .i64 _],.cons (.box _ _ _ 0 _ _ _ _ rfl rfl rfl rfl rfl rfl) <| .cons (.tmp _ _ rfl) <| .nil,.cons _ (.refl _),?_⟩
   exact Eq.trans rfl (congrArg (fun q:Ex×Int=>AV.tuple [.agg (cE q.1),.int .i64 q.2]) (KnownS_r2 hc1 hc2)).symm
  ·
   refine Qst (Qsr (Qp Qle ?_))
   refine Qe (E_store (k:=0) (v:=.agg _) (cs':=[.int .i64 _,_,.int .i64 _,.int .i64 _,.int .i64 _,.int .i64 _,.int .i64 _,.str _]) (H2:=_::_) tok rfl rfl rfl rfl (rfl) rfl rfl rfl rfl) ?_
   rintro _ _ ⟨rfl,rfl⟩
   refine Qp Qai ?_
   refine Qnn (AW.ret ?_)
   refine ⟨.inr rfl,[.agg [.int .i64 _,_,.int .i64 _,.int .i64 _,.int .i64 _,.int .i64 _,.int .i64 _,.str _],.int .i64 _],.cons (.box _ _ _ 0 _ _ _ _ rfl rfl rfl rfl rfl rfl) <| .cons (.tmp _ _ rfl) <| .nil,.cons _ (.refl _),?_⟩
   exact Eq.trans rfl (congrArg (fun q:Ex×Int=>AV.tuple [.agg (cE q.1),.int .i64 q.2]) (KnownS_r3 hc1 hc2)).symm

end Go.Proofs.YtkddpedfbicbeaaGreatDoor

namespace Go.Proofs.YtkddpedfbicbeaaGreatDoor
open Go Go.Aw
set_option maxHeartbeats 1600000
set_option maxRecDepth 20000
set_option linter.unusedVariables false
set_option linter.unusedSimpArgs false

set_option maxRecDepth 100000
theorem l_example  : APure Tryz.prog 39 [] (.agg (cScene exT exV)):=by
 refine APure.body (n:=12) tok Tryz.func39 rfl rfl rfl fun H=>?_
 refine Qsr (Qe (E_alloc (l:=[.sl 2 [],.sl 2 []]) (by kernel_rfl)) ?_)
 rintro _ _ ⟨b0,rfl,rfl⟩
 refine Qns (Qp (Qbd [.str _,.int .i64 _]) ?_)
 refine Qp (Qbd [.str _,.int .i64 _]) ?_
 refine Qp (P_buildSlice (es:=[[.str _,.int .i64 _],[.str _,.int .i64 _]]) tok rfl rfl rfl rfl rfl rfl rfl rfl rfl) ?_
 refine Qp (Qbd [.str _,_]) ?_
 refine Qe (E_alloc (l:=[.str [],.sl 2 []]) (by kernel_rfl)) ?_
 rintro _ _ ⟨b1,rfl,rfl⟩
 refine Qe (E_store (k:=0) (v:=.agg _) (cs':=[.str _,_]) (H2:=_::_::_) tok rfl rfl rfl rfl (rfl) rfl rfl rfl rfl) ?_
 rintro _ _ ⟨rfl,rfl⟩
 refine AOL.ghost (GS.freeze (t:=1) 0 rfl rfl) ?_
 refine Qns (Qp (Qlg [.str _,_]) ?_)
 refine Qp (P_buildSlice (es:=[[.str _,_]]) tok rfl rfl rfl rfl rfl rfl rfl rfl rfl) ?_
 refine Qp (Qbd [.str _,.int .i64 _]) ?_
 refine Qp (Qbd [.str _,.int .i64 _]) ?_
 refine Qp (P_buildSlice (es:=[[.str _,.int .i64 _],[.str _,.int .i64 _]]) tok rfl rfl rfl rfl rfl rfl rfl rfl rfl) ?_
 refine Qp (Qbd [_,_]) ?_
 refine Qe (E_store (k:=0) (v:=.agg _) (cs':=[_,_]) (H2:=_::_) tok rfl rfl rfl rfl (rfl) rfl rfl rfl rfl) ?_
 rintro _ _ ⟨rfl,rfl⟩
 refine Qnn (AW.ret ?_)
 refine ⟨.inr rfl,[.agg [_,_]],.cons (.box _ _ _ 0 _ _ _ _ rfl rfl rfl rfl rfl rfl) <| .nil,.cons _ (.refl _),?_⟩
 rfl
theorem r_SameAll (es:List Ex)(hel:es.length≤1048576)(hes:∀e∈es,sizeN e≤1048576):APure Tryz.prog 45 [.sl 8 (es.map encE),.sl 8 (es.map encE)] (.bool true):=by
 refine APure.body (n:=27) tok Tryz.func45 rfl rfl rfl fun H=>?_
 refine Qsr (Qp Qab ?_)
 refine Qnn (AW.seq (Qsr (Qp Qms ?_)))
 refine Qp (P_len_sl (n:=es.length) tok rfl rfl rfl (by simp)) ?_
 refine Qp Qms ?_
 refine Qp (P_len_sl (n:=es.length) tok rfl rfl rfl (by simp)) ?_
 refine Qp Qcne ?_
 refine Qnn (Qif (fun hc1=>?_) fun hc1=>?_)
 ·
  exact absurd hc1 (by simp)
 ·
  refine Qst (AW.seq (Qsr (Qp Qai ?_)))
  refine Qnn (AW.block ?_)
  refine AW.loopS (fun (k:Nat)=>(⟨[(0,.sl 8 (es.map encE)),(1,.sl 8 (es.map encE)),(4,.bool false),(5,.int .i64 (k:Int))],H,27⟩:St)) (fun (k:Nat)=>k≤es.length) (fun (k:Nat)=>es.length - k) (0) ?_ (GS.weaken ⟨rfl,rfl,rfl,rfl,trivial⟩ (.refl _)) ?_
  · exact Nat.zero_le _
  ·
   rintro k hR
   refine AW.seq (Qsr (Qp Qmi ?_))
   refine Qp Qms ?_
   refine Qp (P_len_sl (n:=es.length) tok rfl rfl rfl (by simp)) ?_
   refine Qp Qclt ?_
   refine Qnn (Qif (fun hc2=>?_) fun hc2=>?_)
   ·
    obtain ⟨e,he⟩:=get_lt hc2
    have hlt:=get_lt' he
    have hem:=List.mem_of_getElem? he
    refine Qst (AW.seq (AW.block (AW.seq ?_)))
    refine AW.draw mixed (fun _=>True) trivial (by kernel_rfl) ?_
    refine Qn 0 rfl Qms ?_
    refine Qn 1 rfl Qmi ?_
    refine Qn 2 rfl (P_indexAddr (c:=[.int .i64 _,_,.int .i64 _,.int .i64 _,.int .i64 _,.int .i64 _,.int .i64 _,.str _]) tok rfl rfl rfl rfl rfl rfl (by omega) (encE_at he)) ?_
    refine Qn 3 rfl Qle ?_
    refine Qn 4 rfl Qms ?_
    refine Qn 5 rfl Qmi ?_
    refine Qn 6 rfl (P_indexAddr (c:=[.int .i64 _,_,.int .i64 _,.int .i64 _,.int .i64 _,.int .i64 _,.int .i64 _,.str _]) tok rfl rfl rfl rfl rfl rfl (by omega) (encE_at he)) ?_
    refine Qn 7 rfl Qle ?_
    refine Qn 8 rfl (Qc rfl (c20 e e (hes e hem))) ?_
    refine Qn 9 rfl Qnt ?_
    refine Canon.done _ _ (by kernel_rfl) ?_
    refine thenN (Qif (fun hc3=>?_) fun hc3=>?_)
    ·
     exact absurd hc3 (by rw [(sameS_iff e e).2 rfl];simp)
    ·
     refine AW.skip (blkN (thenN (AW.region (Qp Qmi ?_))))
     refine Qp Qad ?_
     refine Qp Qai ?_
     refine Qnn ?_
     refine ⟨k+1,?_,?_,GS.weaken ⟨rfl,rfl,rfl,rfl,trivial⟩ (.refl _)⟩
     · exact hlt
     · omega
   ·
    refine AW.exit ?_
    refine thenE (thenE (blkHit (thenN (Qsr (Qp Qab ?_)))))
    refine Qnn (AW.ret (Qr (.bool _) ?_))
    rfl
theorem r_SameZ (z:Zn)(hz:z.bs.length≤1048576):APure Tryz.prog 44 [.agg (cZn z),.agg (cZn z)] (.bool true):=by
 refine APure.body (n:=38) tok Tryz.func44 rfl rfl rfl fun H=>?_
 refine Qsr (Qp (Qbx [.int .i64 _,_]) ?_)
 refine Qp (Qbx [.int .i64 _,_]) ?_
 refine Qp Qab ?_
 refine Qnn (AW.seq (Qsr (Qp (Qf [.int .i64 _,_]) ?_)))
 refine Qp Qli ?_
 refine Qp (Qf [.int .i64 _,_]) ?_
 refine Qp Qli ?_
 refine Qp Qcne ?_
 refine Qp Qmb ?_
 refine Qg [] Qw (Qf [_]) ?_
 refine Qg [(12,_)] Qw Qls ?_
 refine AOL.g (y:=.int .i64 _) _ [(13,_)] rfl (EntL.all ⟨Ent.self _ _,trivial⟩) (fun hG=>P_len_sl (n:=z.bs.length) tok rfl rfl rfl (by simp)) rfl ?_
 refine Qg [] Qw (Qf [_]) ?_
 refine Qg [(15,_)] Qw Qls ?_
 refine AOL.g (y:=.int .i64 _) _ [(16,_)] rfl (EntL.all ⟨Ent.self _ _,trivial⟩) (fun hG=>P_len_sl (n:=z.bs.length) tok rfl rfl rfl (by simp)) rfl ?_
 refine AOL.g (y:=.bool _) _ [(14,_),(17,_)] rfl (EntL.all ⟨Ent.self _ _,Ent.self _ _,trivial⟩) (fun hG=>P_neq rfl rfl) rfl ?_
 refine Qp Qpo ?_
 refine Qnn (Qif (fun hc1=>?_) fun hc1=>?_)
 ·
  exact absurd hc1 (by simp)
 ·
  refine Qst (AW.seq (Qsr (Qp Qai ?_)))
  refine Qnn (AW.block ?_)
  refine AW.loopS (fun (k:Nat)=>(⟨[(2,.ptr (cZn z)),(3,.ptr (cZn z)),(4,.bool false),(5,.int .i64 (k:Int))],H,38⟩:St)) (fun (k:Nat)=>k≤z.bs.length) (fun (k:Nat)=>z.bs.length - k) (0) ?_ (GS.weaken ⟨rfl,rfl,rfl,rfl,trivial⟩ (.refl _)) ?_
  · exact Nat.zero_le _
  ·
   rintro k hR
   refine AW.seq (Qsr (Qp Qmi ?_))
   refine Qp (Qf [_]) ?_
   refine Qp Qls ?_
   refine Qp (P_len_sl (n:=z.bs.length) tok rfl rfl rfl (by simp)) ?_
   refine Qp Qclt ?_
   refine Qnn (Qif (fun hc2=>?_) fun hc2=>?_)
   ·
    obtain ⟨a,ha⟩:=get_lt hc2
    have hlt:=get_lt' ha
    have hm:=List.mem_of_getElem? ha
    refine Qst (AW.seq (AW.block (AW.seq ?_)))
    refine AW.draw mixed (fun _=>True) trivial (by kernel_rfl) ?_
    refine Qn 0 rfl (Qf [_]) ?_
    refine Qn 1 rfl Qls ?_
    refine Qn 2 rfl Qmi ?_
    refine Qn 3 rfl (P_indexAddr (c:=[.int .i64 _,.int .i64 _,.int .i64 _]) tok rfl rfl rfl rfl rfl rfl (by omega) (map_at ha)) ?_
    refine Qn 4 rfl (Qlg [.int .i64 _,.int .i64 _,.int .i64 _]) ?_
    refine Qn 5 rfl (Qf [_]) ?_
    refine Qn 6 rfl Qls ?_
    refine Qn 7 rfl Qmi ?_
    refine Qn 8 rfl (P_indexAddr (c:=[.int .i64 _,.int .i64 _,.int .i64 _]) tok rfl rfl rfl rfl rfl rfl (by omega) (map_at ha)) ?_
    refine Qn 9 rfl (Qlg [.int .i64 _,.int .i64 _,.int .i64 _]) ?_
    refine Qn 10 rfl (P_neq_agg tok rfl rfl rfl rfl rfl) ?_
    refine Canon.done _ _ (by kernel_rfl) ?_
    refine thenN (Qif (fun hc3=>?_) fun hc3=>?_)
    ·
     exact absurd hc3 (by simp)
    ·
     refine AW.skip (blkN (thenN (AW.region (Qp Qmi ?_))))
     refine Qp Qad ?_
     refine Qp Qai ?_
     refine Qnn ?_
     refine ⟨k+1,?_,?_,GS.weaken ⟨rfl,rfl,rfl,rfl,trivial⟩ (.refl _)⟩
     · exact hlt
     · omega
   ·
    refine AW.exit ?_
    refine thenE (thenE (blkHit (thenN (Qsr (Qp Qab ?_)))))
    refine Qnn (AW.ret (Qr (.bool _) ?_))
    rfl
theorem l_down (n:Int):APure Tryz.prog 46 [.int .i64 n] (.agg (cE (downE n))):=by
 refine APure.body (n:=9) tok Tryz.func46 rfl rfl rfl fun H=>?_
 refine Qsr (Qe (E_alloc (l:=[.int .i64 0,.sl 8 [],.int .i64 0,.int .i64 0,.int .i64 0,.int .i64 0,.int .i64 0,.str []]) (by kernel_rfl)) ?_)
 rintro _ _ ⟨b2,rfl,rfl⟩
 refine Qns (Qp (Qc rfl (l_price _)) ?_)
 refine Qp (Qc rfl (l_price _)) ?_
 refine Qp Qmi ?_
 refine Qp (Qc rfl (l_number _)) ?_
 refine Qp (Qc rfl (l_two _ _ _)) ?_
 refine Qp (Qc rfl (l_two _ _ _)) ?_
 refine Qe (E_store (k:=0) (v:=.agg _) (cs':=[.int .i64 _,_,.int .i64 _,.int .i64 _,.int .i64 _,.int .i64 _,.int .i64 _,.str _]) (H2:=_::_) tok rfl rfl rfl rfl (rfl) rfl rfl rfl rfl) ?_
 rintro _ _ ⟨rfl,rfl⟩
 refine Qnn (AW.ret ?_)
 refine ⟨.inr rfl,[.agg [.int .i64 _,_,.int .i64 _,.int .i64 _,.int .i64 _,.int .i64 _,.int .i64 _,.str _]],.cons (.box _ _ _ 0 _ _ _ _ rfl rfl rfl rfl rfl rfl) <| .nil,.cons _ (.refl _),?_⟩
 rfl
theorem l_verdict (w:Int)(es:List Ex)(hel:es.length≤60)(hes:∀e∈es,sizeN e≤1048576):APure Tryz.prog 47 [.int .i64 w,.sl 8 (es.map encE)] (.bool (verS w es)):=by
 refine APure.body (n:=27) tok Tryz.func47 rfl rfl rfl fun H=>?_
 refine Qsr (Qp Qab ?_)
 refine Qns (Qp (Qc rfl (l_example)) ?_)
 refine Qe (E_alloc (l:=[.sl 2 [],.sl 2 []]) (by kernel_rfl)) ?_
 rintro _ _ ⟨b5,rfl,rfl⟩
 refine Qe (E_store (k:=0) (v:=.agg _) (cs':=[_,_]) (H2:=_::_) tok rfl rfl rfl rfl (rfl) rfl rfl rfl rfl) ?_
 rintro _ _ ⟨rfl,rfl⟩
 refine AOL.ghost (GS.freeze (t:=5) 0 rfl rfl) ?_
 refine Qns (Qp (Qf [_,_]) ?_)
 refine Qp Qls ?_
 refine Qp (Qf [_]) ?_
 refine Qp Qls ?_
 refine Qp Qms ?_
 refine Qp (Qc rfl (d_Possible exT (by decide) ex_sc exV (by decide) es hel hes)) ?_
 refine Qp Qmu ?_
 refine Qp Qxi ?_
 refine Qp Qxs ?_
 refine Qp Qxi ?_
 refine Qp Qai ?_
 refine Qp Qas ?_
 refine Qp Qai ?_
 refine Qns (Qp Qmi ?_)
 refine Qp Qceq ?_
 refine Qp Qmb ?_
 refine Qg [] Qw Qmi ?_
 refine Qg [] Qw Qmi ?_
 refine AOL.g (y:=.bool _) _ [(23,_),(24,_)] rfl (EntL.all ⟨Ent.self _ _,Ent.self _ _,trivial⟩) (fun hG=>P_eql rfl rfl) rfl ?_
 refine Qp Qpa ?_
 refine Qp Qab ?_
 refine Qnn (AW.ret (Qr (.bool _) ?_))
 rfl
theorem l_verdictC (w:Int)(es:List Ex)(hel:es.length≤60)(hes:∀e∈es,sizeN e≤1048576)(h:verS w es=true):APure Tryz.prog 47 [.int .i64 w,.sl 8 (es.map cE)] (.bool true):=by
  have h1:=l_verdict w es hel hes
  rw [show es.map encE=es.map cE from List.map_congr_left fun e _=>encE_eq e,h] at h1
  exact h1

end Go.Proofs.YtkddpedfbicbeaaGreatDoor

namespace Go.Proofs.YtkddpedfbicbeaaGreatDoor
open Go Go.Aw
set_option maxHeartbeats 25600000
set_option maxRecDepth 20000
set_option linter.unusedVariables false
set_option linter.unusedSimpArgs false

set_option maxRecDepth 100000
theorem c_clauses:APure Tryz.prog 13 [.sl 2 (exT.map cSc),.sl 2 (exV.map cVa),.agg (cE clE)] (.tuple [.sl 1 (clL.map cCl),.int .i64 0]):=by
  have h:=d_Clauses exT (by decide) ex_sc exV (by decide) clE (ex_size _ (by decide))
  rw [ex_cl] at h
  exact h
theorem c_zone:APure Tryz.prog 43 [.sl 2 (exT.map cSc),.sl 2 (exV.map cVa),.sl 9 ([⟨lessE,true⟩,⟨two 7 (priE 0) (priE 1),false⟩].map cLit)] (.tuple [.agg (cZn znE),.sl 8 ([priE 0,priE 1].map encE),.int .i64 0]):=by
  have h:=d_Zone exT (by decide) ex_sc exV (by decide) [⟨lessE,true⟩,⟨two 7 (priE 0) (priE 1),false⟩] (by decide) (fun c hc=>ex_sizes2 _ (List.mem_cons_self ..) c hc)
  rw [ex_zn] at h
  exact h
theorem c_same:APure Tryz.prog 15 [.sl 1 (clL.map cCl),.sl 1 (clL.map cCl)] (.bool true):=by
  have h:=r_SameClauses clL clL (by decide) (by decide) ex_sizes2
  rw [ex_same] at h
  exact h
theorem c_sameZ:APure Tryz.prog 44 [.agg (cZn znE),.agg (cZn znE)] (.bool true):=r_SameZ znE (by decide)
theorem c_sameA:APure Tryz.prog 45 [.sl 8 ([priE 0,priE 1].map encE),.sl 8 ([priE 0,priE 1].map cE)] (.bool true):=by
  have h:=r_SameAll [priE 0,priE 1] (by decide) (ex_sizes _ (by decide))
  exact h
theorem c_imp1:APure Tryz.prog 24 [.sl 2 (exT.map cSc),.sl 2 (exV.map cVa),.agg (cE lessE),.agg (cE (two 7 (priE 0) (numE 4)))] (.tuple [.int .i64 1,.int .i64 0]):=by
  have h:=d_Implies exT (by decide) ex_sc exV (by decide) lessE (two 7 (priE 0) (numE 4)) (ex_size _ (by decide)) (ex_size _ (by decide))
  rw [imp_1] at h
  exact h
theorem c_imp2:APure Tryz.prog 24 [.sl 2 (exT.map cSc),.sl 2 (exV.map cVa),.agg (cE (two 7 (priE 0) (numE 4))),.agg (cE lessE)] (.tuple [.int .i64 2,.int .i64 0]):=by
  have h:=d_Implies exT (by decide) ex_sc exV (by decide) (two 7 (priE 0) (numE 4)) lessE (ex_size _ (by decide)) (ex_size _ (by decide))
  rw [imp_2] at h
  exact h
theorem l_awake  : APure Tryz.prog 10 [] (.bool true):=by
 refine APure.body (n:=179) tok Tryz.func10 rfl rfl rfl fun H=>?_
 refine Qsr (Qp Qab ?_)
 refine Qns (Qp (Qc rfl (l_example)) ?_)
 refine Qe (E_alloc (l:=[.sl 2 [],.sl 2 []]) (by kernel_rfl)) ?_
 rintro _ _ ⟨b1,rfl,rfl⟩
 refine Qe (E_store (k:=0) (v:=.agg _) (cs':=[_,_]) (H2:=_::_) tok rfl rfl rfl rfl (rfl) rfl rfl rfl rfl) ?_
 rintro _ _ ⟨rfl,rfl⟩
 refine AOL.ghost (GS.freeze (t:=1) 0 rfl rfl) ?_
 refine Qns (Qp (Qc rfl (l_price _)) ?_)
 refine Qp (Qc rfl (l_number _)) ?_
 refine Qp (Qc rfl (l_two _ _ _)) ?_
 refine Qe (E_alloc (l:=[.int .i64 0,.sl 8 [],.int .i64 0,.int .i64 0,.int .i64 0,.int .i64 0,.int .i64 0,.str []]) (by kernel_rfl)) ?_
 rintro _ _ ⟨b2,rfl,rfl⟩
 refine Qe (E_store (k:=0) (v:=.agg _) (cs':=[.int .i64 _,_,.int .i64 _,.int .i64 _,.int .i64 _,.int .i64 _,.int .i64 _,.str _]) (H2:=_::_) tok rfl rfl rfl rfl (rfl) rfl rfl rfl rfl) ?_
 rintro _ _ ⟨rfl,rfl⟩
 refine AOL.ghost (GS.freeze (t:=2) 0 rfl rfl) ?_
 refine Qnn (AW.seq ?_)
 refine AW.draw mixed (fun _=>True) trivial (by kernel_rfl) ?_
 refine Qn 0 rfl (Qf [_,_]) ?_
 refine Qn 1 rfl Qls ?_
 refine Qn 2 rfl (Qf [_]) ?_
 refine Qn 3 rfl Qls ?_
 refine Qn 4 rfl Qle ?_
 refine Qn 5 rfl (Qc rfl (l_price _)) ?_
 refine Qn 6 rfl (Qc rfl (l_price _)) ?_
 refine Qn 7 rfl (Qc rfl (l_two _ _ _)) ?_
 refine Qn 8 rfl (Qc rfl (l_two _ _ _)) ?_
 refine Qn 9 rfl (Qc rfl (l_not _)) ?_
 refine Qn 10 rfl (Qc rfl (c_clauses)) ?_
 refine Qn 11 rfl Qmu ?_
 refine Qn 12 rfl Qxs ?_
 refine Qn 13 rfl Qxi ?_
 refine Qn 14 rfl Qas ?_
 refine Qn 15 rfl Qai ?_
 refine Canon.done _ _ (by kernel_rfl) ?_
 refine thenN (Qsr (Qp Qle ?_))
 refine Qp (Qbd [.int .i64 _,_,.int .i64 _,.int .i64 _,.int .i64 _,.int .i64 _,.int .i64 _,.str _,.bool _]) ?_
 refine Qe (E_alloc (l:=[.int .i64 0,.sl 8 [],.int .i64 0,.int .i64 0,.int .i64 0,.int .i64 0,.int .i64 0,.str [],.bool false]) (by kernel_rfl)) ?_
 rintro _ _ ⟨b5,rfl,rfl⟩
 refine Qe (E_store (k:=0) (v:=.agg _) (cs':=[.int .i64 _,_,.int .i64 _,.int .i64 _,.int .i64 _,.int .i64 _,.int .i64 _,.str _,.bool _]) (H2:=_::_) tok rfl rfl rfl rfl (rfl) rfl rfl rfl rfl) ?_
 rintro _ _ ⟨rfl,rfl⟩
 refine AOL.ghost (GS.freeze (t:=5) 0 rfl rfl) ?_
 refine Qnn (AW.seq (AW.seq ?_))
 refine AW.draw mixed (fun _=>True) trivial (by kernel_rfl) ?_
 refine Qn 0 rfl Qmi ?_
 refine Qn 1 rfl Qcne ?_
 refine Qn 2 rfl Qmb ?_
 refine Qo 3 rfl [] Qw Qms ?_
 refine Qo 4 rfl [] Qw (Qlg [.int .i64 _,_,.int .i64 _,.int .i64 _,.int .i64 _,.int .i64 _,.int .i64 _,.str _,.bool _]) ?_
 refine Qo 5 rfl [] Qw (Qc rfl (l_price _)) ?_
 refine Qo 6 rfl [] Qw (Qc rfl (l_price _)) ?_
 refine Canon.pure _ _ 7 _ _ rfl (by kernel_rfl) (by kernel_rfl) rfl (.opt _ (.agg _) [(43,_),(44,_)] rfl (EntL.all ⟨Ent.self _ _,Ent.self _ _,trivial⟩) (fun hG=>P_callf (by kernel_rfl) rfl rfl (l_two _ _ _)) rfl) ?_
 refine Qo 8 rfl [(45,_)] Qw (Qbd [.int .i64 _,_,.int .i64 _,.int .i64 _,.int .i64 _,.int .i64 _,.int .i64 _,.str _,.bool _]) ?_
 refine Canon.pure _ _ 9 _ _ rfl (by kernel_rfl) (by kernel_rfl) rfl (.opt _ (.sl _ _) [(42,_),(46,_)] rfl (EntL.all ⟨Ent.self _ _,Ent.self _ _,trivial⟩) (fun hG=>P_buildSlice (es:=[[.int .i64 _,_,.int .i64 _,.int .i64 _,.int .i64 _,.int .i64 _,.int .i64 _,.str _,.bool _],[.int .i64 _,_,.int .i64 _,.int .i64 _,.int .i64 _,.int .i64 _,.int .i64 _,.str _,.bool _]]) tok rfl rfl rfl rfl rfl rfl rfl rfl rfl) rfl) ?_
 refine Qo 10 rfl [] Qw (Qlg [.int .i64 _,_,.int .i64 _,.int .i64 _,.int .i64 _,.int .i64 _,.int .i64 _,.str _,.bool _]) ?_
 refine Qo 11 rfl [] Qw (Qc rfl (l_price _)) ?_
 refine Qo 12 rfl [] Qw (Qc rfl (l_price _)) ?_
 refine Canon.pure _ _ 13 _ _ rfl (by kernel_rfl) (by kernel_rfl) rfl (.opt _ (.agg _) [(49,_),(50,_)] rfl (EntL.all ⟨Ent.self _ _,Ent.self _ _,trivial⟩) (fun hG=>P_callf (by kernel_rfl) rfl rfl (l_two _ _ _)) rfl) ?_
 refine Qo 14 rfl [(51,_)] Qw (Qbd [.int .i64 _,_,.int .i64 _,.int .i64 _,.int .i64 _,.int .i64 _,.int .i64 _,.str _,.bool _]) ?_
 refine Canon.pure _ _ 15 _ _ rfl (by kernel_rfl) (by kernel_rfl) rfl (.opt _ (.sl _ _) [(48,_),(52,_)] rfl (EntL.all ⟨Ent.self _ _,Ent.self _ _,trivial⟩) (fun hG=>P_buildSlice (es:=[[.int .i64 _,_,.int .i64 _,.int .i64 _,.int .i64 _,.int .i64 _,.int .i64 _,.str _,.bool _],[.int .i64 _,_,.int .i64 _,.int .i64 _,.int .i64 _,.int .i64 _,.int .i64 _,.str _,.bool _]]) tok rfl rfl rfl rfl rfl rfl rfl rfl rfl) rfl) ?_
 refine Canon.pure _ _ 16 _ _ rfl (by kernel_rfl) (by kernel_rfl) rfl (.opt _ (.sl _ _) [(47,_),(53,_)] rfl (EntL.all ⟨Ent.self _ _,Ent.self _ _,trivial⟩) (fun hG=>P_buildSlice (es:=[[_],[_]]) tok rfl rfl rfl rfl rfl rfl rfl rfl rfl) rfl) ?_
 refine Canon.pure _ _ 17 _ _ rfl (by kernel_rfl) (by kernel_rfl) rfl (.opt _ (.bool _) [(41,_),(54,_)] rfl (EntL.all ⟨Ent.self _ _,Ent.self _ _,trivial⟩) (fun hG=>P_callf (by kernel_rfl) rfl rfl (c_same)) rfl) ?_
 refine Qo 18 rfl [(55,_)] Qw Qnt ?_
 refine Qn 19 rfl Qpo ?_
 refine Canon.done _ _ (by kernel_rfl) ?_
 refine thenN (Qif (fun hc1=>?_) fun hc1=>?_)
 ·
  cases hc1
 ·
  refine Qst (AW.seq ?_)
  refine AW.draw mixed (fun _=>True) trivial (by kernel_rfl) ?_
  refine Qn 0 rfl (Qf [_,_]) ?_
  refine Qn 1 rfl Qls ?_
  refine Qn 2 rfl (Qf [_]) ?_
  refine Qn 3 rfl Qls ?_
  refine Qn 4 rfl Qms ?_
  refine Qn 5 rfl (P_indexAddr (c:=[_]) tok rfl rfl rfl rfl rfl rfl (by decide) (rfl)) ?_
  refine Qn 6 rfl Qls ?_
  refine Qn 7 rfl (Qc rfl (c_zone)) ?_
  refine Qn 8 rfl Qmu ?_
  refine Qn 9 rfl (P_extract (v:=.agg [.int .i64 _,_]) rfl rfl) ?_
  refine Qn 10 rfl Qxs ?_
  refine Qn 11 rfl Qxi ?_
  refine Canon.eff _ _ 12 _ _ rfl (by kernel_rfl) rfl rfl (E_alloc (l:=[.int .i64 0,.sl 3 []]) (by kernel_rfl)) (fun _ _ _=>trivial) ?_
  rintro _ _ ⟨b6,rfl,rfl⟩
  refine Canon.eff _ _ 13 _ _ rfl (by kernel_rfl) rfl rfl (E_store (k:=0) (v:=.agg _) (cs':=[.int .i64 _,_]) (H2:=_::_) tok rfl rfl rfl rfl (rfl) rfl rfl rfl rfl) (fun _ _ _=>trivial) ?_
  rintro _ _ ⟨rfl,rfl⟩
  refine Qn 14 rfl Qas ?_
  refine Qn 15 rfl Qai ?_
  refine Canon.done _ _ (by kernel_rfl) ?_
  refine thenN ?_
  refine AW.ghost (GS.freeze (t:=6) 0 rfl rfl) ?_
  refine Qsr (Qp (Qbd [.int .i64 _,.int .i64 _,.int .i64 _]) ?_)
  refine Qp (Qbd [.int .i64 _,.int .i64 _,.int .i64 _]) ?_
  refine Qp (Qbd [.int .i64 _,.int .i64 _,.int .i64 _]) ?_
  refine Qp (Qbd [.int .i64 _,.int .i64 _,.int .i64 _]) ?_
  refine Qp (Qbd [.int .i64 _,.int .i64 _,.int .i64 _]) ?_
  refine Qp (Qbd [.int .i64 _,.int .i64 _,.int .i64 _]) ?_
  refine Qp (P_buildSlice (es:=[[.int .i64 _,.int .i64 _,.int .i64 _],[.int .i64 _,.int .i64 _,.int .i64 _],[.int .i64 _,.int .i64 _,.int .i64 _],[.int .i64 _,.int .i64 _,.int .i64 _],[.int .i64 _,.int .i64 _,.int .i64 _],[.int .i64 _,.int .i64 _,.int .i64 _]]) tok rfl rfl rfl rfl rfl rfl rfl rfl rfl) ?_
  refine Qp (Qbd [.int .i64 _,_]) ?_
  refine Qe (E_alloc (l:=[.int .i64 0,.sl 3 []]) (by kernel_rfl)) ?_
  rintro _ _ ⟨b9,rfl,rfl⟩
  refine Qe (E_store (k:=0) (v:=.agg _) (cs':=[.int .i64 _,_]) (H2:=_::_) tok rfl rfl rfl rfl (rfl) rfl rfl rfl rfl) ?_
  rintro _ _ ⟨rfl,rfl⟩
  refine AOL.ghost (GS.freeze (t:=9) 0 rfl rfl) ?_
  refine Qnn (AW.seq (Qsr (Qp Qmi ?_)))
  refine Qp Qcne ?_
  refine Qp Qmb ?_
  refine Qg [] Qw (Qlg [.int .i64 _,_]) ?_
  refine Qg [] Qw (Qlg [.int .i64 _,_]) ?_
  refine AOL.g (y:=.bool _) _ [(81,_),(82,_)] rfl (EntL.all ⟨Ent.self _ _,Ent.self _ _,trivial⟩) (fun hG=>P_callf (by kernel_rfl) rfl rfl (c_sameZ)) rfl ?_
  refine Qg [(83,_)] Qw Qnt ?_
  refine Qp Qpo ?_
  refine Qp Qmb ?_
  refine Qg [] Qw Qms ?_
  refine Qg [] Qw (Qc rfl (l_price _)) ?_
  refine Qg [] Qw (Qc rfl (l_price _)) ?_
  refine AOL.g (y:=.sl _ _) _ [(88,_),(89,_)] rfl (EntL.all ⟨Ent.self _ _,Ent.self _ _,trivial⟩) (fun hG=>P_buildSlice (es:=[[.int .i64 _,_,.int .i64 _,.int .i64 _,.int .i64 _,.int .i64 _,.int .i64 _,.str _],[.int .i64 _,_,.int .i64 _,.int .i64 _,.int .i64 _,.int .i64 _,.int .i64 _,.str _]]) tok rfl rfl rfl rfl rfl rfl rfl rfl rfl) rfl ?_
  refine AOL.g (y:=.bool _) _ [(87,_),(90,_)] rfl (EntL.all ⟨Ent.self _ _,Ent.self _ _,trivial⟩) (fun hG=>P_callf (by kernel_rfl) rfl rfl (c_sameA)) rfl ?_
  refine Qg [(91,_)] Qw Qnt ?_
  refine Qp Qpo ?_
  refine Qnn (Qif (fun hc2=>?_) fun hc2=>?_)
  ·
   cases hc2
  ·
   refine Qst (Qsr (Qp (Qc rfl (l_price _)) ?_))
   refine Qp (Qc rfl (l_price _)) ?_
   refine Qp (Qc rfl (l_two _ _ _)) ?_
   refine Qe (E_alloc (l:=[.int .i64 0,.sl 8 [],.int .i64 0,.int .i64 0,.int .i64 0,.int .i64 0,.int .i64 0,.str []]) (by kernel_rfl)) ?_
   rintro _ _ ⟨b10,rfl,rfl⟩
   refine Qe (E_store (k:=0) (v:=.agg _) (cs':=[.int .i64 _,_,.int .i64 _,.int .i64 _,.int .i64 _,.int .i64 _,.int .i64 _,.str _]) (H2:=_::_) tok rfl rfl rfl rfl (rfl) rfl rfl rfl rfl) ?_
   rintro _ _ ⟨rfl,rfl⟩
   refine AOL.ghost (GS.freeze (t:=10) 0 rfl rfl) ?_
   refine Qns (Qp (P_assign (v:=.fn _ _ _) rfl) ?_)
   refine Qns (Qp (Qbd [.int .i64 _,.int .i64 _,.str _]) ?_)
   refine Qp (Qbd [.int .i64 _,_,.int .i64 _,.int .i64 _,.int .i64 _,.int .i64 _,.int .i64 _,.str _]) ?_
   refine Qe (E_alloc (l:=[.int .i64 0,.sl 8 [],.int .i64 0,.int .i64 0,.int .i64 0,.int .i64 0,.int .i64 0,.str []]) (by kernel_rfl)) ?_
   rintro _ _ ⟨b12,rfl,rfl⟩
   refine Qe (E_store (k:=0) (v:=.agg _) (cs':=[.int .i64 _,_,.int .i64 _,.int .i64 _,.int .i64 _,.int .i64 _,.int .i64 _,.str _]) (H2:=_::_) tok rfl rfl rfl rfl (rfl) rfl rfl rfl rfl) ?_
   rintro _ _ ⟨rfl,rfl⟩
   refine AOL.ghost (GS.freeze (t:=12) 0 rfl rfl) ?_
   refine Qns (Qp (Qbd [.int .i64 _,_,.int .i64 _,.int .i64 _,.int .i64 _,.int .i64 _,.int .i64 _,.str _]) ?_)
   refine Qp (Qc rfl (l_number _)) ?_
   refine Qp (Qc rfl (l_two 9 ⟨3,[],0,0,0,v0⟩ (numE 2))) ?_
   refine Qe (E_alloc (l:=[.int .i64 0,.sl 8 [],.int .i64 0,.int .i64 0,.int .i64 0,.int .i64 0,.int .i64 0,.str []]) (by kernel_rfl)) ?_
   rintro _ _ ⟨b13,rfl,rfl⟩
   refine Qe (E_store (k:=0) (v:=.agg _) (cs':=[.int .i64 _,_,.int .i64 _,.int .i64 _,.int .i64 _,.int .i64 _,.int .i64 _,.str _]) (H2:=_::_) tok rfl rfl rfl rfl (rfl) rfl rfl rfl rfl) ?_
   rintro _ _ ⟨rfl,rfl⟩
   refine AOL.ghost (GS.freeze (t:=13) 0 rfl rfl) ?_
   refine Qnn (AW.seq ?_)
   refine AW.draw mixed (fun _=>True) trivial (by kernel_rfl) ?_
   refine Qn 0 rfl (Qf [_,_]) ?_
   refine Qn 1 rfl Qls ?_
   refine Qn 2 rfl (Qf [_]) ?_
   refine Qn 3 rfl Qls ?_
   refine Qn 4 rfl Qle ?_
   refine Qn 5 rfl (Qc rfl (l_price _)) ?_
   refine Qn 6 rfl (Qc rfl (l_number _)) ?_
   refine Qn 7 rfl (Qc rfl (l_two _ _ _)) ?_
   refine Qn 8 rfl (Qc rfl (c_imp1)) ?_
   refine Qn 9 rfl Qmu ?_
   refine Qn 10 rfl Qxi ?_
   refine Qn 11 rfl Qxi ?_
   refine Qn 12 rfl Qai ?_
   refine Qn 13 rfl Qai ?_
   refine Canon.done _ _ (by kernel_rfl) ?_
   refine thenN (AW.seq ?_)
   refine AW.draw mixed (fun _=>True) trivial (by kernel_rfl) ?_
   refine Qn 0 rfl (Qf [_,_]) ?_
   refine Qn 1 rfl Qls ?_
   refine Qn 2 rfl (Qf [_]) ?_
   refine Qn 3 rfl Qls ?_
   refine Qn 4 rfl (Qc rfl (l_price _)) ?_
   refine Qn 5 rfl (Qc rfl (l_number _)) ?_
   refine Qn 6 rfl (Qc rfl (l_two _ _ _)) ?_
   refine Qn 7 rfl Qle ?_
   refine Qn 8 rfl (Qc rfl (c_imp2)) ?_
   refine Qn 9 rfl Qmu ?_
   refine Qn 10 rfl Qxi ?_
   refine Qn 11 rfl Qxi ?_
   refine Qn 12 rfl Qai ?_
   refine Qn 13 rfl Qai ?_
   refine Canon.done _ _ (by kernel_rfl) ?_
   refine thenN (AW.seq ?_)
   refine AW.draw mixed (fun _=>True) trivial (by kernel_rfl) ?_
   refine Qn 0 rfl Qle ?_
   refine Qn 1 rfl (P_move (v:=.fn _ _ _) rfl) ?_
   refine Qn 2 rfl (P_call (by kernel_rfl) rfl rfl rfl (l_down 1)) ?_
   refine Qn 3 rfl (P_buildSlice (es:=[[.int .i64 _,_,.int .i64 _,.int .i64 _,.int .i64 _,.int .i64 _,.int .i64 _,.str _],[.int .i64 _,_,.int .i64 _,.int .i64 _,.int .i64 _,.int .i64 _,.int .i64 _,.str _]]) tok rfl rfl rfl rfl rfl rfl rfl rfl rfl) ?_
   refine Qn 4 rfl (Qc rfl (l_verdictC 2 [upE,downE 1] (by decide) (ex_sizes _ (by decide)) ver_1)) ?_
   refine Qn 5 rfl Qmb ?_
   refine Qo 6 rfl [] Qw Qle ?_
   refine Canon.pure _ _ 7 _ _ rfl (by kernel_rfl) (by kernel_rfl) rfl (.opt _ (.fn _ _ _) [] rfl (EntL.all trivial) (fun hG=>P_move (v:=.fn _ _ _) rfl) rfl) ?_
   refine Canon.pure _ _ 8 _ _ rfl (by kernel_rfl) (by kernel_rfl) rfl (.opt _ (.agg _) [(133,_)] rfl (EntL.all ⟨Ent.self _ _,trivial⟩) (fun hG=>P_call (by kernel_rfl) rfl rfl rfl (l_down 2)) rfl) ?_
   refine Canon.pure _ _ 9 _ _ rfl (by kernel_rfl) (by kernel_rfl) rfl (.opt _ (.sl _ _) [(132,_),(134,_)] rfl (EntL.all ⟨Ent.self _ _,Ent.self _ _,trivial⟩) (fun hG=>P_buildSlice (es:=[[.int .i64 _,_,.int .i64 _,.int .i64 _,.int .i64 _,.int .i64 _,.int .i64 _,.str _],[.int .i64 _,_,.int .i64 _,.int .i64 _,.int .i64 _,.int .i64 _,.int .i64 _,.str _]]) tok rfl rfl rfl rfl rfl rfl rfl rfl rfl) rfl) ?_
   refine Qo 10 rfl [(135,_)] Qw (Qc rfl (l_verdictC 1 [upE,downE 2] (by decide) (ex_sizes _ (by decide)) ver_2)) ?_
   refine Qn 11 rfl Qpa ?_
   refine Qn 12 rfl Qmb ?_
   refine Qo 13 rfl [] Qw (Qc rfl (l_symbol _)) ?_
   refine Qo 14 rfl [] Qw Qle ?_
   refine Canon.pure _ _ 15 _ _ rfl (by kernel_rfl) (by kernel_rfl) rfl (.opt _ (.agg _) [(139,_),(140,_)] rfl (EntL.all ⟨Ent.self _ _,Ent.self _ _,trivial⟩) (fun hG=>P_callf (by kernel_rfl) rfl rfl (l_two 9 (symE 0) textE)) rfl) ?_
   refine Qo 16 rfl [] Qw (Qc rfl (l_symbol _)) ?_
   refine Qo 17 rfl [] Qw (Qc rfl (l_symbol _)) ?_
   refine Canon.pure _ _ 18 _ _ rfl (by kernel_rfl) (by kernel_rfl) rfl (.opt _ (.agg _) [(142,_),(143,_)] rfl (EntL.all ⟨Ent.self _ _,Ent.self _ _,trivial⟩) (fun hG=>P_callf (by kernel_rfl) rfl rfl (l_two 9 (symE 1) (symE 0))) rfl) ?_
   refine Qo 19 rfl [] Qw (Qc rfl (l_symbol _)) ?_
   refine Qo 20 rfl [] Qw Qle ?_
   refine Canon.pure _ _ 21 _ _ rfl (by kernel_rfl) (by kernel_rfl) rfl (.opt _ (.agg _) [(145,_),(146,_)] rfl (EntL.all ⟨Ent.self _ _,Ent.self _ _,trivial⟩) (fun hG=>P_callf (by kernel_rfl) rfl rfl (l_two 9 (symE 1) textE)) rfl) ?_
   refine Qo 22 rfl [(147,_)] Qw (Qc rfl (l_not (two 9 (symE 1) textE))) ?_
   refine Canon.pure _ _ 23 _ _ rfl (by kernel_rfl) (by kernel_rfl) rfl (.opt _ (.sl _ _) [(141,_),(144,_),(148,_)] rfl (EntL.all ⟨Ent.self _ _,Ent.self _ _,Ent.self _ _,trivial⟩) (fun hG=>P_buildSlice (es:=[[.int .i64 _,_,.int .i64 _,.int .i64 _,.int .i64 _,.int .i64 _,.int .i64 _,.str _],[.int .i64 _,_,.int .i64 _,.int .i64 _,.int .i64 _,.int .i64 _,.int .i64 _,.str _],[.int .i64 _,_,.int .i64 _,.int .i64 _,.int .i64 _,.int .i64 _,.int .i64 _,.str _]]) tok rfl rfl rfl rfl rfl rfl rfl rfl rfl) rfl) ?_
   refine Qo 24 rfl [(149,_)] Qw (Qc rfl (l_verdictC 2 [two 9 (symE 0) textE,two 9 (symE 1) (symE 0),notE (two 9 (symE 1) textE)] (by decide) (ex_sizes _ (by decide)) ver_3)) ?_
   refine Qn 25 rfl Qpa ?_
   refine Qn 26 rfl Qmb ?_
   refine Qo 27 rfl [] Qw Qle ?_
   refine Canon.pure _ _ 28 _ _ rfl (by kernel_rfl) (by kernel_rfl) rfl (.opt _ (.sl _ _) [(153,_)] rfl (EntL.all ⟨Ent.self _ _,trivial⟩) (fun hG=>P_buildSlice (es:=[[.int .i64 _,_,.int .i64 _,.int .i64 _,.int .i64 _,.int .i64 _,.int .i64 _,.str _]]) tok rfl rfl rfl rfl rfl rfl rfl rfl rfl) rfl) ?_
   refine Qo 29 rfl [(154,_)] Qw (Qc rfl (l_verdictC 0 [countE] (by decide) (ex_sizes _ (by decide)) ver_4)) ?_
   refine Qn 30 rfl Qpa ?_
   refine Qn 31 rfl Qmb ?_
   refine Qo 32 rfl [] Qw Qle ?_
   refine Qo 33 rfl [] Qw (Qc rfl (l_price _)) ?_
   refine Qo 34 rfl [] Qw (Qc rfl (l_price _)) ?_
   refine Canon.pure _ _ 35 _ _ rfl (by kernel_rfl) (by kernel_rfl) rfl (.opt _ (.agg _) [(159,_),(160,_)] rfl (EntL.all ⟨Ent.self _ _,Ent.self _ _,trivial⟩) (fun hG=>P_callf (by kernel_rfl) rfl rfl (l_two _ _ _)) rfl) ?_
   refine Canon.pure _ _ 36 _ _ rfl (by kernel_rfl) (by kernel_rfl) rfl (.opt _ (.sl _ _) [(158,_),(161,_)] rfl (EntL.all ⟨Ent.self _ _,Ent.self _ _,trivial⟩) (fun hG=>P_buildSlice (es:=[[.int .i64 _,_,.int .i64 _,.int .i64 _,.int .i64 _,.int .i64 _,.int .i64 _,.str _],[.int .i64 _,_,.int .i64 _,.int .i64 _,.int .i64 _,.int .i64 _,.int .i64 _,.str _]]) tok rfl rfl rfl rfl rfl rfl rfl rfl rfl) rfl) ?_
   refine Qo 37 rfl [(162,_)] Qw (Qc rfl (l_verdictC 2 [countE,two 7 (priE 0) (priE 0)] (by decide) (ex_sizes _ (by decide)) ver_5)) ?_
   refine Qn 38 rfl Qpa ?_
   refine Qn 39 rfl Qmb ?_
   refine Qo 40 rfl [] Qw Qmi ?_
   refine Qo 41 rfl [] Qw Qmi ?_
   refine Canon.pure _ _ 42 _ _ rfl (by kernel_rfl) (by kernel_rfl) rfl (.opt _ (.int .i64 _) [(166,_),(167,_)] rfl (EntL.all ⟨Ent.self _ _,Ent.self _ _,trivial⟩) (fun hG=>P_add rfl rfl rfl (by constructor <;> omega)) rfl) ?_
   refine Qo 43 rfl [(168,_)] Qw Qceq ?_
   refine Qn 44 rfl Qpa ?_
   refine Qn 45 rfl Qmb ?_
   refine Qo 46 rfl [] Qw Qmi ?_
   refine Qo 47 rfl [(172,_)] Qw Qceq ?_
   refine Qn 48 rfl Qpa ?_
   refine Qn 49 rfl Qmb ?_
   refine Qo 50 rfl [] Qw Qmi ?_
   refine Qo 51 rfl [(176,_)] Qw Qceq ?_
   refine Qn 52 rfl Qpa ?_
   refine Qn 53 rfl Qab ?_
   refine Canon.done _ _ (by kernel_rfl) ?_
   refine thenN (AW.ret (Qr (.bool _) ?_))
   rfl

end Go.Proofs.YtkddpedfbicbeaaGreatDoor
