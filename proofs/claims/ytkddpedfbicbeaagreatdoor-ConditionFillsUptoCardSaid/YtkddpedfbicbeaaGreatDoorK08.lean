/-
  Several texts in one: W25, S13, Ay. No condition.
-/
import Derived.Test.YtkddpedfbicbeaaGreatDoorK01
import Derived.Test.YtkddpedfbicbeaaGreatDoorK05
import Derived.Test.YtkddpedfbicbeaaGreatDoorK07
import Derived.KernelRfl
import Derived.Test.YtkddpedfbicbeaaGreatDoorK02
import Derived.Test.YtkddpedfbicbeaaGreatDoorAx
set_option linter.unusedVariables false
set_option linter.unusedSimpArgs false
namespace Go.Proofs.YtkddpedfbicbeaaGreatDoor
open Go Go.Aw
set_option maxHeartbeats 1600000
set_option maxRecDepth 20000

def cT (types:List Sc)(vars:List Va):List AV:=[.sl 2 (types.map cSc),.sl 2 (vars.map cVa)]
def TyOK8 (types:List Sc)(vars:List Va):Prop:=∀v∈vars,0≤v.type∧v.type<(types.length:Int)
theorem node_kind {e:Ex}(h:nodeS e=0)(h4:e.op=4):1≤e.kind∧e.kind≤5:=by
 unfold nodeS at h
 split at h
 · cases h
 split at h
 · cases h
 split at h
 · cases h
 split at h
 · cases h
 rename_i h5
 simp [h4] at h5
 omega
theorem rs_es {e:Ex}(h:nodeS e=0)(c:Bool)(v:Vl):(e.op==4&&(c || !rsuitsS e.kind v))=(e.op==4&&(c || !esuitsS e.kind v)):=by
 by_cases h4:e.op=4
 ·
  have hk:=node_kind h h4
  have:rsuitsS e.kind v=esuitsS e.kind v:=by
   unfold rsuitsS esuitsS
   have:(e.kind==0)=false:=by simp;omega
   rw [this,Bool.or_false]
  rw [this]
 ·
  have:(e.op==4)=false:=by simp [h4]
  rw [this];rfl
theorem varsE_zero {types:List Sc}{vars:List Va}(h:varsE types vars=0):firstS (varE types.length) vars=0:=by
 unfold varsE at h
 split at h
 · cases h
 · exact h
theorem tyok_of {types:List Sc}{vars:List Va}(h:firstS (varE types.length) vars=0):TyOK8 types vars:=by
 intro v hv
 have:=first_zero h v hv
 unfold varE at this
 split at this
 · cases this
 · rename_i h1;simp at h1;omega

theorem c86 (types:List Sc)(vars:List Va)(hv:TyOK8 types vars)(e:Ex)(hn:nodeS e=0):APure Tryz.prog 156 [.agg (cT types vars),.agg (cE e)] (.tuple [.int .i64 (leafK types vars e).1,.int .i64 (leafK types vars e).2]):=by
 have hvr:=node_var hn
 have hfr:=node_field hn
 refine APure.body (n:=70) tok Tryz.func156 rfl rfl rfl fun H=>?_
 refine Qsr (Qp (Qbx [_,_]) (Qp Qbe (Qp Qai (Qp Qai (Qnn (AW.seq (Qsr (Qp Qf0 (Qp Qli ?_)))))))))
 refine Qp Qceq (Qnn (Qif (fun hc1=>?_) fun hc1=>?_))
 ·
  refine Qsr (Qp Qf5 (Qp Qf5 (Qp Qli (Qp Qai (Qp Qai (Qnn (Qrt ?_)))))))
  refine Qrr (.int .i64 _) (.int .i64 _) ?_
  simp only [resOf,leafK]
  try simp only [hfl]
  try simp only [hka]
  (first | rw [if_pos hc1] | skip)
  first | done | rfl
 ·
  refine Qst (AW.seq (Qsr (Qp Qf2 (Qp Qli (Qp (Qf [_]) (Qp Qls ?_))))))
  refine Qp (P_len_sl (n:=vars.length) tok rfl rfl rfl (by simp)) ?_
  refine Qp Qcgq (Qnn (Qif (fun hc2=>?_) fun hc2=>?_))
  ·
   refine Qsr (Qp Qai (Qp Qai (Qnn (Qrt ?_))))
   refine Qrr (.int .i64 _) (.int .i64 _) ?_
   simp only [resOf,leafK]
   try simp only [hfl]
   try simp only [hka]
   (first | rw [if_neg (Bool.eq_false_iff.mp hc1)] | skip);(first | rw [if_pos hc2] | skip)
   first | done | rfl
  ·
   refine Qst (AW.seq (Qsr (Qp Qf0 (Qp Qli (Qp Qceq (Qp Qmb (Qg [] Qw Qf0 (Qg [(24,_)] Qw Qli (Qg [(25,_)] Qw Qceq ?_)))))))))
   refine Qp Qpo (Qnn (Qif (fun hc3=>?_) fun hc3=>?_))
   ·
    refine Qsr (Qp Qai (Qp Qai (Qnn (Qrt ?_))))
    refine Qrr (.int .i64 _) (.int .i64 _) ?_
    simp only [resOf,leafK]
    try simp only [hfl]
    try simp only [hka]
    (first | rw [if_neg (Bool.eq_false_iff.mp hc1)] | skip);(first | rw [if_neg (Bool.eq_false_iff.mp hc2)] | skip);(first | rw [if_pos hc3] | skip)
    first | done | rfl
   ·
    refine (get_int (l:=vars) hvr.1 (by simp at hc2;omega)).elim fun v hv1=>?_
    have hvt:=hv v (List.mem_of_getElem? hv1)
    refine (get_int (l:=types) hvt.1 hvt.2).elim fun s hs1=>?_
    have hfl:fldsS types vars e.var=s.fields:=by simp [fldsS,hv1,hs1]
    refine Qst (AW.seq ?_)
    refine AW.draw mixed (fun _=>True) trivial (by kernel_rfl) ?_
    refine Qn 0 rfl (Qf [_,_]) (Qn 1 rfl Qls (Qn 2 rfl (Qf [_]) (Qn 3 rfl Qls (Qn 4 rfl Qf2 (Qn 5 rfl Qli ?_)))))
    refine Qn 6 rfl (P_indexAddr (c:=[.str _,.int .i64 _]) tok rfl rfl rfl rfl rfl rfl (hvr.1) (map_at hv1)) ?_
    refine Qn 7 rfl (Qf [.int .i64 _]) (Qn 8 rfl Qli ?_)
    refine Qn 9 rfl (P_indexAddr (c:=[.str _,_]) tok rfl rfl rfl rfl rfl rfl (hvt.1) (map_at hs1)) ?_
    refine Qn 10 rfl (Qf [_]) (Qn 11 rfl Qls (Qn 12 rfl Qas ?_))
    refine Canon.done _ _ (by kernel_rfl) ?_
    refine thenN (AW.seq (Qsr (Qp Qf3 (Qp Qli (Qp Qms ?_)))))
    refine Qp (P_len_sl (n:=s.fields.length) tok rfl rfl rfl (by simp)) ?_
    refine Qp Qcgq (Qnn (Qif (fun hc4=>?_) fun hc4=>?_))
    ·
     refine Qsr (Qp Qai (Qp Qai (Qnn (Qrt ?_))))
     refine Qrr (.int .i64 _) (.int .i64 _) ?_
     simp only [resOf,leafK]
     try simp only [hfl]
     try simp only [hka]
     (first | rw [if_neg (Bool.eq_false_iff.mp hc1)] | skip);(first | rw [if_neg (Bool.eq_false_iff.mp hc2)] | skip);(first | rw [if_neg (Bool.eq_false_iff.mp hc3)] | skip);(first | rw [if_pos hc4] | skip)
     first | done | rfl
    ·
     refine (get_int (l:=s.fields) hfr (by simp at hc4;omega)).elim fun f hf1=>?_
     have hka:kindAt s.fields e.field=f.kind:=by simp [kindAt,hf1]
     refine Qst (Qsr (Qp Qms (Qp Qf3 (Qp Qli ?_))))
     refine Qp (P_indexAddr (c:=[.str _,.int .i64 _]) tok rfl rfl rfl rfl rfl rfl (hfr) (map_at hf1)) ?_
     refine Qp (Qf [.int .i64 _]) (Qp Qli (Qp Qai (Qnn (AW.seq (Qsr (Qp Qf0 (Qp Qli (Qp Qceq (Qp Qmb ?_)))))))))
     refine Qg [] Qw Qmi (Qg [] Qw Qf5 (Qg [(56,_)] Qw Qf5 (Qg [(57,_)] Qw Qli ?_)))
     refine AOL.g (y:=.bool _) _ [(55,_),(58,_)] rfl (EntL.all ⟨Ent.self _ _,Ent.self _ _,trivial⟩) (fun hG=>P_neq rfl rfl) rfl ?_
     refine Qg [(59,_)] Qw Qmb (Qg [] Qw Qf4 (Qg [(61,_)] Qw Qli (Qg [] Qw Qmi (Qg [(63,_)] Qw (Qbd [.int .i64 _,.int .i64 _,.str _]) ?_))))
     refine AOL.g (y:=.bool _) _ [(62,_),(64,_)] rfl (EntL.all ⟨Ent.self _ _,Ent.self _ _,trivial⟩) (fun hG=>P_callf (by kernel_rfl) rfl rfl (c99 _ ⟨_,_,_⟩)) rfl ?_
     refine Qg [(65,_)] Qw Qnt (Qg [(60,_),(66,_)] Qw Qpo (Qp Qpa (Qnn (Qif (fun hc5=>?_) fun hc5=>?_))))
     ·
      refine Qsr (Qp Qai (Qp Qai (Qnn (Qrt ?_))))
      refine Qrr (.int .i64 _) (.int .i64 _) ?_
      simp only [resOf,leafK]
      try simp only [hfl]
      try simp only [hka]
      (first | rw [if_neg (Bool.eq_false_iff.mp hc1)] | skip);(first | rw [if_neg (Bool.eq_false_iff.mp hc2)] | skip);(first | rw [if_neg (Bool.eq_false_iff.mp hc3)] | skip);(first | rw [if_neg (Bool.eq_false_iff.mp hc4)] | skip);(first | rw [if_pos hc5] | skip)
      first | done | rfl
     ·
      refine Qst (Qsr (Qp Qmi (Qp Qai (Qp Qai (Qnn (AW.ret ?_))))))
      refine Qrr (.int .i64 _) (.int .i64 _) ?_
      simp only [resOf,leafK]
      try simp only [hfl]
      try simp only [hka]
      (first | rw [if_neg (Bool.eq_false_iff.mp hc1)] | skip);(first | rw [if_neg (Bool.eq_false_iff.mp hc2)] | skip);(first | rw [if_neg (Bool.eq_false_iff.mp hc3)] | skip);(first | rw [if_neg (Bool.eq_false_iff.mp hc4)] | skip);(first | rw [if_neg (Bool.eq_false_iff.mp hc5)] | skip)
      first | done | rfl
theorem c89 (types:List Sc)(vars:List Va)(hv:TyOK8 types vars)(e:Ex)(hn:nodeS e=0):APure Tryz.prog 115 [.sl 2 (types.map cSc),.sl 2 (vars.map cVa),.agg (cE e)] (.tuple [.int .i64 (leafK types vars e).1,.int .i64 (leafK types vars e).2]):=by
 have hvr:=node_var hn
 have hfr:=node_field hn
 refine APure.body (n:=69) tok Tryz.func115 rfl rfl rfl fun H=>?_
 refine Qsr (Qp Qbe (Qp Qai (Qp Qai (Qnn (AW.seq (Qsr (Qp Qf0 (Qp Qli (Qp Qceq ?_)))))))))
 refine Qnn (Qif (fun hc1=>?_) fun hc1=>?_)
 ·
  refine Qsr (Qp Qf5 (Qp Qf5 (Qp Qli (Qp Qai (Qp Qai (Qnn (Qrt ?_)))))))
  refine Qrr (.int .i64 _) (.int .i64 _) ?_
  simp only [resOf,leafK]
  try simp only [hfl]
  try simp only [hka]
  (first | rw [if_pos hc1] | skip)
  first | done | rfl
 ·
  refine Qst (AW.seq (Qsr (Qp Qf2 (Qp Qli (Qp Qms ?_)))))
  refine Qp (P_len_sl (n:=vars.length) tok rfl rfl rfl (by simp)) ?_
  refine Qp Qcgq (Qnn (Qif (fun hc2=>?_) fun hc2=>?_))
  ·
   refine Qsr (Qp Qai (Qp Qai (Qnn (Qrt ?_))))
   refine Qrr (.int .i64 _) (.int .i64 _) ?_
   simp only [resOf,leafK]
   try simp only [hfl]
   try simp only [hka]
   (first | rw [if_neg (Bool.eq_false_iff.mp hc1)] | skip);(first | rw [if_pos hc2] | skip)
   first | done | rfl
  ·
   refine Qst (AW.seq (Qsr (Qp Qf0 (Qp Qli (Qp Qceq (Qp Qmb (Qg [] Qw Qf0 (Qg [(25,_)] Qw Qli (Qg [(26,_)] Qw Qceq ?_)))))))))
   refine Qp Qpo (Qnn (Qif (fun hc3=>?_) fun hc3=>?_))
   ·
    refine Qsr (Qp Qai (Qp Qai (Qnn (Qrt ?_))))
    refine Qrr (.int .i64 _) (.int .i64 _) ?_
    simp only [resOf,leafK]
    try simp only [hfl]
    try simp only [hka]
    (first | rw [if_neg (Bool.eq_false_iff.mp hc1)] | skip);(first | rw [if_neg (Bool.eq_false_iff.mp hc2)] | skip);(first | rw [if_pos hc3] | skip)
    first | done | rfl
   ·
    refine (get_int (l:=vars) hvr.1 (by simp at hc2;omega)).elim fun v hv1=>?_
    have hvt:=hv v (List.mem_of_getElem? hv1)
    refine (get_int (l:=types) hvt.1 hvt.2).elim fun s hs1=>?_
    have hfl:fldsS types vars e.var=s.fields:=by simp [fldsS,hv1,hs1]
    refine Qst (Qsr (Qp Qms (Qp Qms (Qp Qf2 (Qp Qli ?_)))))
    refine Qp (P_indexAddr (c:=[.str _,.int .i64 _]) tok rfl rfl rfl rfl rfl rfl (hvr.1) (map_at hv1)) ?_
    refine Qp (Qf [.int .i64 _]) (Qp Qli ?_)
    refine Qp (P_indexAddr (c:=[.str _,_]) tok rfl rfl rfl rfl rfl rfl (hvt.1) (map_at hs1)) ?_
    refine Qp (Qf [_]) (Qp Qls (Qp Qas (Qnn (AW.seq (Qsr (Qp Qf3 (Qp Qli (Qp Qms ?_))))))))
    refine Qp (P_len_sl (n:=s.fields.length) tok rfl rfl rfl (by simp)) ?_
    refine Qp Qcgq (Qnn (Qif (fun hc4=>?_) fun hc4=>?_))
    ·
     refine Qsr (Qp Qai (Qp Qai (Qnn (Qrt ?_))))
     refine Qrr (.int .i64 _) (.int .i64 _) ?_
     simp only [resOf,leafK]
     try simp only [hfl]
     try simp only [hka]
     (first | rw [if_neg (Bool.eq_false_iff.mp hc1)] | skip);(first | rw [if_neg (Bool.eq_false_iff.mp hc2)] | skip);(first | rw [if_neg (Bool.eq_false_iff.mp hc3)] | skip);(first | rw [if_pos hc4] | skip)
     first | done | rfl
    ·
     refine (get_int (l:=s.fields) hfr (by simp at hc4;omega)).elim fun f hf1=>?_
     have hka:kindAt s.fields e.field=f.kind:=by simp [kindAt,hf1]
     refine Qst (Qsr (Qp Qms (Qp Qf3 (Qp Qli ?_))))
     refine Qp (P_indexAddr (c:=[.str _,.int .i64 _]) tok rfl rfl rfl rfl rfl rfl (hfr) (map_at hf1)) ?_
     refine Qp (Qf [.int .i64 _]) (Qp Qli (Qp Qai (Qnn (AW.seq (Qsr (Qp Qf0 (Qp Qli (Qp Qceq (Qp Qmb ?_)))))))))
     refine Qg [] Qw Qmi (Qg [] Qw Qf5 (Qg [(55,_)] Qw Qf5 (Qg [(56,_)] Qw Qli ?_)))
     refine AOL.g (y:=.bool _) _ [(54,_),(57,_)] rfl (EntL.all ⟨Ent.self _ _,Ent.self _ _,trivial⟩) (fun hG=>P_neq rfl rfl) rfl ?_
     refine Qg [(58,_)] Qw Qmb (Qg [] Qw Qf4 (Qg [(60,_)] Qw Qli (Qg [] Qw Qmi (Qg [(62,_)] Qw (Qbd [.int .i64 _,.int .i64 _,.str _]) ?_))))
     refine AOL.g (y:=.bool _) _ [(61,_),(63,_)] rfl (EntL.all ⟨Ent.self _ _,Ent.self _ _,trivial⟩) (fun hG=>P_callf (by kernel_rfl) rfl rfl (c101 _ ⟨_,_,_⟩)) rfl ?_
     refine Qg [(64,_)] Qw Qnt (Qg [(59,_),(65,_)] Qw Qpo (Qp Qpa (Qnn (Qif (fun hc5=>?_) fun hc5=>?_))))
     ·
      rw [rs_es hn] at hc5
      refine Qsr (Qp Qai (Qp Qai (Qnn (Qrt ?_))))
      refine Qrr (.int .i64 _) (.int .i64 _) ?_
      simp only [resOf,leafK]
      try simp only [hfl]
      try simp only [hka]
      (first | rw [if_neg (Bool.eq_false_iff.mp hc1)] | skip);(first | rw [if_neg (Bool.eq_false_iff.mp hc2)] | skip);(first | rw [if_neg (Bool.eq_false_iff.mp hc3)] | skip);(first | rw [if_neg (Bool.eq_false_iff.mp hc4)] | skip);(first | rw [if_pos hc5] | skip)
      first | done | rfl
     ·
      rw [rs_es hn] at hc5
      refine Qst (Qsr (Qp Qmi (Qp Qai (Qp Qai (Qnn (AW.ret ?_))))))
      refine Qrr (.int .i64 _) (.int .i64 _) ?_
      simp only [resOf,leafK]
      try simp only [hfl]
      try simp only [hka]
      (first | rw [if_neg (Bool.eq_false_iff.mp hc1)] | skip);(first | rw [if_neg (Bool.eq_false_iff.mp hc2)] | skip);(first | rw [if_neg (Bool.eq_false_iff.mp hc3)] | skip);(first | rw [if_neg (Bool.eq_false_iff.mp hc4)] | skip);(first | rw [if_neg (Bool.eq_false_iff.mp hc5)] | skip)
      first | done | rfl
theorem c90 (op:Int):APure Tryz.prog 117 [.int .i64 op] (.int .i64 (resK op)):=by
 refine APure.body (n:=9) tok Tryz.func117 rfl rfl rfl fun H=>?_
 refine Qsr (Qp Qai (Qnn (AW.seq (Qsr (Qp Qmi (Qp Qceq (Qp Qmb (Qg [] Qw Qmi (Qg [(6,_)] Qw Qceq ?_)))))))))
 refine Qp Qpo (Qnn (Qif (fun hc1=>?_) fun hc1=>?_))
 ·
  refine Qsr (Qp Qai (Qnn (Qrt ?_)))
  refine Qr (.int .i64 _) ?_
  simp only [resOf,resK]
  (first | rw [if_pos hc1] | skip)
 ·
  refine Qst (Qsr (Qp Qai (Qnn (AW.ret ?_))))
  refine Qr (.int .i64 _) ?_
  simp only [resOf,resK]
  (first | rw [if_neg (Bool.eq_false_iff.mp hc1)] | skip)
theorem c58 (types:List Sc)(vars:List Va)(hv:TyOK8 types vars)(e:Ex)(hn:nodesS e=0)(hs:sizeN e≤1048576):APure Tryz.prog 133 [.agg (cT types vars),.agg (cE e)] (.tuple [.int .i64 (kindS types vars e).1,.int .i64 (kindS types vars e).2]):=by
 revert hn hs
 induction e using Ex.ind
 rename_i e ih
 intro hn hs
 have hz:=nodes_zero hn
 have hal:=args_le e hs
 refine APure.body (n:=57) tok Tryz.func133 rfl rfl rfl fun H=>?_
 refine Qsr (Qp (Qbx [_,_]) (Qp Qbe (Qp Qai (Qp Qai (Qnn (AW.seq (Qsr (Qp Qf1 (Qp Qls ?_)))))))))
 refine Qp (P_len_sl (n:=e.args.length) tok rfl rfl rfl (by simp)) ?_
 refine Qp Qceq (Qnn (Qif (fun hc1=>?_) fun hc1=>?_))
 ·
  refine Qsr (Qp (Qlg [_,_]) (Qp Qle ?_))
  refine Qp (Qc rfl (c86 types vars hv e hz.1)) ?_
  refine Qp Qxi (Qp Qxi (Qp Qai (Qp Qai (Qnn (Qrt ?_)))))
  refine Qrr (.int .i64 _) (.int .i64 _) ?_
  rw [kindS_eq types vars e,if_pos (by simpa [List.isEmpty_iff] using hc1)];rfl
 ·
  refine Qst (Qsr (Qp Qav ?_))
  refine AOL.ghost (GS.row (t:=6) 3 1 rfl) ?_
  refine Qnn (AW.seq (Qsr (Qp Qf1 (Qp Qls ?_))))
  refine Qp (P_len_sl (n:=e.args.length) tok rfl rfl rfl (by simp)) ?_
  refine Qp Qmi (Qnn (AW.block ?_))
  refine AW.loopS (fun (p:Nat×List (List AV)×Value)=>(⟨[(2,.ptr (cT types vars)),(3,.ptr (cE e)),(6,.row p.2.2 1 p.2.1),(22,.sl 8 (e.args.map encE)),(23,.int .i64 e.args.length),(24,.int .i64 (p.1:Int))],.row p.2.2 p.2.1.length 3 1::H,57⟩:St)) (fun (p:Nat×List (List AV)×Value)=>p.1≤e.args.length∧firstS (fun a=>(kindS types vars a).2) e.args=firstS (fun a=>(kindS types vars a).2) (e.args.drop p.1)∧p.2.1=((e.args.take p.1).map (fun a=>(kindS types vars a).1)).map (fun k=>[AV.int .i64 k])) (fun (p:Nat×List (List AV)×Value)=>e.args.length-p.1) ((0,[],.slice none 0 0)) ?_ (GS.weaken ⟨rfl,rfl,rfl,rfl,rfl,rfl,trivial⟩ (.refl _)) ?_
  · exact ⟨Nat.zero_le _,by simp,by simp⟩
  ·
   rintro p hR
   refine Qsr (Qp Qclt (Qnn (AW.seq (Qif (fun hc2=>?_) fun hc2=>?_))))
   ·
    obtain ⟨a,ha⟩:=get_lt hc2
    have hlt:=get_lt' ha
    have hm:=List.mem_of_getElem? ha
    have hsc:∀c∈p.2.1,scalars c=true:=by rw [hR.2.2];exact sc_map fun _=>rfl
    refine Qst (AW.seq (AW.block (Qsr ?_)))
    refine Qp (P_indexAddr (c:=[.int .i64 _,_,.int .i64 _,.int .i64 _,.int .i64 _,.int .i64 _,.int .i64 _,.str _]) tok rfl rfl rfl rfl rfl rfl (by omega) (encE_at ha)) ?_
    refine Qp Qle ?_
    refine Qe (E_alloc (l:=[.int .i64 0,.sl 8 [],.int .i64 0,.int .i64 0,.int .i64 0,.int .i64 0,.int .i64 0,.str []]) (by kernel_rfl)) ?_
    rintro _ _ ⟨b8,rfl,rfl⟩
    refine Qe (E_store (k:=0) (v:=.agg _) (cs':=[.int .i64 _,_,.int .i64 _,.int .i64 _,.int .i64 _,.int .i64 _,.int .i64 _,.str _]) (H2:=_::_::_) tok rfl rfl rfl rfl (rfl) rfl rfl rfl rfl) ?_
    rintro _ _ ⟨rfl,rfl⟩
    refine AOL.ghost (GS.freeze (t:=8) 0 rfl rfl) ?_
    refine Qns (Qp (Qlg [_,_]) (Qp Qle ?_))
    refine Qp (Qc rfl (ih a hm (hz.2 a hm) (by have:=size_arg hm;omega))) ?_
    refine Qp Qmu (Qp Qxi (Qp Qxi (Qp Qai (Qp Qai (Qnn (AW.seq (Qsr (Qp Qmi (Qp Qcne ?_)))))))))
    refine Qnn (Qif (fun hc3=>?_) fun hc3=>?_)
    ·
     refine Qsr (Qp Qmi (Qp Qai (Qp Qai (Qnn (Qrt (blkR (thenR (thenR (blkR ?_)))))))))
     refine thenR ?_
     refine ⟨.inr rfl,[.int .i64 _,.int .i64 _],.cons (.tmp _ _ rfl) <| .cons (.tmp _ _ rfl) <| .nil,.cons _ (.refl _),?_⟩
     have hne:¬e.args.isEmpty=true:=by simpa [List.isEmpty_iff] using hc1
     have hfe:firstS (fun a=>(kindS types vars a).2) e.args=(kindS types vars a).2:=by rw [hR.2.1,drop_cons ha,firstS,if_pos hc3]
     rw [kindS_eq types vars e,if_neg hne,hfe,if_pos hc3];rfl
    ·
     refine Qst (AW.region ?_)
     refine Qp (P_move (v:=.row _ _ _) rfl) ?_
     refine Qp Qmi ?_
     refine Qp (P_buildSlice (es:=[[.int .i64 _]]) tok rfl rfl rfl rfl rfl rfl rfl rfl rfl) ?_
     refine Qe (E_append (k:=0) tok rfl rfl rfl rfl rfl rfl rfl rfl (sc_one rfl) (hsc) (by simp [hR.2.2];omega) (by simp [hR.2.2,maxLen];omega)) ?_
     rintro _ _ ⟨v40,rfl,rfl⟩
     refine Qp (P_assign (v:=.row _ _ _) rfl) ?_
     refine AOL.nil (blkN (thenN (AW.region (Qp Qad (Qp Qmi (Qnn ?_))))))
     refine ⟨(p.1+1,p.2.1 ++ [[.int .i64 (kindS types vars a).1]],v40),?_,?_,GS.weaken ⟨rfl,rfl,rfl,rfl,rfl,rfl,trivial⟩ (.refl _)⟩
     · simp only;exact ⟨hlt,by rw [hR.2.1,drop_cons ha,firstS,if_neg (by simpa using hc3)],by rw [take_get ha,hR.2.2];simp⟩
     · first | omega | (simp only;omega)
   ·
    have hte:=take_end hc2
    have hd:=get_end hc2
    have hf:firstS (fun a=>(kindS types vars a).2) e.args=0:=by rw [hR.2.1,hd];rfl
    obtain ⟨k,es,rv⟩:=p
    simp only at hR hte
    have h6:es=(e.args.map (fun a=>(kindS types vars a).1)).map (fun k=>[AV.int .i64 k]):=by rw [hR.2.2,hte]
    subst h6
    refine AW.exit ?_
    refine thenE (thenE (blkHit (thenN (AW.seq (Qsr (Qp Qf0 (Qp Qli ?_)))))))
    refine AOL.ghost (GS.unrow 6 rfl) ?_
    refine Qp Qms ?_
    refine Qp (Qc rfl (c71 e.op (e.args.map (fun a=>(kindS types vars a).1)))) ?_
    refine Qp Qai (Qns (Qp Qmi (Qp Qcne (Qnn (Qif (fun hc4=>?_) fun hc4=>?_)))))
    ·
     refine Qsr (Qp Qmi (Qp Qai (Qp Qai (Qnn (Qrt ?_)))))
     refine ⟨.inr rfl,[.int .i64 _,.int .i64 _],.cons (.tmp _ _ rfl) <| .cons (.tmp _ _ rfl) <| .nil,.cons _ (.refl _),?_⟩
     have hne:¬e.args.isEmpty=true:=by simpa [List.isEmpty_iff] using hc1
     rw [kindS_eq types vars e,if_neg hne,hf,if_neg (show ¬((0:Int) != 0)=true by decide),if_pos hc4];rfl
    ·
     refine Qst (AW.seq (Qsr (Qp Qf0 (Qp Qli (Qp Qceq (Qp Qmb (Qg [] Qw Qf0 (Qg [(53,_)] Qw Qli (Qg [(54,_)] Qw Qceq ?_)))))))))
     refine Qp Qpo (Qnn (Qif (fun hc5=>?_) fun hc5=>?_))
     ·
      refine Qsr (Qp Qai (Qp Qai (Qnn (Qrt ?_))))
      refine ⟨.inr rfl,[.int .i64 _,.int .i64 _],.cons (.tmp _ _ rfl) <| .cons (.tmp _ _ rfl) <| .nil,.cons _ (.refl _),?_⟩
      have hne:¬e.args.isEmpty=true:=by simpa [List.isEmpty_iff] using hc1
      rw [kindS_eq types vars e,if_neg hne,hf,if_neg (show ¬((0:Int) != 0)=true by decide),if_neg (Bool.eq_false_iff.mp hc4)];unfold resK;first | (rw [if_pos hc5];rfl) | (rw [if_neg (Bool.eq_false_iff.mp hc5)];rfl)
     ·
      refine Qst (Qsr (Qp Qai (Qp Qai (Qnn (AW.ret ?_)))))
      refine ⟨.inr rfl,[.int .i64 _,.int .i64 _],.cons (.tmp _ _ rfl) <| .cons (.tmp _ _ rfl) <| .nil,.cons _ (.refl _),?_⟩
      have hne:¬e.args.isEmpty=true:=by simpa [List.isEmpty_iff] using hc1
      rw [kindS_eq types vars e,if_neg hne,hf,if_neg (show ¬((0:Int) != 0)=true by decide),if_neg (Bool.eq_false_iff.mp hc4)];unfold resK;first | (rw [if_pos hc5];rfl) | (rw [if_neg (Bool.eq_false_iff.mp hc5)];rfl)
theorem c61 (types:List Sc)(vars:List Va)(hv:TyOK8 types vars)(e:Ex)(hn:nodesS e=0)(hs:sizeN e≤1048576):APure Tryz.prog 75 [.sl 2 (types.map cSc),.sl 2 (vars.map cVa),.agg (cE e)] (.tuple [.int .i64 (kindS types vars e).1,.int .i64 (kindS types vars e).2]):=by
 revert hn hs
 induction e using Ex.ind
 rename_i e ih
 intro hn hs
 have hz:=nodes_zero hn
 have hal:=args_le e hs
 refine APure.body (n:=58) tok Tryz.func75 rfl rfl rfl fun H=>?_
 refine Qsr (Qp Qbe (Qp Qai (Qp Qai (Qnn (AW.seq (Qsr (Qp Qf1 (Qp Qls ?_))))))))
 refine Qp (P_len_sl (n:=e.args.length) tok rfl rfl rfl (by simp)) ?_
 refine Qp Qceq (Qnn (Qif (fun hc1=>?_) fun hc1=>?_))
 ·
  refine Qsr (Qp Qms (Qp Qms (Qp Qle ?_)))
  refine Qp (Qc rfl (c89 types vars hv e hz.1)) ?_
  refine Qp Qxi (Qp Qxi (Qp Qai (Qp Qai (Qnn (Qrt ?_)))))
  refine Qrr (.int .i64 _) (.int .i64 _) ?_
  rw [kindS_eq types vars e,if_pos (by simpa [List.isEmpty_iff] using hc1)];rfl
 ·
  refine Qst (Qsr (Qp Qav ?_))
  refine AOL.ghost (GS.row (t:=8) 3 1 rfl) ?_
  refine Qnn (AW.seq (Qsr (Qp Qai (Qnn (AW.block ?_)))))
  refine AW.loopS (fun (p:Nat×List (List AV)×Value)=>(⟨[(0,.sl 2 (types.map cSc)),(1,.sl 2 (vars.map cVa)),(5,.ptr (cE e)),(8,.row p.2.2 1 p.2.1),(9,.int .i64 (p.1:Int))],.row p.2.2 p.2.1.length 3 1::H,58⟩:St)) (fun (p:Nat×List (List AV)×Value)=>p.1≤e.args.length∧firstS (fun a=>(kindS types vars a).2) e.args=firstS (fun a=>(kindS types vars a).2) (e.args.drop p.1)∧p.2.1=((e.args.take p.1).map (fun a=>(kindS types vars a).1)).map (fun k=>[AV.int .i64 k])) (fun (p:Nat×List (List AV)×Value)=>e.args.length-p.1) ((0,[],.slice none 0 0)) ?_ (GS.weaken ⟨rfl,rfl,rfl,rfl,rfl,trivial⟩ (.refl _)) ?_
  · exact ⟨Nat.zero_le _,by simp,by simp⟩
  ·
   rintro p hR
   refine AW.seq (Qsr (Qp Qmi (Qp Qf1 (Qp Qls ?_))))
   refine Qp (P_len_sl (n:=e.args.length) tok rfl rfl rfl (by simp)) ?_
   refine Qp Qclt (Qnn (Qif (fun hc2=>?_) fun hc2=>?_))
   ·
    obtain ⟨a,ha⟩:=get_lt hc2
    have hlt:=get_lt' ha
    have hm:=List.mem_of_getElem? ha
    have hsc:∀c∈p.2.1,scalars c=true:=by rw [hR.2.2];exact sc_map fun _=>rfl
    refine Qst (AW.seq (AW.block (Qsr (Qp Qms (Qp Qms (Qp Qf1 (Qp Qls (Qp Qmi ?_))))))))
    refine Qp (P_indexAddr (c:=[.int .i64 _,_,.int .i64 _,.int .i64 _,.int .i64 _,.int .i64 _,.int .i64 _,.str _]) tok rfl rfl rfl rfl rfl rfl (by omega) (encE_at ha)) ?_
    refine Qp Qle ?_
    refine Qp (Qc rfl (ih a hm (hz.2 a hm) (by have:=size_arg hm;omega))) ?_
    refine Qp Qmu (Qp Qxi (Qp Qxi (Qp Qai (Qp Qai (Qnn (AW.seq (Qsr (Qp Qmi (Qp Qcne ?_)))))))))
    refine Qnn (Qif (fun hc3=>?_) fun hc3=>?_)
    ·
     refine Qsr (Qp Qmi (Qp Qai (Qp Qai (Qnn (Qrt (blkR (thenR (thenR (blkR ?_)))))))))
     refine thenR ?_
     refine ⟨.inr rfl,[.int .i64 _,.int .i64 _],.cons (.tmp _ _ rfl) <| .cons (.tmp _ _ rfl) <| .nil,.cons _ (.refl _),?_⟩
     have hne:¬e.args.isEmpty=true:=by simpa [List.isEmpty_iff] using hc1
     have hfe:firstS (fun a=>(kindS types vars a).2) e.args=(kindS types vars a).2:=by rw [hR.2.1,drop_cons ha,firstS,if_pos hc3]
     rw [kindS_eq types vars e,if_neg hne,hfe,if_pos hc3];rfl
    ·
     refine Qst (AW.region ?_)
     refine Qp (P_move (v:=.row _ _ _) rfl) ?_
     refine Qp Qmi ?_
     refine Qp (P_buildSlice (es:=[[.int .i64 _]]) tok rfl rfl rfl rfl rfl rfl rfl rfl rfl) ?_
     refine Qe (E_append (k:=0) tok rfl rfl rfl rfl rfl rfl rfl rfl (sc_one rfl) (hsc) (by simp [hR.2.2];omega) (by simp [hR.2.2,maxLen];omega)) ?_
     rintro _ _ ⟨v47,rfl,rfl⟩
     refine Qp (P_assign (v:=.row _ _ _) rfl) ?_
     refine AOL.nil (blkN (thenN (AW.region (Qp Qmi (Qp Qad (Qp Qai (Qnn ?_)))))))
     refine ⟨(p.1+1,p.2.1 ++ [[.int .i64 (kindS types vars a).1]],v47),?_,?_,GS.weaken ⟨rfl,rfl,rfl,rfl,rfl,trivial⟩ (.refl _)⟩
     · simp only;exact ⟨hlt,by rw [hR.2.1,drop_cons ha,firstS,if_neg (by simpa using hc3)],by rw [take_get ha,hR.2.2];simp⟩
     · first | omega | (simp only;omega)
   ·
    have hte:=take_end hc2
    have hd:=get_end hc2
    have hf:firstS (fun a=>(kindS types vars a).2) e.args=0:=by rw [hR.2.1,hd];rfl
    obtain ⟨k,es,rv⟩:=p
    simp only at hR hte
    have h6:es=(e.args.map (fun a=>(kindS types vars a).1)).map (fun k=>[AV.int .i64 k]):=by rw [hR.2.2,hte]
    subst h6
    refine AW.exit ?_
    refine thenE (thenE (blkHit (thenN (AW.seq (Qsr (Qp Qf0 (Qp Qli ?_)))))))
    refine AOL.ghost (GS.unrow 8 rfl) ?_
    refine Qp Qms ?_
    refine Qp (Qc rfl (c73 e.op (e.args.map (fun a=>(kindS types vars a).1)))) ?_
    refine Qp Qai (Qns (Qp Qmi (Qp Qcne (Qnn (Qif (fun hc4=>?_) fun hc4=>?_)))))
    ·
     refine Qsr (Qp Qmi (Qp Qai (Qp Qai (Qnn (Qrt ?_)))))
     refine ⟨.inr rfl,[.int .i64 _,.int .i64 _],.cons (.tmp _ _ rfl) <| .cons (.tmp _ _ rfl) <| .nil,.cons _ (.refl _),?_⟩
     have hne:¬e.args.isEmpty=true:=by simpa [List.isEmpty_iff] using hc1
     rw [kindS_eq types vars e,if_neg hne,hf,if_neg (show ¬((0:Int) != 0)=true by decide),if_pos hc4];rfl
    ·
     refine Qst (Qsr (Qp Qf0 (Qp Qli ?_)))
     refine Qp (Qc rfl (c90 _)) ?_
     refine Qp Qai (Qp Qai (Qnn (AW.ret ?_)))
     refine ⟨.inr rfl,[.int .i64 _,.int .i64 _],.cons (.tmp _ _ rfl) <| .cons (.tmp _ _ rfl) <| .nil,.cons _ (.refl _),?_⟩
     have hne:¬e.args.isEmpty=true:=by simpa [List.isEmpty_iff] using hc1
     rw [kindS_eq types vars e,if_neg hne,hf,if_neg (show ¬((0:Int) != 0)=true by decide),if_neg (Bool.eq_false_iff.mp hc4)];rfl
theorem c60 (types:List Sc)(vars:List Va)(hvl:vars.length≤1048576):APure Tryz.prog 74 [.sl 2 (types.map cSc),.sl 2 (vars.map cVa)] (.int .i64 (varsE types vars)):=by
 refine APure.body (n:=31) tok Tryz.func74 rfl rfl rfl fun H=>?_
 refine Qsr (Qp Qai (Qnn (AW.seq (Qsr (Qp Qms ?_)))))
 refine Qp (P_len_sl (n:=vars.length) tok rfl rfl rfl (by simp)) ?_
 refine Qp Qcgt (Qnn (Qif (fun hc1=>?_) fun hc1=>?_))
 ·
  refine Qsr (Qp Qai (Qnn (Qrt ?_)))
  refine Qr (.int .i64 _) ?_
  rw [varsE,if_pos hc1];rfl
 ·
  refine Qst (AW.seq (Qsr (Qp Qai (Qnn (AW.block ?_)))))
  refine AW.loopS (fun (p:Nat)=>(⟨[(0,.sl 2 (types.map cSc)),(1,.sl 2 (vars.map cVa)),(5,.int .i64 (p:Int))],H,31⟩:St)) (fun (p:Nat)=>p≤vars.length∧firstS (varE types.length) vars=firstS (varE types.length) (vars.drop p)) (fun (p:Nat)=>vars.length-p) (0) ?_ (GS.weaken ⟨rfl,rfl,rfl,trivial⟩ (.refl _)) ?_
  · exact ⟨Nat.zero_le _,rfl⟩
  ·
   rintro p hR
   refine AW.seq (Qsr (Qp Qmi (Qp Qms ?_)))
   refine Qp (P_len_sl (n:=vars.length) tok rfl rfl rfl (by simp)) ?_
   refine Qp Qclt (Qnn (Qif (fun hc2=>?_) fun hc2=>?_))
   ·
    obtain ⟨a,ha⟩:=get_lt hc2
    have hlt:=get_lt' ha
    have hm:=List.mem_of_getElem? ha
    refine Qst (AW.seq (AW.block (Qsr (Qp Qms (Qp Qmi ?_)))))
    refine Qp (P_indexAddr (c:=[.str _,.int .i64 _]) tok rfl rfl rfl rfl rfl rfl (by omega) (map_at ha)) ?_
    refine Qp (Qf [.int .i64 _]) (Qp Qli (Qp Qclt (Qp Qmb (Qg [] Qw Qms (Qg [] Qw Qmi ?_)))))
    refine AOL.g (y:=.ptr _) _ [(22,_),(23,_)] rfl (EntL.all ⟨Ent.self _ _,Ent.self _ _,trivial⟩) (fun hG=>P_indexAddr (c:=[.str _,.int .i64 _]) tok rfl rfl rfl rfl rfl rfl (by omega) (map_at ha)) rfl ?_
    refine Qg [(24,_)] Qw (Qf [.int .i64 _]) (Qg [(25,_)] Qw Qli (Qg [] Qw Qms ?_))
    refine AOL.g (y:=.int .i64 _) _ [(27,_)] rfl (EntL.all ⟨Ent.self _ _,trivial⟩) (fun hG=>P_len_sl (n:=types.length) tok rfl rfl rfl (by simp)) rfl ?_
    refine AOL.g (y:=.bool _) _ [(26,_),(28,_)] rfl (EntL.all ⟨Ent.self _ _,Ent.self _ _,trivial⟩) (fun hG=>P_geq rfl rfl) rfl ?_
    refine Qp Qpo (Qnn (Qif (fun hc3=>?_) fun hc3=>?_))
    ·
     have he:varE types.length a=6:=by unfold varE;rw [if_pos hc3]
     refine Qsr (Qp Qai (Qnn (AW.ret (blkR (thenR (thenR (blkR (thenR ?_))))))))
     refine Qr (.int .i64 _) ?_
     rw [varsE,if_neg (Bool.eq_false_iff.mp hc1),hR.2,drop_cons ha,firstS,he,if_pos (by decide)];rfl
    ·
     have he:varE types.length a=0:=by unfold varE;rw [if_neg (by simpa using hc3)]
     refine AW.skip (blkN (thenN (AW.region (Qp Qmi (Qp Qad (Qp Qai (Qnn ?_)))))))
     refine ⟨p+1,?_,?_,GS.weaken ⟨rfl,rfl,rfl,trivial⟩ (.refl _)⟩
     · exact ⟨hlt,by rw [hR.2,drop_cons ha,firstS,if_neg (by rw [he];decide)]⟩
     · omega
   ·
    have hd:=get_end hc2
    refine AW.exit ?_
    refine thenE (thenE (blkHit (thenN (Qsr (Qp Qai (Qnn (AW.ret ?_)))))))
    refine Qr (.int .i64 _) ?_
    rw [varsE,if_neg (Bool.eq_false_iff.mp hc1),hR.2,hd];rfl
theorem c31 (types:List Sc)(hl:types.length≤1048576)(hs:∀s∈types,scOK s)(vars:List Va)(hvl:vars.length≤1048576)(e:Ex)(hse:sizeN e≤1048576):APure Tryz.prog 82 [.sl 2 (types.map cSc),.sl 2 (vars.map cVa),.agg (cE e)] (.tuple [.int .i64 (KindS types vars e).1,.int .i64 (KindS types vars e).2]):=by
 refine APure.body (n:=49) tok Tryz.func82 rfl rfl rfl fun H=>?_
 refine Qsr (Qp Qbe (Qp Qai (Qp Qai (Qnn (AW.seq (Qsr (Qp Qms ?_)))))))
 refine Qp (Qc rfl (c57 types hl hs)) ?_
 refine Qp Qai (Qns (Qp Qmi (Qp Qcne (Qnn (Qif (fun hc1=>?_) fun hc1=>?_)))))
 ·
  refine Qsr (Qp Qmi (Qp Qai (Qp Qai (Qnn (Qrt ?_)))))
  refine Qrr (.int .i64 _) (.int .i64 _) ?_
  rw [KindS,if_pos hc1];rfl
 ·
  refine Qst (AW.seq (Qsr (Qp Qms ?_)))
  refine Qp (P_len_sl (n:=vars.length) tok rfl rfl rfl (by simp)) ?_
  refine Qp Qcgt (Qnn (Qif (fun hc2=>?_) fun hc2=>?_))
  ·
   refine Qsr (Qp Qai (Qp Qai (Qnn (Qrt ?_))))
   refine Qrr (.int .i64 _) (.int .i64 _) ?_
   have hve:varsE types vars=5:=by rw [varsE,if_pos hc2]
   rw [KindS,if_neg (Bool.eq_false_iff.mp hc1),hve,if_pos (by decide)];rfl
  ·
   refine Qst (AW.seq (Qsr (Qp Qms ?_)))
   refine Qp (P_len_sl (n:=vars.length) tok rfl rfl rfl (by simp)) ?_
   refine Qp Qmi (Qnn (AW.block ?_))
   refine AW.loopS (fun (p:Nat)=>(⟨[(0,.sl 2 (types.map cSc)),(1,.sl 2 (vars.map cVa)),(5,.ptr (cE e)),(20,.sl 2 (vars.map cVa)),(21,.int .i64 vars.length),(22,.int .i64 (p:Int))],H,49⟩:St)) (fun (p:Nat)=>p≤vars.length∧firstS (varE types.length) vars=firstS (varE types.length) (vars.drop p)) (fun (p:Nat)=>vars.length-p) (0) ?_ (GS.weaken ⟨rfl,rfl,rfl,rfl,rfl,rfl,trivial⟩ (.refl _)) ?_
   · exact ⟨Nat.zero_le _,rfl⟩
   ·
    rintro p hR
    refine Qsr (Qp Qclt (Qnn (AW.seq (Qif (fun hc3=>?_) fun hc3=>?_))))
    ·
     obtain ⟨a,ha⟩:=get_lt hc3
     have hlt:=get_lt' ha
     have hm:=List.mem_of_getElem? ha
     refine Qst (AW.seq (AW.block (Qsr ?_)))
     refine Qp (P_indexAddr (c:=[.str _,.int .i64 _]) tok rfl rfl rfl rfl rfl rfl (by omega) (map_at ha)) ?_
     refine Qp (Qlg [.str _,.int .i64 _]) ?_
     refine Qe (E_alloc (l:=[.str [],.int .i64 0]) (by kernel_rfl)) ?_
     rintro _ _ ⟨b10,rfl,rfl⟩
     refine Qe (E_store (k:=0) (v:=.agg _) (cs':=[.str _,.int .i64 _]) (H2:=_::_) tok rfl rfl rfl rfl (rfl) rfl rfl rfl rfl) ?_
     rintro _ _ ⟨rfl,rfl⟩
     refine AOL.ghost (GS.freeze (t:=10) 0 rfl rfl) ?_
     refine Qns (Qp (Qf [.int .i64 _]) (Qp Qli (Qp Qclt (Qp Qmb (Qg [] Qw (Qf [.int .i64 _]) (Qg [(30,_)] Qw Qli (Qg [] Qw Qms ?_)))))))
     refine AOL.g (y:=.int .i64 _) _ [(32,_)] rfl (EntL.all ⟨Ent.self _ _,trivial⟩) (fun hG=>P_len_sl (n:=types.length) tok rfl rfl rfl (by simp)) rfl ?_
     refine AOL.g (y:=.bool _) _ [(31,_),(33,_)] rfl (EntL.all ⟨Ent.self _ _,Ent.self _ _,trivial⟩) (fun hG=>P_geq rfl rfl) rfl ?_
     refine Qp Qpo (Qnn (Qif (fun hc4=>?_) fun hc4=>?_))
     ·
      have he:varE types.length a=6:=by unfold varE;rw [if_pos hc4]
      refine Qsr (Qp Qai (Qp Qai (Qnn (AW.ret (blkR (thenR (thenR (blkR (thenR ?_)))))))))
      refine Qrr (.int .i64 _) (.int .i64 _) ?_
      have hve:varsE types vars=6:=by rw [varsE,if_neg (Bool.eq_false_iff.mp hc2),hR.2,drop_cons ha,firstS,he,if_pos (by decide)]
      rw [KindS,if_neg (Bool.eq_false_iff.mp hc1),hve,if_pos (by decide)];rfl
     ·
      have he:varE types.length a=0:=by unfold varE;rw [if_neg (by simpa using hc4)]
      refine AW.skip (blkN (thenN (AW.region (Qp Qad (Qp Qmi (Qnn ?_))))))
      refine ⟨p+1,?_,?_,GS.weaken ⟨rfl,rfl,rfl,rfl,rfl,rfl,trivial⟩ (.refl _)⟩
      · exact ⟨hlt,by rw [hR.2,drop_cons ha,firstS,if_neg (by rw [he];decide)]⟩
      · omega
    ·
     have hd:=get_end hc3
     have hf0:firstS (varE types.length) vars=0:=by rw [hR.2,hd];rfl
     have hty:=tyok_of hf0
     have hvz:varsE types vars=0:=by rw [varsE,if_neg (by simpa using hc2),hf0]
     refine AW.exit ?_
     refine thenE (thenE (blkHit (thenN (AW.seq (Qsr (Qp Qle ?_))))))
     refine Qp (Qc rfl (c21 e hse)) ?_
     refine Qp Qai (Qns (Qp Qmi (Qp Qcne (Qnn (Qif (fun hc5=>?_) fun hc5=>?_)))))
     ·
      refine Qsr (Qp Qmi (Qp Qai (Qp Qai (Qnn (Qrt ?_)))))
      refine Qrr (.int .i64 _) (.int .i64 _) ?_
      rw [KindS,if_neg (Bool.eq_false_iff.mp hc1),hvz,if_neg (show ¬((0:Int) != 0)=true by decide),if_pos hc5];rfl
     ·
      refine Qst (Qsr (Qp Qms (Qp Qms (Qp (Qbd [_,_]) (Qp Qle ?_)))))
      refine Qp (Qc rfl (c58 types vars hty e (check_nodes (by simpa using hc5)) hse)) ?_
      refine Qp Qxi (Qp Qxi (Qp Qai (Qp Qai (Qnn (AW.ret ?_)))))
      refine Qrr (.int .i64 _) (.int .i64 _) ?_
      rw [KindS,if_neg (Bool.eq_false_iff.mp hc1),hvz,if_neg (show ¬((0:Int) != 0)=true by decide),if_neg (Bool.eq_false_iff.mp hc5)];rfl
theorem c32 (types:List Sc)(hl:types.length≤1048576)(hs:∀s∈types,scOK s)(vars:List Va)(hvl:vars.length≤1048576)(e:Ex)(hse:sizeN e≤1048576):APure Tryz.prog 35 [.sl 2 (types.map cSc),.sl 2 (vars.map cVa),.agg (cE e)] (.tuple [.int .i64 (KindS types vars e).1,.int .i64 (KindS types vars e).2]):=by
 refine APure.body (n:=33) tok Tryz.func35 rfl rfl rfl fun H=>?_
 refine Qsr (Qp Qbe (Qp Qai (Qp Qai (Qnn (AW.seq (Qsr (Qp Qms ?_)))))))
 refine Qp (Qc rfl (c59 types hl hs)) ?_
 refine Qp Qai (Qns (Qp Qmi (Qp Qcne (Qnn (Qif (fun hc1=>?_) fun hc1=>?_)))))
 ·
  refine Qsr (Qp Qmi (Qp Qai (Qp Qai (Qnn (Qrt ?_)))))
  refine Qrr (.int .i64 _) (.int .i64 _) ?_
  simp only [resOf,KindS]
  (first | rw [if_pos hc1] | skip)
  first | done | rfl
 ·
  refine Qst (AW.seq (Qsr (Qp Qms (Qp Qms ?_))))
  refine Qp (Qc rfl (c60 types vars hvl)) ?_
  refine Qp Qai (Qns (Qp Qmi (Qp Qcne (Qnn (Qif (fun hc2=>?_) fun hc2=>?_)))))
  ·
   refine Qsr (Qp Qmi (Qp Qai (Qp Qai (Qnn (Qrt ?_)))))
   refine Qrr (.int .i64 _) (.int .i64 _) ?_
   simp only [resOf,KindS]
   (first | rw [if_neg (Bool.eq_false_iff.mp hc1)] | skip);(first | rw [if_pos hc2] | skip)
   first | done | rfl
  ·
   have hty:TyOK8 types vars:=tyok_of (varsE_zero (by simpa using hc2))
   refine Qst (AW.seq (Qsr (Qp Qle ?_)))
   refine Qp (Qc rfl (c25 e hse)) ?_
   refine Qp Qai (Qns (Qp Qmi (Qp Qcne (Qnn (Qif (fun hc3=>?_) fun hc3=>?_)))))
   ·
    refine Qsr (Qp Qmi (Qp Qai (Qp Qai (Qnn (Qrt ?_)))))
    refine Qrr (.int .i64 _) (.int .i64 _) ?_
    simp only [resOf,KindS]
    (first | rw [if_neg (Bool.eq_false_iff.mp hc1)] | skip);(first | rw [if_neg (Bool.eq_false_iff.mp hc2)] | skip);(first | rw [if_pos hc3] | skip)
    first | done | rfl
   ·
    refine Qst (Qsr (Qp Qms (Qp Qms (Qp Qle ?_))))
    refine Qp (Qc rfl (c61 types vars hty e (check_nodes (by simpa using hc3)) hse)) ?_
    refine Qp Qxi (Qp Qxi (Qp Qai (Qp Qai (Qnn (AW.ret ?_)))))
    refine Qrr (.int .i64 _) (.int .i64 _) ?_
    simp only [resOf,KindS]
    (first | rw [if_neg (Bool.eq_false_iff.mp hc1)] | skip);(first | rw [if_neg (Bool.eq_false_iff.mp hc2)] | skip);(first | rw [if_neg (Bool.eq_false_iff.mp hc3)] | skip)
    first | done | rfl


def cScene (T:List Sc)(V:List Va):List AV:=[.sl 2 (T.map cSc),.sl 2 (V.map cVa)]
/-- a well-typed expression -/
structure KOK (T:List Sc) (V:List Va) (e:Ex):Prop where
 ty:TyOK8 T V
 nodes:nodesS e=0
 kind:(kindS T V e).2=0
theorem kok_args {T:List Sc}{V:List Va}{e:Ex}(h:KOK T V e)(hp:e.args≠[]):firstS (fun a=>(kindS T V a).2) e.args=0∧operandsS e.op (e.args.map fun a=>(kindS T V a).1)=0∧(kindS T V e).1=resK e.op:=by
 have hk:=h.kind
 rw [kindS_eq] at hk ⊢
 have hi:e.args.isEmpty=false:=by simpa using hp
 rw [hi] at hk ⊢
 simp only [Bool.false_eq_true,if_false] at hk ⊢
 by_cases h1:(firstS (fun a=>(kindS T V a).2) e.args != 0)=true
 · rw [if_pos h1] at hk;simp only at hk;rw [hk] at h1;cases h1
 ·
  rw [if_neg h1] at hk ⊢
  by_cases h2:(operandsS e.op (e.args.map fun a=>(kindS T V a).1) != 0)=true
  · rw [if_pos h2] at hk;simp only at hk;rw [hk] at h2;cases h2
  ·
   rw [if_neg h2]
   exact ⟨by simpa using h1,by simpa using h2,rfl⟩
theorem kok_arg {T:List Sc}{V:List Va}{e a:Ex}(h:KOK T V e)(ha:a∈e.args):KOK T V a:=by
 have hp:e.args≠[]:=by intro hn;rw [hn] at ha;cases ha
 exact ⟨h.ty,(nodes_zero h.nodes).2 a ha,first_zero (kok_args h hp).1 a ha⟩
theorem kok_leaf {T:List Sc}{V:List Va}{e:Ex}(h:KOK T V e)(ho:e.op<5):kindS T V e=leafK T V e:=by
 rw [kindS_eq,leaf_nil (nodes_zero h.nodes).1 ho];rfl
theorem kok_ne {T:List Sc}{V:List Va}{e:Ex}(h:KOK T V e)(ho:5≤e.op):e.args≠[]:=by
 obtain ⟨h0,h1,h2⟩:=node_shape (nodes_zero h.nodes).1
 intro hn
 rw [hn] at h2
 unfold arityS at h2
 rw [if_neg (by omega),if_neg (by omega)] at h2
 split at h2 <;> simp at h2
theorem kok_kind {T:List Sc}{V:List Va}{e:Ex}(h:KOK T V e):(kindS T V e).1=kindR T V e:=by
  obtain ⟨h0,h1,h2⟩:=node_shape (nodes_zero h.nodes).1
  by_cases ho:e.op<5
  · have hk:=h.kind
    rw [kok_leaf h ho] at hk ⊢
    unfold leafK kindR at *
    by_cases c0:(e.op==0)=true
    · rw [if_pos c0,if_pos (by rw [c0];rfl)]
    · rw [if_neg c0] at hk ⊢
      by_cases c1:decide ((V.length:Int)≤e.var)=true
      · rw [if_pos c1] at hk;cases hk
      · rw [if_neg c1] at hk ⊢
        by_cases c2:(e.op==2||e.op==3)=true
        · rw [if_pos c2]
          have c2':e.op=2∨e.op=3:=by simpa using c2
          rcases c2' with c | c <;> rw [c] <;> rfl
        · rw [if_neg c2] at hk ⊢
          by_cases c3:decide (((fldsS T V e.var).length:Int)≤e.field)=true
          · rw [if_pos c3] at hk;cases hk
          · rw [if_neg c3] at hk ⊢
            have c2':e.op≠2∧e.op≠3:=by simpa using c2
            have c0':e.op≠0:=by simpa using c0
            have:e.op=1∨e.op=4:=by omega
            rcases this with c | c
            · by_cases c4:(e.op==4&&(kindAt (fldsS T V e.var) e.field != e.val.kind || !esuitsS e.kind ⟨kindAt (fldsS T V e.var) e.field,0,[]⟩))=true
              · rw [c] at c4;cases c4
              · rw [if_neg c4,c];rfl
            · by_cases c4:(e.op==4&&(kindAt (fldsS T V e.var) e.field != e.val.kind || !esuitsS e.kind ⟨kindAt (fldsS T V e.var) e.field,0,[]⟩))=true
              · rw [if_pos c4] at hk;cases hk
              · rw [if_neg c4]
                have:kindAt (fldsS T V e.var) e.field=e.val.kind:=by
                  rw [c] at c4
                  simp at c4
                  exact c4.1
                rw [this,c];rfl
  · rw [(kok_args h (kok_ne h (by omega))).2.2]
    have c0:(e.op==0||e.op==4)=false:=by simp;omega
    have c1:(e.op==1)=false:=by simp;omega
    unfold kindR resK
    rw [ifF c0,ifF c1]
    by_cases c:(e.op==5||e.op==6)=true
    · rw [if_pos c,if_pos (by simp at c ⊢;omega)]
    · rw [if_neg c,if_neg (by simp at c ⊢;omega)]
theorem kok_var {T:List Sc}{V:List Va}{e:Ex}(h:KOK T V e)(ho:e.op=1∨e.op=2∨e.op=3∨e.op=4):0≤e.var∧e.var<(V.length:Int):=by
 have hk:=h.kind
 rw [kok_leaf h (by omega)] at hk
 have hv:=node_var (nodes_zero h.nodes).1
 unfold leafK at hk
 rw [ifF (by simp;omega)] at hk
 by_cases c1:decide ((V.length:Int)≤e.var)=true
 · rw [if_pos c1] at hk;cases hk
 ·
  simp at c1
  have hn:=(nodes_zero h.nodes).1
  refine ⟨?_,by omega⟩
  unfold nodeS at hn
  split at hn
  · cases hn
  split at hn
  · cases hn
  split at hn
  · cases hn
  rename_i h3
  have hu:(usesS e.op).1=true:=by rcases ho with ho | ho | ho | ho <;> rw [ho] <;> rfl
  rw [hu] at h3
  simp at h3
  omega
theorem kok_field {T:List Sc}{V:List Va}{e:Ex}(h:KOK T V e)(ho:e.op=1∨e.op=4):0≤e.field∧e.field<((fldsS T V e.var).length:Int):=by
 have hk:=h.kind
 rw [kok_leaf h (by omega)] at hk
 have hv:=kok_var h (by omega)
 unfold leafK at hk
 rw [ifF (by simp;omega),ifF (by simp;omega),ifF (by simp;omega)] at hk
 by_cases c1:decide (((fldsS T V e.var).length:Int)≤e.field)=true
 · rw [if_pos c1] at hk;cases hk
 ·
  simp at c1
  have hn:=(nodes_zero h.nodes).1
  refine ⟨?_,by omega⟩
  unfold nodeS at hn
  split at hn
  · cases hn
  split at hn
  · cases hn
  split at hn
  · cases hn
  rename_i h3
  have hu:(usesS e.op).2=true:=by rcases ho with ho | ho <;> rw [ho] <;> rfl
  rw [hu] at h3
  simp at h3
  omega
/-- where a field's kind stands -/
theorem kok_at {T:List Sc}{V:List Va}{e:Ex}(h:KOK T V e)(ho:e.op=1):∃v s f,0≤e.var∧V[e.var.toNat]? = some v∧0≤v.type∧T[v.type.toNat]? = some s∧0≤e.field∧s.fields[e.field.toNat]? = some f∧kindR T V e=f.kind:=by
 have hv:=kok_var h (by omega)
 have hf:=kok_field h (by omega)
 have hl:e.var.toNat<V.length:=by omega
 have hvm:=h.ty _ (List.getElem_mem hl)
 have hl2:(V[e.var.toNat]).type.toNat<T.length:=by omega
 have hfl:fldsS T V e.var=(T[(V[e.var.toNat]).type.toNat]).fields:=by
  unfold fldsS
  rw [List.getElem?_eq_getElem hl]
  simp only [Option.getD_some]
  rw [List.getElem?_eq_getElem hl2];rfl
 have hl3:e.field.toNat<(T[(V[e.var.toNat]).type.toNat]).fields.length:=by rw [hfl] at hf;omega
 refine ⟨_,_,_,hv.1,List.getElem?_eq_getElem hl,hvm.1,List.getElem?_eq_getElem hl2,hf.1,List.getElem?_eq_getElem hl3,?_⟩
 unfold kindR kindAt
 rw [ifF (by simp;omega),if_pos (by simp;omega),hfl,List.getElem?_eq_getElem hl3];rfl
theorem KindS_kok {T:List Sc}{V:List Va}{e:Ex}(h:(KindS T V e).2=0):KOK T V e∧(KindS T V e).1=kindR T V e:=by
 unfold KindS at h ⊢
 by_cases h1:(allTS T != 0)=true
 · rw [if_pos h1] at h;simp only at h;rw [h] at h1;cases h1
 rw [if_neg h1] at h ⊢
 by_cases h2:(varsE T V != 0)=true
 · rw [if_pos h2] at h;simp only at h;rw [h] at h2;cases h2
 rw [if_neg h2] at h ⊢
 by_cases h3:(checkS e != 0)=true
 · rw [if_pos h3] at h;simp only at h;rw [h] at h3;cases h3
 rw [if_neg h3] at h ⊢
 have hk:KOK T V e:=⟨tyok_of (varsE_zero (by simpa using h2)),check_nodes' (by simpa using h3),h⟩
 exact ⟨hk,kok_kind hk⟩
theorem condE_1 {T:List Sc}{V:List Va}{e:Ex}(h:((KindS T V e).2 != 0)=true):condE T V e=(KindS T V e).2:=by rw [condE,if_pos h]
theorem condE_2 {T:List Sc}{V:List Va}{e:Ex}(h:((KindS T V e).2 != 0)=false)(h2:((KindS T V e).1 != 1)=true):condE T V e=9:=by rw [condE,ifF h,if_pos h2]
theorem condE_3 {T:List Sc}{V:List Va}{e:Ex}(h:((KindS T V e).2 != 0)=false)(h2:((KindS T V e).1 != 1)=false):condE T V e=0:=by rw [condE,ifF h,ifF h2]
theorem g9 {T:List Sc}{V:List Va}{e:Ex}(hk:KOK T V e)(hG:allG [(e.op==9,true)]):1<e.args.length:=by
 have h:=eq_of_beq (hG _ (List.mem_singleton.2 rfl))
 exact len_two' (nodes_zero hk.nodes).1 (by omega)
theorem l9 {T:List Sc}{V:List Va}{e:Ex}(hk:KOK T V e)(h:(e.op==9)=true):1<e.args.length:=by
 have h:=eq_of_beq h
 exact len_two' (nodes_zero hk.nodes).1 (by omega)
end Go.Proofs.YtkddpedfbicbeaaGreatDoor

namespace Go.Aw
section
variable {P:Program} {T:List (Nat×TD)} {d:Option Nat} {ty:TypeId} {pos:String} {aft:Array Edge} {gd:Option (Nat×Bool)} {ρ:Operand→AV}
/-- What a map in the making holds at a key, and whether it holds it: a scalar. -/
theorem P_klookOk {t:TypeId}{m k:Operand}{kt et b i:Nat}{td tk te:TD}{gs:List (Nat×Nat×Bool×Nat)}{n:List AV}{es:List (List AV×AV)}{eq:List AV→Bool}{r:Bool}{x:AV}{ok:Bool}(hT:TOK P T)(ht:tget T t=some td)(hk:td.kind = .map kt et)(htk:tget T kt=some tk)(hkk:tk.kind = .struct gs)
    (hte:tget T et=some te) (hzs:zscal P et=true) (hm:ρ m = .val (.map (some b))) (hkey:ρ k = .agg n) (hnn:aeqs T gs n n=some r) (heq:∀p∈es,aeqs T gs n p.1=some (eq p.1)) (hx:match kget eq es with | some y=>y=x | none=>te.zero = [x]) (hok:(kget eq es).isSome=ok) :
    OpP P ⟨d,.lookup t m k true,ty,pos,aft,gd⟩ ρ (fun H=>H[i]? = some (.kmap b es)) (.tuple [x,.bool ok]):=by
  subst hok
  intro g w a H next Q hr hHK hH hn
  have h1:=(hm▸hr m (by simp [Op.operands]):Rep g w _ _).inv_val
  obtain ⟨us,h2,hus⟩:=(hkey▸hr k (by simp [Op.operands]):Rep g w _ _).inv_agg
  obtain ⟨hg,ms,clock,hheap,hl,⟨hclk,hbn⟩,hks,hvs⟩:=hHK.ok _ (List.mem_of_getElem? hH)
  have hu:=map_inv (hT t td ht) hk
  have hget:(getObj b).run P w = .ok (.map ms clock) w:=by simp [getObj,Sem.run,hheap]
  have hck:=check_struct hT htk hkk hus hnn (em:=ms.isEmpty) (m:=9997)
  have hf:=kfind_run hT htk hkk hus (eq:=eq) ms.toList es 0 (by simpa using hl) (fun j k x hj=>by simpa using hks j k x hj) heq
  rw [←findKey_struct hT htk hkk] at hf
  have tup:∀(v:Value) (y:AV) (o:Bool),Rep g w v y→Rep g w (.tuple #[v,.bool o]) (.tuple [y,.bool o]):=fun v y o hv=>.tuple _ _ rfl fun j z hj=>by
    match j,hj with
    | 0,hj=>cases hj;exact hv
    | 1,hj=>cases hj;exact .bool _
    | j+2,hj=>cases hj
  unfold Oper.wp
  cases hs:kidx eq es with
  | some j=>
    obtain ⟨k',y,hj,hg2⟩:=kget_at hs
    rw [hs] at hf
    have hrep:Rep g w (ms.toList.getD j default).val y:=by simpa using hvs j k' y hj
    simp only [Option.map_some] at hf
    simp only [execOp,Instr.lookup,Sem.run_bind,under_run hu,Result.andThen_ok,h1,hget,Sem.run_pure,h2,hck,hf,if_true]
    refine hn g w _ ?_ hHK (Ext.refl g w)
    rw [hg2] at hx ⊢
    simp only at hx
    subst hx
    exact tup _ _ _ hrep
  | none=>
    rw [hs] at hf
    simp only [Option.map_none] at hf
    obtain ⟨z,hz1,hz2,hz3⟩:=zero_run (hT et te hte) w
    simp only [execOp,Instr.lookup,Sem.run_bind,under_run hu,Result.andThen_ok,h1,hget,Sem.run_pure,h2,hck,hf,hz1,if_true]
    refine hn g w _ ?_ hHK (Ext.refl g w)
    rw [kget_no.1 hs] at hx ⊢
    simp only at hx
    have hz4:=hz3 g w
    rw [hx] at hz4
    have hna:∀vs,z≠.agg vs:=by
      rintro vs rfl
      obtain ⟨it,hit,_,_,zv,hzv,_⟩:=(hT et te hte).info
      have hzz:(zeroValue et).run P w = .ok zv w:=by simp [zeroValue,info_run hit,hzv]
      rw [hzz] at hz1
      cases hz1
      simp [zscal,hit,hzv] at hzs
    have hcell:z.cells = #[z]:=by cases z <;> first | rfl | exact absurd rfl (hna _)
    rw [hcell] at hz4
    exact tup _ _ _ (hz4.2 0 x rfl)

/-- A guarded operation that writes; where it is not carried out, the heap is already of the form that it leaves. -/
theorem AOL.geX {ops:Array Oper}{KK:St→Prop}{s:St}{o:Oper}{r:List Oper}{x:AV}{α:Type}{F:α→List HO}(G:List (Bool×Bool))(L:List (Nat×AV))(hw:wantedG ops o s.sl=some G)
  (hL:∀p∈L,Ent G (get s.sl p.1) p.2) (h:allG G→OpE P o (aval (L++s.sl)) s.H fun x' H'=>x'=x∧∃v,H'=F v) (hn:¬allG G→∃v,s.H=F v) (hd:okd o.dst s.n=true)
  (k:∀v,AOL P ops KK r ⟨putS o.dst (.opt G x) s.sl,F v,s.n⟩):AOL P ops KK (o::r) s:=by
 refine ⟨fun Q g a w hG hQ=>?_⟩
 obtain ⟨h1,h2⟩:=wanted_of_G (ops:=ops) (o:=o) (sl:=s.sl) hw (g:=g) (w:=w) (a:=a) (fun d _=>hG.sl d)
 unfold WOL
 by_cases hg:allG G
 ·
  rw [if_pos (h1 hg)]
  refine h hg g w a _ _ (fun y _=>aval_app hG hg hL y) hG.heap fun g' w' v x' H' ⟨e1,u,e2⟩ hv hH hx=>?_
  subst e1;subst e2
  exact (k u).run Q g' _ w' (hG.put hx hd (.opt _ _ _ (fun _=>hv) (fun h=>absurd hg h)) hH) fun g'' s'' a'' w'' q1 q2 q3=>hQ g'' s'' a'' w'' q1 (hx.trans q2) q3
 ·
  rw [if_neg (by rw [h2 hg];decide)]
  obtain ⟨u,hu⟩:=hn hg
  have hH:HOK g w (F u):=by have:=hG.heap;rwa [hu] at this
  exact (k u).run Q g _ w (hG.put (Ext.refl g w) hd (.opt _ _ _ (fun h=>absurd h hg) (fun _=>rfl)) hH) hQ

/-- A buffer as the variable that it is made of, and back. -/
theorem hok_unbuf {g:Gh}{w:World}{H:List HO}{k:Nat}{v:Value}{es:List (List AV)}{E z:Nat}(hH:HOK g w H)(hk:H[k]? = some (.buf v es E z)) :
  (v = .slice none 0 0∧es = [])∨∃b cap J,v = .slice (some ⟨b,0,none⟩) es.length cap∧es.length≤cap∧cap≤maxLen∧J.length=(cap-es.length)*z∧(∀e∈es,e.length=z)∧HOK g w (H.set k (.box b E (es.flatten++J))):=by
 rcases hH.ok _ (List.mem_of_getElem? hk) with h | ⟨b,cap,cur,e1,hg,hcur,hcsz,hcap,hcmax,hz1,hrep⟩
 · exact .inl h
 ·
  have hfl:es.flatten.length=es.length*z:=flatten_len hz1
  have hle:es.length*z≤cur.size:=by rw [hcsz];exact Nat.mul_le_mul_right z hcap
  refine .inr ⟨b,cap,List.replicate ((cap-es.length)*z) .junk,e1,hcap,hcmax,List.length_replicate,hz1,?_⟩
  refine hH.set (Ext.refl g w) hk (fun c hc=>.inl (by rw [e1];exact hc)) ⟨hg,cur,hcur,?_,fun i x hi=>?_⟩ (fun _ _ _ _=>⟨rfl,rfl⟩)
  ·
   rw [List.length_append,List.length_replicate,hfl,hcsz,Nat.sub_mul]
   have:=Nat.mul_le_mul_right z hcap
   omega
  ·
   rw [List.getElem?_append] at hi
   split at hi
   · exact hrep i x hi
   ·
    have:=List.eq_of_mem_replicate (List.mem_of_getElem? hi)
    rw [this];exact .junk _
theorem AW.unbuf {c:Code}{Q:Exit→St→Prop}{sl:List (Nat×AV)}{H:List HO}{n:Nat}(k:Nat){v:Value}{es:List (List AV)}{E z:Nat}(hk:H[k]? = some (.buf v es E z))(hne:es≠[])
  (h:∀b cap J,v = .slice (some ⟨b,0,none⟩) es.length cap→es.length≤cap→cap≤maxLen→J.length=(cap-es.length)*z→(∀e∈es,e.length=z)→AW P c Q ⟨sl,H.set k (.box b E (es.flatten++J)),n⟩):AW P c Q ⟨sl,H,n⟩:=fun Q' g a w hG hQ=>by
 rcases hok_unbuf hG.heap hk with ⟨_,h2⟩ | ⟨b,cap,J,h1,h2,h3,h4,h5,h6⟩
 · exact absurd h2 hne
 · exact h b cap J h1 h2 h3 h4 h5 Q' g a w ⟨hG.size,hG.defers,hG.sl,h6⟩ hQ
theorem GS.rebuf {sl:List (Nat×AV)}{H H2:List HO}{n:Nat}(k:Nat){b cap E z:Nat}{cs:List AV}(es:List (List AV))(J:List AV){m:Nat}(hm:es.length=m)(hk:H[k]? = some (.box b E cs))(hcs:cs=es.flatten++J)(hcap:es.length≤cap)(hcm:cap≤maxLen)(hJ:J.length=(cap-es.length)*z)(hz:∀e∈es,e.length=z)
  (hH2:H.set k (.buf (.slice (some ⟨b,0,none⟩) m cap) es E z)=H2):GS ⟨sl,H,n⟩ ⟨sl,H2,n⟩:=fun g a w hG=>by
 subst hcs;subst hH2;subst hm
 obtain ⟨hg,vs,hvs,h3⟩:=hG.heap.ok _ (List.mem_of_getElem? hk)
 have hfl:es.flatten.length=es.length*z:=flatten_len hz
 refine ⟨g,⟨hG.size,hG.defers,hG.sl,?_⟩,Ext.refl g w⟩
 refine hG.heap.set (Ext.refl g w) hk (fun c hc=>.inl hc) (.inr ⟨b,cap,vs,rfl,hg,hvs,?_,hcap,hcm,hz,fun i x hi=>?_⟩) (fun _ _ _ _=>⟨rfl,rfl⟩)
 ·
  rw [h3.1,List.length_append,hfl,hJ,Nat.sub_mul]
  have:=Nat.mul_le_mul_right z hcap
  omega
 ·
  refine h3.2 i x ?_
  rw [List.getElem?_append_left (List.getElem?_eq_some_iff.1 hi).1];exact hi

/-- the value of a buffer is one cell -/
theorem HO.buf_one {g:Gh}{w:World}{v:Value}{es:List (List AV)}{E z:Nat}(h:HO.ok g w (.buf v es E z)):v.oneCell'=true:=by
 rcases h with ⟨rfl,_⟩ | ⟨b,cap,cur,rfl,_⟩ <;> rfl
theorem AW.bufOne {c:Code}{Q:Exit→St→Prop}{sl:List (Nat×AV)}{H:List HO}{n:Nat}{v:Value}{es:List (List AV)}{E z:Nat}(k:Nat)(hk:H[k]? = some (.buf v es E z))(h:v.oneCell'=true→AW P c Q ⟨sl,H,n⟩):AW P c Q ⟨sl,H,n⟩:=fun Q' g a w hG hQ=>
 h (HO.buf_one (hG.heap.ok _ (List.mem_of_getElem? hk))) Q' g a w hG hQ
def bufsOne (H:List HO):Prop:=∀v es E z,HO.buf v es E z∈H→v.oneCell'=true
theorem OpE.bufs {o:Oper}{H:List HO}{R:AV→List HO→Prop}(h:OpE P o ρ H R):OpE P o ρ H (fun r H'=>R r H'∧bufsOne H'):=by
 intro g w a next Q hr hHK hn
 exact h g w a next Q hr hHK fun g' w' v x H' h1 h2 h3 h4=>hn g' w' v x H' ⟨h1,fun v es E z hm=>HO.buf_one (h3.ok _ hm)⟩ h2 h3 h4

theorem OpP.weakV {o:Oper}{K:List HO→Prop}{x x':AV}(h:OpP P o ρ K x)(hw:∀g w u,Rep g w u x→Rep g w u x'):OpP P o ρ K x':=
 fun g w a H next Q hr hH hK hn=>h g w a H next Q hr hH hK fun g' w' v hv hH' hx=>hn g' w' v (hw _ _ _ hv) hH' hx
/-- A buffer is written no more. -/
theorem hok_freezeBuf {g:Gh}{w:World}{H:List HO}{k:Nat}{v:Value}{es:List (List AV)}{E z:Nat}(hH:HOK g w H)(hk:H[k]? = some (.buf v es E z)):∃g',Ext g w g' w∧HOK g' w (H.eraseIdx k)∧Rep g' w v (.sl z es):=by
 have hok:=hH.ok _ (List.mem_of_getElem? hk)
 rcases hok with ⟨rfl,rfl⟩ | ⟨b,cap,cur,rfl,hg,hcur,hcsz,hcap,hcmax,hz1,hrep⟩
 · exact ⟨g,Ext.refl g w,hH.sub (List.eraseIdx_sublist ..),.sl0 _ _ _ (Nat.zero_le _)⟩
 ·
  have hx:Ext g w (g.put b none) w:=by
   refine ⟨rfl,rfl,rfl,Nat.le_refl _,fun c hc hgc=>⟨?_,rfl⟩,fun c m hc hgc=>⟨fun m' hm=>?_,fun _ _=>rfl⟩⟩
   ·
    by_cases e:c=b
    · subst e;exact Gh.put_same _ _ _
    · rw [Gh.put_ne _ _ e];exact hgc
   ·
    by_cases e:c=b
    · subst e;rw [Gh.put_same] at hm;cases hm
    · rw [Gh.put_ne _ _ e,hgc] at hm;cases hm;exact Nat.le_refl _
  refine ⟨g.put b none,hx,?_,?_⟩
  ·
   have hsub:(H.eraseIdx k).Sublist H:=List.eraseIdx_sublist ..
   refine ⟨(hH.sub hsub).nodup,fun o ho=>?_,hH.glob.mono hx⟩
   obtain ⟨j,hj⟩:=List.getElem?_of_mem ho
   rw [List.getElem?_eraseIdx] at hj
   obtain ⟨j',hjk,hj'⟩:∃j',j'≠k∧H[j']? = some o:=by
    split at hj
    · exact ⟨j,by omega,hj⟩
    · exact ⟨j+1,by omega,hj⟩
   have hok:=hH.ok o (List.mem_of_getElem? hj')
   refine HO.ok_of_same hx hok fun c hc=>⟨Gh.put_ne _ _ fun e=>hjk (hH.nodup_blk hj' hk (e▸hc) rfl),rfl⟩
  ·
   refine .sl b 0 es.length cap z es rfl hcap hcmax hz1 (fun i j=>cur.getD (i*z+j) undef) (fun i e hi j y hj=>⟨by unfold settled;rw [Gh.put_same];trivial,?_⟩) (fun i e hi j y hj=>?_)
   ·
    have h3:=flatten_get hz1 hi hj
    have hlt:i*z+j<cur.size:=by
     have h4:=(List.getElem?_eq_some_iff.1 h3).1
     rw [flatten_len hz1] at h4
     have:=Nat.mul_le_mul_right z hcap
     omega
    rw [Nat.zero_add,cell_of_heap hcur];simp [hlt]
   · exact (hrep _ _ (flatten_get hz1 hi hj)).mono hx
/-- The same where a cell of a variable holds it. -/
theorem GS.freezeBufCell {sl:List (Nat×AV)}{H H2:List HO}{n b TT:Nat}{cs cs':List AV}{v:Value}{es:List (List AV)}{E z:Nat}(k j o:Nat)(hk:H[k]? = some (.buf v es E z))(hj:(H.eraseIdx k)[j]? = some (.box b TT cs))(hc:cs[o]? = some (.val v))(hcs:cs.set o (.sl z es)=cs')
  (hH2:(H.eraseIdx k).set j (.box b TT cs')=H2):GS ⟨sl,H,n⟩ ⟨sl,H2,n⟩:=fun g a w hG=>by
 subst hcs;subst hH2
 obtain ⟨g',hx,hH,hv⟩:=hok_freezeBuf hG.heap hk
 refine ⟨g',⟨hG.size,hG.defers,fun i=>(hG.sl i).mono hx,?_⟩,hx⟩
 refine hH.set (Ext.refl g' w) hj (fun b h=>.inl h) ?_ (fun _ _ _ _=>⟨rfl,rfl⟩)
 obtain ⟨h1,vs,h2,h3,h4⟩:=hH.ok _ (List.mem_of_getElem? hj)
 refine ⟨h1,vs,h2,by simpa using h3,fun i x hi=>?_⟩
 rw [List.getElem?_set] at hi
 split at hi
 ·
  rename_i e;subst e
  split at hi
  · cases hi;rw [(h4 _ _ hc).inv_val];exact hv
  · cases hi
 · exact h4 i x hi
theorem ACall.front3 {f:FuncId}{args:List AV}{H R:List HO}{Q:AV→List HO→Prop}{o1 o2 o3:HO}(k3 k2 k1:Nat)(hk3:H[k3]? = some o3)(hk2:(H.eraseIdx k3)[k2]? = some o2)(hk1:((H.eraseIdx k3).eraseIdx k2)[k1]? = some o1)(hR:((H.eraseIdx k3).eraseIdx k2).eraseIdx k1=R)
  (h:ACall P f (o1::o2::o3::R) args Q):ACall P f H args Q:=by
 subst hR
 refine h.perm ?_
 have h1:=box_front hk3
 have h2:=box_front hk2
 have h3:=box_front hk1
 refine h1.trans ((h2.cons o3).trans (((h3.cons o2).cons o3).trans ?_))
 exact (List.Perm.swap o2 o3 _).trans (((List.Perm.swap o1 o3 _).cons o2).trans (List.Perm.swap o1 o2 _))
theorem GS.heapTo {sl:List (Nat×AV)}{H H2:List HO}{n:Nat}(h:H=H2):GS ⟨sl,H,n⟩ ⟨sl,H2,n⟩:=by subst h;exact GS.refl _
end
end Go.Aw
