/-
  Several texts in one: Y13, Y6c, Y2. No condition.
-/
import Derived.Test.YtkddpedfbicbeaaGreatDoorK01
import Derived.Test.YtkddpedfbicbeaaGreatDoorK09
import Derived.Test.YtkddpedfbicbeaaGreatDoorK15
import Derived.Test.YtkddpedfbicbeaaGreatDoorK12
import Derived.KernelRfl
import Derived.Test.YtkddpedfbicbeaaGreatDoorK07
import Derived.Test.YtkddpedfbicbeaaGreatDoorK02
import Derived.Test.YtkddpedfbicbeaaGreatDoorK04
namespace Go.Proofs.YtkddpedfbicbeaaGreatDoor
open Go Go.Aw
set_option maxHeartbeats 3200000
set_option maxRecDepth 20000
set_option linter.unusedVariables false
set_option linter.unusedSimpArgs false

theorem d_verdict (T:List Sc)(hst:∀s∈T,scOK s)(V:List Va)(hty:TyOK8 T V)(hvl:V.length≤1048576)(cs:Cs)(hcs:vOK T V cs):APure Tryz.prog 64 [.agg (cScene T V),.agg (cCs cs)] (.tuple [.int .i64 (verdictS T V cs).1,.sl 5 ((verdictS T V cs).2.map cEv)]):=by
 refine APure.body (n:=44) tok Tryz.func64 rfl rfl rfl fun H=>?_
 refine Qsr (Qp (Qbx [_,_]) ?_)
 refine Qp (Qbx [_,.bool _]) ?_
 refine Qp Qai ?_
 refine Qp (P_assign_nil (z:=5) rfl) ?_
 refine Qnn (AW.seq (Qsr (Qp (Qf [.bool _]) ?_)))
 refine Qp Qlb ?_
 refine Qp Qnt ?_
 refine Qnn (Qif (fun hc1=>?_) fun hc1=>?_)
 ·
  refine Qsr (Qp Qai ?_)
  refine Qp (P_assign_nil (z:=5) rfl) ?_
  refine Qnn (Qrt (Qrr (.int .i64 _) (.sl _ _) ?_))
  exact Eq.trans rfl (congrArg (fun q:Int×List Ev=>AV.tuple [.int .i64 q.1,.sl 5 (q.2.map cEv)]) (verd_1 hc1)).symm
 ·
  refine Qst (Qsr (Qp Qai ?_))
  refine Qnn (AW.seq (Qsr (Qp (Qf [_,.bool _]) ?_)))
  refine Qp Qls ?_
  refine Qp (P_len_sl (n:=cs.1.length) tok rfl rfl rfl (by simp)) ?_
  refine Qp Qmi ?_
  refine Qnn (AW.block ?_)
  refine AW.loopS (fun (p:Nat×Int)=>(⟨[(2,.ptr (cScene T V)),(6,.int .i64 p.2),(15,.sl 1 (cs.1.map cCl)),(16,.int .i64 cs.1.length),(17,.int .i64 (p.1:Int))],H,44⟩:St)) (fun (p:Nat×Int)=>p.1≤cs.1.length∧vGo T V 2 cs.1=vGo T V p.2 (cs.1.drop p.1)) (fun (p:Nat×Int)=>cs.1.length - p.1) ((0,2)) ?_ (GS.weaken ⟨rfl,rfl,rfl,rfl,rfl,trivial⟩ (.refl _)) ?_
  · exact ⟨Nat.zero_le _,rfl⟩
  ·
   rintro p hR
   have hcl9:=hcs.1
   refine Qsr (Qp Qclt ?_)
   refine Qnn (AW.seq (Qif (fun hc2=>?_) fun hc2=>?_))
   ·
    obtain ⟨c,hc⟩:=get_lt hc2
    have hlt:=get_lt' hc
    have hcv:=hcs.2 c (List.mem_of_getElem? hc)
    have hck:=hcv.1
    have hcl:=hcv.2
    have hgo:=hR.2
    rw [drop_cons hc] at hgo
    refine Qst (AW.seq (AW.block (Qsr (Qp (P_indexAddr (c:=[_]) tok rfl rfl rfl rfl rfl rfl (by omega) (map_at hc)) ?_))))
    refine Qp Qls ?_
    refine Qp Qas ?_
    refine Qns (Qp (Qlg [_,_]) ?_)
    refine Qp Qms ?_
    refine Qe (E_callf (by kernel_rfl) rfl rfl (d_solve T V c hck hcl (solv_all T V c) _)) ?_
    rintro _ _ ⟨m,mo,hmo,rfl,rfl⟩
    refine Qp Qmu ?_
    refine Qp (P_extract (v:=.agg [_,_,_]) rfl rfl) ?_
    refine Qp Qxb ?_
    refine Qe (E_alloc (l:=[.val (.pointer none),.sl 1 [],.val (.map none)]) (by kernel_rfl)) ?_
    rintro _ _ ⟨b9,rfl,rfl⟩
    refine Qe (E_store (k:=0) (v:=.agg _) (cs':=[_,_,_]) (H2:=_::_::_) tok rfl rfl rfl rfl (rfl) rfl rfl rfl rfl) ?_
    rintro _ _ ⟨rfl,rfl⟩
    refine Qp Qab ?_
    refine AOL.ghost (GS.freeze (t:=9) 0 rfl rfl) ?_
    refine Qnn (AW.seq (Qsr (Qp Qmb ?_)))
    refine Qp Qnt ?_
    refine Qp Qmb ?_
    refine Qg [] Qw Qms ?_
    refine AOL.g (y:=.int .i64 _) _ [(30,_)] rfl (EntL.all ⟨Ent.self _ _,trivial⟩) (fun hG=>P_len_sl (n:=c.length) tok rfl rfl rfl (by simp)) rfl ?_
    refine Qg [(31,_)] Qw Qclq ?_
    refine Qp Qpa ?_
    refine Qnn (Qif (fun hc3=>?_) fun hc3=>?_)
    ·
     refine AW.exit ?_
     refine thenE (blkHit (thenN (AW.region (Qp Qad ?_))))
     refine Qp Qmi ?_
     refine Qnn ?_
     refine ⟨(p.1+1,p.2),?_,?_,GS.weaken ⟨rfl,rfl,rfl,rfl,rfl,trivial⟩ (.cons _ (.refl _))⟩
     · exact ⟨hlt,hgo.trans (vGo_skip hc3)⟩
     · simp only;omega
    ·
     refine Qst (AW.seq (Qsr (Qp (Qlg [_,_]) ?_)))
     refine Qp Qms ?_
     refine Qp (Qlg [_,_,_]) ?_
     refine Qp (Qc rfl (d_certain T V c hck (by omega) (solV T V c) mo)) ?_
     refine Qnn (Qif (fun hc4=>?_) fun hc4=>?_)
     ·
      have hvs:=vals_len hck hc3 hc4
      have hmoe:=hmo (cert_fits hc4).1
      subst hmoe
      refine Qsr (Qp (Qlg [_,_]) ?_)
      refine Qp Qms ?_
      refine Qp (Qlg [_,_,_]) ?_
      refine Qe (E_callf (by kernel_rfl) rfl rfl (d_events T V hty hst hvl c hck hcl m _ (strings_ok c) (solV T V c) hvs _)) ?_
      rintro _ _ ⟨rfl,rfl⟩
      refine Qp Qai ?_
      refine Qp Qas ?_
      refine Qnn (Qrt (blkR (thenR (thenR (blkR (thenR ?_))))))
      refine ⟨.inr rfl,[.int .i64 _,.sl _ _],.cons (.tmp _ _ rfl) <| .cons (.tmp _ _ rfl) <| .nil,.cons _ (.refl _),?_⟩
      exact Eq.trans rfl (congrArg (fun q:Int×List Ev=>AV.tuple [.int .i64 q.1,.sl 5 (q.2.map cEv)]) ((verd_2 hc1).trans (hgo.trans (vGo_yes hc3 hc4)))).symm
     ·
      refine Qst (AW.region (Qp Qai ?_))
      refine AOL.nil (blkN (thenN (AW.region (Qp Qad ?_))))
      refine Qp Qmi ?_
      refine Qnn ?_
      refine ⟨(p.1+1,0),?_,?_,GS.weaken ⟨rfl,rfl,rfl,rfl,rfl,trivial⟩ (.cons _ (.refl _))⟩
      · exact ⟨hlt,hgo.trans (vGo_on hc3 hc4)⟩
      · simp only;omega
   ·
    have hde:=get_end hc2
    have hgo:=hR.2
    rw [hde] at hgo
    refine AW.exit ?_
    refine thenE (thenE (blkHit (thenN (Qsr (Qp Qmi ?_)))))
    refine Qp Qai ?_
    refine Qp (P_assign_nil (z:=5) rfl) ?_
    refine Qnn (AW.ret (Qrr (.int .i64 _) (.sl _ _) ?_))
    exact Eq.trans rfl (congrArg (fun q:Int×List Ev=>AV.tuple [.int .i64 q.1,.sl 5 (q.2.map cEv)]) ((verd_2 hc1).trans hgo)).symm
theorem d_conditions (T:List Sc)(hl:T.length≤1048576)(hst:∀s∈T,scOK s)(V:List Va)(hvl:V.length≤1048576)(es:List Ex)(hel:es.length≤1048576)(hes:∀e∈es,sizeN e≤1048576):APure Tryz.prog 63 [.agg (cScene T V),.sl 8 (es.map encE)] (.int .i64 (condsE T V es)):=by
 refine APure.body (n:=30) tok Tryz.func63 rfl rfl rfl fun H=>?_
 refine Qsr (Qp (Qbx [_,_]) ?_)
 refine Qp Qai ?_
 refine Qnn (AW.seq (Qsr (Qp (Qlg [_,_]) ?_)))
 refine Qp (Qc rfl (d_variables T hl hst V hvl)) ?_
 refine Qp Qai ?_
 refine Qns (Qp Qmi ?_)
 refine Qp Qcne ?_
 refine Qnn (Qif (fun hc1=>?_) fun hc1=>?_)
 ·
  refine Qsr (Qp Qmi ?_)
  refine Qp Qai ?_
  refine Qnn (Qrt (Qr (.int .i64 _) ?_))
  exact Eq.trans rfl (congrArg (fun q:Int=>AV.int .i64 q) (conds_1 hc1)).symm
 ·
  refine Qst (AW.seq (Qsr (Qp Qms ?_)))
  refine Qp (P_len_sl (n:=es.length) tok rfl rfl rfl (by simp)) ?_
  refine Qp Qcgt ?_
  refine Qnn (Qif (fun hc2=>?_) fun hc2=>?_)
  ·
   refine Qsr (Qp Qai ?_)
   refine Qnn (Qrt (Qr (.int .i64 _) ?_))
   exact Eq.trans rfl (congrArg (fun q:Int=>AV.int .i64 q) (conds_2 hc1 hc2)).symm
  ·
   refine Qst (AW.seq (Qsr (Qp Qms ?_)))
   refine Qp (P_len_sl (n:=es.length) tok rfl rfl rfl (by simp)) ?_
   refine Qp Qmi ?_
   refine Qnn (AW.block ?_)
   refine AW.loopS (fun (k:Nat)=>(⟨[(2,.ptr (cScene T V)),(17,.sl 8 (es.map encE)),(18,.int .i64 es.length),(19,.int .i64 (k:Int))],H,30⟩:St)) (fun (k:Nat)=>k≤es.length∧firstS (condE T V) (es.take k)=0) (fun (k:Nat)=>es.length - k) (0) ?_ (GS.weaken ⟨rfl,rfl,rfl,rfl,trivial⟩ (.refl _)) ?_
   · exact ⟨Nat.zero_le _,rfl⟩
   ·
    rintro k hR
    refine Qsr (Qp Qclt ?_)
    refine Qnn (AW.seq (Qif (fun hc3=>?_) fun hc3=>?_))
    ·
     obtain ⟨e,he⟩:=get_lt hc3
     have hlt:=get_lt' he
     have hem:=List.mem_of_getElem? he
     refine Qst (AW.seq (AW.block (Qsr (Qp (P_indexAddr (c:=[.int .i64 _,_,.int .i64 _,.int .i64 _,.int .i64 _,.int .i64 _,.int .i64 _,.str _]) tok rfl rfl rfl rfl rfl rfl (by omega) (encE_at he)) ?_))))
     refine Qp Qle ?_
     refine Qe (E_alloc (l:=[.int .i64 0,.sl 8 [],.int .i64 0,.int .i64 0,.int .i64 0,.int .i64 0,.int .i64 0,.str []]) (by kernel_rfl)) ?_
     rintro _ _ ⟨b7,rfl,rfl⟩
     refine Qe (E_store (k:=0) (v:=.agg _) (cs':=[.int .i64 _,_,.int .i64 _,.int .i64 _,.int .i64 _,.int .i64 _,.int .i64 _,.str _]) (H2:=_::_) tok rfl rfl rfl rfl (rfl) rfl rfl rfl rfl) ?_
     rintro _ _ ⟨rfl,rfl⟩
     refine AOL.ghost (GS.freeze (t:=7) 0 rfl rfl) ?_
     refine Qns (Qp (Qlg [_,_]) ?_)
     refine Qp Qle ?_
     refine Qp (Qc rfl (d_condition T hl hst V hvl e (hes e hem))) ?_
     refine Qp Qai ?_
     refine Qns (Qp Qmi ?_)
     refine Qp Qcne ?_
     refine Qnn (Qif (fun hc4=>?_) fun hc4=>?_)
     ·
      refine Qsr (Qp Qmi ?_)
      refine Qp Qai ?_
      refine Qnn (AW.ret (blkR (thenR (thenR (blkR (thenR (Qr (.int .i64 _) ?_)))))))
      exact Eq.trans rfl (congrArg (fun q:Int=>AV.int .i64 q) ((conds_f hc1 hc2).trans (first_take hR.2 he (by simpa using hc4)))).symm
     ·
      refine AW.skip (blkN (thenN (AW.region (Qp Qad ?_))))
      refine Qp Qmi ?_
      refine Qnn ?_
      refine ⟨k+1,?_,?_,GS.weaken ⟨rfl,rfl,rfl,rfl,trivial⟩ (.refl _)⟩
      · exact ⟨hlt,first_snoc hR.2 he (by simpa using hc4)⟩
      · omega
    ·
     have hte:=take_end hc3
     have hall:=hR.2
     rw [hte] at hall
     refine AW.exit ?_
     refine thenE (thenE (blkHit (thenN (Qsr (Qp Qai ?_)))))
     refine Qnn (AW.ret (Qr (.int .i64 _) ?_))
     exact Eq.trans rfl (congrArg (fun q:Int=>AV.int .i64 q) ((conds_f hc1 hc2).trans hall)).symm
theorem d_conditionsL (T:List Sc)(hl:T.length≤1048576)(hst:∀s∈T,scOK s)(V:List Va)(hvl:V.length≤1048576)(es:List Ex)(hel:es.length≤1048576)(hes:∀e∈es,sizeN e≤1048576):APure Tryz.prog 63 [.agg (cScene T V),.sl 8 (es.map cE)] (.int .i64 (condsE T V es)):=by
  have h:=d_conditions T hl hst V hvl es hel hes
  rw [show es.map encE=es.map cE from List.map_congr_left fun e _=>encE_eq e] at h
  exact h
theorem d_Possible (T:List Sc)(hl:T.length≤1048576)(hst:∀s∈T,scOK s)(V:List Va)(hvl:V.length≤1048576)(es:List Ex)(hel:es.length≤60)(hes:∀e∈es,sizeN e≤1048576):APure Tryz.prog 30 [.sl 2 (T.map cSc),.sl 2 (V.map cVa),.sl 8 (es.map encE)] (.tuple [.int .i64 (PossibleS T V es).1,.sl 5 ((PossibleS T V es).2.1.map cEv),.int .i64 (PossibleS T V es).2.2]):=by
 refine APure.body (n:=47) tok Tryz.func30 rfl rfl rfl fun H=>?_
 refine Qsr (Qp Qai ?_)
 refine Qp (P_assign_nil (z:=5) rfl) ?_
 refine Qp Qai ?_
 refine Qns (Qp Qms ?_)
 refine Qp Qms ?_
 refine Qp (Qbd [_,_]) ?_
 refine Qe (E_alloc (l:=[.sl 2 [],.sl 2 []]) (by kernel_rfl)) ?_
 rintro _ _ ⟨b9,rfl,rfl⟩
 refine Qe (E_store (k:=0) (v:=.agg _) (cs':=[_,_]) (H2:=_::_) tok rfl rfl rfl rfl (rfl) rfl rfl rfl rfl) ?_
 rintro _ _ ⟨rfl,rfl⟩
 refine AOL.ghost (GS.freeze (t:=9) 0 rfl rfl) ?_
 refine Qnn (AW.seq (Qsr (Qp (Qlg [_,_]) ?_)))
 refine Qp Qms ?_
 refine Qp (Qc rfl (d_conditions T hl hst V hvl es (by omega) hes)) ?_
 refine Qp Qai ?_
 refine Qns (Qp Qmi ?_)
 refine Qp Qcne ?_
 refine Qnn (Qif (fun hc1=>?_) fun hc1=>?_)
 ·
  refine Qsr (Qp Qmi ?_)
  refine Qp Qai ?_
  refine Qp (P_assign_nil (z:=5) rfl) ?_
  refine Qp Qai ?_
  refine Qnn (Qrt ?_)
  refine ⟨.inr rfl,[.int .i64 _,.sl _ _,.int .i64 _],.cons (.tmp _ _ rfl) <| .cons (.tmp _ _ rfl) <| .cons (.tmp _ _ rfl) <| .nil,.refl _,?_⟩
  exact Eq.trans rfl (congrArg (fun q:Int×List Ev×Int=>AV.tuple [.int .i64 q.1,.sl 5 (q.2.1.map cEv),.int .i64 q.2.2]) (Poss_1 hc1)).symm
 ·
  have hcz:=conds_zero hc1
  have hty:=conds_ty hc1
  refine Qst (Qsr (Qp (OpP.weakV (P_buildSlice (es:=[[_]]) tok rfl rfl rfl rfl rfl rfl rfl rfl rfl) nilsl_sl) ?_))
  refine Qp (Qbd [_,.bool _]) ?_
  refine Qe (E_alloc (l:=[.sl 1 [],.bool false]) (by kernel_rfl)) ?_
  rintro _ _ ⟨b11,rfl,rfl⟩
  refine Qe (E_store (k:=0) (v:=.agg _) (cs':=[_,.bool _]) (H2:=_::_) tok rfl rfl rfl rfl (rfl) rfl rfl rfl rfl) ?_
  rintro _ _ ⟨rfl,rfl⟩
  refine Qnn (AW.seq (Qsr (Qp Qms ?_)))
  refine Qp (P_len_sl (n:=es.length) tok rfl rfl rfl (by simp)) ?_
  refine Qp Qmi ?_
  refine Qnn (AW.block ?_)
  refine AW.loopS (fun (p:Nat×Cs)=>(⟨[(9,.ptr (cScene T V)),(11,.val (.pointer (some ⟨b11,0,none⟩))),(27,.sl 8 (es.map encE)),(28,.int .i64 es.length),(29,.int .i64 (p.1:Int))],.box b11 103 (cCs p.2)::H,47⟩:St)) (fun (p:Nat×Cs)=>p.1≤es.length∧prodL T V (es.take p.1) ([[]],true)=p.2∧csOK (64*p.1) p.2∧litOKn T V 64 p.2) (fun (p:Nat×Cs)=>es.length - p.1) ((0,([[]],true))) ?_ (GS.weaken ⟨rfl,rfl,rfl,rfl,rfl,trivial⟩ (.refl _)) ?_
  · exact ⟨Nat.zero_le _,rfl,start_cs,start_lit⟩
  ·
   rintro p hR
   refine Qsr (Qp Qclt ?_)
   refine Qnn (AW.seq (Qif (fun hc2=>?_) fun hc2=>?_))
   ·
    obtain ⟨e,he⟩:=get_lt hc2
    have hlt:=get_lt' he
    have hem:=List.mem_of_getElem? he
    have hke:=(hcz.2 e hem).1
    have hkz:=kc_size hke
    refine Qst (AW.seq (AW.block (Qsr (Qp (P_indexAddr (c:=[.int .i64 _,_,.int .i64 _,.int .i64 _,.int .i64 _,.int .i64 _,.int .i64 _,.str _]) tok rfl rfl rfl rfl rfl rfl (by omega) (encE_at he)) ?_))))
    refine Qp Qle ?_
    refine Qe (E_alloc (l:=[.int .i64 0,.sl 8 [],.int .i64 0,.int .i64 0,.int .i64 0,.int .i64 0,.int .i64 0,.str []]) (by kernel_rfl)) ?_
    rintro _ _ ⟨b13,rfl,rfl⟩
    refine Qe (E_store (k:=0) (v:=.agg _) (cs':=[.int .i64 _,_,.int .i64 _,.int .i64 _,.int .i64 _,.int .i64 _,.int .i64 _,.str _]) (H2:=_::_::_) tok rfl rfl rfl rfl (rfl) rfl rfl rfl rfl) ?_
    rintro _ _ ⟨rfl,rfl⟩
    refine AOL.ghost (GS.freeze (t:=13) 0 rfl rfl) ?_
    refine Qnn ?_
    refine AW.draw mixed (fun H'=>_∈H') (List.mem_of_getElem? (i:=0) rfl) (by kernel_rfl) ?_
    refine Qn 0 rfl (OpP.mem (fun k=>P_load_box_agg (k:=k) (l:=[_,.bool _]) tok rfl rfl rfl rfl rfl) (fun _ h=>h)) ?_
    refine Qn 1 rfl (Qlg [_,_]) ?_
    refine Qn 2 rfl Qle ?_
    refine Qn 3 rfl (Qc rfl (d_normal T V e hke.kok (kc_size hke) true)) ?_
    refine Qn 4 rfl (Qc rfl (d_times _ _ _ _ hR.2.2.1 (norm_ok e hke.kok true) (by omega) (by have:=kc_size hke;omega))) ?_
    refine Canon.last _ _ 5 _ _ rfl (by kernel_rfl) rfl rfl (E_store (k:=0) (v:=.agg _) (cs':=[_,.bool _]) (H2:=_::_) tok rfl rfl rfl rfl (rfl) rfl rfl rfl rfl) (by kernel_rfl) ?_
    rintro _ _ ⟨rfl,rfl⟩
    refine blkN (thenN (AW.region (Qp Qad ?_)))
    refine Qp Qmi ?_
    refine Qnn ?_
    refine ⟨(p.1+1,timesS p.2 (normS T V e true)),?_,?_,GS.weaken ⟨rfl,rfl,rfl,rfl,rfl,trivial⟩ (.refl _)⟩
    · exact ⟨hlt,by unfold prodL;rw [take_get he,List.foldl_append];exact congrArg (fun z=>timesS z (normS T V e true)) hR.2.1,(times_ok hR.2.2.1 (norm_ok e hke.kok true)).mono (by simp only;omega),lit_times hR.2.2.2 (lit_mono (norm_lits e hke.kok true) hkz)⟩
    · simp only;omega
   ·
    have hte:=take_end hc2
    have hpr:=hR.2.1
    rw [hte] at hpr
    have hvo:vOK T V p.2:=vOK_of hR.2.2.1 hR.2.2.2 (by have:=hR.1;omega)
    refine AW.exit ?_
    refine thenE (thenE (blkHit (thenN (Qsr (Qp (Qlg [_,_]) ?_)))))
    refine AOL.pk (P_load_box_agg (k:=0) (l:=[_,.bool _]) tok rfl rfl rfl rfl rfl) rfl rfl ?_
    refine Qp (Qc rfl (d_verdict T hst V hty hvl _ hvo)) ?_
    refine Qp Qmu ?_
    refine Qp Qxi ?_
    refine Qp Qxs ?_
    refine Qp Qai ?_
    refine Qp Qas ?_
    refine Qns (Qp Qmi ?_)
    refine Qp Qms ?_
    refine Qp Qai ?_
    refine Qp Qas ?_
    refine Qp Qai ?_
    refine Qnn (AW.ret ?_)
    refine ⟨.inr rfl,[.int .i64 _,.sl _ _,.int .i64 _],.cons (.tmp _ _ rfl) <| .cons (.tmp _ _ rfl) <| .cons (.tmp _ _ rfl) <| .nil,.cons _ (.refl _),?_⟩
    exact Eq.trans rfl (congrArg (fun q:Int×List Ev×Int=>AV.tuple [.int .i64 q.1,.sl 5 (q.2.1.map cEv),.int .i64 q.2.2]) (Poss_2 hc1 hpr)).symm
theorem d_Implies (T:List Sc)(hl:T.length≤1048576)(hst:∀s∈T,scOK s)(V:List Va)(hvl:V.length≤1048576)(a b:Ex)(ha:sizeN a≤1048576)(hb:sizeN b≤1048576):APure Tryz.prog 24 [.sl 2 (T.map cSc),.sl 2 (V.map cVa),.agg (cE a),.agg (cE b)] (.tuple [.int .i64 (ImpliesS T V a b).1,.int .i64 (ImpliesS T V a b).2]):=by
 refine APure.body (n:=43) tok Tryz.func24 rfl rfl rfl fun H=>?_
 refine Qsr (Qp Qbe ?_)
 refine Qp Qbe ?_
 refine Qp Qai ?_
 refine Qp Qai ?_
 refine Qns (Qp Qms ?_)
 refine Qp Qms ?_
 refine Qp (Qbd [_,_]) ?_
 refine Qe (E_alloc (l:=[.sl 2 [],.sl 2 []]) (by kernel_rfl)) ?_
 rintro _ _ ⟨b10,rfl,rfl⟩
 refine Qe (E_store (k:=0) (v:=.agg _) (cs':=[_,_]) (H2:=_::_) tok rfl rfl rfl rfl (rfl) rfl rfl rfl rfl) ?_
 rintro _ _ ⟨rfl,rfl⟩
 refine AOL.ghost (GS.freeze (t:=10) 0 rfl rfl) ?_
 refine Qnn (AW.seq (Qsr (Qp (Qlg [_,_]) ?_)))
 refine Qp Qle ?_
 refine Qp Qle ?_
 refine Qp (P_buildSlice (es:=[[.int .i64 _,_,.int .i64 _,.int .i64 _,.int .i64 _,.int .i64 _,.int .i64 _,.str _],[.int .i64 _,_,.int .i64 _,.int .i64 _,.int .i64 _,.int .i64 _,.int .i64 _,.str _]]) tok rfl rfl rfl rfl rfl rfl rfl rfl rfl) ?_
 refine Qp (Qc rfl (d_conditionsL T hl hst V hvl [a,b] (by show (2:Nat)≤_;decide) (two_sizes ha hb))) ?_
 refine Qp Qai ?_
 refine Qns (Qp Qmi ?_)
 refine Qp Qcne ?_
 refine Qnn (Qif (fun hc1=>?_) fun hc1=>?_)
 ·
  refine Qsr (Qp Qmi ?_)
  refine Qp Qai ?_
  refine Qp Qai ?_
  refine Qnn (Qrt (Qrr (.int .i64 _) (.int .i64 _) ?_))
  exact Eq.trans rfl (congrArg (fun q:Int×Int=>AV.tuple [.int .i64 q.1,.int .i64 q.2]) (Imp_1 hc1)).symm
 ·
  have hcz:=conds_zero hc1
  have hty:=conds_ty hc1
  have hka:=(hcz.2 a (List.mem_cons_self ..)).1
  have hkb:=(hcz.2 b (List.mem_cons_of_mem _ (List.mem_cons_self ..))).1
  have hza:=kc_size hka
  have hzb:=kc_size hkb
  have hvo:vOK T V (impC T V a b):=vOK_of (times_ok (norm_ok a hka.kok true) (norm_ok b hkb.kok false)) (lit_times (lit_mono (norm_lits a hka.kok true) hza) (lit_mono (norm_lits b hkb.kok false) hzb)) (by omega)
  refine Qst (AW.seq ?_)
  refine AW.draw mixed (fun _=>True) trivial (by kernel_rfl) ?_
  refine Qn 0 rfl (Qlg [_,_]) ?_
  refine Qn 1 rfl (Qlg [_,_]) ?_
  refine Qn 2 rfl Qle ?_
  refine Qn 3 rfl (Qc rfl (d_normal T V a hka.kok (kc_size hka) true)) ?_
  refine Qn 4 rfl (Qlg [_,_]) ?_
  refine Qn 5 rfl Qle ?_
  refine Qn 6 rfl (Qc rfl (d_normal T V b hkb.kok (kc_size hkb) false)) ?_
  refine Qn 7 rfl (Qc rfl (d_times _ _ _ _ (norm_ok a hka.kok true) (norm_ok b hkb.kok false) (by have:=kc_size hka;omega) (by have:=kc_size hkb;omega))) ?_
  refine Qn 8 rfl (Qc rfl (d_verdict T hst V hty hvl _ hvo)) ?_
  refine Qn 9 rfl Qmu ?_
  refine Qn 10 rfl Qxi ?_
  refine Qn 11 rfl Qxs ?_
  refine Qn 12 rfl Qai ?_
  refine Qn 13 rfl Qas ?_
  refine Canon.done _ _ (by kernel_rfl) ?_
  refine thenN (AW.seq (Qsr (Qp Qmi ?_)))
  refine Qnn (AW.block (Qsr (Qp Qceq ?_)))
  refine Qp Qab ?_
  refine Qnn (Qif (fun hc2=>?_) fun hc2=>?_)
  ·
   refine Qsr (Qp Qai ?_)
   refine Qp Qai ?_
   refine Qnn (AW.ret (blkR (thenR (Qrr (.int .i64 _) (.int .i64 _) ?_))))
   exact Eq.trans rfl (congrArg (fun q:Int×Int=>AV.tuple [.int .i64 q.1,.int .i64 q.2]) (Imp_2 hc1 hc2)).symm
  ·
   refine Qsr (Qp Qceq ?_)
   refine Qp Qab ?_
   refine Qnn (Qif (fun hc3=>?_) fun hc3=>?_)
   ·
    refine Qsr (Qp Qai ?_)
    refine Qp Qai ?_
    refine Qnn (AW.ret (blkR (thenR (Qrr (.int .i64 _) (.int .i64 _) ?_))))
    exact Eq.trans rfl (congrArg (fun q:Int×Int=>AV.tuple [.int .i64 q.1,.int .i64 q.2]) (Imp_3 hc1 hc2 hc3)).symm
   ·
    refine AW.skip (blkN (thenN (Qsr (Qp Qmi ?_))))
    refine Qp Qai ?_
    refine Qp Qai ?_
    refine Qnn (AW.ret (Qrr (.int .i64 _) (.int .i64 _) ?_))
    exact Eq.trans rfl (congrArg (fun q:Int×Int=>AV.tuple [.int .i64 q.1,.int .i64 q.2]) (Imp_4 hc1 hc2 hc3)).symm

end Go.Proofs.YtkddpedfbicbeaaGreatDoor

namespace Go.Proofs.YtkddpedfbicbeaaGreatDoor
open Go Go.Aw
set_option maxHeartbeats 6400000
set_option maxRecDepth 20000
set_option linter.unusedVariables false
set_option linter.unusedSimpArgs false

theorem r_either (a b:List (List Lit))(hla:a.length≤512)(hlb:b.length≤512):APure Tryz.prog 141 [.sl 1 (a.map cCl),.sl 1 (b.map cCl)] (.tuple [.sl 1 ((eitherS a b).1.map cCl),.bool (eitherS a b).2]):=by
 have hsa:∀c∈(a.map cCl),scalars c=true:=sc_map fun _=>rfl
 have hsb:∀c∈(b.map cCl),scalars c=true:=sc_map fun _=>rfl
 refine APure.body (n:=17) tok Tryz.func141 rfl rfl rfl fun H=>?_
 refine Qsr (Qp (P_assign_nil (z:=1) rfl) ?_)
 refine Qp Qab ?_
 refine Qns (Qp Qav ?_)
 refine AOL.ghost (GS.row (t:=6) 71 1 rfl) ?_
 refine Qns (Qp (P_move (v:=.row _ _ _) rfl) ?_)
 refine Qp Qms ?_
 refine Qe (E_append (k:=0) tok rfl rfl rfl rfl rfl rfl rfl rfl (hsa) (sc_nil) (by simp;omega) (by simp [maxLen];omega)) ?_
 rintro _ _ ⟨v9,rfl,rfl⟩
 refine Qp (P_assign (v:=.row _ _ _) rfl) ?_
 refine Qns (Qp (P_move (v:=.row _ _ _) rfl) ?_)
 refine Qp Qms ?_
 refine Qe (E_append (k:=0) tok rfl rfl rfl rfl rfl rfl rfl rfl (hsb) (hsa) (by simp;omega) (by simp [maxLen];omega)) ?_
 rintro _ _ ⟨v12,rfl,rfl⟩
 refine Qp (P_assign (v:=.row _ _ _) rfl) ?_
 refine Qns (Qp (P_move (v:=.row _ _ _) rfl) ?_)
 refine Qp (P_move (v:=.row _ _ _) rfl) ?_
 refine Qp (P_len_row (n:=(a++b).length) tok rfl rfl rfl (by simp)) ?_
 refine Qp Qclq ?_
 refine AOL.ghost (GS.unrow 13 rfl) ?_
 refine Qp Qas ?_
 refine Qp Qab ?_
 refine Qnn (AW.ret ?_)
 refine ⟨.inr rfl,[.sl _ _,.bool _],.cons (.tmp _ _ rfl) <| .cons (.tmp _ _ rfl) <| .nil,.cons _ (.refl _),?_⟩
 rw [List.nil_append,←List.map_append];rfl
theorem r_pair (T:List Sc)(V:List Va)(e:Ex)(hk:KOK T V e)(hse:sizeN e≤64)(ih:∀a∈e.args,∀s,APure Tryz.prog 54 [.agg (cScene T V),.agg (cE a),.bool s] (.tuple [.sl 1 ((rnormS T V a s).1.map cCl),.bool (rnormS T V a s).2]))(hl2:1 < e.args.length)(f g t:Bool):APure Tryz.prog 92 [.agg (cScene T V),.agg (cE e),.bool f,.bool g,.bool t] (.tuple [.sl 1 ((pairS (rnormS T V (arg0 e) f) (rnormS T V (arg1 e) g) t).1.map cCl),.bool (pairS (rnormS T V (arg0 e) f) (rnormS T V (arg1 e) g) t).2]):=by
 have h00:0 < e.args.length:=by omega
 have m0:=arg0_mem h00
 have m1:=arg1_mem hl2
 have hs01:=arg_sizes hl2
 refine APure.body (n:=53) tok Tryz.func92 rfl rfl rfl fun H=>?_
 refine Qsr (Qp (Qbx [_,_]) ?_)
 refine Qp Qbe ?_
 refine Qp (P_assign_nil (z:=1) rfl) ?_
 refine Qp Qab ?_
 refine Qnn (AW.seq ?_)
 refine AW.draw mixed (fun _=>True) trivial (by kernel_rfl) ?_
 refine Qn 0 rfl (Qlg [_,_]) ?_
 refine Qn 1 rfl Qf1 ?_
 refine Qn 2 rfl Qls ?_
 refine Qn 3 rfl (P_indexAddr (c:=[.int .i64 _,_,.int .i64 _,.int .i64 _,.int .i64 _,.int .i64 _,.int .i64 _,.str _]) tok rfl rfl rfl rfl rfl rfl (by decide) (arg0_at h00)) ?_
 refine Qn 4 rfl Qle ?_
 refine Qn 5 rfl Qmb ?_
 refine Qn 6 rfl (Qc rfl (ih _ m0 f)) ?_
 refine Qn 7 rfl Qmu ?_
 refine Qn 8 rfl Qxs ?_
 refine Qn 9 rfl Qxb ?_
 refine Qn 10 rfl Qas ?_
 refine Qn 11 rfl Qab ?_
 refine Canon.done _ _ (by kernel_rfl) ?_
 refine thenN (AW.seq ?_)
 refine AW.draw mixed (fun _=>True) trivial (by kernel_rfl) ?_
 refine Qn 0 rfl (Qlg [_,_]) ?_
 refine Qn 1 rfl Qf1 ?_
 refine Qn 2 rfl Qls ?_
 refine Qn 3 rfl (P_indexAddr (c:=[.int .i64 _,_,.int .i64 _,.int .i64 _,.int .i64 _,.int .i64 _,.int .i64 _,.str _]) tok rfl rfl rfl rfl rfl rfl (by decide) (arg1_at hl2)) ?_
 refine Qn 4 rfl Qle ?_
 refine Qn 5 rfl Qmb ?_
 refine Qn 6 rfl (Qc rfl (ih _ m1 g)) ?_
 refine Qn 7 rfl Qmu ?_
 refine Qn 8 rfl Qxs ?_
 refine Qn 9 rfl Qxb ?_
 refine Qn 10 rfl Qas ?_
 refine Qn 11 rfl Qab ?_
 refine Canon.done _ _ (by kernel_rfl) ?_
 refine thenN (AW.seq (Qsr (Qp Qmb ?_)))
 refine Qp Qnt ?_
 refine Qp Qmb ?_
 refine Qg [] Qw Qmb ?_
 refine Qg [(39,_)] Qw Qnt ?_
 refine Qp Qpo ?_
 refine Qnn (Qif (fun hc1=>?_) fun hc1=>?_)
 ·
  refine Qsr (Qp (P_assign_nil (z:=1) rfl) ?_)
  refine Qp Qab ?_
  refine Qnn (Qrt (Qrr (.sl _ _) (.bool _) ?_))
  exact Eq.trans rfl (congrArg (fun q:Cs=>AV.tuple [.sl 1 (q.1.map cCl),.bool q.2]) (pair_1 hc1)).symm
 ·
  have hb:=both_ok hc1
  have k0:=rn_ok (kok_arg hk m0) hb.1
  have k1:=rn_ok (kok_arg hk m1) hb.2
  have hla:=k0.len
  have hlb:=k1.len
  have hxa:=fun x hx=>Nat.le_trans (k0.lits x hx) (show sizeN (arg0 e)≤1048576 by omega)
  have hxb:=fun x hx=>Nat.le_trans (k1.lits x hx) (show sizeN (arg1 e)≤1048576 by omega)
  refine Qst (AW.seq (Qsr (Qp Qmb ?_)))
  refine Qnn (Qif (fun hc2=>?_) fun hc2=>?_)
  ·
   refine Qsr (Qp Qms ?_)
   refine Qp Qms ?_
   refine Qp (Qc rfl (r_product _ _ (by omega) (by omega) hxa hxb)) ?_
   refine Qp Qxs ?_
   refine Qp Qxb ?_
   refine Qp Qas ?_
   refine Qp Qab ?_
   refine Qnn (Qrt (Qrr (.sl _ _) (.bool _) ?_))
   exact Eq.trans rfl (congrArg (fun q:Cs=>AV.tuple [.sl 1 (q.1.map cCl),.bool q.2]) (pair_2' hc1 hc2)).symm
  ·
   refine Qst (Qsr (Qp Qms ?_))
   refine Qp Qms ?_
   refine Qp (Qc rfl (r_either _ _ (by omega) (by omega))) ?_
   refine Qp Qxs ?_
   refine Qp Qxb ?_
   refine Qp Qas ?_
   refine Qp Qab ?_
   refine Qnn (AW.ret (Qrr (.sl _ _) (.bool _) ?_))
   exact Eq.trans rfl (congrArg (fun q:Cs=>AV.tuple [.sl 1 (q.1.map cCl),.bool q.2]) (pair_3' hc1 hc2)).symm
theorem r_equal (T:List Sc)(V:List Va)(e:Ex)(hk:KOK T V e)(hse:sizeN e≤64)(ih:∀a∈e.args,∀s,APure Tryz.prog 54 [.agg (cScene T V),.agg (cE a),.bool s] (.tuple [.sl 1 ((rnormS T V a s).1.map cCl),.bool (rnormS T V a s).2]))(hl2:1 < e.args.length)(s:Bool):APure Tryz.prog 94 [.agg (cScene T V),.agg (cE e),.bool s] (.tuple [.sl 1 ((equalS' (pairS (rnormS T V (arg0 e) true) (rnormS T V (arg1 e) s) true) (pairS (rnormS T V (arg0 e) false) (rnormS T V (arg1 e) (!s)) true)).1.map cCl),.bool (equalS' (pairS (rnormS T V (arg0 e) true) (rnormS T V (arg1 e) s) true) (pairS (rnormS T V (arg0 e) false) (rnormS T V (arg1 e) (!s)) true)).2]):=by
 have h00:0 < e.args.length:=by omega
 have m0:=arg0_mem h00
 have m1:=arg1_mem hl2
 have hs01:=arg_sizes hl2
 refine APure.body (n:=38) tok Tryz.func94 rfl rfl rfl fun H=>?_
 refine Qsr (Qp (Qbx [_,_]) ?_)
 refine Qp Qbe ?_
 refine Qp (P_assign_nil (z:=1) rfl) ?_
 refine Qp Qab ?_
 refine Qns (Qp (Qlg [_,_]) ?_)
 refine Qp Qle ?_
 refine Qp Qmb ?_
 refine Qp (Qc rfl (r_pair T V e hk hse ih hl2 true s true)) ?_
 refine Qp Qmu ?_
 refine Qp Qxs ?_
 refine Qp Qxb ?_
 refine Qp Qas ?_
 refine Qp Qab ?_
 refine Qns (Qp (Qlg [_,_]) ?_)
 refine Qp Qle ?_
 refine Qp Qmb ?_
 refine Qp Qnt ?_
 refine Qp (Qc rfl (r_pair T V e hk hse ih hl2 false (!s) true)) ?_
 refine Qp Qmu ?_
 refine Qp Qxs ?_
 refine Qp Qxb ?_
 refine Qp Qas ?_
 refine Qp Qab ?_
 refine Qnn (AW.seq (Qsr (Qp Qmb ?_)))
 refine Qp Qnt ?_
 refine Qp Qmb ?_
 refine Qg [] Qw Qmb ?_
 refine Qg [(30,_)] Qw Qnt ?_
 refine Qp Qpo ?_
 refine Qnn (Qif (fun hc1=>?_) fun hc1=>?_)
 ·
  refine Qsr (Qp (P_assign_nil (z:=1) rfl) ?_)
  refine Qp Qab ?_
  refine Qnn (Qrt (Qrr (.sl _ _) (.bool _) ?_))
  exact Eq.trans rfl (congrArg (fun q:Cs=>AV.tuple [.sl 1 (q.1.map cCl),.bool q.2]) (equal_1 hc1)).symm
 ·
  have hb:=both_ok hc1
  have k0:=pair_ok (fun h=>rn_ok (kok_arg hk m0) h) (fun h=>rn_ok (kok_arg hk m1) h) hb.1
  have k1:=pair_ok (fun h=>rn_ok (kok_arg hk m0) h) (fun h=>rn_ok (kok_arg hk m1) h) hb.2
  have hla:=k0.len
  have hlb:=k1.len
  refine Qst (Qsr (Qp Qms ?_))
  refine Qp Qms ?_
  refine Qp (Qc rfl (r_either _ _ (by omega) (by omega))) ?_
  refine Qp Qxs ?_
  refine Qp Qxb ?_
  refine Qp Qas ?_
  refine Qp Qab ?_
  refine Qnn (AW.ret (Qrr (.sl _ _) (.bool _) ?_))
  exact Eq.trans rfl (congrArg (fun q:Cs=>AV.tuple [.sl 1 (q.1.map cCl),.bool q.2]) (equal_2 hc1)).symm
theorem r_clauses (T:List Sc)(hl:T.length≤1048576)(hst:∀s∈T,scOK s)(V:List Va)(hvl:V.length≤1048576)(e:Ex)(hk:KC T V e)(s:Bool):APure Tryz.prog 54 [.agg (cScene T V),.agg (cE e),.bool s] (.tuple [.sl 1 ((rnormS T V e s).1.map cCl),.bool (rnormS T V e s).2]):=by
 revert s hk
 induction e using Ex.ind
 rename_i e ih0
 intro hk s
 have hse:=kc_size hk
 have ih:∀a∈e.args,∀s,APure Tryz.prog 54 [.agg (cScene T V),.agg (cE a),.bool s] (.tuple [.sl 1 ((rnormS T V a s).1.map cCl),.bool (rnormS T V a s).2]):=fun a ha s=>ih0 a ha (kc_arg hk ha) s
 have hz:=nodes_zero hk.kok.nodes
 refine APure.body (n:=107) tok Tryz.func54 rfl rfl rfl fun H=>?_
 refine Qsr (Qp (Qbx [_,_]) ?_)
 refine Qp Qbe ?_
 refine Qp (P_assign_nil (z:=1) rfl) ?_
 refine Qp Qab ?_
 refine Qnn (AW.seq (Qsr (Qp Qf0 ?_)))
 refine Qp Qli ?_
 refine Qnn (AW.block (Qsr (Qp Qceq ?_)))
 refine Qp Qab ?_
 refine Qnn (Qif (fun hc1=>?_) fun hc1=>?_)
 ·
  refine AW.seq (Qsr (Qp Qf5 ?_))
  refine Qp Qf6 ?_
  refine Qp Qli ?_
  refine Qp Qceq ?_
  refine Qp Qmb ?_
  refine Qp (P_eql_bool tok rfl rfl rfl rfl) ?_
  refine Qnn (Qif (fun hc2=>?_) fun hc2=>?_)
  ·
   refine Qsr (Qp (OpP.weakV (P_buildSlice (es:=[[_]]) tok rfl rfl rfl rfl rfl rfl rfl rfl rfl) nilsl_sl) ?_)
   refine Qp Qas ?_
   refine Qp Qab ?_
   refine Qnn (Qrt (blkR (thenR (Qrr (.sl _ _) (.bool _) ?_))))
   first
    | exact Eq.trans rfl (congrArg (fun q:Cs=>AV.tuple [.sl 1 (q.1.map cCl),.bool q.2]) (rnorm_0t ‹(e.op == 0)=true› ‹((e.val.num == 1) == s)=true›)).symm
    | exact Eq.trans rfl (congrArg (fun q:Cs=>AV.tuple [.sl 1 (q.1.map cCl),.bool q.2]) (rnorm_0f ‹(e.op == 0)=true› ‹((e.val.num == 1) == s)=false›)).symm
    | exact Eq.trans rfl (congrArg (fun q:Cs=>AV.tuple [.sl 1 (q.1.map cCl),.bool q.2]) (rnorm_12 h00 ‹(e.op == 12)=true›)).symm
    | exact Eq.trans rfl (congrArg (fun q:Cs=>AV.tuple [.sl 1 (q.1.map cCl),.bool q.2]) (rnorm_10 hl2 ‹(e.op == 10)=true›)).symm
    | exact Eq.trans rfl (congrArg (fun q:Cs=>AV.tuple [.sl 1 (q.1.map cCl),.bool q.2]) (rnorm_11 hl2 ‹(e.op == 11)=true›)).symm
    | exact Eq.trans rfl (congrArg (fun q:Cs=>AV.tuple [.sl 1 (q.1.map cCl),.bool q.2]) (rnorm_9b hl2 ‹(e.op == 9)=true› ‹(kindR T V (arg0 e) == 1)=true›)).symm
    | exact Eq.trans rfl (congrArg (fun q:Cs=>AV.tuple [.sl 1 (q.1.map cCl),.bool q.2]) (rnorm_9i ‹(e.op == 9)=true› ‹(kindR T V (arg0 e) == 1)=false› ‹(kindR T V (arg0 e) == 0 && !s)=true›)).symm
    | exact Eq.trans rfl (congrArg (fun q:Cs=>AV.tuple [.sl 1 (q.1.map cCl),.bool q.2]) (rnorm_9o ‹(e.op == 9)=true› ‹(kindR T V (arg0 e) == 1)=false› ‹(kindR T V (arg0 e) == 0 && !s)=false›)).symm
    | exact Eq.trans rfl (congrArg (fun q:Cs=>AV.tuple [.sl 1 (q.1.map cCl),.bool q.2]) (rnorm_o ‹(e.op == 0)=false› ‹(e.op == 12)=false› ‹(e.op == 10)=false› ‹(e.op == 11)=false› ‹(e.op == 9)=false›)).symm
  ·
   refine Qst (Qsr (Qp (P_assign_nil (z:=1) rfl) ?_))
   refine Qp Qab ?_
   refine Qnn (AW.ret (blkR (thenR (Qrr (.sl _ _) (.bool _) ?_))))
   first
    | exact Eq.trans rfl (congrArg (fun q:Cs=>AV.tuple [.sl 1 (q.1.map cCl),.bool q.2]) (rnorm_0t ‹(e.op == 0)=true› ‹((e.val.num == 1) == s)=true›)).symm
    | exact Eq.trans rfl (congrArg (fun q:Cs=>AV.tuple [.sl 1 (q.1.map cCl),.bool q.2]) (rnorm_0f ‹(e.op == 0)=true› ‹((e.val.num == 1) == s)=false›)).symm
    | exact Eq.trans rfl (congrArg (fun q:Cs=>AV.tuple [.sl 1 (q.1.map cCl),.bool q.2]) (rnorm_12 h00 ‹(e.op == 12)=true›)).symm
    | exact Eq.trans rfl (congrArg (fun q:Cs=>AV.tuple [.sl 1 (q.1.map cCl),.bool q.2]) (rnorm_10 hl2 ‹(e.op == 10)=true›)).symm
    | exact Eq.trans rfl (congrArg (fun q:Cs=>AV.tuple [.sl 1 (q.1.map cCl),.bool q.2]) (rnorm_11 hl2 ‹(e.op == 11)=true›)).symm
    | exact Eq.trans rfl (congrArg (fun q:Cs=>AV.tuple [.sl 1 (q.1.map cCl),.bool q.2]) (rnorm_9b hl2 ‹(e.op == 9)=true› ‹(kindR T V (arg0 e) == 1)=true›)).symm
    | exact Eq.trans rfl (congrArg (fun q:Cs=>AV.tuple [.sl 1 (q.1.map cCl),.bool q.2]) (rnorm_9i ‹(e.op == 9)=true› ‹(kindR T V (arg0 e) == 1)=false› ‹(kindR T V (arg0 e) == 0 && !s)=true›)).symm
    | exact Eq.trans rfl (congrArg (fun q:Cs=>AV.tuple [.sl 1 (q.1.map cCl),.bool q.2]) (rnorm_9o ‹(e.op == 9)=true› ‹(kindR T V (arg0 e) == 1)=false› ‹(kindR T V (arg0 e) == 0 && !s)=false›)).symm
    | exact Eq.trans rfl (congrArg (fun q:Cs=>AV.tuple [.sl 1 (q.1.map cCl),.bool q.2]) (rnorm_o ‹(e.op == 0)=false› ‹(e.op == 12)=false› ‹(e.op == 10)=false› ‹(e.op == 11)=false› ‹(e.op == 9)=false›)).symm
 ·
  refine Qsr (Qp Qceq ?_)
  refine Qp Qab ?_
  refine Qnn (Qif (fun hc3=>?_) fun hc3=>?_)
  ·
   refine AW.seq ?_
   have h00:=len_not hz.1 (eq_of_beq ‹(e.op == 12)=true›)
   have m0:=arg0_mem h00
   refine AW.draw mixed (fun _=>True) trivial (by kernel_rfl) ?_
   refine Qn 0 rfl (Qlg [_,_]) ?_
   refine Qn 1 rfl Qf1 ?_
   refine Qn 2 rfl Qls ?_
   refine Qn 3 rfl (P_indexAddr (c:=[.int .i64 _,_,.int .i64 _,.int .i64 _,.int .i64 _,.int .i64 _,.int .i64 _,.str _]) tok rfl rfl rfl rfl rfl rfl (by decide) (arg0_at h00)) ?_
   refine Qn 4 rfl Qle ?_
   refine Qn 5 rfl Qmb ?_
   refine Qn 6 rfl Qnt ?_
   refine Qn 7 rfl (Qc rfl (ih _ m0 (!s))) ?_
   refine Qn 8 rfl Qxs ?_
   refine Qn 9 rfl Qxb ?_
   refine Qn 10 rfl Qas ?_
   refine Qn 11 rfl Qab ?_
   refine Canon.done _ _ (by kernel_rfl) ?_
   refine thenN (AW.ret (blkR (thenR (Qrr (.sl _ _) (.bool _) ?_))))
   first
    | exact Eq.trans rfl (congrArg (fun q:Cs=>AV.tuple [.sl 1 (q.1.map cCl),.bool q.2]) (rnorm_0t ‹(e.op == 0)=true› ‹((e.val.num == 1) == s)=true›)).symm
    | exact Eq.trans rfl (congrArg (fun q:Cs=>AV.tuple [.sl 1 (q.1.map cCl),.bool q.2]) (rnorm_0f ‹(e.op == 0)=true› ‹((e.val.num == 1) == s)=false›)).symm
    | exact Eq.trans rfl (congrArg (fun q:Cs=>AV.tuple [.sl 1 (q.1.map cCl),.bool q.2]) (rnorm_12 h00 ‹(e.op == 12)=true›)).symm
    | exact Eq.trans rfl (congrArg (fun q:Cs=>AV.tuple [.sl 1 (q.1.map cCl),.bool q.2]) (rnorm_10 hl2 ‹(e.op == 10)=true›)).symm
    | exact Eq.trans rfl (congrArg (fun q:Cs=>AV.tuple [.sl 1 (q.1.map cCl),.bool q.2]) (rnorm_11 hl2 ‹(e.op == 11)=true›)).symm
    | exact Eq.trans rfl (congrArg (fun q:Cs=>AV.tuple [.sl 1 (q.1.map cCl),.bool q.2]) (rnorm_9b hl2 ‹(e.op == 9)=true› ‹(kindR T V (arg0 e) == 1)=true›)).symm
    | exact Eq.trans rfl (congrArg (fun q:Cs=>AV.tuple [.sl 1 (q.1.map cCl),.bool q.2]) (rnorm_9i ‹(e.op == 9)=true› ‹(kindR T V (arg0 e) == 1)=false› ‹(kindR T V (arg0 e) == 0 && !s)=true›)).symm
    | exact Eq.trans rfl (congrArg (fun q:Cs=>AV.tuple [.sl 1 (q.1.map cCl),.bool q.2]) (rnorm_9o ‹(e.op == 9)=true› ‹(kindR T V (arg0 e) == 1)=false› ‹(kindR T V (arg0 e) == 0 && !s)=false›)).symm
    | exact Eq.trans rfl (congrArg (fun q:Cs=>AV.tuple [.sl 1 (q.1.map cCl),.bool q.2]) (rnorm_o ‹(e.op == 0)=false› ‹(e.op == 12)=false› ‹(e.op == 10)=false› ‹(e.op == 11)=false› ‹(e.op == 9)=false›)).symm
  ·
   refine Qsr (Qp Qceq ?_)
   refine Qp Qab ?_
   refine Qnn (Qif (fun hc4=>?_) fun hc4=>?_)
   ·
    refine AW.seq ?_
    have hl2:=len_two' hz.1 (by have:=eq_of_beq ‹(e.op == 10)=true›;omega)
    have h00:0 < e.args.length:=by omega
    have m0:=arg0_mem h00
    refine AW.region (Qp (Qlg [_,_]) ?_)
    refine Qp Qle ?_
    refine Qp Qmb ?_
    refine Qp Qmb ?_
    refine Qp Qmb ?_
    refine Qp (Qc rfl (r_pair T V e hk.kok hse ih hl2 s s s)) ?_
    refine Qp Qxs ?_
    refine Qp Qxb ?_
    refine Qp Qas ?_
    refine Qp Qab ?_
    refine Qnn (AW.ret (blkR (thenR (Qrr (.sl _ _) (.bool _) ?_))))
    first
     | exact Eq.trans rfl (congrArg (fun q:Cs=>AV.tuple [.sl 1 (q.1.map cCl),.bool q.2]) (rnorm_0t ‹(e.op == 0)=true› ‹((e.val.num == 1) == s)=true›)).symm
     | exact Eq.trans rfl (congrArg (fun q:Cs=>AV.tuple [.sl 1 (q.1.map cCl),.bool q.2]) (rnorm_0f ‹(e.op == 0)=true› ‹((e.val.num == 1) == s)=false›)).symm
     | exact Eq.trans rfl (congrArg (fun q:Cs=>AV.tuple [.sl 1 (q.1.map cCl),.bool q.2]) (rnorm_12 h00 ‹(e.op == 12)=true›)).symm
     | exact Eq.trans rfl (congrArg (fun q:Cs=>AV.tuple [.sl 1 (q.1.map cCl),.bool q.2]) (rnorm_10 hl2 ‹(e.op == 10)=true›)).symm
     | exact Eq.trans rfl (congrArg (fun q:Cs=>AV.tuple [.sl 1 (q.1.map cCl),.bool q.2]) (rnorm_11 hl2 ‹(e.op == 11)=true›)).symm
     | exact Eq.trans rfl (congrArg (fun q:Cs=>AV.tuple [.sl 1 (q.1.map cCl),.bool q.2]) (rnorm_9b hl2 ‹(e.op == 9)=true› ‹(kindR T V (arg0 e) == 1)=true›)).symm
     | exact Eq.trans rfl (congrArg (fun q:Cs=>AV.tuple [.sl 1 (q.1.map cCl),.bool q.2]) (rnorm_9i ‹(e.op == 9)=true› ‹(kindR T V (arg0 e) == 1)=false› ‹(kindR T V (arg0 e) == 0 && !s)=true›)).symm
     | exact Eq.trans rfl (congrArg (fun q:Cs=>AV.tuple [.sl 1 (q.1.map cCl),.bool q.2]) (rnorm_9o ‹(e.op == 9)=true› ‹(kindR T V (arg0 e) == 1)=false› ‹(kindR T V (arg0 e) == 0 && !s)=false›)).symm
     | exact Eq.trans rfl (congrArg (fun q:Cs=>AV.tuple [.sl 1 (q.1.map cCl),.bool q.2]) (rnorm_o ‹(e.op == 0)=false› ‹(e.op == 12)=false› ‹(e.op == 10)=false› ‹(e.op == 11)=false› ‹(e.op == 9)=false›)).symm
   ·
    refine Qsr (Qp Qceq ?_)
    refine Qp Qab ?_
    refine Qnn (Qif (fun hc5=>?_) fun hc5=>?_)
    ·
     refine AW.seq ?_
     have hl2:=len_two' hz.1 (by have:=eq_of_beq ‹(e.op == 11)=true›;omega)
     have h00:0 < e.args.length:=by omega
     have m0:=arg0_mem h00
     refine AW.region (Qp (Qlg [_,_]) ?_)
     refine Qp Qle ?_
     refine Qp Qmb ?_
     refine Qp Qmb ?_
     refine Qp Qmb ?_
     refine Qp Qnt ?_
     refine Qp (Qc rfl (r_pair T V e hk.kok hse ih hl2 s s (!s))) ?_
     refine Qp Qxs ?_
     refine Qp Qxb ?_
     refine Qp Qas ?_
     refine Qp Qab ?_
     refine Qnn (AW.ret (blkR (thenR (Qrr (.sl _ _) (.bool _) ?_))))
     first
      | exact Eq.trans rfl (congrArg (fun q:Cs=>AV.tuple [.sl 1 (q.1.map cCl),.bool q.2]) (rnorm_0t ‹(e.op == 0)=true› ‹((e.val.num == 1) == s)=true›)).symm
      | exact Eq.trans rfl (congrArg (fun q:Cs=>AV.tuple [.sl 1 (q.1.map cCl),.bool q.2]) (rnorm_0f ‹(e.op == 0)=true› ‹((e.val.num == 1) == s)=false›)).symm
      | exact Eq.trans rfl (congrArg (fun q:Cs=>AV.tuple [.sl 1 (q.1.map cCl),.bool q.2]) (rnorm_12 h00 ‹(e.op == 12)=true›)).symm
      | exact Eq.trans rfl (congrArg (fun q:Cs=>AV.tuple [.sl 1 (q.1.map cCl),.bool q.2]) (rnorm_10 hl2 ‹(e.op == 10)=true›)).symm
      | exact Eq.trans rfl (congrArg (fun q:Cs=>AV.tuple [.sl 1 (q.1.map cCl),.bool q.2]) (rnorm_11 hl2 ‹(e.op == 11)=true›)).symm
      | exact Eq.trans rfl (congrArg (fun q:Cs=>AV.tuple [.sl 1 (q.1.map cCl),.bool q.2]) (rnorm_9b hl2 ‹(e.op == 9)=true› ‹(kindR T V (arg0 e) == 1)=true›)).symm
      | exact Eq.trans rfl (congrArg (fun q:Cs=>AV.tuple [.sl 1 (q.1.map cCl),.bool q.2]) (rnorm_9i ‹(e.op == 9)=true› ‹(kindR T V (arg0 e) == 1)=false› ‹(kindR T V (arg0 e) == 0 && !s)=true›)).symm
      | exact Eq.trans rfl (congrArg (fun q:Cs=>AV.tuple [.sl 1 (q.1.map cCl),.bool q.2]) (rnorm_9o ‹(e.op == 9)=true› ‹(kindR T V (arg0 e) == 1)=false› ‹(kindR T V (arg0 e) == 0 && !s)=false›)).symm
      | exact Eq.trans rfl (congrArg (fun q:Cs=>AV.tuple [.sl 1 (q.1.map cCl),.bool q.2]) (rnorm_o ‹(e.op == 0)=false› ‹(e.op == 12)=false› ‹(e.op == 10)=false› ‹(e.op == 11)=false› ‹(e.op == 9)=false›)).symm
    ·
     refine Qsr (Qp Qceq ?_)
     refine Qp Qab ?_
     refine Qnn (Qif (fun hc6=>?_) fun hc6=>?_)
     ·
      refine AW.seq ?_
      have hl2:=len_two' hz.1 (by have:=eq_of_beq ‹(e.op == 9)=true›;omega)
      have h00:0 < e.args.length:=by omega
      have m0:=arg0_mem h00
      refine AW.draw mixed (fun _=>True) trivial (by kernel_rfl) ?_
      refine Qn 0 rfl (Qf [_,_]) ?_
      refine Qn 1 rfl Qls ?_
      refine Qn 2 rfl (Qf [_]) ?_
      refine Qn 3 rfl Qls ?_
      refine Qn 4 rfl Qf1 ?_
      refine Qn 5 rfl Qls ?_
      refine Qn 6 rfl (P_indexAddr (c:=[.int .i64 _,_,.int .i64 _,.int .i64 _,.int .i64 _,.int .i64 _,.int .i64 _,.str _]) tok rfl rfl rfl rfl rfl rfl (by decide) (arg0_at h00)) ?_
      refine Qn 7 rfl Qle ?_
      refine Qn 8 rfl (Qc rfl (r_kindR T hl hst V hvl _ (kc_arg hk m0))) ?_
      refine Qn 9 rfl Qai ?_
      refine Canon.done _ _ (by kernel_rfl) ?_
      refine thenN (AW.seq (Qsr (Qp Qmi ?_)))
      refine Qp Qceq ?_
      refine Qnn (Qif (fun hc7=>?_) fun hc7=>?_)
      ·
       refine Qsr (Qp (Qlg [_,_]) ?_)
       refine Qp Qle ?_
       refine Qp Qmb ?_
       refine Qp (Qc rfl (r_equal T V e hk.kok hse ih hl2 s)) ?_
       refine Qp Qxs ?_
       refine Qp Qxb ?_
       refine Qp Qas ?_
       refine Qp Qab ?_
       refine Qnn (Qrt (blkR (thenR (Qrr (.sl _ _) (.bool _) ?_))))
       first
        | exact Eq.trans rfl (congrArg (fun q:Cs=>AV.tuple [.sl 1 (q.1.map cCl),.bool q.2]) (rnorm_0t ‹(e.op == 0)=true› ‹((e.val.num == 1) == s)=true›)).symm
        | exact Eq.trans rfl (congrArg (fun q:Cs=>AV.tuple [.sl 1 (q.1.map cCl),.bool q.2]) (rnorm_0f ‹(e.op == 0)=true› ‹((e.val.num == 1) == s)=false›)).symm
        | exact Eq.trans rfl (congrArg (fun q:Cs=>AV.tuple [.sl 1 (q.1.map cCl),.bool q.2]) (rnorm_12 h00 ‹(e.op == 12)=true›)).symm
        | exact Eq.trans rfl (congrArg (fun q:Cs=>AV.tuple [.sl 1 (q.1.map cCl),.bool q.2]) (rnorm_10 hl2 ‹(e.op == 10)=true›)).symm
        | exact Eq.trans rfl (congrArg (fun q:Cs=>AV.tuple [.sl 1 (q.1.map cCl),.bool q.2]) (rnorm_11 hl2 ‹(e.op == 11)=true›)).symm
        | exact Eq.trans rfl (congrArg (fun q:Cs=>AV.tuple [.sl 1 (q.1.map cCl),.bool q.2]) (rnorm_9b hl2 ‹(e.op == 9)=true› ‹(kindR T V (arg0 e) == 1)=true›)).symm
        | exact Eq.trans rfl (congrArg (fun q:Cs=>AV.tuple [.sl 1 (q.1.map cCl),.bool q.2]) (rnorm_9i ‹(e.op == 9)=true› ‹(kindR T V (arg0 e) == 1)=false› ‹(kindR T V (arg0 e) == 0 && !s)=true›)).symm
        | exact Eq.trans rfl (congrArg (fun q:Cs=>AV.tuple [.sl 1 (q.1.map cCl),.bool q.2]) (rnorm_9o ‹(e.op == 9)=true› ‹(kindR T V (arg0 e) == 1)=false› ‹(kindR T V (arg0 e) == 0 && !s)=false›)).symm
        | exact Eq.trans rfl (congrArg (fun q:Cs=>AV.tuple [.sl 1 (q.1.map cCl),.bool q.2]) (rnorm_o ‹(e.op == 0)=false› ‹(e.op == 12)=false› ‹(e.op == 10)=false› ‹(e.op == 11)=false› ‹(e.op == 9)=false›)).symm
      ·
       refine Qst (Qsr (Qp Qmi ?_))
       refine Qp Qceq ?_
       refine Qp Qmb ?_
       refine Qg [] Qw Qmb ?_
       refine Qg [(75,_)] Qw Qnt ?_
       refine Qp Qpa ?_
       refine Qnn (Qif (fun hc8=>?_) fun hc8=>?_)
       ·
        refine AW.seq ?_
        refine AW.draw mixed (fun _=>True) trivial (by kernel_rfl) ?_
        refine Qn 0 rfl Qf1 ?_
        refine Qn 1 rfl Qls ?_
        refine Qn 2 rfl (P_indexAddr (c:=[.int .i64 _,_,.int .i64 _,.int .i64 _,.int .i64 _,.int .i64 _,.int .i64 _,.str _]) tok rfl rfl rfl rfl rfl rfl (by decide) (arg0_at h00)) ?_
        refine Qn 3 rfl Qle ?_
        refine Qn 4 rfl Qf1 ?_
        refine Qn 5 rfl Qls ?_
        refine Qn 6 rfl (P_indexAddr (c:=[.int .i64 _,_,.int .i64 _,.int .i64 _,.int .i64 _,.int .i64 _,.int .i64 _,.str _]) tok rfl rfl rfl rfl rfl rfl (by decide) (arg1_at hl2)) ?_
        refine Qn 7 rfl Qle ?_
        refine Qn 8 rfl (Qc rfl (r_two 7 _ _)) ?_
        refine Qn 9 rfl (Qbd [.int .i64 _,_,.int .i64 _,.int .i64 _,.int .i64 _,.int .i64 _,.int .i64 _,.str _,.bool _]) ?_
        refine Qn 10 rfl (P_buildSlice (es:=[[.int .i64 _,_,.int .i64 _,.int .i64 _,.int .i64 _,.int .i64 _,.int .i64 _,.str _,.bool _]]) tok rfl rfl rfl rfl rfl rfl rfl rfl rfl) ?_
        refine Qn 11 rfl Qf1 ?_
        refine Qn 12 rfl Qls ?_
        refine Qn 13 rfl (P_indexAddr (c:=[.int .i64 _,_,.int .i64 _,.int .i64 _,.int .i64 _,.int .i64 _,.int .i64 _,.str _]) tok rfl rfl rfl rfl rfl rfl (by decide) (arg1_at hl2)) ?_
        refine Qn 14 rfl Qle ?_
        refine Qn 15 rfl Qf1 ?_
        refine Qn 16 rfl Qls ?_
        refine Qn 17 rfl (P_indexAddr (c:=[.int .i64 _,_,.int .i64 _,.int .i64 _,.int .i64 _,.int .i64 _,.int .i64 _,.str _]) tok rfl rfl rfl rfl rfl rfl (by decide) (arg0_at h00)) ?_
        refine Qn 18 rfl Qle ?_
        refine Qn 19 rfl (Qc rfl (r_two 7 _ _)) ?_
        refine Qn 20 rfl (Qbd [.int .i64 _,_,.int .i64 _,.int .i64 _,.int .i64 _,.int .i64 _,.int .i64 _,.str _,.bool _]) ?_
        refine Qn 21 rfl (P_buildSlice (es:=[[.int .i64 _,_,.int .i64 _,.int .i64 _,.int .i64 _,.int .i64 _,.int .i64 _,.str _,.bool _]]) tok rfl rfl rfl rfl rfl rfl rfl rfl rfl) ?_
        refine Qn 22 rfl (P_buildSlice (es:=[[_],[_]]) tok rfl rfl rfl rfl rfl rfl rfl rfl rfl) ?_
        refine Qn 23 rfl Qas ?_
        refine Qn 24 rfl Qab ?_
        refine Canon.done _ _ (by kernel_rfl) ?_
        refine thenN (AW.ret (blkR (thenR (Qrr (.sl _ _) (.bool _) ?_))))
        first
         | exact Eq.trans rfl (congrArg (fun q:Cs=>AV.tuple [.sl 1 (q.1.map cCl),.bool q.2]) (rnorm_0t ‹(e.op == 0)=true› ‹((e.val.num == 1) == s)=true›)).symm
         | exact Eq.trans rfl (congrArg (fun q:Cs=>AV.tuple [.sl 1 (q.1.map cCl),.bool q.2]) (rnorm_0f ‹(e.op == 0)=true› ‹((e.val.num == 1) == s)=false›)).symm
         | exact Eq.trans rfl (congrArg (fun q:Cs=>AV.tuple [.sl 1 (q.1.map cCl),.bool q.2]) (rnorm_12 h00 ‹(e.op == 12)=true›)).symm
         | exact Eq.trans rfl (congrArg (fun q:Cs=>AV.tuple [.sl 1 (q.1.map cCl),.bool q.2]) (rnorm_10 hl2 ‹(e.op == 10)=true›)).symm
         | exact Eq.trans rfl (congrArg (fun q:Cs=>AV.tuple [.sl 1 (q.1.map cCl),.bool q.2]) (rnorm_11 hl2 ‹(e.op == 11)=true›)).symm
         | exact Eq.trans rfl (congrArg (fun q:Cs=>AV.tuple [.sl 1 (q.1.map cCl),.bool q.2]) (rnorm_9b hl2 ‹(e.op == 9)=true› ‹(kindR T V (arg0 e) == 1)=true›)).symm
         | exact Eq.trans rfl (congrArg (fun q:Cs=>AV.tuple [.sl 1 (q.1.map cCl),.bool q.2]) (rnorm_9i ‹(e.op == 9)=true› ‹(kindR T V (arg0 e) == 1)=false› ‹(kindR T V (arg0 e) == 0 && !s)=true›)).symm
         | exact Eq.trans rfl (congrArg (fun q:Cs=>AV.tuple [.sl 1 (q.1.map cCl),.bool q.2]) (rnorm_9o ‹(e.op == 9)=true› ‹(kindR T V (arg0 e) == 1)=false› ‹(kindR T V (arg0 e) == 0 && !s)=false›)).symm
         | exact Eq.trans rfl (congrArg (fun q:Cs=>AV.tuple [.sl 1 (q.1.map cCl),.bool q.2]) (rnorm_o ‹(e.op == 0)=false› ‹(e.op == 12)=false› ‹(e.op == 10)=false› ‹(e.op == 11)=false› ‹(e.op == 9)=false›)).symm
       ·
        refine AW.skip (blkN (thenN (Qsr (Qp Qle ?_))))
        refine Qp Qmb ?_
        refine Qp Qnt ?_
        refine Qp (Qbd [.int .i64 _,_,.int .i64 _,.int .i64 _,.int .i64 _,.int .i64 _,.int .i64 _,.str _,.bool _]) ?_
        refine Qp (P_buildSlice (es:=[[.int .i64 _,_,.int .i64 _,.int .i64 _,.int .i64 _,.int .i64 _,.int .i64 _,.str _,.bool _]]) tok rfl rfl rfl rfl rfl rfl rfl rfl rfl) ?_
        refine Qp (P_buildSlice (es:=[[_]]) tok rfl rfl rfl rfl rfl rfl rfl rfl rfl) ?_
        refine Qp Qas ?_
        refine Qp Qab ?_
        refine Qnn (AW.ret (Qrr (.sl _ _) (.bool _) ?_))
        first
         | exact Eq.trans rfl (congrArg (fun q:Cs=>AV.tuple [.sl 1 (q.1.map cCl),.bool q.2]) (rnorm_0t ‹(e.op == 0)=true› ‹((e.val.num == 1) == s)=true›)).symm
         | exact Eq.trans rfl (congrArg (fun q:Cs=>AV.tuple [.sl 1 (q.1.map cCl),.bool q.2]) (rnorm_0f ‹(e.op == 0)=true› ‹((e.val.num == 1) == s)=false›)).symm
         | exact Eq.trans rfl (congrArg (fun q:Cs=>AV.tuple [.sl 1 (q.1.map cCl),.bool q.2]) (rnorm_12 h00 ‹(e.op == 12)=true›)).symm
         | exact Eq.trans rfl (congrArg (fun q:Cs=>AV.tuple [.sl 1 (q.1.map cCl),.bool q.2]) (rnorm_10 hl2 ‹(e.op == 10)=true›)).symm
         | exact Eq.trans rfl (congrArg (fun q:Cs=>AV.tuple [.sl 1 (q.1.map cCl),.bool q.2]) (rnorm_11 hl2 ‹(e.op == 11)=true›)).symm
         | exact Eq.trans rfl (congrArg (fun q:Cs=>AV.tuple [.sl 1 (q.1.map cCl),.bool q.2]) (rnorm_9b hl2 ‹(e.op == 9)=true› ‹(kindR T V (arg0 e) == 1)=true›)).symm
         | exact Eq.trans rfl (congrArg (fun q:Cs=>AV.tuple [.sl 1 (q.1.map cCl),.bool q.2]) (rnorm_9i ‹(e.op == 9)=true› ‹(kindR T V (arg0 e) == 1)=false› ‹(kindR T V (arg0 e) == 0 && !s)=true›)).symm
         | exact Eq.trans rfl (congrArg (fun q:Cs=>AV.tuple [.sl 1 (q.1.map cCl),.bool q.2]) (rnorm_9o ‹(e.op == 9)=true› ‹(kindR T V (arg0 e) == 1)=false› ‹(kindR T V (arg0 e) == 0 && !s)=false›)).symm
         | exact Eq.trans rfl (congrArg (fun q:Cs=>AV.tuple [.sl 1 (q.1.map cCl),.bool q.2]) (rnorm_o ‹(e.op == 0)=false› ‹(e.op == 12)=false› ‹(e.op == 10)=false› ‹(e.op == 11)=false› ‹(e.op == 9)=false›)).symm
     ·
      refine AW.skip (blkN (thenN (Qsr (Qp Qle ?_))))
      refine Qp Qmb ?_
      refine Qp Qnt ?_
      refine Qp (Qbd [.int .i64 _,_,.int .i64 _,.int .i64 _,.int .i64 _,.int .i64 _,.int .i64 _,.str _,.bool _]) ?_
      refine Qp (P_buildSlice (es:=[[.int .i64 _,_,.int .i64 _,.int .i64 _,.int .i64 _,.int .i64 _,.int .i64 _,.str _,.bool _]]) tok rfl rfl rfl rfl rfl rfl rfl rfl rfl) ?_
      refine Qp (P_buildSlice (es:=[[_]]) tok rfl rfl rfl rfl rfl rfl rfl rfl rfl) ?_
      refine Qp Qas ?_
      refine Qp Qab ?_
      refine Qnn (AW.ret (Qrr (.sl _ _) (.bool _) ?_))
      first
       | exact Eq.trans rfl (congrArg (fun q:Cs=>AV.tuple [.sl 1 (q.1.map cCl),.bool q.2]) (rnorm_0t ‹(e.op == 0)=true› ‹((e.val.num == 1) == s)=true›)).symm
       | exact Eq.trans rfl (congrArg (fun q:Cs=>AV.tuple [.sl 1 (q.1.map cCl),.bool q.2]) (rnorm_0f ‹(e.op == 0)=true› ‹((e.val.num == 1) == s)=false›)).symm
       | exact Eq.trans rfl (congrArg (fun q:Cs=>AV.tuple [.sl 1 (q.1.map cCl),.bool q.2]) (rnorm_12 h00 ‹(e.op == 12)=true›)).symm
       | exact Eq.trans rfl (congrArg (fun q:Cs=>AV.tuple [.sl 1 (q.1.map cCl),.bool q.2]) (rnorm_10 hl2 ‹(e.op == 10)=true›)).symm
       | exact Eq.trans rfl (congrArg (fun q:Cs=>AV.tuple [.sl 1 (q.1.map cCl),.bool q.2]) (rnorm_11 hl2 ‹(e.op == 11)=true›)).symm
       | exact Eq.trans rfl (congrArg (fun q:Cs=>AV.tuple [.sl 1 (q.1.map cCl),.bool q.2]) (rnorm_9b hl2 ‹(e.op == 9)=true› ‹(kindR T V (arg0 e) == 1)=true›)).symm
       | exact Eq.trans rfl (congrArg (fun q:Cs=>AV.tuple [.sl 1 (q.1.map cCl),.bool q.2]) (rnorm_9i ‹(e.op == 9)=true› ‹(kindR T V (arg0 e) == 1)=false› ‹(kindR T V (arg0 e) == 0 && !s)=true›)).symm
       | exact Eq.trans rfl (congrArg (fun q:Cs=>AV.tuple [.sl 1 (q.1.map cCl),.bool q.2]) (rnorm_9o ‹(e.op == 9)=true› ‹(kindR T V (arg0 e) == 1)=false› ‹(kindR T V (arg0 e) == 0 && !s)=false›)).symm
       | exact Eq.trans rfl (congrArg (fun q:Cs=>AV.tuple [.sl 1 (q.1.map cCl),.bool q.2]) (rnorm_o ‹(e.op == 0)=false› ‹(e.op == 12)=false› ‹(e.op == 10)=false› ‹(e.op == 11)=false› ‹(e.op == 9)=false›)).symm
theorem r_Clauses (T:List Sc)(hl:T.length≤1048576)(hst:∀s∈T,scOK s)(V:List Va)(hvl:V.length≤1048576)(e:Ex)(hse:sizeN e≤1048576):APure Tryz.prog 14 [.sl 2 (T.map cSc),.sl 2 (V.map cVa),.agg (cE e)] (.tuple [.sl 1 ((ClausesS T V e).1.map cCl),.int .i64 (ClausesS T V e).2]):=by
 refine APure.body (n:=29) tok Tryz.func14 rfl rfl rfl fun H=>?_
 refine Qsr (Qp Qbe ?_)
 refine Qp (P_assign_nil (z:=1) rfl) ?_
 refine Qp Qai ?_
 refine Qnn (AW.seq (Qsr (Qp Qms ?_)))
 refine Qp Qms ?_
 refine Qp Qle ?_
 refine Qp (Qc rfl (r_Condition T hl hst V hvl e hse)) ?_
 refine Qp Qai ?_
 refine Qns (Qp Qmi ?_)
 refine Qp Qcne ?_
 refine Qnn (Qif (fun hc1=>?_) fun hc1=>?_)
 ·
  refine Qsr (Qp Qmi ?_)
  refine Qp (P_assign_nil (z:=1) rfl) ?_
  refine Qp Qai ?_
  refine Qnn (Qrt (Qrr (.sl _ _) (.int .i64 _) ?_))
  exact Eq.trans rfl (congrArg (fun q:List (List Lit)×Int=>AV.tuple [.sl 1 (q.1.map cCl),.int .i64 q.2]) (Clauses_1 hc1)).symm
 ·
  have hk:=(condE_kc hc1).1
  refine Qst (Qsr (Qp Qms ?_))
  refine Qp Qms ?_
  refine Qp (Qbd [_,_]) ?_
  refine Qp Qle ?_
  refine Qp (Qc rfl (r_clauses T hl hst V hvl e hk true)) ?_
  refine Qp Qmu ?_
  refine Qp Qxs ?_
  refine Qp Qxb ?_
  refine Qp Qas ?_
  refine Qp Qab ?_
  refine Qnn (AW.seq (Qsr (Qp Qmb ?_)))
  refine Qp Qnt ?_
  refine Qnn (Qif (fun hc2=>?_) fun hc2=>?_)
  ·
   refine Qsr (Qp (P_assign_nil (z:=1) rfl) ?_)
   refine Qp Qai ?_
   refine Qnn (Qrt (Qrr (.sl _ _) (.int .i64 _) ?_))
   exact Eq.trans rfl (congrArg (fun q:List (List Lit)×Int=>AV.tuple [.sl 1 (q.1.map cCl),.int .i64 q.2]) (rClauses_2 hc1 hc2)).symm
  ·
   refine Qst (Qsr (Qp Qms ?_))
   refine Qp Qas ?_
   refine Qp Qai ?_
   refine Qnn (AW.ret (Qrr (.sl _ _) (.int .i64 _) ?_))
   exact Eq.trans rfl (congrArg (fun q:List (List Lit)×Int=>AV.tuple [.sl 1 (q.1.map cCl),.int .i64 q.2]) (rClauses_3 hc1 hc2)).symm
theorem r_SameLiterals (a b:List Lit)(ha:a.length≤1048576)(hs:∀x∈a,sizeN x.cond≤1048576):APure Tryz.prog 55 [.sl 9 (a.map cLit),.sl 9 (b.map cLit)] (.bool (sameLits a b)):=by
 refine APure.body (n:=42) tok Tryz.func55 rfl rfl rfl fun H=>?_
 refine Qsr (Qp Qab ?_)
 refine Qnn (AW.seq (Qsr (Qp Qms ?_)))
 refine Qp (P_len_sl (n:=a.length) tok rfl rfl rfl (by simp)) ?_
 refine Qp Qms ?_
 refine Qp (P_len_sl (n:=b.length) tok rfl rfl rfl (by simp)) ?_
 refine Qp Qcne ?_
 refine Qnn (Qif (fun hc1=>?_) fun hc1=>?_)
 ·
  refine Qsr (Qp Qab ?_)
  refine Qnn (Qrt (Qr (.bool _) ?_))
  exact Eq.trans rfl (congrArg (fun q:Bool=>AV.bool q) (sameLits_len hc1)).symm
 ·
  have hln:a.length=b.length:=by have h:=eq_of_beq (by simpa [bne] using hc1:((a.length:Int) == (b.length:Int))=true);omega
  refine Qst (AW.seq (Qsr (Qp Qai ?_)))
  refine Qnn (AW.block ?_)
  refine AW.loopS (fun (k:Nat)=>(⟨[(0,.sl 9 (a.map cLit)),(1,.sl 9 (b.map cLit)),(4,.bool false),(5,.int .i64 (k:Int))],H,42⟩:St)) (fun (k:Nat)=>k≤a.length∧a.take k=b.take k) (fun (k:Nat)=>a.length - k) (0) ?_ (GS.weaken ⟨rfl,rfl,rfl,rfl,trivial⟩ (.refl _)) ?_
  · simp
  ·
   rintro k hR
   refine AW.seq (Qsr (Qp Qmi ?_))
   refine Qp Qms ?_
   refine Qp (P_len_sl (n:=a.length) tok rfl rfl rfl (by simp)) ?_
   refine Qp Qclt ?_
   refine Qnn (Qif (fun hc2=>?_) fun hc2=>?_)
   ·
    obtain ⟨x,hx⟩:=get_lt hc2
    have hlx:=get_lt' hx
    obtain ⟨y,hy⟩:∃y,b[k]? = some y:=⟨_,List.getElem?_eq_getElem (by omega)⟩
    have hly:=get_lt' hy
    refine Qst (AW.seq (AW.block (AW.seq ?_)))
    refine AW.draw mixed (fun _=>True) trivial (by kernel_rfl) ?_
    refine Qn 0 rfl Qms ?_
    refine Qn 1 rfl Qmi ?_
    refine Qn 2 rfl (P_indexAddr (c:=[.int .i64 _,_,.int .i64 _,.int .i64 _,.int .i64 _,.int .i64 _,.int .i64 _,.str _,.bool _]) tok rfl rfl rfl rfl rfl rfl (by omega) (map_at hx)) ?_
    refine Qn 3 rfl (Qf [.bool _]) ?_
    refine Qn 4 rfl Qlb ?_
    refine Qn 5 rfl Qms ?_
    refine Qn 6 rfl Qmi ?_
    refine Qn 7 rfl (P_indexAddr (c:=[.int .i64 _,_,.int .i64 _,.int .i64 _,.int .i64 _,.int .i64 _,.int .i64 _,.str _,.bool _]) tok rfl rfl rfl rfl rfl rfl (by omega) (map_at hy)) ?_
    refine Qn 8 rfl (Qf [.bool _]) ?_
    refine Qn 9 rfl Qlb ?_
    refine Qn 10 rfl (P_neq_bool tok rfl rfl rfl rfl) ?_
    refine Qn 11 rfl Qmb ?_
    refine Qo 12 rfl [] Qw Qms ?_
    refine Qo 13 rfl [] Qw Qmi ?_
    refine Canon.pure _ _ 14 _ _ rfl (by kernel_rfl) (by kernel_rfl) rfl (.opt _ (.ptr _) [(29,_),(30,_)] rfl (EntL.all ⟨Ent.self _ _,Ent.self _ _,trivial⟩) (fun hG=>P_indexAddr (c:=[.int .i64 _,_,.int .i64 _,.int .i64 _,.int .i64 _,.int .i64 _,.int .i64 _,.str _,.bool _]) tok rfl rfl rfl rfl rfl rfl (by omega) (map_at hx)) rfl) ?_
    refine Qo 15 rfl [(31,_)] Qw (Qf [.int .i64 _,_,.int .i64 _,.int .i64 _,.int .i64 _,.int .i64 _,.int .i64 _,.str _,.bool _]) ?_
    refine Qo 16 rfl [(32,_)] Qw Qle ?_
    refine Qo 17 rfl [] Qw Qms ?_
    refine Qo 18 rfl [] Qw Qmi ?_
    refine Canon.pure _ _ 19 _ _ rfl (by kernel_rfl) (by kernel_rfl) rfl (.opt _ (.ptr _) [(34,_),(35,_)] rfl (EntL.all ⟨Ent.self _ _,Ent.self _ _,trivial⟩) (fun hG=>P_indexAddr (c:=[.int .i64 _,_,.int .i64 _,.int .i64 _,.int .i64 _,.int .i64 _,.int .i64 _,.str _,.bool _]) tok rfl rfl rfl rfl rfl rfl (by omega) (map_at hy)) rfl) ?_
    refine Qo 20 rfl [(36,_)] Qw (Qf [.int .i64 _,_,.int .i64 _,.int .i64 _,.int .i64 _,.int .i64 _,.int .i64 _,.str _,.bool _]) ?_
    refine Qo 21 rfl [(37,_)] Qw Qle ?_
    refine Canon.pure _ _ 22 _ _ rfl (by kernel_rfl) (by kernel_rfl) rfl (.opt _ (.bool _) [(33,_),(38,_)] rfl (EntL.all ⟨Ent.self _ _,Ent.self _ _,trivial⟩) (fun hG=>P_callf (by kernel_rfl) rfl rfl (c20 x.cond y.cond (hs x (List.mem_of_getElem? hx)))) rfl) ?_
    refine Qo 23 rfl [(39,_)] Qw Qnt ?_
    refine Qn 24 rfl Qpo ?_
    refine Canon.done _ _ (by kernel_rfl) ?_
    refine thenN (Qif (fun hc3=>?_) fun hc3=>?_)
    ·
     refine Qsr (Qp Qab ?_)
     refine Qnn (AW.ret (blkR (thenR (thenR (blkR (thenR (Qr (.bool _) ?_)))))))
     exact Eq.trans rfl (congrArg (fun q:Bool=>AV.bool q) (sameLits_bad hx hy hc3)).symm
    ·
     refine AW.skip (blkN (thenN (AW.region (Qp Qmi ?_))))
     refine Qp Qad ?_
     refine Qp Qai ?_
     refine Qnn ?_
     refine ⟨k+1,?_,?_,GS.weaken ⟨rfl,rfl,rfl,rfl,trivial⟩ (.refl _)⟩
     · exact ⟨hlx,by rw [take_get hx,take_get hy,hR.2,lit_good hc3]⟩
     · omega
   ·
    have hte:=take_end hc2
    have hall:=hR.2
    rw [hte] at hall
    have htb:b.take k=b:=List.take_of_length_le (by have:¬k < a.length:=(by simpa using hc2);omega)
    rw [htb] at hall
    refine AW.exit ?_
    refine thenE (thenE (blkHit (thenN (Qsr (Qp Qab ?_)))))
    refine Qnn (AW.ret (Qr (.bool _) ?_))
    exact Eq.trans rfl (congrArg (fun q:Bool=>AV.bool q) ((sameLits_iff a b).2 hall)).symm
theorem r_SameClauses (a b:List (List Lit))(ha:a.length≤1048576)(hal:∀c∈a,c.length≤1048576)(hs:∀c∈a,∀x∈c,sizeN x.cond≤1048576):APure Tryz.prog 15 [.sl 1 (a.map cCl),.sl 1 (b.map cCl)] (.bool (sameCls a b)):=by
 refine APure.body (n:=27) tok Tryz.func15 rfl rfl rfl fun H=>?_
 refine Qsr (Qp Qab ?_)
 refine Qnn (AW.seq (Qsr (Qp Qms ?_)))
 refine Qp (P_len_sl (n:=a.length) tok rfl rfl rfl (by simp)) ?_
 refine Qp Qms ?_
 refine Qp (P_len_sl (n:=b.length) tok rfl rfl rfl (by simp)) ?_
 refine Qp Qcne ?_
 refine Qnn (Qif (fun hc1=>?_) fun hc1=>?_)
 ·
  refine Qsr (Qp Qab ?_)
  refine Qnn (Qrt (Qr (.bool _) ?_))
  exact Eq.trans rfl (congrArg (fun q:Bool=>AV.bool q) (sameCls_len hc1)).symm
 ·
  have hln:a.length=b.length:=by have h:=eq_of_beq (by simpa [bne] using hc1:((a.length:Int) == (b.length:Int))=true);omega
  refine Qst (AW.seq (Qsr (Qp Qai ?_)))
  refine Qnn (AW.block ?_)
  refine AW.loopS (fun (k:Nat)=>(⟨[(0,.sl 1 (a.map cCl)),(1,.sl 1 (b.map cCl)),(4,.bool false),(5,.int .i64 (k:Int))],H,27⟩:St)) (fun (k:Nat)=>k≤a.length∧a.take k=b.take k) (fun (k:Nat)=>a.length - k) (0) ?_ (GS.weaken ⟨rfl,rfl,rfl,rfl,trivial⟩ (.refl _)) ?_
  · simp
  ·
   rintro k hR
   refine AW.seq (Qsr (Qp Qmi ?_))
   refine Qp Qms ?_
   refine Qp (P_len_sl (n:=a.length) tok rfl rfl rfl (by simp)) ?_
   refine Qp Qclt ?_
   refine Qnn (Qif (fun hc2=>?_) fun hc2=>?_)
   ·
    obtain ⟨x,hx⟩:=get_lt hc2
    have hlx:=get_lt' hx
    obtain ⟨y,hy⟩:∃y,b[k]? = some y:=⟨_,List.getElem?_eq_getElem (by omega)⟩
    have hly:=get_lt' hy
    refine Qst (AW.seq (AW.block (AW.seq ?_)))
    refine AW.draw mixed (fun _=>True) trivial (by kernel_rfl) ?_
    refine Qn 0 rfl Qms ?_
    refine Qn 1 rfl Qmi ?_
    refine Qn 2 rfl (P_indexAddr (c:=[_]) tok rfl rfl rfl rfl rfl rfl (by omega) (map_at hx)) ?_
    refine Qn 3 rfl Qls ?_
    refine Qn 4 rfl Qms ?_
    refine Qn 5 rfl Qmi ?_
    refine Qn 6 rfl (P_indexAddr (c:=[_]) tok rfl rfl rfl rfl rfl rfl (by omega) (map_at hy)) ?_
    refine Qn 7 rfl Qls ?_
    refine Qn 8 rfl (Qc rfl (r_SameLiterals x y (hal x (List.mem_of_getElem? hx)) (hs x (List.mem_of_getElem? hx)))) ?_
    refine Qn 9 rfl Qnt ?_
    refine Canon.done _ _ (by kernel_rfl) ?_
    refine thenN (Qif (fun hc3=>?_) fun hc3=>?_)
    ·
     refine Qsr (Qp Qab ?_)
     refine Qnn (AW.ret (blkR (thenR (thenR (blkR (thenR (Qr (.bool _) ?_)))))))
     exact Eq.trans rfl (congrArg (fun q:Bool=>AV.bool q) (sameCls_bad hx hy hc3)).symm
    ·
     refine AW.skip (blkN (thenN (AW.region (Qp Qmi ?_))))
     refine Qp Qad ?_
     refine Qp Qai ?_
     refine Qnn ?_
     refine ⟨k+1,?_,?_,GS.weaken ⟨rfl,rfl,rfl,rfl,trivial⟩ (.refl _)⟩
     · exact ⟨hlx,by rw [take_get hx,take_get hy,hR.2,cls_good hc3]⟩
     · omega
   ·
    have hte:=take_end hc2
    have hall:=hR.2
    rw [hte] at hall
    have htb:b.take k=b:=List.take_of_length_le (by have:¬k < a.length:=(by simpa using hc2);omega)
    rw [htb] at hall
    refine AW.exit ?_
    refine thenE (thenE (blkHit (thenN (Qsr (Qp Qab ?_)))))
    refine Qnn (AW.ret (Qr (.bool _) ?_))
    exact Eq.trans rfl (congrArg (fun q:Bool=>AV.bool q) ((sameCls_iff a b).2 hall)).symm

end Go.Proofs.YtkddpedfbicbeaaGreatDoor

namespace Go.Proofs.YtkddpedfbicbeaaGreatDoor
open Go Go.Aw
set_option linter.unusedVariables false
set_option linter.unusedSimpArgs false

end Go.Proofs.YtkddpedfbicbeaaGreatDoor
