/-
  Several texts in one: Y13, Y6c, Y2, Y14. No condition.
-/
import Derived.Test.YtkddpedfbicbeaaGreatDoorK01
import Derived.Test.YtkddpedfbicbeaaGreatDoorK12
import Derived.Test.YtkddpedfbicbeaaGreatDoorK17
import Derived.Test.YtkddpedfbicbeaaGreatDoorK14
import Derived.KernelRfl
import Derived.Test.YtkddpedfbicbeaaGreatDoorK09
import Derived.Test.YtkddpedfbicbeaaGreatDoorK02
import Derived.Test.YtkddpedfbicbeaaGreatDoorK06
import Derived.Test.YtkddpedfbicbeaaGreatDoorK07
import Derived.Test.YtkddpedfbicbeaaGreatDoorK15
import Derived.Test.YtkddpedfbicbeaaGreatDoorK13
set_option linter.unusedVariables false
set_option linter.unusedSimpArgs false
namespace Go.Proofs.YtkddpedfbicbeaaGreatDoor
open Go Go.Aw
set_option maxHeartbeats 3200000
set_option maxRecDepth 20000

theorem d_verdict (T:List Sc)(hst:∀s∈T,scOK s)(V:List Va)(hty:TyOK8 T V)(hvl:V.length≤1048576)(cs:Cs)(hcs:vOK T V cs):APure Tryz.prog 64 [.agg (cScene T V),.agg (cCs cs)] (.tuple [.int .i64 (verdictS T V cs).1,.sl 5 ((verdictS T V cs).2.map cEv)]):=by
 refine APure.body (n:=44) tok Tryz.func64 rfl rfl rfl fun H=>?_
 refine Qsr (Qp (Qbx [_,_]) (Qp (Qbx [_,.bool _]) (Qp Qai ?_)))
 refine Qp (P_assign_nil (z:=5) rfl) ?_
 refine Qnn (AW.seq (Qsr (Qp (Qf [.bool _]) (Qp Qlb (Qp Qnt (Qnn (Qif (fun hc1=>?_) fun hc1=>?_)))))))
 ·
  refine Qsr (Qp Qai ?_)
  refine Qp (P_assign_nil (z:=5) rfl) ?_
  refine Qnn (Qrt ?_)
  refine Qrr (.int .i64 _) (.sl _ _) ?_
  exact Eq.trans rfl (congrArg (fun q:Int×List Ev=>AV.tuple [.int .i64 q.1,.sl 5 (q.2.map cEv)]) (verd_1 hc1)).symm
 ·
  refine Qst (Qsr (Qp Qai (Qnn (AW.seq (Qsr (Qp (Qf [_,.bool _]) (Qp Qls ?_)))))))
  refine Qp (P_len_sl (n:=cs.1.length) tok rfl rfl rfl (by simp)) ?_
  refine Qp Qmi (Qnn (AW.block ?_))
  refine AW.loopS (fun (p:Nat×Int)=>(⟨[(2,.ptr (cScene T V)),(6,.int .i64 p.2),(15,.sl 1 (cs.1.map cCl)),(16,.int .i64 cs.1.length),(17,.int .i64 (p.1:Int))],H,44⟩:St)) (fun (p:Nat×Int)=>p.1≤cs.1.length∧vGo T V 2 cs.1=vGo T V p.2 (cs.1.drop p.1)) (fun (p:Nat×Int)=>cs.1.length-p.1) ((0,2)) ?_ (GS.weaken ⟨rfl,rfl,rfl,rfl,rfl,trivial⟩ (.refl _)) ?_
  · exact ⟨Nat.zero_le _,rfl⟩
  ·
   rintro p hR
   have hcl9:=hcs.1
   refine Qsr (Qp Qclt (Qnn (AW.seq (Qif (fun hc2=>?_) fun hc2=>?_))))
   ·
    obtain ⟨c,hc⟩:=get_lt hc2
    have hlt:=get_lt' hc
    have hcv:=hcs.2 c (List.mem_of_getElem? hc)
    have hck:=hcv.1
    have hcl:=hcv.2
    have hgo:=hR.2
    rw [drop_cons hc] at hgo
    refine Qst (AW.seq (AW.block (Qsr ?_)))
    refine Qp (P_indexAddr (c:=[_]) tok rfl rfl rfl rfl rfl rfl (by omega) (map_at hc)) ?_
    refine Qp Qls (Qp Qas (Qns (Qp (Qlg [_,_]) (Qp Qms ?_))))
    refine Qe (E_callf (by kernel_rfl) rfl rfl (d_solve T V c hck hcl (solv_all T V c) _)) ?_
    rintro _ _ ⟨m,mo,hmo,rfl,rfl⟩
    refine Qp Qmu ?_
    refine Qp (P_extract (v:=.agg [_,_,_]) rfl rfl) ?_
    refine Qp Qxb ?_
    refine Qe (E_alloc (l:=[.val (.pointer none),.sl 1 [],.val (.map none)]) (by kernel_rfl)) ?_
    rintro _ _ ⟨b9,rfl,rfl⟩
    refine Qe (E_store (k:=0) (v:=.agg _) (cs':=[_,_,_]) (H2:=_::_::_) tok rfl rfl rfl rfl (rfl) rfl rfl rfl rfl) ?_
    rintro _ _ ⟨rfl,rfl⟩
    refine Qp Qab ?_
    refine AOL.ghost (GS.freeze (t:=9) 0 rfl rfl) ?_
    refine Qnn (AW.seq (Qsr (Qp Qmb (Qp Qnt (Qp Qmb (Qg [] Qw Qms ?_))))))
    refine AOL.g (y:=.int .i64 _) _ [(30,_)] rfl (EntL.all ⟨Ent.self _ _,trivial⟩) (fun hG=>P_len_sl (n:=c.length) tok rfl rfl rfl (by simp)) rfl ?_
    refine Qg [(31,_)] Qw Qclq (Qp Qpa (Qnn (Qif (fun hc3=>?_) fun hc3=>?_)))
    ·
     refine AW.exit ?_
     refine thenE (blkHit (thenN (AW.region (Qp Qad (Qp Qmi (Qnn ?_))))))
     refine ⟨(p.1+1,p.2),?_,?_,GS.weaken ⟨rfl,rfl,rfl,rfl,rfl,trivial⟩ (.cons _ (.refl _))⟩
     · exact ⟨hlt,hgo.trans (vGo_skip hc3)⟩
     · simp only;omega
    ·
     refine Qst (AW.seq (Qsr (Qp (Qlg [_,_]) (Qp Qms (Qp (Qlg [_,_,_]) ?_)))))
     refine Qp (Qc rfl (d_certain T V c hck (by omega) (solV T V c) mo)) ?_
     refine Qnn (Qif (fun hc4=>?_) fun hc4=>?_)
     ·
      have hvs:=vals_len hck hc3 hc4
      have hmoe:=hmo (cert_fits hc4).1
      subst hmoe
      refine Qsr (Qp (Qlg [_,_]) (Qp Qms (Qp (Qlg [_,_,_]) ?_)))
      refine Qe (E_callf (by kernel_rfl) rfl rfl (d_events T V hty hst hvl c hck hcl m _ (strings_ok c) (solV T V c) hvs _)) ?_
      rintro _ _ ⟨rfl,rfl⟩
      refine Qp Qai (Qp Qas (Qnn (Qrt (blkR (thenR (thenR (blkR (thenR ?_))))))))
      refine ⟨.inr rfl,[.int .i64 _,.sl _ _],.cons (.tmp _ _ rfl) <| .cons (.tmp _ _ rfl) <| .nil,.cons _ (.refl _),?_⟩
      exact Eq.trans rfl (congrArg (fun q:Int×List Ev=>AV.tuple [.int .i64 q.1,.sl 5 (q.2.map cEv)]) ((verd_2 hc1).trans (hgo.trans (vGo_yes hc3 hc4)))).symm
     ·
      refine Qst (AW.region (Qp Qai (AOL.nil (blkN (thenN (AW.region (Qp Qad (Qp Qmi (Qnn ?_)))))))))
      refine ⟨(p.1+1,0),?_,?_,GS.weaken ⟨rfl,rfl,rfl,rfl,rfl,trivial⟩ (.cons _ (.refl _))⟩
      · exact ⟨hlt,hgo.trans (vGo_on hc3 hc4)⟩
      · simp only;omega
   ·
    have hde:=get_end hc2
    have hgo:=hR.2
    rw [hde] at hgo
    refine AW.exit ?_
    refine thenE (thenE (blkHit (thenN (Qsr (Qp Qmi (Qp Qai ?_))))))
    refine Qp (P_assign_nil (z:=5) rfl) ?_
    refine Qnn (AW.ret ?_)
    refine Qrr (.int .i64 _) (.sl _ _) ?_
    exact Eq.trans rfl (congrArg (fun q:Int×List Ev=>AV.tuple [.int .i64 q.1,.sl 5 (q.2.map cEv)]) ((verd_2 hc1).trans hgo)).symm
theorem d_conditions (T:List Sc)(hl:T.length≤1048576)(hst:∀s∈T,scOK s)(V:List Va)(hvl:V.length≤1048576)(es:List Ex)(hel:es.length≤1048576)(hes:∀e∈es,sizeN e≤1048576):APure Tryz.prog 63 [.agg (cScene T V),.sl 8 (es.map encE)] (.int .i64 (condsE T V es)):=by
 refine APure.body (n:=30) tok Tryz.func63 rfl rfl rfl fun H=>?_
 refine Qsr (Qp (Qbx [_,_]) (Qp Qai (Qnn (AW.seq (Qsr (Qp (Qlg [_,_]) ?_))))))
 refine Qp (Qc rfl (d_variables T hl hst V hvl)) ?_
 refine Qp Qai (Qns (Qp Qmi (Qp Qcne (Qnn (Qif (fun hc1=>?_) fun hc1=>?_)))))
 ·
  refine Qsr (Qp Qmi (Qp Qai (Qnn (Qrt ?_))))
  refine Qr (.int .i64 _) ?_
  exact Eq.trans rfl (congrArg (fun q:Int=>AV.int .i64 q) (conds_1 hc1)).symm
 ·
  refine Qst (AW.seq (Qsr (Qp Qms ?_)))
  refine Qp (P_len_sl (n:=es.length) tok rfl rfl rfl (by simp)) ?_
  refine Qp Qcgt (Qnn (Qif (fun hc2=>?_) fun hc2=>?_))
  ·
   refine Qsr (Qp Qai (Qnn (Qrt ?_)))
   refine Qr (.int .i64 _) ?_
   exact Eq.trans rfl (congrArg (fun q:Int=>AV.int .i64 q) (conds_2 hc1 hc2)).symm
  ·
   refine Qst (AW.seq (Qsr (Qp Qms ?_)))
   refine Qp (P_len_sl (n:=es.length) tok rfl rfl rfl (by simp)) ?_
   refine Qp Qmi (Qnn (AW.block ?_))
   refine AW.loopS (fun (k:Nat)=>(⟨[(2,.ptr (cScene T V)),(17,.sl 8 (es.map encE)),(18,.int .i64 es.length),(19,.int .i64 (k:Int))],H,30⟩:St)) (fun (k:Nat)=>k≤es.length∧firstS (condE T V) (es.take k)=0) (fun (k:Nat)=>es.length-k) (0) ?_ (GS.weaken ⟨rfl,rfl,rfl,rfl,trivial⟩ (.refl _)) ?_
   · exact ⟨Nat.zero_le _,rfl⟩
   ·
    rintro k hR
    refine Qsr (Qp Qclt (Qnn (AW.seq (Qif (fun hc3=>?_) fun hc3=>?_))))
    ·
     obtain ⟨e,he⟩:=get_lt hc3
     have hlt:=get_lt' he
     have hem:=List.mem_of_getElem? he
     refine Qst (AW.seq (AW.block (Qsr ?_)))
     refine Qp (P_indexAddr (c:=[.int .i64 _,_,.int .i64 _,.int .i64 _,.int .i64 _,.int .i64 _,.int .i64 _,.str _]) tok rfl rfl rfl rfl rfl rfl (by omega) (encE_at he)) ?_
     refine Qp Qle ?_
     refine Qe (E_alloc (l:=[.int .i64 0,.sl 8 [],.int .i64 0,.int .i64 0,.int .i64 0,.int .i64 0,.int .i64 0,.str []]) (by kernel_rfl)) ?_
     rintro _ _ ⟨b7,rfl,rfl⟩
     refine Qe (E_store (k:=0) (v:=.agg _) (cs':=[.int .i64 _,_,.int .i64 _,.int .i64 _,.int .i64 _,.int .i64 _,.int .i64 _,.str _]) (H2:=_::_) tok rfl rfl rfl rfl (rfl) rfl rfl rfl rfl) ?_
     rintro _ _ ⟨rfl,rfl⟩
     refine AOL.ghost (GS.freeze (t:=7) 0 rfl rfl) ?_
     refine Qns (Qp (Qlg [_,_]) (Qp Qle ?_))
     refine Qp (Qc rfl (d_condition T hl hst V hvl e (hes e hem))) ?_
     refine Qp Qai (Qns (Qp Qmi (Qp Qcne (Qnn (Qif (fun hc4=>?_) fun hc4=>?_)))))
     ·
      refine Qsr (Qp Qmi (Qp Qai (Qnn (AW.ret (blkR (thenR (thenR (blkR (thenR ?_)))))))))
      refine Qr (.int .i64 _) ?_
      exact Eq.trans rfl (congrArg (fun q:Int=>AV.int .i64 q) ((conds_f hc1 hc2).trans (first_take hR.2 he (by simpa using hc4)))).symm
     ·
      refine AW.skip (blkN (thenN (AW.region (Qp Qad (Qp Qmi (Qnn ?_))))))
      refine ⟨k+1,?_,?_,GS.weaken ⟨rfl,rfl,rfl,rfl,trivial⟩ (.refl _)⟩
      · exact ⟨hlt,first_snoc hR.2 he (by simpa using hc4)⟩
      · omega
    ·
     have hte:=take_end hc3
     have hall:=hR.2
     rw [hte] at hall
     refine AW.exit ?_
     refine thenE (thenE (blkHit (thenN (Qsr (Qp Qai (Qnn (AW.ret ?_)))))))
     refine Qr (.int .i64 _) ?_
     exact Eq.trans rfl (congrArg (fun q:Int=>AV.int .i64 q) ((conds_f hc1 hc2).trans hall)).symm
theorem d_conditionsL (T:List Sc)(hl:T.length≤1048576)(hst:∀s∈T,scOK s)(V:List Va)(hvl:V.length≤1048576)(es:List Ex)(hel:es.length≤1048576)(hes:∀e∈es,sizeN e≤1048576):APure Tryz.prog 63 [.agg (cScene T V),.sl 8 (es.map cE)] (.int .i64 (condsE T V es)):=by
 have h:=d_conditions T hl hst V hvl es hel hes
 rw [show es.map encE=es.map cE from List.map_congr_left fun e _=>encE_eq e] at h
 exact h
theorem d_Possible (T:List Sc)(hl:T.length≤1048576)(hst:∀s∈T,scOK s)(V:List Va)(hvl:V.length≤1048576)(es:List Ex)(hel:es.length≤60)(hes:∀e∈es,sizeN e≤1048576):APure Tryz.prog 30 [.sl 2 (T.map cSc),.sl 2 (V.map cVa),.sl 8 (es.map encE)] (.tuple [.int .i64 (PossibleS T V es).1,.sl 5 ((PossibleS T V es).2.1.map cEv),.int .i64 (PossibleS T V es).2.2]):=by
 refine APure.body (n:=47) tok Tryz.func30 rfl rfl rfl fun H=>?_
 refine Qsr (Qp Qai ?_)
 refine Qp (P_assign_nil (z:=5) rfl) ?_
 refine Qp Qai (Qns (Qp Qms (Qp Qms (Qp (Qbd [_,_]) ?_))))
 refine Qe (E_alloc (l:=[.sl 2 [],.sl 2 []]) (by kernel_rfl)) ?_
 rintro _ _ ⟨b9,rfl,rfl⟩
 refine Qe (E_store (k:=0) (v:=.agg _) (cs':=[_,_]) (H2:=_::_) tok rfl rfl rfl rfl (rfl) rfl rfl rfl rfl) ?_
 rintro _ _ ⟨rfl,rfl⟩
 refine AOL.ghost (GS.freeze (t:=9) 0 rfl rfl) ?_
 refine Qnn (AW.seq (Qsr (Qp (Qlg [_,_]) (Qp Qms ?_))))
 refine Qp (Qc rfl (d_conditions T hl hst V hvl es (by omega) hes)) ?_
 refine Qp Qai (Qns (Qp Qmi (Qp Qcne (Qnn (Qif (fun hc1=>?_) fun hc1=>?_)))))
 ·
  refine Qsr (Qp Qmi (Qp Qai ?_))
  refine Qp (P_assign_nil (z:=5) rfl) ?_
  refine Qp Qai (Qnn (Qrt ?_))
  refine ⟨.inr rfl,[.int .i64 _,.sl _ _,.int .i64 _],.cons (.tmp _ _ rfl) <| .cons (.tmp _ _ rfl) <| .cons (.tmp _ _ rfl) <| .nil,.refl _,?_⟩
  exact Eq.trans rfl (congrArg (fun q:Int×List Ev×Int=>AV.tuple [.int .i64 q.1,.sl 5 (q.2.1.map cEv),.int .i64 q.2.2]) (Poss_1 hc1)).symm
 ·
  have hcz:=conds_zero hc1
  have hty:=conds_ty hc1
  refine Qst (Qsr ?_)
  refine Qp (OpP.weakV (P_buildSlice (es:=[[_]]) tok rfl rfl rfl rfl rfl rfl rfl rfl rfl) nilsl_sl) ?_
  refine Qp (Qbd [_,.bool _]) ?_
  refine Qe (E_alloc (l:=[.sl 1 [],.bool false]) (by kernel_rfl)) ?_
  rintro _ _ ⟨b11,rfl,rfl⟩
  refine Qe (E_store (k:=0) (v:=.agg _) (cs':=[_,.bool _]) (H2:=_::_) tok rfl rfl rfl rfl (rfl) rfl rfl rfl rfl) ?_
  rintro _ _ ⟨rfl,rfl⟩
  refine Qnn (AW.seq (Qsr (Qp Qms ?_)))
  refine Qp (P_len_sl (n:=es.length) tok rfl rfl rfl (by simp)) ?_
  refine Qp Qmi (Qnn (AW.block ?_))
  refine AW.loopS (fun (p:Nat×Cs)=>(⟨[(9,.ptr (cScene T V)),(11,.val (.pointer (some ⟨b11,0,none⟩))),(27,.sl 8 (es.map encE)),(28,.int .i64 es.length),(29,.int .i64 (p.1:Int))],.box b11 103 (cCs p.2)::H,47⟩:St)) (fun (p:Nat×Cs)=>p.1≤es.length∧prodL T V (es.take p.1) ([[]],true)=p.2∧csOK (64*p.1) p.2∧litOKn T V 64 p.2) (fun (p:Nat×Cs)=>es.length-p.1) ((0,([[]],true))) ?_ (GS.weaken ⟨rfl,rfl,rfl,rfl,rfl,trivial⟩ (.refl _)) ?_
  · exact ⟨Nat.zero_le _,rfl,start_cs,start_lit⟩
  ·
   rintro p hR
   refine Qsr (Qp Qclt (Qnn (AW.seq (Qif (fun hc2=>?_) fun hc2=>?_))))
   ·
    obtain ⟨e,he⟩:=get_lt hc2
    have hlt:=get_lt' he
    have hem:=List.mem_of_getElem? he
    have hke:=(hcz.2 e hem).1
    have hkz:=kc_size hke
    refine Qst (AW.seq (AW.block (Qsr ?_)))
    refine Qp (P_indexAddr (c:=[.int .i64 _,_,.int .i64 _,.int .i64 _,.int .i64 _,.int .i64 _,.int .i64 _,.str _]) tok rfl rfl rfl rfl rfl rfl (by omega) (encE_at he)) ?_
    refine Qp Qle ?_
    refine Qe (E_alloc (l:=[.int .i64 0,.sl 8 [],.int .i64 0,.int .i64 0,.int .i64 0,.int .i64 0,.int .i64 0,.str []]) (by kernel_rfl)) ?_
    rintro _ _ ⟨b13,rfl,rfl⟩
    refine Qe (E_store (k:=0) (v:=.agg _) (cs':=[.int .i64 _,_,.int .i64 _,.int .i64 _,.int .i64 _,.int .i64 _,.int .i64 _,.str _]) (H2:=_::_::_) tok rfl rfl rfl rfl (rfl) rfl rfl rfl rfl) ?_
    rintro _ _ ⟨rfl,rfl⟩
    refine AOL.ghost (GS.freeze (t:=13) 0 rfl rfl) ?_
    refine Qnn ?_
    refine AW.draw mixed (fun H'=>_∈H') (List.mem_of_getElem? (i:=0) rfl) (by kernel_rfl) ?_
    refine Qn 0 rfl (OpP.mem (fun k=>P_load_box_agg (k:=k) (l:=[_,.bool _]) tok rfl rfl rfl rfl rfl) (fun _ h=>h)) ?_
    refine Qn 1 rfl (Qlg [_,_]) (Qn 2 rfl Qle ?_)
    refine Qn 3 rfl (Qc rfl (d_normal T V e hke.kok (kc_size hke) true)) ?_
    refine Qn 4 rfl (Qc rfl (d_times _ _ _ _ hR.2.2.1 (norm_ok e hke.kok true) (by omega) (by have:=kc_size hke;omega))) ?_
    refine Canon.last _ _ 5 _ _ rfl (by kernel_rfl) rfl rfl (E_store (k:=0) (v:=.agg _) (cs':=[_,.bool _]) (H2:=_::_) tok rfl rfl rfl rfl (rfl) rfl rfl rfl rfl) (by kernel_rfl) ?_
    rintro _ _ ⟨rfl,rfl⟩
    refine blkN (thenN (AW.region (Qp Qad (Qp Qmi (Qnn ?_)))))
    refine ⟨(p.1+1,timesS p.2 (normS T V e true)),?_,?_,GS.weaken ⟨rfl,rfl,rfl,rfl,rfl,trivial⟩ (.refl _)⟩
    · exact ⟨hlt,by unfold prodL;rw [take_get he,List.foldl_append];exact congrArg (fun z=>timesS z (normS T V e true)) hR.2.1,(times_ok hR.2.2.1 (norm_ok e hke.kok true)).mono (by simp only;omega),lit_times hR.2.2.2 (lit_mono (norm_lits e hke.kok true) hkz)⟩
    · simp only;omega
   ·
    have hte:=take_end hc2
    have hpr:=hR.2.1
    rw [hte] at hpr
    have hvo:vOK T V p.2:=vOK_of hR.2.2.1 hR.2.2.2 (by have:=hR.1;omega)
    refine AW.exit ?_
    refine thenE (thenE (blkHit (thenN (Qsr (Qp (Qlg [_,_]) ?_)))))
    refine AOL.pk (P_load_box_agg (k:=0) (l:=[_,.bool _]) tok rfl rfl rfl rfl rfl) rfl rfl ?_
    refine Qp (Qc rfl (d_verdict T hst V hty hvl _ hvo)) ?_
    refine Qp Qmu (Qp Qxi (Qp Qxs (Qp Qai (Qp Qas (Qns (Qp Qmi (Qp Qms (Qp Qai (Qp Qas ?_)))))))))
    refine Qp Qai (Qnn (AW.ret ?_))
    refine ⟨.inr rfl,[.int .i64 _,.sl _ _,.int .i64 _],.cons (.tmp _ _ rfl) <| .cons (.tmp _ _ rfl) <| .cons (.tmp _ _ rfl) <| .nil,.cons _ (.refl _),?_⟩
    exact Eq.trans rfl (congrArg (fun q:Int×List Ev×Int=>AV.tuple [.int .i64 q.1,.sl 5 (q.2.1.map cEv),.int .i64 q.2.2]) (Poss_2 hc1 hpr)).symm
theorem d_Implies (T:List Sc)(hl:T.length≤1048576)(hst:∀s∈T,scOK s)(V:List Va)(hvl:V.length≤1048576)(a b:Ex)(ha:sizeN a≤1048576)(hb:sizeN b≤1048576):APure Tryz.prog 24 [.sl 2 (T.map cSc),.sl 2 (V.map cVa),.agg (cE a),.agg (cE b)] (.tuple [.int .i64 (ImpliesS T V a b).1,.int .i64 (ImpliesS T V a b).2]):=by
 refine APure.body (n:=43) tok Tryz.func24 rfl rfl rfl fun H=>?_
 refine Qsr (Qp Qbe (Qp Qbe (Qp Qai (Qp Qai (Qns (Qp Qms (Qp Qms (Qp (Qbd [_,_]) ?_))))))))
 refine Qe (E_alloc (l:=[.sl 2 [],.sl 2 []]) (by kernel_rfl)) ?_
 rintro _ _ ⟨b10,rfl,rfl⟩
 refine Qe (E_store (k:=0) (v:=.agg _) (cs':=[_,_]) (H2:=_::_) tok rfl rfl rfl rfl (rfl) rfl rfl rfl rfl) ?_
 rintro _ _ ⟨rfl,rfl⟩
 refine AOL.ghost (GS.freeze (t:=10) 0 rfl rfl) ?_
 refine Qnn (AW.seq (Qsr (Qp (Qlg [_,_]) (Qp Qle (Qp Qle ?_)))))
 refine Qp (P_buildSlice (es:=[[.int .i64 _,_,.int .i64 _,.int .i64 _,.int .i64 _,.int .i64 _,.int .i64 _,.str _],[.int .i64 _,_,.int .i64 _,.int .i64 _,.int .i64 _,.int .i64 _,.int .i64 _,.str _]]) tok rfl rfl rfl rfl rfl rfl rfl rfl rfl) ?_
 refine Qp (Qc rfl (d_conditionsL T hl hst V hvl [a,b] (by show (2:Nat)≤_;decide) (two_sizes ha hb))) ?_
 refine Qp Qai (Qns (Qp Qmi (Qp Qcne (Qnn (Qif (fun hc1=>?_) fun hc1=>?_)))))
 ·
  refine Qsr (Qp Qmi (Qp Qai (Qp Qai (Qnn (Qrt ?_)))))
  refine Qrr (.int .i64 _) (.int .i64 _) ?_
  exact Eq.trans rfl (congrArg (fun q:Int×Int=>AV.tuple [.int .i64 q.1,.int .i64 q.2]) (Imp_1 hc1)).symm
 ·
  have hcz:=conds_zero hc1
  have hty:=conds_ty hc1
  have hka:=(hcz.2 a (List.mem_cons_self ..)).1
  have hkb:=(hcz.2 b (List.mem_cons_of_mem _ (List.mem_cons_self ..))).1
  have hza:=kc_size hka
  have hzb:=kc_size hkb
  have hvo:vOK T V (impC T V a b):=vOK_of (times_ok (norm_ok a hka.kok true) (norm_ok b hkb.kok false)) (lit_times (lit_mono (norm_lits a hka.kok true) hza) (lit_mono (norm_lits b hkb.kok false) hzb)) (by omega)
  refine Qst (AW.seq ?_)
  refine AW.draw mixed (fun _=>True) trivial (by kernel_rfl) ?_
  refine Qn 0 rfl (Qlg [_,_]) (Qn 1 rfl (Qlg [_,_]) (Qn 2 rfl Qle ?_))
  refine Qn 3 rfl (Qc rfl (d_normal T V a hka.kok (kc_size hka) true)) ?_
  refine Qn 4 rfl (Qlg [_,_]) (Qn 5 rfl Qle ?_)
  refine Qn 6 rfl (Qc rfl (d_normal T V b hkb.kok (kc_size hkb) false)) ?_
  refine Qn 7 rfl (Qc rfl (d_times _ _ _ _ (norm_ok a hka.kok true) (norm_ok b hkb.kok false) (by have:=kc_size hka;omega) (by have:=kc_size hkb;omega))) ?_
  refine Qn 8 rfl (Qc rfl (d_verdict T hst V hty hvl _ hvo)) ?_
  refine Qn 9 rfl Qmu (Qn 10 rfl Qxi (Qn 11 rfl Qxs (Qn 12 rfl Qai (Qn 13 rfl Qas ?_))))
  refine Canon.done _ _ (by kernel_rfl) ?_
  refine thenN (AW.seq (Qsr (Qp Qmi (Qnn (AW.block (Qsr (Qp Qceq (Qp Qab (Qnn (Qif (fun hc2=>?_) fun hc2=>?_))))))))))
  ·
   refine Qsr (Qp Qai (Qp Qai (Qnn (AW.ret (blkR (thenR ?_))))))
   refine Qrr (.int .i64 _) (.int .i64 _) ?_
   exact Eq.trans rfl (congrArg (fun q:Int×Int=>AV.tuple [.int .i64 q.1,.int .i64 q.2]) (Imp_2 hc1 hc2)).symm
  ·
   refine Qsr (Qp Qceq (Qp Qab (Qnn (Qif (fun hc3=>?_) fun hc3=>?_))))
   ·
    refine Qsr (Qp Qai (Qp Qai (Qnn (AW.ret (blkR (thenR ?_))))))
    refine Qrr (.int .i64 _) (.int .i64 _) ?_
    exact Eq.trans rfl (congrArg (fun q:Int×Int=>AV.tuple [.int .i64 q.1,.int .i64 q.2]) (Imp_3 hc1 hc2 hc3)).symm
   ·
    refine AW.skip (blkN (thenN (Qsr (Qp Qmi (Qp Qai (Qp Qai (Qnn (AW.ret ?_))))))))
    refine Qrr (.int .i64 _) (.int .i64 _) ?_
    exact Eq.trans rfl (congrArg (fun q:Int×Int=>AV.tuple [.int .i64 q.1,.int .i64 q.2]) (Imp_4 hc1 hc2 hc3)).symm

set_option maxHeartbeats 1600000
set_option maxRecDepth 20000

theorem r_SameLiterals (a b:List Lit)(ha:a.length≤1048576)(hs:∀x∈a,sizeN x.cond≤1048576):APure Tryz.prog 55 [.sl 9 (a.map cLit),.sl 9 (b.map cLit)] (.bool (sameLits a b)):=by
 refine APure.body (n:=42) tok Tryz.func55 rfl rfl rfl fun H=>?_
 refine Qsr (Qp Qab (Qnn (AW.seq (Qsr (Qp Qms ?_)))))
 refine Qp (P_len_sl (n:=a.length) tok rfl rfl rfl (by simp)) ?_
 refine Qp Qms ?_
 refine Qp (P_len_sl (n:=b.length) tok rfl rfl rfl (by simp)) ?_
 refine Qp Qcne (Qnn (Qif (fun hc1=>?_) fun hc1=>?_))
 ·
  refine Qsr (Qp Qab (Qnn (Qrt ?_)))
  refine Qr (.bool _) ?_
  exact Eq.trans rfl (congrArg (fun q:Bool=>AV.bool q) (sameLits_len hc1)).symm
 ·
  have hln:a.length=b.length:=by have h:=eq_of_beq (by simpa [bne] using hc1:((a.length:Int)==(b.length:Int))=true);omega
  refine Qst (AW.seq (Qsr (Qp Qai (Qnn (AW.block ?_)))))
  refine AW.loopS (fun (k:Nat)=>(⟨[(0,.sl 9 (a.map cLit)),(1,.sl 9 (b.map cLit)),(4,.bool false),(5,.int .i64 (k:Int))],H,42⟩:St)) (fun (k:Nat)=>k≤a.length∧a.take k=b.take k) (fun (k:Nat)=>a.length-k) (0) ?_ (GS.weaken ⟨rfl,rfl,rfl,rfl,trivial⟩ (.refl _)) ?_
  · simp
  ·
   rintro k hR
   refine AW.seq (Qsr (Qp Qmi (Qp Qms ?_)))
   refine Qp (P_len_sl (n:=a.length) tok rfl rfl rfl (by simp)) ?_
   refine Qp Qclt (Qnn (Qif (fun hc2=>?_) fun hc2=>?_))
   ·
    obtain ⟨x,hx⟩:=get_lt hc2
    have hlx:=get_lt' hx
    obtain ⟨y,hy⟩:∃y,b[k]? = some y:=⟨_,List.getElem?_eq_getElem (by omega)⟩
    have hly:=get_lt' hy
    refine Qst (AW.seq (AW.block (AW.seq ?_)))
    refine AW.draw mixed (fun _=>True) trivial (by kernel_rfl) ?_
    refine Qn 0 rfl Qms (Qn 1 rfl Qmi ?_)
    refine Qn 2 rfl (P_indexAddr (c:=[.int .i64 _,_,.int .i64 _,.int .i64 _,.int .i64 _,.int .i64 _,.int .i64 _,.str _,.bool _]) tok rfl rfl rfl rfl rfl rfl (by omega) (map_at hx)) ?_
    refine Qn 3 rfl (Qf [.bool _]) (Qn 4 rfl Qlb (Qn 5 rfl Qms (Qn 6 rfl Qmi ?_)))
    refine Qn 7 rfl (P_indexAddr (c:=[.int .i64 _,_,.int .i64 _,.int .i64 _,.int .i64 _,.int .i64 _,.int .i64 _,.str _,.bool _]) tok rfl rfl rfl rfl rfl rfl (by omega) (map_at hy)) ?_
    refine Qn 8 rfl (Qf [.bool _]) (Qn 9 rfl Qlb ?_)
    refine Qn 10 rfl (P_neq_bool tok rfl rfl rfl rfl) ?_
    refine Qn 11 rfl Qmb (Qo 12 rfl [] Qw Qms (Qo 13 rfl [] Qw Qmi ?_))
    refine Canon.pure _ _ 14 _ _ rfl (by kernel_rfl) (by kernel_rfl) rfl (.opt _ (.ptr _) [(29,_),(30,_)] rfl (EntL.all ⟨Ent.self _ _,Ent.self _ _,trivial⟩) (fun hG=>P_indexAddr (c:=[.int .i64 _,_,.int .i64 _,.int .i64 _,.int .i64 _,.int .i64 _,.int .i64 _,.str _,.bool _]) tok rfl rfl rfl rfl rfl rfl (by omega) (map_at hx)) rfl) ?_
    refine Qo 15 rfl [(31,_)] Qw (Qf [.int .i64 _,_,.int .i64 _,.int .i64 _,.int .i64 _,.int .i64 _,.int .i64 _,.str _,.bool _]) (Qo 16 rfl [(32,_)] Qw Qle (Qo 17 rfl [] Qw Qms (Qo 18 rfl [] Qw Qmi ?_)))
    refine Canon.pure _ _ 19 _ _ rfl (by kernel_rfl) (by kernel_rfl) rfl (.opt _ (.ptr _) [(34,_),(35,_)] rfl (EntL.all ⟨Ent.self _ _,Ent.self _ _,trivial⟩) (fun hG=>P_indexAddr (c:=[.int .i64 _,_,.int .i64 _,.int .i64 _,.int .i64 _,.int .i64 _,.int .i64 _,.str _,.bool _]) tok rfl rfl rfl rfl rfl rfl (by omega) (map_at hy)) rfl) ?_
    refine Qo 20 rfl [(36,_)] Qw (Qf [.int .i64 _,_,.int .i64 _,.int .i64 _,.int .i64 _,.int .i64 _,.int .i64 _,.str _,.bool _]) (Qo 21 rfl [(37,_)] Qw Qle ?_)
    refine Canon.pure _ _ 22 _ _ rfl (by kernel_rfl) (by kernel_rfl) rfl (.opt _ (.bool _) [(33,_),(38,_)] rfl (EntL.all ⟨Ent.self _ _,Ent.self _ _,trivial⟩) (fun hG=>P_callf (by kernel_rfl) rfl rfl (c20 x.cond y.cond (hs x (List.mem_of_getElem? hx)))) rfl) ?_
    refine Qo 23 rfl [(39,_)] Qw Qnt (Qn 24 rfl Qpo ?_)
    refine Canon.done _ _ (by kernel_rfl) ?_
    refine thenN (Qif (fun hc3=>?_) fun hc3=>?_)
    ·
     refine Qsr (Qp Qab (Qnn (AW.ret (blkR (thenR (thenR (blkR (thenR ?_))))))))
     refine Qr (.bool _) ?_
     exact Eq.trans rfl (congrArg (fun q:Bool=>AV.bool q) (sameLits_bad hx hy hc3)).symm
    ·
     refine AW.skip (blkN (thenN (AW.region (Qp Qmi (Qp Qad (Qp Qai (Qnn ?_)))))))
     refine ⟨k+1,?_,?_,GS.weaken ⟨rfl,rfl,rfl,rfl,trivial⟩ (.refl _)⟩
     · exact ⟨hlx,by rw [take_get hx,take_get hy,hR.2,lit_good hc3]⟩
     · omega
   ·
    have hte:=take_end hc2
    have hall:=hR.2
    rw [hte] at hall
    have htb:b.take k=b:=List.take_of_length_le (by have:¬k<a.length:=(by simpa using hc2);omega)
    rw [htb] at hall
    refine AW.exit ?_
    refine thenE (thenE (blkHit (thenN (Qsr (Qp Qab (Qnn (AW.ret ?_)))))))
    refine Qr (.bool _) ?_
    exact Eq.trans rfl (congrArg (fun q:Bool=>AV.bool q) ((sameLits_iff a b).2 hall)).symm
theorem r_SameClauses (a b:List (List Lit))(ha:a.length≤1048576)(hal:∀c∈a,c.length≤1048576)(hs:∀c∈a,∀x∈c,sizeN x.cond≤1048576):APure Tryz.prog 15 [.sl 1 (a.map cCl),.sl 1 (b.map cCl)] (.bool (sameCls a b)):=by
 refine APure.body (n:=27) tok Tryz.func15 rfl rfl rfl fun H=>?_
 refine Qsr (Qp Qab (Qnn (AW.seq (Qsr (Qp Qms ?_)))))
 refine Qp (P_len_sl (n:=a.length) tok rfl rfl rfl (by simp)) ?_
 refine Qp Qms ?_
 refine Qp (P_len_sl (n:=b.length) tok rfl rfl rfl (by simp)) ?_
 refine Qp Qcne (Qnn (Qif (fun hc1=>?_) fun hc1=>?_))
 ·
  refine Qsr (Qp Qab (Qnn (Qrt ?_)))
  refine Qr (.bool _) ?_
  exact Eq.trans rfl (congrArg (fun q:Bool=>AV.bool q) (sameCls_len hc1)).symm
 ·
  have hln:a.length=b.length:=by have h:=eq_of_beq (by simpa [bne] using hc1:((a.length:Int)==(b.length:Int))=true);omega
  refine Qst (AW.seq (Qsr (Qp Qai (Qnn (AW.block ?_)))))
  refine AW.loopS (fun (k:Nat)=>(⟨[(0,.sl 1 (a.map cCl)),(1,.sl 1 (b.map cCl)),(4,.bool false),(5,.int .i64 (k:Int))],H,27⟩:St)) (fun (k:Nat)=>k≤a.length∧a.take k=b.take k) (fun (k:Nat)=>a.length-k) (0) ?_ (GS.weaken ⟨rfl,rfl,rfl,rfl,trivial⟩ (.refl _)) ?_
  · simp
  ·
   rintro k hR
   refine AW.seq (Qsr (Qp Qmi (Qp Qms ?_)))
   refine Qp (P_len_sl (n:=a.length) tok rfl rfl rfl (by simp)) ?_
   refine Qp Qclt (Qnn (Qif (fun hc2=>?_) fun hc2=>?_))
   ·
    obtain ⟨x,hx⟩:=get_lt hc2
    have hlx:=get_lt' hx
    obtain ⟨y,hy⟩:∃y,b[k]? = some y:=⟨_,List.getElem?_eq_getElem (by omega)⟩
    have hly:=get_lt' hy
    refine Qst (AW.seq (AW.block (AW.seq ?_)))
    refine AW.draw mixed (fun _=>True) trivial (by kernel_rfl) ?_
    refine Qn 0 rfl Qms (Qn 1 rfl Qmi ?_)
    refine Qn 2 rfl (P_indexAddr (c:=[_]) tok rfl rfl rfl rfl rfl rfl (by omega) (map_at hx)) ?_
    refine Qn 3 rfl Qls (Qn 4 rfl Qms (Qn 5 rfl Qmi ?_))
    refine Qn 6 rfl (P_indexAddr (c:=[_]) tok rfl rfl rfl rfl rfl rfl (by omega) (map_at hy)) ?_
    refine Qn 7 rfl Qls ?_
    refine Qn 8 rfl (Qc rfl (r_SameLiterals x y (hal x (List.mem_of_getElem? hx)) (hs x (List.mem_of_getElem? hx)))) ?_
    refine Qn 9 rfl Qnt ?_
    refine Canon.done _ _ (by kernel_rfl) ?_
    refine thenN (Qif (fun hc3=>?_) fun hc3=>?_)
    ·
     refine Qsr (Qp Qab (Qnn (AW.ret (blkR (thenR (thenR (blkR (thenR ?_))))))))
     refine Qr (.bool _) ?_
     exact Eq.trans rfl (congrArg (fun q:Bool=>AV.bool q) (sameCls_bad hx hy hc3)).symm
    ·
     refine AW.skip (blkN (thenN (AW.region (Qp Qmi (Qp Qad (Qp Qai (Qnn ?_)))))))
     refine ⟨k+1,?_,?_,GS.weaken ⟨rfl,rfl,rfl,rfl,trivial⟩ (.refl _)⟩
     · exact ⟨hlx,by rw [take_get hx,take_get hy,hR.2,cls_good hc3]⟩
     · omega
   ·
    have hte:=take_end hc2
    have hall:=hR.2
    rw [hte] at hall
    have htb:b.take k=b:=List.take_of_length_le (by have:¬k<a.length:=(by simpa using hc2);omega)
    rw [htb] at hall
    refine AW.exit ?_
    refine thenE (thenE (blkHit (thenN (Qsr (Qp Qab (Qnn (AW.ret ?_)))))))
    refine Qr (.bool _) ?_
    exact Eq.trans rfl (congrArg (fun q:Bool=>AV.bool q) ((sameCls_iff a b).2 hall)).symm

set_option maxHeartbeats 3200000
set_option maxRecDepth 20000

theorem d_vcheck (k n:Int)(t:List UInt8):APure Tryz.prog 143 [.agg [.int .i64 k,.int .i64 n,.str t]] (.int .i64 (vcheckS ⟨k,n,t⟩)):=c94 ⟨k,n,t⟩
theorem d_read (e:Ex)(ev:Ev)(hf:(e.op==1)=true→0≤e.field)(hl:ev.values.length≤1048576):APure Tryz.prog 99 [.agg (cE e),.agg (cEv ev)] (.tuple [.agg (cV (readE e ev).1),.int .i64 (readE e ev).2]):=by
 refine APure.body (n:=29) tok Tryz.func99 rfl rfl rfl fun H=>?_
 refine Qsr (Qp Qbe (Qp (Qbx [.int .i64 _,.int .i64 _,.int .i64 _,.int .i64 _,_]) ?_))
 refine Qe (E_alloc (l:=[.int .i64 0,.int .i64 0,.str []]) (by kernel_rfl)) ?_
 rintro _ _ ⟨b4,rfl,rfl⟩
 refine Qp Qai (Qns (Qp (Qf [.int .i64 _,_]) (Qp Qli (Qp (Qbd [.int .i64 _,.int .i64 _,.str _]) ?_))))
 refine Qe (E_alloc (l:=[.int .i64 0,.int .i64 0,.str []]) (by kernel_rfl)) ?_
 rintro _ _ ⟨b6,rfl,rfl⟩
 refine Qe (E_store (k:=0) (v:=.agg _) (cs':=[.int .i64 _,.int .i64 _,.str _]) (H2:=_::_::_) tok rfl rfl rfl rfl (rfl) rfl rfl rfl rfl) ?_
 rintro _ _ ⟨rfl,rfl⟩
 refine Qnn (AW.seq (Qsr (Qp Qf0 (Qp Qli (Qp Qceq (Qnn (Qif (fun hc1=>?_) fun hc1=>?_)))))))
 ·
  have hf0:=hf hc1
  refine AW.seq (Qsr (Qp Qf3 (Qp Qli (Qp (Qf [_]) (Qp Qls ?_)))))
  refine Qp (P_len_sl (n:=ev.values.length) tok rfl rfl rfl (by simp)) ?_
  refine Qp Qcgq (Qnn (Qif (fun hc2=>?_) fun hc2=>?_))
  ·
   refine Qsr ?_
   refine AOL.pk (P_load_box_agg (k:=0) (l:=[.int .i64 _,.int .i64 _,.str _]) tok rfl rfl rfl rfl rfl) rfl rfl ?_
   refine Qe (E_store (k:=1) (v:=.agg _) (cs':=[.int .i64 _,.int .i64 _,.str _]) (H2:=_::_::_) tok rfl rfl rfl rfl (rfl) rfl rfl rfl rfl) ?_
   rintro _ _ ⟨rfl,rfl⟩
   refine Qp Qai (Qnn (Qrt (thenR ?_)))
   refine ⟨.inr rfl,[.agg [.int .i64 _,.int .i64 _,.str _],.int .i64 _],.cons (.box _ _ _ 1 _ _ _ _ rfl rfl rfl rfl rfl rfl) <| .cons (.tmp _ _ rfl) <| .nil,.cons _ (.cons _ (.refl _)),?_⟩
   exact Eq.trans rfl (congrArg (fun q:Vl×Int=>AV.tuple [.agg (cV q.1),.int .i64 q.2]) (readE_off hc1 hc2)).symm
  ·
   refine (some_off hf0 hc2).elim fun v hvv=>?_
   refine Qst (AW.region (Qp (Qf [_]) (Qp Qls (Qp Qf3 (Qp Qli ?_)))))
   refine Qp (P_indexAddr (c:=[.int .i64 _,.int .i64 _,.str _]) tok rfl rfl rfl rfl rfl rfl (by omega) (map_at hvv)) ?_
   refine Qp (Qlg [.int .i64 _,.int .i64 _,.str _]) ?_
   refine Qe (E_store (k:=0) (v:=.agg _) (cs':=[.int .i64 _,.int .i64 _,.str _]) (H2:=_::_::_) tok rfl rfl rfl rfl (rfl) rfl rfl rfl rfl) ?_
   rintro _ _ ⟨rfl,rfl⟩
   refine Qnn (AW.seq ?_)
   refine AW.draw mixed (fun H'=>_∈H') (List.mem_of_getElem? (i:=0) rfl) (by kernel_rfl) ?_
   refine Qn 0 rfl (OpP.mem (fun k=>P_load_box_agg (k:=k) (l:=[.int .i64 _,.int .i64 _,.str _]) tok rfl rfl rfl rfl rfl) (fun _ h=>h)) ?_
   refine Qn 1 rfl (OpP.mem (fun k=>P_load_box_agg (k:=k) (l:=[.int .i64 _,.int .i64 _,.str _]) tok rfl rfl rfl rfl rfl) (fun _ h=>h)) ?_
   refine Qn 2 rfl (Qc rfl (d_vcheck _ _ _)) ?_
   refine Canon.eff _ _ 3 _ _ rfl (by kernel_rfl) rfl rfl (E_store (k:=1) (v:=.agg _) (cs':=[.int .i64 _,.int .i64 _,.str _]) (H2:=_::_::_) tok rfl rfl rfl rfl (rfl) rfl rfl rfl rfl) (by rintro _ _ ⟨rfl,rfl⟩;simp) ?_
   rintro _ _ ⟨rfl,rfl⟩
   refine Qn 4 rfl Qai ?_
   refine Canon.done _ _ (by kernel_rfl) ?_
   refine thenN (AW.ret ?_)
   refine ⟨.inr rfl,[.agg [.int .i64 _,.int .i64 _,.str _],.int .i64 _],.cons (.box _ _ _ 1 _ _ _ _ rfl rfl rfl rfl rfl rfl) <| .cons (.tmp _ _ rfl) <| .nil,.cons _ (.cons _ (.refl _)),?_⟩
   exact Eq.trans rfl (congrArg (fun q:Vl×Int=>AV.tuple [.agg (cV q.1),.int .i64 q.2]) (readE_at hc1 hc2 hvv)).symm
 ·
  refine Qst (AW.seq ?_)
  refine AW.draw mixed (fun H'=>_∈H') (List.mem_of_getElem? (i:=0) rfl) (by kernel_rfl) ?_
  refine Qn 0 rfl (OpP.mem (fun k=>P_load_box_agg (k:=k) (l:=[.int .i64 _,.int .i64 _,.str _]) tok rfl rfl rfl rfl rfl) (fun _ h=>h)) ?_
  refine Qn 1 rfl (OpP.mem (fun k=>P_load_box_agg (k:=k) (l:=[.int .i64 _,.int .i64 _,.str _]) tok rfl rfl rfl rfl rfl) (fun _ h=>h)) ?_
  refine Qn 2 rfl (Qc rfl (d_vcheck _ _ _)) ?_
  refine Canon.eff _ _ 3 _ _ rfl (by kernel_rfl) rfl rfl (E_store (k:=1) (v:=.agg _) (cs':=[.int .i64 _,.int .i64 _,.str _]) (H2:=_::_::_) tok rfl rfl rfl rfl (rfl) rfl rfl rfl rfl) (by rintro _ _ ⟨rfl,rfl⟩;simp) ?_
  rintro _ _ ⟨rfl,rfl⟩
  refine Qn 4 rfl Qai ?_
  refine Canon.done _ _ (by kernel_rfl) ?_
  refine thenN (AW.ret ?_)
  refine ⟨.inr rfl,[.agg [.int .i64 _,.int .i64 _,.str _],.int .i64 _],.cons (.box _ _ _ 1 _ _ _ _ rfl rfl rfl rfl rfl rfl) <| .cons (.tmp _ _ rfl) <| .nil,.cons _ (.cons _ (.refl _)),?_⟩
  exact Eq.trans rfl (congrArg (fun q:Vl×Int=>AV.tuple [.agg (cV q.1),.int .i64 q.2]) (readE_time hc1)).symm
theorem d_known (vars:List (List Ev))(hv:vars.length≤1048576)(hx:∀l∈vars,l.length≤1048576)(hy:∀l∈vars,∀v∈l,v.values.length≤1048576)(e:Ex)(hn:nodesS e=0)(hs:sizeN e≤1048576):APure Tryz.prog 61 [.agg (cE e),.agg (cEnv vars)] (.tuple [.agg (cE (knownE vars e).1),.int .i64 (knownE vars e).2]):=by
 revert hn hs
 induction e using Ex.ind
 rename_i e ih
 intro hn hs
 have hz:=nodes_zero hn
 have hal:=args_le e hs
 refine APure.body (n:=86) tok Tryz.func61 rfl rfl rfl fun H=>?_
 refine Qsr ?_
 refine Qe (E_box (v:=.agg _) (cs:=[.int .i64 _,_,.int .i64 _,.int .i64 _,.int .i64 _,.int .i64 _,.int .i64 _,.str _]) rfl rfl (rfl)) ?_
 rintro _ _ ⟨b2,rfl,rfl⟩
 refine Qp (Qbx [_]) ?_
 refine Qe (E_alloc (l:=[.int .i64 0,.sl 8 [],.int .i64 0,.int .i64 0,.int .i64 0,.int .i64 0,.int .i64 0,.str []]) (by kernel_rfl)) ?_
 rintro _ _ ⟨b4,rfl,rfl⟩
 refine Qp Qai (Qnn (AW.seq (Qsr (Qp Qfv ?_))))
 refine AOL.pk (P_load_box (k:=1) (c:=.int .i64 _) tok rfl rfl rfl rfl) rfl rfl ?_
 refine Qp Qceq (Qp Qmb (Qg [] Qw Qfv ?_))
 refine AOL.gk (y:=.int .i64 _) _ [(18,_)] rfl (EntL.all ⟨Ent.self _ _,trivial⟩) (fun hG=>P_load_box (k:=1) (c:=.int .i64 _) tok rfl rfl rfl rfl) rfl rfl ?_
 refine Qg [(19,_)] Qw Qceq (Qp Qpo (Qnn (Qif (fun hc1=>?_) fun hc1=>?_)))
 ·
  have hv0:=var_nonneg hz.1 hc1
  have hf:(e.op==1)=true→0≤e.field:=fun h=>field_nonneg hz.1 (eq_of_beq h)
  refine AW.seq (Qsr (Qp Qfv ?_))
  refine AOL.pk (P_load_box (k:=1) (c:=.int .i64 _) tok rfl rfl rfl rfl) rfl rfl ?_
  refine Qp (Qf [_]) (Qp Qls ?_)
  refine Qp (P_len_sl (n:=vars.length) tok rfl rfl rfl (by simp)) ?_
  refine Qp Qcgq (Qp Qmb (Qg [] Qw (Qf [_]) (Qg [(29,_)] Qw Qls (Qg [] Qw Qfv ?_))))
  refine AOL.gk (y:=.int .i64 _) _ [(31,_)] rfl (EntL.all ⟨Ent.self _ _,trivial⟩) (fun hG=>P_load_box (k:=1) (c:=.int .i64 _) tok rfl rfl rfl rfl) rfl rfl ?_
  refine AOL.g (y:=.ptr _) _ [(30,_),(32,_)] rfl (EntL.all ⟨Ent.self _ _,Ent.self _ _,trivial⟩) (fun hG=>P_indexAddr (c:=[_]) tok rfl rfl rfl rfl rfl rfl (hv0) (map_at (get_off hv0 hG))) rfl ?_
  refine Qg [(33,_)] Qw Qls ?_
  refine AOL.g (y:=.int .i64 _) _ [(34,_)] rfl (EntL.all ⟨Ent.self _ _,trivial⟩) (fun hG=>P_len_sl (n:=((vars[e.var.toNat]?).getD []).length) tok rfl rfl rfl (by simp)) rfl ?_
  refine Qg [(35,_)] Qw Qceq (Qp Qpo (Qnn (Qif (fun hc2=>?_) fun hc2=>?_)))
  ·
   have h0:=known_none hv0 hc2
   refine Qsr ?_
   refine AOL.pk (P_load_box_agg (k:=1) (l:=[.int .i64 _,_,.int .i64 _,.int .i64 _,.int .i64 _,.int .i64 _,.int .i64 _,.str _]) tok rfl rfl rfl rfl rfl) rfl rfl ?_
   refine Qe (E_store (k:=0) (v:=.agg _) (cs':=[.int .i64 _,_,.int .i64 _,.int .i64 _,.int .i64 _,.int .i64 _,.int .i64 _,.str _]) (H2:=_::_::_) tok rfl rfl rfl rfl (rfl) rfl rfl rfl rfl) ?_
   rintro _ _ ⟨rfl,rfl⟩
   refine Qp Qai (Qnn (Qrt (thenR ?_)))
   refine ⟨.inr rfl,[.agg [.int .i64 _,_,.int .i64 _,.int .i64 _,.int .i64 _,.int .i64 _,.int .i64 _,.str _],.int .i64 _],.cons (.box _ _ _ 0 _ _ _ _ rfl rfl rfl rfl rfl rfl) <| .cons (.tmp _ _ rfl) <| .nil,.cons _ (.cons _ (.refl _)),?_⟩
   exact Eq.trans rfl (congrArg (fun q:Ex×Int=>AV.tuple [.agg (cE q.1),.int .i64 q.2]) (knownE_none hc1 h0)).symm
  ·
   refine (known_some hv0 hc2).elim fun l hl0=>?_
   have hl:=hl0.1
   have hlp:=hl0.2
   have hml:=List.mem_of_getElem? hl
   have hll:=hx l hml
   refine (some_last hlp).elim fun v hmv=>?_
   have hev:=events_at hv0 hl
   refine Qst (Qsr (Qp (Qf [_]) (Qp Qls (Qp Qfv ?_))))
   refine AOL.pk (P_load_box (k:=1) (c:=.int .i64 _) tok rfl rfl rfl rfl) rfl rfl ?_
   refine Qp (P_indexAddr (c:=[_]) tok rfl rfl rfl rfl rfl rfl (hv0) (map_at hl)) ?_
   refine Qp Qls (Qp Qas (Qnn (AW.seq ?_)))
   refine AW.draw mixed (fun H'=>_∈H') (List.mem_of_getElem? (i:=1) rfl) (by kernel_rfl) ?_
   refine Qn 0 rfl (OpP.mem (fun k=>P_load_box_agg (k:=k) (l:=[.int .i64 _,_,.int .i64 _,.int .i64 _,.int .i64 _,.int .i64 _,.int .i64 _,.str _]) tok rfl rfl rfl rfl rfl) (fun _ h=>h)) ?_
   refine Qn 1 rfl Qms (Qn 2 rfl Qms ?_)
   refine Qn 3 rfl (P_len_sl (n:=l.length) tok rfl rfl rfl (by simp)) ?_
   refine Qn 4 rfl (P_sub rfl rfl rfl (by constructor <;> omega)) ?_
   refine Qn 5 rfl (P_indexAddr (c:=[.int .i64 _,.int .i64 _,.int .i64 _,.int .i64 _,_]) tok rfl rfl rfl rfl rfl rfl (by omega) (last_at hlp hmv)) ?_
   refine Qn 6 rfl (Qlg [.int .i64 _,.int .i64 _,.int .i64 _,.int .i64 _,_]) ?_
   refine Qn 7 rfl (Qc rfl (d_read e v hf (hy l hml v (List.mem_of_getElem? hmv)))) ?_
   refine Qn 8 rfl Qmu ?_
   refine Qn 9 rfl (P_extract (v:=.agg [.int .i64 _,.int .i64 _,.str _]) rfl rfl) ?_
   refine Qn 10 rfl Qxi ?_
   refine Canon.eff _ _ 11 _ _ rfl (by kernel_rfl) rfl rfl (E_alloc (l:=[.int .i64 0,.int .i64 0,.str []]) (by kernel_rfl)) (by rintro _ _ ⟨b7,rfl,rfl⟩;simp) ?_
   rintro _ _ ⟨b7,rfl,rfl⟩
   refine Canon.eff _ _ 12 _ _ rfl (by kernel_rfl) rfl rfl (E_store (k:=0) (v:=.agg _) (cs':=[.int .i64 _,.int .i64 _,.str _]) (H2:=_::_::_::_) tok rfl rfl rfl rfl (rfl) rfl rfl rfl rfl) (by rintro _ _ ⟨rfl,rfl⟩;simp) ?_
   rintro _ _ ⟨rfl,rfl⟩
   refine Qn 13 rfl Qai ?_
   refine Canon.done _ _ (by kernel_rfl) ?_
   refine thenN ?_
   refine AW.ghost (GS.freeze (t:=7) 0 rfl rfl) ?_
   refine Qsr (Qp (Qlg [.int .i64 _,.int .i64 _,.str _]) (Qp (Qbd [.int .i64 _,_,.int .i64 _,.int .i64 _,.int .i64 _,.int .i64 _,.int .i64 _,.str _]) (Qp Qmi ?_)))
   refine Qe (E_store (k:=0) (v:=.agg _) (cs':=[.int .i64 _,_,.int .i64 _,.int .i64 _,.int .i64 _,.int .i64 _,.int .i64 _,.str _]) (H2:=_::_::_) tok rfl rfl rfl rfl (rfl) rfl rfl rfl rfl) ?_
   rintro _ _ ⟨rfl,rfl⟩
   refine Qp Qai (Qnn (Qrt ?_))
   refine ⟨.inr rfl,[.agg [.int .i64 _,_,.int .i64 _,.int .i64 _,.int .i64 _,.int .i64 _,.int .i64 _,.str _],.int .i64 _],.cons (.box _ _ _ 0 _ _ _ _ rfl rfl rfl rfl rfl rfl) <| .cons (.tmp _ _ rfl) <| .nil,.cons _ (.cons _ (.refl _)),?_⟩
   exact Eq.trans rfl (congrArg (fun q:Ex×Int=>AV.tuple [.agg (cE q.1),.int .i64 q.2]) (knownE_last hc1 hev hmv)).symm
 ·
  refine Qst (Qsr (Qp Qfv ?_))
  refine AOL.pk (P_load_box (k:=1) (c:=.sl _ _) tok rfl rfl rfl rfl) rfl rfl ?_
  refine Qp Qas (Qns (Qp Qfv ?_))
  refine Qe (E_store (k:=1) (v:=.val _) (cs':=[.int .i64 _,_,.int .i64 _,.int .i64 _,.int .i64 _,.int .i64 _,.int .i64 _,.str _]) (H2:=_::_::_) tok rfl rfl rfl rfl (rfl) rfl rfl rfl rfl) ?_
  rintro _ _ ⟨rfl,rfl⟩
  refine AOL.ghost (GS.cellRow 1 1 30 8 rfl rfl rfl rfl) ?_
  refine Qnn (AW.seq (Qsr (Qp Qms ?_)))
  refine Qp (P_len_sl (n:=e.args.length) tok rfl rfl rfl (by simp)) ?_
  refine Qp Qmi (Qnn (AW.block ?_))
  refine AW.loopS (fun (p:Nat×List (List AV)×Value)=>(⟨[(2,.val (.pointer (some ⟨b2,0,none⟩))),(3,.ptr (cEnv vars)),(4,.val (.pointer (some ⟨b4,0,none⟩))),(62,.sl 8 (e.args.map encE)),(63,.int .i64 e.args.length),(64,.int .i64 (p.1:Int))],.row p.2.2 p.2.1.length 30 8 :: .box b4 30 [.int .i64 0,.sl 8 [],.int .i64 0,.int .i64 0,.int .i64 0,.int .i64 0,.int .i64 0,.str []] :: .box b2 30 [.int .i64 e.op,.row p.2.2 8 p.2.1,.int .i64 e.var,.int .i64 e.field,.int .i64 e.kind,.int .i64 e.val.kind,.int .i64 e.val.num,.str e.val.text]::H,86⟩:St)) (fun (p:Nat×List (List AV)×Value)=>p.1≤e.args.length∧(∀x∈e.args.take p.1,(knownE vars x).2=0)∧p.2.1=((e.args.take p.1).map (fun x=>(knownE vars x).1)).map encE) (fun (p:Nat×List (List AV)×Value)=>e.args.length-p.1) ((0,[],.slice none 0 0)) ?_ (GS.weaken ⟨rfl,rfl,rfl,rfl,rfl,rfl,trivial⟩ (.refl _)) ?_
  · exact ⟨Nat.zero_le _,by simp,by simp⟩
  ·
   rintro p hR
   refine Qsr (Qp Qclt (Qnn (AW.seq (Qif (fun hc3=>?_) fun hc3=>?_))))
   ·
    obtain ⟨a,ha⟩:=get_lt hc3
    have hlt:=get_lt' ha
    have hm:=List.mem_of_getElem? ha
    have hsc:∀c∈p.2.1,scalars c=true:=by rw [hR.2.2];exact sc_map fun a=>by rw [encE_eq];rfl
    refine Qst (AW.seq (AW.block (Qsr ?_)))
    refine Qp (P_indexAddr (c:=[.int .i64 _,_,.int .i64 _,.int .i64 _,.int .i64 _,.int .i64 _,.int .i64 _,.str _]) tok rfl rfl rfl rfl rfl rfl (by omega) (encE_at ha)) ?_
    refine Qp Qle ?_
    refine Qe (E_alloc (l:=[.int .i64 0,.sl 8 [],.int .i64 0,.int .i64 0,.int .i64 0,.int .i64 0,.int .i64 0,.str []]) (by kernel_rfl)) ?_
    rintro _ _ ⟨b11,rfl,rfl⟩
    refine Qe (E_store (k:=0) (v:=.agg _) (cs':=[.int .i64 _,_,.int .i64 _,.int .i64 _,.int .i64 _,.int .i64 _,.int .i64 _,.str _]) (H2:=_::_::_::_::_) tok rfl rfl rfl rfl (rfl) rfl rfl rfl rfl) ?_
    rintro _ _ ⟨rfl,rfl⟩
    refine AOL.ghost (GS.freeze (t:=11) 0 rfl rfl) ?_
    refine Qns (Qp Qle (Qp (Qlg [_]) ?_))
    refine Qp (Qc rfl (ih a hm (hz.2 a hm) (by have:=size_arg hm;omega))) ?_
    refine Qp Qmu ?_
    refine Qp (P_extract (v:=.agg [.int .i64 _,_,.int .i64 _,.int .i64 _,.int .i64 _,.int .i64 _,.int .i64 _,.str _]) rfl rfl) ?_
    refine Qp Qxi ?_
    refine Qe (E_alloc (l:=[.int .i64 0,.sl 8 [],.int .i64 0,.int .i64 0,.int .i64 0,.int .i64 0,.int .i64 0,.str []]) (by kernel_rfl)) ?_
    rintro _ _ ⟨b12,rfl,rfl⟩
    refine Qe (E_store (k:=0) (v:=.agg _) (cs':=[.int .i64 _,_,.int .i64 _,.int .i64 _,.int .i64 _,.int .i64 _,.int .i64 _,.str _]) (H2:=_::_::_::_::_) tok rfl rfl rfl rfl (rfl) rfl rfl rfl rfl) ?_
    rintro _ _ ⟨rfl,rfl⟩
    refine Qp Qai ?_
    refine AOL.ghost (GS.freeze (t:=12) 0 rfl rfl) ?_
    refine Qnn (AW.seq (Qsr (Qp Qmi (Qp Qcne (Qnn (Qif (fun hc4=>?_) fun hc4=>?_))))))
    ·
     refine Qsr (Qp Qle (Qp Qmi ?_))
     refine Qe (E_store (k:=1) (v:=.agg _) (cs':=[.int .i64 _,_,.int .i64 _,.int .i64 _,.int .i64 _,.int .i64 _,.int .i64 _,.str _]) (H2:=_::_::_::_) tok rfl rfl rfl rfl (rfl) rfl rfl rfl rfl) ?_
     rintro _ _ ⟨rfl,rfl⟩
     refine Qp Qai (Qnn (Qrt (blkR (thenR (thenR (blkR (thenR ?_)))))))
     refine ⟨.inr rfl,[.agg [.int .i64 _,_,.int .i64 _,.int .i64 _,.int .i64 _,.int .i64 _,.int .i64 _,.str _],.int .i64 _],.cons (.box _ _ _ 1 _ _ _ _ rfl rfl rfl rfl rfl rfl) <| .cons (.tmp _ _ rfl) <| .nil,.cons _ (.cons _ (.cons _ (.refl _))),?_⟩
     exact Eq.trans rfl (congrArg (fun q:Ex×Int=>AV.tuple [.agg (cE q.1),.int .i64 q.2]) (knownE_bad hc1 hR.2.1 ha hc4)).symm
    ·
     refine Qst (AW.region (Qp Qfv ?_))
     refine AOL.pk (P_load_box (k:=2) (c:=.row _ _ _) tok rfl rfl rfl rfl) rfl rfl ?_
     refine Qp Qle ?_
     refine Qp (P_buildSlice (es:=[[.int .i64 _,_,.int .i64 _,.int .i64 _,.int .i64 _,.int .i64 _,.int .i64 _,.str _]]) tok rfl rfl rfl rfl rfl rfl rfl rfl rfl) ?_
     refine Qe (E_append (k:=0) tok rfl rfl rfl rfl rfl rfl rfl rfl (sc_one rfl) (hsc) (by simp [hR.2.2];omega) (by simp [hR.2.2,maxLen];omega)) ?_
     rintro _ _ ⟨v82,rfl,rfl⟩
     refine Qp Qfv ?_
     refine Qe (E_store (k:=2) (v:=.row _ _ _) (cs':=[.int .i64 _,_,.int .i64 _,.int .i64 _,.int .i64 _,.int .i64 _,.int .i64 _,.str _]) (H2:=_::_::_::_) tok rfl rfl rfl rfl (rfl) rfl rfl rfl rfl) ?_
     rintro _ _ ⟨rfl,rfl⟩
     refine AOL.nil (blkN (thenN (AW.region (Qp Qad (Qp Qmi (Qnn ?_))))))
     refine ⟨(p.1+1,p.2.1 ++ [cE (knownE vars a).1],v82),?_,?_,GS.weaken ⟨rfl,rfl,rfl,rfl,rfl,rfl,trivial⟩ (.refl _)⟩
     · simp only;exact ⟨hlt,by rw [take_get ha];intro x hx;rcases List.mem_append.1 hx with h | h;exact hR.2.1 x h;rw [List.mem_singleton.1 h];simpa using hc4,by rw [take_get ha,hR.2.2];simp [encE_eq]⟩
     · first | omega | (simp only;omega)
   ·
    have hte:=take_end hc3
    obtain ⟨k,es,rv⟩:=p
    simp only at hR hte
    have hR2:∀x∈e.args,(knownE vars x).2=0:=by rw [←hte];exact hR.2.1
    obtain rfl:es=(e.args.map (fun x=>(knownE vars x).1)).map encE:=by rw [hR.2.2,hte]
    refine AW.exit ?_
    refine thenE (thenE (blkHit (thenN (Qsr ?_))))
    refine AOL.ghost (GS.cell 2 1 rfl rfl rfl rfl unrow_cell) ?_
    refine AOL.pk (P_load_box_agg (k:=2) (l:=[.int .i64 _,_,.int .i64 _,.int .i64 _,.int .i64 _,.int .i64 _,.int .i64 _,.str _]) tok rfl rfl rfl rfl rfl) rfl rfl ?_
    refine Qe (E_store (k:=1) (v:=.agg _) (cs':=[.int .i64 _,_,.int .i64 _,.int .i64 _,.int .i64 _,.int .i64 _,.int .i64 _,.str _]) (H2:=_::_::_::_) tok rfl rfl rfl rfl (rfl) rfl rfl rfl rfl) ?_
    rintro _ _ ⟨rfl,rfl⟩
    refine Qp Qai (Qnn (AW.ret ?_))
    refine ⟨.inr rfl,[.agg [.int .i64 _,_,.int .i64 _,.int .i64 _,.int .i64 _,.int .i64 _,.int .i64 _,.str _],.int .i64 _],.cons (.box _ _ _ 1 _ _ _ _ rfl rfl rfl rfl rfl rfl) <| .cons (.tmp _ _ rfl) <| .nil,.cons _ (.cons _ (.cons _ (.refl _))),?_⟩
    exact Eq.trans rfl (congrArg (fun q:Ex×Int=>AV.tuple [.agg (cE q.1),.int .i64 q.2]) (knownE_ok hc1 hR2)).symm
theorem d_Known (vars:List (List Ev))(hv:vars.length≤1048576)(hx:∀l∈vars,l.length≤1048576)(hy:∀l∈vars,∀v∈l,v.values.length≤1048576)(e:Ex)(hs:sizeN e≤1048576):APure Tryz.prog 20 [.agg (cE e),.agg (cEnv vars)] (.tuple [.agg (cE (KnownS vars e).1),.int .i64 (KnownS vars e).2]):=by
 refine APure.body (n:=26) tok Tryz.func20 rfl rfl rfl fun H=>?_
 refine Qsr (Qp Qbe (Qp (Qbx [_]) ?_))
 refine Qe (E_alloc (l:=[.int .i64 0,.sl 8 [],.int .i64 0,.int .i64 0,.int .i64 0,.int .i64 0,.int .i64 0,.str []]) (by kernel_rfl)) ?_
 rintro _ _ ⟨b4,rfl,rfl⟩
 refine Qp Qai (Qnn (AW.seq (Qsr (Qp Qle ?_))))
 refine Qp (Qc rfl (c21 e hs)) ?_
 refine Qp Qai (Qns (Qp Qmi (Qp Qcne (Qnn (Qif (fun hc1=>?_) fun hc1=>?_)))))
 ·
  refine Qsr (Qp (Qbd [.int .i64 _,_,.int .i64 _,.int .i64 _,.int .i64 _,.int .i64 _,.int .i64 _,.str _]) (Qp Qmi ?_))
  refine Qe (E_store (k:=0) (v:=.agg _) (cs':=[.int .i64 _,_,.int .i64 _,.int .i64 _,.int .i64 _,.int .i64 _,.int .i64 _,.str _]) (H2:=_::_) tok rfl rfl rfl rfl (rfl) rfl rfl rfl rfl) ?_
  rintro _ _ ⟨rfl,rfl⟩
  refine Qp Qai (Qnn (Qrt ?_))
  refine ⟨.inr rfl,[.agg [.int .i64 _,_,.int .i64 _,.int .i64 _,.int .i64 _,.int .i64 _,.int .i64 _,.str _],.int .i64 _],.cons (.box _ _ _ 0 _ _ _ _ rfl rfl rfl rfl rfl rfl) <| .cons (.tmp _ _ rfl) <| .nil,.cons _ (.refl _),?_⟩
  exact Eq.trans rfl (congrArg (fun q:Ex×Int=>AV.tuple [.agg (cE q.1),.int .i64 q.2]) (KnownS_1 hc1)).symm
 ·
  have hn:=check_nodes' hc1
  refine Qst (Qsr (Qp Qle (Qp (Qlg [_]) ?_)))
  refine Qp (Qc rfl (d_known vars hv hx hy e hn hs)) ?_
  refine Qp Qmu ?_
  refine Qp (P_extract (v:=.agg [.int .i64 _,_,.int .i64 _,.int .i64 _,.int .i64 _,.int .i64 _,.int .i64 _,.str _]) rfl rfl) ?_
  refine Qp Qxi ?_
  refine Qe (E_alloc (l:=[.int .i64 0,.sl 8 [],.int .i64 0,.int .i64 0,.int .i64 0,.int .i64 0,.int .i64 0,.str []]) (by kernel_rfl)) ?_
  rintro _ _ ⟨b7,rfl,rfl⟩
  refine Qe (E_store (k:=0) (v:=.agg _) (cs':=[.int .i64 _,_,.int .i64 _,.int .i64 _,.int .i64 _,.int .i64 _,.int .i64 _,.str _]) (H2:=_::_::_) tok rfl rfl rfl rfl (rfl) rfl rfl rfl rfl) ?_
  rintro _ _ ⟨rfl,rfl⟩
  refine Qp Qai ?_
  refine AOL.ghost (GS.freeze (t:=7) 0 rfl rfl) ?_
  refine Qnn (AW.seq (Qsr (Qp Qmi (Qp Qcne (Qnn (Qif (fun hc2=>?_) fun hc2=>?_))))))
  ·
   refine Qsr (Qp (Qbd [.int .i64 _,_,.int .i64 _,.int .i64 _,.int .i64 _,.int .i64 _,.int .i64 _,.str _]) (Qp Qmi ?_))
   refine Qe (E_store (k:=0) (v:=.agg _) (cs':=[.int .i64 _,_,.int .i64 _,.int .i64 _,.int .i64 _,.int .i64 _,.int .i64 _,.str _]) (H2:=_::_) tok rfl rfl rfl rfl (rfl) rfl rfl rfl rfl) ?_
   rintro _ _ ⟨rfl,rfl⟩
   refine Qp Qai (Qnn (Qrt ?_))
   refine ⟨.inr rfl,[.agg [.int .i64 _,_,.int .i64 _,.int .i64 _,.int .i64 _,.int .i64 _,.int .i64 _,.str _],.int .i64 _],.cons (.box _ _ _ 0 _ _ _ _ rfl rfl rfl rfl rfl rfl) <| .cons (.tmp _ _ rfl) <| .nil,.cons _ (.refl _),?_⟩
   exact Eq.trans rfl (congrArg (fun q:Ex×Int=>AV.tuple [.agg (cE q.1),.int .i64 q.2]) (KnownS_2 hc1 hc2)).symm
  ·
   refine Qst (Qsr (Qp Qle ?_))
   refine Qe (E_store (k:=0) (v:=.agg _) (cs':=[.int .i64 _,_,.int .i64 _,.int .i64 _,.int .i64 _,.int .i64 _,.int .i64 _,.str _]) (H2:=_::_) tok rfl rfl rfl rfl (rfl) rfl rfl rfl rfl) ?_
   rintro _ _ ⟨rfl,rfl⟩
   refine Qp Qai (Qnn (AW.ret ?_))
   refine ⟨.inr rfl,[.agg [.int .i64 _,_,.int .i64 _,.int .i64 _,.int .i64 _,.int .i64 _,.int .i64 _,.str _],.int .i64 _],.cons (.box _ _ _ 0 _ _ _ _ rfl rfl rfl rfl rfl rfl) <| .cons (.tmp _ _ rfl) <| .nil,.cons _ (.refl _),?_⟩
   exact Eq.trans rfl (congrArg (fun q:Ex×Int=>AV.tuple [.agg (cE q.1),.int .i64 q.2]) (KnownS_3 hc1 hc2)).symm
set_option maxHeartbeats 1600000
set_option maxRecDepth 20000

set_option maxRecDepth 100000
theorem l_example  : APure Tryz.prog 39 [] (.agg (cScene exT exV)):=by
 refine APure.body (n:=12) tok Tryz.func39 rfl rfl rfl fun H=>?_
 refine Qsr ?_
 refine Qe (E_alloc (l:=[.sl 2 [],.sl 2 []]) (by kernel_rfl)) ?_
 rintro _ _ ⟨b0,rfl,rfl⟩
 refine Qns (Qp (Qbd [.str _,.int .i64 _]) (Qp (Qbd [.str _,.int .i64 _]) ?_))
 refine Qp (P_buildSlice (es:=[[.str _,.int .i64 _],[.str _,.int .i64 _]]) tok rfl rfl rfl rfl rfl rfl rfl rfl rfl) ?_
 refine Qp (Qbd [.str _,_]) ?_
 refine Qe (E_alloc (l:=[.str [],.sl 2 []]) (by kernel_rfl)) ?_
 rintro _ _ ⟨b1,rfl,rfl⟩
 refine Qe (E_store (k:=0) (v:=.agg _) (cs':=[.str _,_]) (H2:=_::_::_) tok rfl rfl rfl rfl (rfl) rfl rfl rfl rfl) ?_
 rintro _ _ ⟨rfl,rfl⟩
 refine AOL.ghost (GS.freeze (t:=1) 0 rfl rfl) ?_
 refine Qns (Qp (Qlg [.str _,_]) ?_)
 refine Qp (P_buildSlice (es:=[[.str _,_]]) tok rfl rfl rfl rfl rfl rfl rfl rfl rfl) ?_
 refine Qp (Qbd [.str _,.int .i64 _]) (Qp (Qbd [.str _,.int .i64 _]) ?_)
 refine Qp (P_buildSlice (es:=[[.str _,.int .i64 _],[.str _,.int .i64 _]]) tok rfl rfl rfl rfl rfl rfl rfl rfl rfl) ?_
 refine Qp (Qbd [_,_]) ?_
 refine Qe (E_store (k:=0) (v:=.agg _) (cs':=[_,_]) (H2:=_::_) tok rfl rfl rfl rfl (rfl) rfl rfl rfl rfl) ?_
 rintro _ _ ⟨rfl,rfl⟩
 refine Qnn (AW.ret ?_)
 refine ⟨.inr rfl,[.agg [_,_]],.cons (.box _ _ _ 0 _ _ _ _ rfl rfl rfl rfl rfl rfl) <| .nil,.cons _ (.refl _),?_⟩
 rfl
theorem r_FewT (T:List Sc)(hl:T.length≤1048576)(hst:∀s∈T,scOK s):APure Tryz.prog 38 [.sl 2 (T.map cSc)] (.bool (fewT T)):=by
 refine APure.body (n:=29) tok Tryz.func38 rfl rfl rfl fun H=>?_
 refine Qsr (Qp Qab (Qnn (AW.seq (Qsr (Qp Qai (Qnn (AW.block ?_)))))))
 refine AW.loopS (fun (k:Nat)=>(⟨[(0,.sl 2 (T.map cSc)),(3,.int .i64 (k:Int))],H,29⟩:St)) (fun (k:Nat)=>k≤T.length∧(T.take k).any bigSc=false) (fun (k:Nat)=>T.length-k) (0) ?_ (GS.weaken ⟨rfl,rfl,trivial⟩ (.refl _)) ?_
 · exact ⟨Nat.zero_le _,by simp⟩
 ·
  rintro k hR
  refine AW.seq (Qsr (Qp Qmi (Qp Qms ?_)))
  refine Qp (P_len_sl (n:=T.length) tok rfl rfl rfl (by simp)) ?_
  refine Qp Qclt (Qnn (Qif (fun hc1=>?_) fun hc1=>?_))
  ·
   obtain ⟨a,ha⟩:=get_lt hc1
   have hlt:=get_lt' ha
   have hm:=List.mem_of_getElem? ha
   refine Qst (AW.seq (AW.block (Qsr (Qp Qms (Qp Qmi ?_)))))
   refine Qp (P_indexAddr (c:=[.str _,_]) tok rfl rfl rfl rfl rfl rfl (by omega) (map_at ha)) ?_
   refine Qp (Qf [_]) (Qp Qls ?_)
   refine Qp (P_len_sl (n:=a.fields.length) tok rfl rfl rfl (by simp)) ?_
   refine Qp Qcgt (Qp Qmb (Qg [] Qw Qms (Qg [] Qw Qmi ?_)))
   refine AOL.g (y:=.ptr _) _ [(18,_),(19,_)] rfl (EntL.all ⟨Ent.self _ _,Ent.self _ _,trivial⟩) (fun hG=>P_indexAddr (c:=[.str _,_]) tok rfl rfl rfl rfl rfl rfl (by omega) (map_at ha)) rfl ?_
   refine Qg [(20,_)] Qw (Qf [.str _,_]) (Qg [(21,_)] Qw Qlt ?_)
   refine AOL.g (y:=.int .i64 _) _ [(22,_)] rfl (EntL.all ⟨Ent.self _ _,trivial⟩) (fun hG=>P_len_str (n:=a.name.length) tok rfl rfl rfl (rfl)) rfl ?_
   refine Qg [(23,_)] Qw Qcgt (Qp Qpo (Qnn (Qif (fun hc2=>?_) fun hc2=>?_)))
   ·
    refine Qsr (Qp Qab (Qnn (AW.ret (blkR (thenR (thenR (blkR (thenR ?_))))))))
    refine Qr (.bool _) ?_
    exact Eq.trans rfl (congrArg (fun q:Bool=>AV.bool q) ((by unfold fewT;rw [if_pos (any_hit ha hc2)]:fewT T=false))).symm
   ·
    refine AW.skip (blkN (thenN (AW.region (Qp Qmi (Qp Qad (Qp Qai (Qnn ?_)))))))
    refine ⟨k+1,?_,?_,GS.weaken ⟨rfl,rfl,trivial⟩ (.refl _)⟩
    · exact ⟨hlt,any_snoc hR.2 ha hc2⟩
    · omega
  ·
   have hte:=take_end hc1
   have hall:=hR.2
   rw [hte] at hall
   refine AW.exit ?_
   refine thenE (thenE (blkHit (thenN (Qsr (Qp Qms ?_)))))
   refine Qp (P_len_sl (n:=T.length) tok rfl rfl rfl (by simp)) ?_
   refine Qp Qclq (Qp Qab (Qnn (AW.ret ?_)))
   refine Qr (.bool _) ?_
   exact Eq.trans rfl (congrArg (fun q:Bool=>AV.bool q) ((by unfold fewT;rw [ifF hall]:fewT T=decide ((T.length:Int)≤20)))).symm
theorem l_few (T:List Sc)(hl:T.length≤1048576)(hst:∀s∈T,scOK s)(V:List Va)(hvl:V.length≤1048576)(es:List Ex)(hel:es.length≤1048576)(hes:∀e∈es,sizeN e≤1048576):APure Tryz.prog 9 [.agg (cScene T V),.sl 8 (es.map encE)] (.bool (fewP T V es)):=by
 refine APure.body (n:=31) tok Tryz.func9 rfl rfl rfl fun H=>?_
 refine Qsr (Qp (Qbx [_,_]) (Qp Qab (Qnn (AW.seq (Qsr (Qp Qms ?_))))))
 refine Qp (P_len_sl (n:=es.length) tok rfl rfl rfl (by simp)) ?_
 refine Qp Qmi (Qnn (AW.block ?_))
 refine AW.loopS (fun (k:Nat)=>(⟨[(1,.sl 8 (es.map encE)),(2,.ptr (cScene T V)),(7,.sl 8 (es.map encE)),(8,.int .i64 es.length),(9,.int .i64 (k:Int))],H,31⟩:St)) (fun (k:Nat)=>k≤es.length∧(es.take k).any (fun e=>!fewX e)=false) (fun (k:Nat)=>es.length-k) (0) ?_ (GS.weaken ⟨rfl,rfl,rfl,rfl,rfl,trivial⟩ (.refl _)) ?_
 · exact ⟨Nat.zero_le _,by simp⟩
 ·
  rintro k hR
  refine Qsr (Qp Qclt (Qnn (AW.seq (Qif (fun hc1=>?_) fun hc1=>?_))))
  ·
   obtain ⟨e,he⟩:=get_lt hc1
   have hlt:=get_lt' he
   have hem:=List.mem_of_getElem? he
   refine Qst (AW.seq (AW.block (Qsr ?_)))
   refine Qp (P_indexAddr (c:=[.int .i64 _,_,.int .i64 _,.int .i64 _,.int .i64 _,.int .i64 _,.int .i64 _,.str _]) tok rfl rfl rfl rfl rfl rfl (by omega) (encE_at he)) ?_
   refine Qp Qle ?_
   refine Qe (E_alloc (l:=[.int .i64 0,.sl 8 [],.int .i64 0,.int .i64 0,.int .i64 0,.int .i64 0,.int .i64 0,.str []]) (by kernel_rfl)) ?_
   rintro _ _ ⟨b6,rfl,rfl⟩
   refine Qe (E_store (k:=0) (v:=.agg _) (cs':=[.int .i64 _,_,.int .i64 _,.int .i64 _,.int .i64 _,.int .i64 _,.int .i64 _,.str _]) (H2:=_::_) tok rfl rfl rfl rfl (rfl) rfl rfl rfl rfl) ?_
   rintro _ _ ⟨rfl,rfl⟩
   refine AOL.ghost (GS.freeze (t:=6) 0 rfl rfl) ?_
   refine Qns (Qp Qle ?_)
   refine Qp (Qc rfl (c34 e (hes e hem))) ?_
   refine Qp Qnt (Qnn (Qif (fun hc2=>?_) fun hc2=>?_))
   ·
    refine Qsr (Qp Qab (Qnn (AW.ret (blkR (thenR (thenR (blkR (thenR ?_))))))))
    refine Qr (.bool _) ?_
    exact Eq.trans rfl (congrArg (fun q:Bool=>AV.bool q) ((by unfold fewP;rw [if_pos (any_hit he hc2)]:fewP T V es=false))).symm
   ·
    refine AW.skip (blkN (thenN (AW.region (Qp Qad (Qp Qmi (Qnn ?_))))))
    refine ⟨k+1,?_,?_,GS.weaken ⟨rfl,rfl,rfl,rfl,rfl,trivial⟩ (.refl _)⟩
    · exact ⟨hlt,any_snoc hR.2 he hc2⟩
    · omega
  ·
   have hte:=take_end hc1
   have hall:=hR.2
   rw [hte] at hall
   refine AW.exit ?_
   refine thenE (thenE (blkHit (thenN (Qsr (Qp (Qf [_,_]) (Qp Qls ?_))))))
   refine Qp (Qc rfl (r_FewT T hl hst)) ?_
   refine Qp Qmb (Qg [] Qw (Qf [_]) (Qg [(21,_)] Qw Qls ?_))
   refine AOL.g (y:=.int .i64 _) _ [(22,_)] rfl (EntL.all ⟨Ent.self _ _,trivial⟩) (fun hG=>P_len_sl (n:=V.length) tok rfl rfl rfl (by simp)) rfl ?_
   refine Qg [(23,_)] Qw Qclq (Qp Qpa (Qp Qmb (Qg [] Qw Qms ?_)))
   refine AOL.g (y:=.int .i64 _) _ [(27,_)] rfl (EntL.all ⟨Ent.self _ _,trivial⟩) (fun hG=>P_len_sl (n:=es.length) tok rfl rfl rfl (by simp)) rfl ?_
   refine Qg [(28,_)] Qw Qclq (Qp Qpa (Qp Qab (Qnn (AW.ret ?_))))
   refine Qr (.bool _) ?_
   exact Eq.trans rfl (congrArg (fun q:Bool=>AV.bool q) ((by unfold fewP;rw [ifF hall]:fewP T V es=_))).symm
theorem r_SameAll (es:List Ex)(hel:es.length≤1048576)(hes:∀e∈es,sizeN e≤1048576):APure Tryz.prog 45 [.sl 8 (es.map encE),.sl 8 (es.map encE)] (.bool true):=by
 refine APure.body (n:=27) tok Tryz.func45 rfl rfl rfl fun H=>?_
 refine Qsr (Qp Qab (Qnn (AW.seq (Qsr (Qp Qms ?_)))))
 refine Qp (P_len_sl (n:=es.length) tok rfl rfl rfl (by simp)) ?_
 refine Qp Qms ?_
 refine Qp (P_len_sl (n:=es.length) tok rfl rfl rfl (by simp)) ?_
 refine Qp Qcne (Qnn (Qif (fun hc1=>?_) fun hc1=>?_))
 ·
  exact absurd hc1 (by simp)
 ·
  refine Qst (AW.seq (Qsr (Qp Qai (Qnn (AW.block ?_)))))
  refine AW.loopS (fun (k:Nat)=>(⟨[(0,.sl 8 (es.map encE)),(1,.sl 8 (es.map encE)),(4,.bool false),(5,.int .i64 (k:Int))],H,27⟩:St)) (fun (k:Nat)=>k≤es.length) (fun (k:Nat)=>es.length-k) (0) ?_ (GS.weaken ⟨rfl,rfl,rfl,rfl,trivial⟩ (.refl _)) ?_
  · exact Nat.zero_le _
  ·
   rintro k hR
   refine AW.seq (Qsr (Qp Qmi (Qp Qms ?_)))
   refine Qp (P_len_sl (n:=es.length) tok rfl rfl rfl (by simp)) ?_
   refine Qp Qclt (Qnn (Qif (fun hc2=>?_) fun hc2=>?_))
   ·
    obtain ⟨e,he⟩:=get_lt hc2
    have hlt:=get_lt' he
    have hem:=List.mem_of_getElem? he
    refine Qst (AW.seq (AW.block (AW.seq ?_)))
    refine AW.draw mixed (fun _=>True) trivial (by kernel_rfl) ?_
    refine Qn 0 rfl Qms (Qn 1 rfl Qmi ?_)
    refine Qn 2 rfl (P_indexAddr (c:=[.int .i64 _,_,.int .i64 _,.int .i64 _,.int .i64 _,.int .i64 _,.int .i64 _,.str _]) tok rfl rfl rfl rfl rfl rfl (by omega) (encE_at he)) ?_
    refine Qn 3 rfl Qle (Qn 4 rfl Qms (Qn 5 rfl Qmi ?_))
    refine Qn 6 rfl (P_indexAddr (c:=[.int .i64 _,_,.int .i64 _,.int .i64 _,.int .i64 _,.int .i64 _,.int .i64 _,.str _]) tok rfl rfl rfl rfl rfl rfl (by omega) (encE_at he)) ?_
    refine Qn 7 rfl Qle ?_
    refine Qn 8 rfl (Qc rfl (c20 e e (hes e hem))) ?_
    refine Qn 9 rfl Qnt ?_
    refine Canon.done _ _ (by kernel_rfl) ?_
    refine thenN (Qif (fun hc3=>?_) fun hc3=>?_)
    ·
     exact absurd hc3 (by rw [(sameS_iff e e).2 rfl];simp)
    ·
     refine AW.skip (blkN (thenN (AW.region (Qp Qmi (Qp Qad (Qp Qai (Qnn ?_)))))))
     refine ⟨k+1,?_,?_,GS.weaken ⟨rfl,rfl,rfl,rfl,trivial⟩ (.refl _)⟩
     · exact hlt
     · omega
   ·
    refine AW.exit ?_
    refine thenE (thenE (blkHit (thenN (Qsr (Qp Qab (Qnn (AW.ret ?_)))))))
    refine Qr (.bool _) ?_
    rfl
theorem r_SameZ (z:Zn)(hz:z.bs.length≤1048576):APure Tryz.prog 44 [.agg (cZn z),.agg (cZn z)] (.bool true):=by
 refine APure.body (n:=38) tok Tryz.func44 rfl rfl rfl fun H=>?_
 refine Qsr (Qp (Qbx [.int .i64 _,_]) (Qp (Qbx [.int .i64 _,_]) (Qp Qab (Qnn (AW.seq (Qsr (Qp (Qf [.int .i64 _,_]) (Qp Qli (Qp (Qf [.int .i64 _,_]) ?_)))))))))
 refine Qp Qli (Qp Qcne (Qp Qmb (Qg [] Qw (Qf [_]) (Qg [(12,_)] Qw Qls ?_))))
 refine AOL.g (y:=.int .i64 _) _ [(13,_)] rfl (EntL.all ⟨Ent.self _ _,trivial⟩) (fun hG=>P_len_sl (n:=z.bs.length) tok rfl rfl rfl (by simp)) rfl ?_
 refine Qg [] Qw (Qf [_]) (Qg [(15,_)] Qw Qls ?_)
 refine AOL.g (y:=.int .i64 _) _ [(16,_)] rfl (EntL.all ⟨Ent.self _ _,trivial⟩) (fun hG=>P_len_sl (n:=z.bs.length) tok rfl rfl rfl (by simp)) rfl ?_
 refine AOL.g (y:=.bool _) _ [(14,_),(17,_)] rfl (EntL.all ⟨Ent.self _ _,Ent.self _ _,trivial⟩) (fun hG=>P_neq rfl rfl) rfl ?_
 refine Qp Qpo (Qnn (Qif (fun hc1=>?_) fun hc1=>?_))
 ·
  exact absurd hc1 (by simp)
 ·
  refine Qst (AW.seq (Qsr (Qp Qai (Qnn (AW.block ?_)))))
  refine AW.loopS (fun (k:Nat)=>(⟨[(2,.ptr (cZn z)),(3,.ptr (cZn z)),(4,.bool false),(5,.int .i64 (k:Int))],H,38⟩:St)) (fun (k:Nat)=>k≤z.bs.length) (fun (k:Nat)=>z.bs.length-k) (0) ?_ (GS.weaken ⟨rfl,rfl,rfl,rfl,trivial⟩ (.refl _)) ?_
  · exact Nat.zero_le _
  ·
   rintro k hR
   refine AW.seq (Qsr (Qp Qmi (Qp (Qf [_]) (Qp Qls ?_))))
   refine Qp (P_len_sl (n:=z.bs.length) tok rfl rfl rfl (by simp)) ?_
   refine Qp Qclt (Qnn (Qif (fun hc2=>?_) fun hc2=>?_))
   ·
    obtain ⟨a,ha⟩:=get_lt hc2
    have hlt:=get_lt' ha
    have hm:=List.mem_of_getElem? ha
    refine Qst (AW.seq (AW.block (AW.seq ?_)))
    refine AW.draw mixed (fun _=>True) trivial (by kernel_rfl) ?_
    refine Qn 0 rfl (Qf [_]) (Qn 1 rfl Qls (Qn 2 rfl Qmi ?_))
    refine Qn 3 rfl (P_indexAddr (c:=[.int .i64 _,.int .i64 _,.int .i64 _]) tok rfl rfl rfl rfl rfl rfl (by omega) (map_at ha)) ?_
    refine Qn 4 rfl (Qlg [.int .i64 _,.int .i64 _,.int .i64 _]) (Qn 5 rfl (Qf [_]) (Qn 6 rfl Qls (Qn 7 rfl Qmi ?_)))
    refine Qn 8 rfl (P_indexAddr (c:=[.int .i64 _,.int .i64 _,.int .i64 _]) tok rfl rfl rfl rfl rfl rfl (by omega) (map_at ha)) ?_
    refine Qn 9 rfl (Qlg [.int .i64 _,.int .i64 _,.int .i64 _]) ?_
    refine Qn 10 rfl (P_neq_agg tok rfl rfl rfl rfl rfl) ?_
    refine Canon.done _ _ (by kernel_rfl) ?_
    refine thenN (Qif (fun hc3=>?_) fun hc3=>?_)
    ·
     exact absurd hc3 (by simp)
    ·
     refine AW.skip (blkN (thenN (AW.region (Qp Qmi (Qp Qad (Qp Qai (Qnn ?_)))))))
     refine ⟨k+1,?_,?_,GS.weaken ⟨rfl,rfl,rfl,rfl,trivial⟩ (.refl _)⟩
     · exact hlt
     · omega
   ·
    refine AW.exit ?_
    refine thenE (thenE (blkHit (thenN (Qsr (Qp Qab (Qnn (AW.ret ?_)))))))
    refine Qr (.bool _) ?_
    rfl
theorem l_down (n:Int):APure Tryz.prog 46 [.int .i64 n] (.agg (cE (downE n))):=by
 refine APure.body (n:=9) tok Tryz.func46 rfl rfl rfl fun H=>?_
 refine Qsr ?_
 refine Qe (E_alloc (l:=[.int .i64 0,.sl 8 [],.int .i64 0,.int .i64 0,.int .i64 0,.int .i64 0,.int .i64 0,.str []]) (by kernel_rfl)) ?_
 rintro _ _ ⟨b2,rfl,rfl⟩
 refine Qns ?_
 refine Qp (Qc rfl (l_price _)) ?_
 refine Qp (Qc rfl (l_price _)) ?_
 refine Qp Qmi ?_
 refine Qp (Qc rfl (l_number _)) ?_
 refine Qp (Qc rfl (l_two _ _ _)) ?_
 refine Qp (Qc rfl (l_two _ _ _)) ?_
 refine Qe (E_store (k:=0) (v:=.agg _) (cs':=[.int .i64 _,_,.int .i64 _,.int .i64 _,.int .i64 _,.int .i64 _,.int .i64 _,.str _]) (H2:=_::_) tok rfl rfl rfl rfl (rfl) rfl rfl rfl rfl) ?_
 rintro _ _ ⟨rfl,rfl⟩
 refine Qnn (AW.ret ?_)
 refine ⟨.inr rfl,[.agg [.int .i64 _,_,.int .i64 _,.int .i64 _,.int .i64 _,.int .i64 _,.int .i64 _,.str _]],.cons (.box _ _ _ 0 _ _ _ _ rfl rfl rfl rfl rfl rfl) <| .nil,.cons _ (.refl _),?_⟩
 rfl
theorem l_verdict (w:Int)(es:List Ex)(hel:es.length≤60)(hes:∀e∈es,sizeN e≤1048576):APure Tryz.prog 47 [.int .i64 w,.sl 8 (es.map encE)] (.bool (verS w es)):=by
 refine APure.body (n:=27) tok Tryz.func47 rfl rfl rfl fun H=>?_
 refine Qsr (Qp Qab (Qns ?_))
 refine Qp (Qc rfl (l_example)) ?_
 refine Qe (E_alloc (l:=[.sl 2 [],.sl 2 []]) (by kernel_rfl)) ?_
 rintro _ _ ⟨b5,rfl,rfl⟩
 refine Qe (E_store (k:=0) (v:=.agg _) (cs':=[_,_]) (H2:=_::_) tok rfl rfl rfl rfl (rfl) rfl rfl rfl rfl) ?_
 rintro _ _ ⟨rfl,rfl⟩
 refine AOL.ghost (GS.freeze (t:=5) 0 rfl rfl) ?_
 refine Qns (Qp (Qf [_,_]) (Qp Qls (Qp (Qf [_]) (Qp Qls (Qp Qms ?_)))))
 refine Qp (Qc rfl (d_Possible exT (by decide) ex_sc exV (by decide) es hel hes)) ?_
 refine Qp Qmu (Qp Qxi (Qp Qxs (Qp Qxi (Qp Qai (Qp Qas (Qp Qai (Qns (Qp Qmi (Qp Qceq ?_)))))))))
 refine Qp Qmb (Qg [] Qw Qmi (Qg [] Qw Qmi ?_))
 refine AOL.g (y:=.bool _) _ [(23,_),(24,_)] rfl (EntL.all ⟨Ent.self _ _,Ent.self _ _,trivial⟩) (fun hG=>P_eql rfl rfl) rfl ?_
 refine Qp Qpa (Qp Qab (Qnn (AW.ret ?_)))
 refine Qr (.bool _) ?_
 rfl
theorem l_verdictC (w:Int)(es:List Ex)(hel:es.length≤60)(hes:∀e∈es,sizeN e≤1048576)(h:verS w es=true):APure Tryz.prog 47 [.int .i64 w,.sl 8 (es.map cE)] (.bool true):=by
 have h1:=l_verdict w es hel hes
 rw [show es.map encE=es.map cE from List.map_congr_left fun e _=>encE_eq e,h] at h1
 exact h1

end Go.Proofs.YtkddpedfbicbeaaGreatDoor
