/-
  Several texts in one: Y7, Y7b. No condition.
-/
import Derived.Test.YtkddpedfbicbeaaGreatDoorK01
import Derived.Test.YtkddpedfbicbeaaGreatDoorK09
import Derived.Test.YtkddpedfbicbeaaGreatDoorK14
import Derived.KernelRfl
set_option linter.unusedVariables false
set_option linter.unusedSimpArgs false
namespace Go.Proofs.YtkddpedfbicbeaaGreatDoor
open Go Go.Aw
set_option maxHeartbeats 1600000
set_option maxRecDepth 20000

theorem d_variables (T:List Sc)(hl:T.length≤1048576)(hst:∀s∈T,scOK s)(V:List Va)(hvl:V.length≤1048576):APure Tryz.prog 102 [.agg (cScene T V)] (.int .i64 (KindS T V (truthE true)).2):=by
 refine APure.body (n:=15) tok Tryz.func102 rfl rfl rfl fun H=>?_
 refine Qsr (Qp (Qbx [_,_]) (Qp Qai (Qnn (AW.seq ?_))))
 refine AW.draw mixed (fun _=>True) trivial (by kernel_rfl) ?_
 refine Qn 0 rfl (Qf [_,_]) (Qn 1 rfl Qls (Qn 2 rfl (Qf [_]) (Qn 3 rfl Qls ?_)))
 refine Qn 4 rfl (Qc rfl (d_truth true)) ?_
 refine Qn 5 rfl (Qc rfl (c31 T hl hst V hvl (truthE true) (by rw [sizeN_eq];simp [truthE,constE]))) ?_
 refine Qn 6 rfl Qmu (Qn 7 rfl Qxi (Qn 8 rfl Qxi (Qn 9 rfl Qai (Qn 10 rfl Qai ?_))))
 refine Canon.done _ _ (by kernel_rfl) ?_
 refine thenN (Qsr (Qp Qmi (Qp Qai (Qnn (AW.ret ?_)))))
 refine Qr (.int .i64 _) ?_
 rfl
theorem d_clause (T:List Sc)(hl:T.length≤1048576)(hst:∀s∈T,scOK s)(V:List Va)(hvl:V.length≤1048576)(l:List Lit)(hll:l.length≤1048576)(hls:∀c∈l,sizeN c.cond≤1048576):APure Tryz.prog 78 [.agg (cScene T V),.sl 9 (l.map cLit)] (.int .i64 (clauseE T V l)):=by
 refine APure.body (n:=55) tok Tryz.func78 rfl rfl rfl fun H=>?_
 refine Qsr (Qp (Qbx [_,_]) (Qp Qai (Qnn (AW.seq (Qsr (Qp (Qlg [_,_]) ?_))))))
 refine Qp (Qc rfl (d_variables T hl hst V hvl)) ?_
 refine Qp Qai (Qns (Qp Qmi (Qp Qcne (Qnn (Qif (fun hc1=>?_) fun hc1=>?_)))))
 ·
  refine Qsr (Qp Qmi (Qp Qai (Qnn (Qrt ?_))))
  refine Qr (.int .i64 _) ?_
  exact Eq.trans rfl (congrArg (fun q:Int=>AV.int .i64 q) (clause_1 hc1)).symm
 ·
  refine Qst (AW.seq (Qsr (Qp Qms ?_)))
  refine Qp (P_len_sl (n:=l.length) tok rfl rfl rfl (by simp)) ?_
  refine Qp Qcgt (Qnn (Qif (fun hc2=>?_) fun hc2=>?_))
  ·
   refine Qsr (Qp Qai (Qnn (Qrt ?_)))
   refine Qr (.int .i64 _) ?_
   exact Eq.trans rfl (congrArg (fun q:Int=>AV.int .i64 q) (clause_2 hc1 hc2)).symm
  ·
   refine Qst (AW.seq (Qsr (Qp Qms ?_)))
   refine Qp (P_len_sl (n:=l.length) tok rfl rfl rfl (by simp)) ?_
   refine Qp Qmi (Qnn (AW.block ?_))
   refine AW.loopS (fun (k:Nat)=>(⟨[(2,.ptr (cScene T V)),(4,.int .i64 0),(17,.sl 9 (l.map cLit)),(18,.int .i64 l.length),(19,.int .i64 (k:Int))],H,55⟩:St)) (fun (k:Nat)=>k≤l.length∧firstS (litE T V) (l.take k)=0) (fun (k:Nat)=>l.length-k) (0) ?_ (GS.weaken ⟨rfl,rfl,rfl,rfl,rfl,trivial⟩ (.refl _)) ?_
   · exact ⟨Nat.zero_le _,rfl⟩
   ·
    rintro k hR
    refine Qsr (Qp Qclt (Qnn (AW.seq (Qif (fun hc3=>?_) fun hc3=>?_))))
    ·
     obtain ⟨c,hc⟩:=get_lt hc3
     have hlt:=get_lt' hc
     have hcm:=List.mem_of_getElem? hc
     refine Qst (AW.seq (AW.block (Qsr ?_)))
     refine Qp (P_indexAddr (c:=[.int .i64 _,_,.int .i64 _,.int .i64 _,.int .i64 _,.int .i64 _,.int .i64 _,.str _,.bool _]) tok rfl rfl rfl rfl rfl rfl (by omega) (map_at hc)) ?_
     refine Qp (Qlg [.int .i64 _,_,.int .i64 _,.int .i64 _,.int .i64 _,.int .i64 _,.int .i64 _,.str _,.bool _]) ?_
     refine Qe (E_alloc (l:=[.int .i64 0,.sl 8 [],.int .i64 0,.int .i64 0,.int .i64 0,.int .i64 0,.int .i64 0,.str [],.bool false]) (by kernel_rfl)) ?_
     rintro _ _ ⟨b7,rfl,rfl⟩
     refine Qe (E_store (k:=0) (v:=.agg _) (cs':=[.int .i64 _,_,.int .i64 _,.int .i64 _,.int .i64 _,.int .i64 _,.int .i64 _,.str _,.bool _]) (H2:=_::_) tok rfl rfl rfl rfl (rfl) rfl rfl rfl rfl) ?_
     rintro _ _ ⟨rfl,rfl⟩
     refine AOL.ghost (GS.freeze (t:=7) 0 rfl rfl) ?_
     refine Qnn (AW.seq (Qsr (Qp (Qlg [_,_]) (Qp (Qf [.int .i64 _,_,.int .i64 _,.int .i64 _,.int .i64 _,.int .i64 _,.int .i64 _,.str _,.bool _]) (Qp Qle ?_)))))
     refine Qp (Qc rfl (d_condition T hl hst V hvl c.cond (hls c hcm))) ?_
     refine Qp Qai (Qns (Qp Qmi (Qp Qcne (Qnn (Qif (fun hc4=>?_) fun hc4=>?_)))))
     ·
      refine Qsr (Qp Qmi (Qp Qai (Qnn (Qrt (blkR (thenR (thenR (blkR (thenR ?_)))))))))
      refine Qr (.int .i64 _) ?_
      exact Eq.trans rfl (congrArg (fun q:Int=>AV.int .i64 q) ((clause_f hc1 hc2).trans ((first_take hR.2 hc (by rw [lit_1 hc4];simpa using hc4)).trans (lit_1 hc4)))).symm
     ·
      refine Qst (AW.seq ?_)
      refine AW.draw mixed (fun _=>True) trivial (by kernel_rfl) ?_
      refine Qn 0 rfl (Qlg [_,_]) (Qn 1 rfl (Qf [.int .i64 _,_,.int .i64 _,.int .i64 _,.int .i64 _,.int .i64 _,.int .i64 _,.str _,.bool _]) (Qn 2 rfl Qle ?_))
      refine Qn 3 rfl (Qc rfl (d_composed T V c.cond (condE_kok hc4))) ?_
      refine Qn 4 rfl Qmb (Qo 5 rfl [] Qw (Qf [.bool _]) (Qo 6 rfl [(35,_)] Qw Qlb (Qo 7 rfl [(36,_)] Qw Qmb (Qo 8 rfl [] Qw (Qf [.int .i64 _,_,.int .i64 _,.int .i64 _,.int .i64 _,.int .i64 _,.int .i64 _,.str _,.bool _]) (Qo 9 rfl [(38,_)] Qw (Qf [.int .i64 _,_,.int .i64 _,.int .i64 _,.int .i64 _,.int .i64 _,.int .i64 _,.str _,.bool _]) (Qo 10 rfl [(39,_)] Qw Qli (Qo 11 rfl [(40,_)] Qw Qceq (Qo 12 rfl [(37,_),(41,_)] Qw Qpa (Qo 13 rfl [(42,_)] Qw Qmb ?_)))))))))
      refine Qo 14 rfl [] Qw (Qlg [_,_]) (Qo 15 rfl [] Qw (Qf [.int .i64 _,_,.int .i64 _,.int .i64 _,.int .i64 _,.int .i64 _,.int .i64 _,.str _,.bool _]) (Qo 16 rfl [(45,_)] Qw (Qf [_,.int .i64 _,.int .i64 _,.int .i64 _,.int .i64 _,.int .i64 _,.str _,.bool _]) (Qo 17 rfl [(46,_)] Qw Qls ?_)))
      refine Canon.pure _ _ 18 _ _ rfl (by kernel_rfl) (by kernel_rfl) rfl (.opt _ (.ptr _) [(47,_)] rfl (EntL.all ⟨Ent.self _ _,trivial⟩) (fun hG=>P_indexAddr (c:=[.int .i64 _,_,.int .i64 _,.int .i64 _,.int .i64 _,.int .i64 _,.int .i64 _,.str _]) tok rfl rfl rfl rfl rfl rfl (by decide) (arg0_at (Nat.lt_of_succ_lt (g9c (condE_kok hc4) hG)))) rfl) ?_
      refine Qo 19 rfl [(48,_)] Qw Qle ?_
      refine Canon.pure _ _ 20 _ _ rfl (by kernel_rfl) (by kernel_rfl) rfl (.opt _ (.int .i64 _) [(44,_),(49,_)] rfl (EntL.all ⟨Ent.self _ _,Ent.self _ _,trivial⟩) (fun hG=>P_callf (by kernel_rfl) rfl rfl (d_kind T V _ (kok_arg (condE_kok hc4) (arg0_mem (Nat.lt_of_succ_lt (g9c (condE_kok hc4) hG)))))) rfl) ?_
      refine Qo 21 rfl [(50,_)] Qw Qceq (Qo 22 rfl [(43,_),(51,_)] Qw Qpa (Qn 23 rfl Qpo ?_))
      refine Canon.done _ _ (by kernel_rfl) ?_
      refine thenN (Qif (fun hc5=>?_) fun hc5=>?_)
      ·
       refine Qsr (Qp Qai (Qnn (AW.ret (blkR (thenR (thenR (blkR (thenR ?_))))))))
       refine Qr (.int .i64 _) ?_
       exact Eq.trans rfl (congrArg (fun q:Int=>AV.int .i64 q) ((clause_f hc1 hc2).trans ((first_take hR.2 hc (by rw [lit_2 hc4 hc5];decide)).trans (lit_2 hc4 hc5)))).symm
      ·
       refine AW.skip (blkN (thenN (AW.region (Qp Qad (Qp Qmi (Qnn ?_))))))
       refine ⟨k+1,?_,?_,GS.weaken ⟨rfl,rfl,rfl,rfl,rfl,trivial⟩ (.refl _)⟩
       · exact ⟨hlt,first_snoc hR.2 hc (lit_3 hc4 hc5)⟩
       · omega
    ·
     have hte:=take_end hc3
     have hall:=hR.2
     rw [hte] at hall
     refine AW.exit ?_
     refine thenE (thenE (blkHit (thenN (Qsr (Qp Qai (Qnn (AW.ret ?_)))))))
     refine Qr (.int .i64 _) ?_
     exact Eq.trans rfl (congrArg (fun q:Int=>AV.int .i64 q) ((clause_f hc1 hc2).trans hall)).symm
theorem d_numeric (T:List Sc)(V:List Va)(c:Lit)(hk:KOK T V c.cond)(hse:sizeN c.cond≤64):APure Tryz.prog 129 [.agg (cScene T V),.agg (cLit c)] (.tuple [.agg (cGp (numericS T V c).1),.bool (numericS T V c).2]):=by
 refine APure.body (n:=41) tok Tryz.func129 rfl rfl rfl fun H=>?_
 refine Qsr (Qp (Qbx [_,_]) (Qp (Qbx [.int .i64 _,_,.int .i64 _,.int .i64 _,.int .i64 _,.int .i64 _,.int .i64 _,.str _,.bool _]) ?_))
 refine Qe (E_alloc (l:=[.sl 3 [],.sl 3 [],.int .i64 0]) (by kernel_rfl)) ?_
 rintro _ _ ⟨b4,rfl,rfl⟩
 refine Qp Qab (Qns (Qp (Qf [.int .i64 _,_,.int .i64 _,.int .i64 _,.int .i64 _,.int .i64 _,.int .i64 _,.str _,.bool _]) (Qp Qle ?_)))
 refine Qe (E_alloc (l:=[.int .i64 0,.sl 8 [],.int .i64 0,.int .i64 0,.int .i64 0,.int .i64 0,.int .i64 0,.str []]) (by kernel_rfl)) ?_
 rintro _ _ ⟨b6,rfl,rfl⟩
 refine Qe (E_store (k:=0) (v:=.agg _) (cs':=[.int .i64 _,_,.int .i64 _,.int .i64 _,.int .i64 _,.int .i64 _,.int .i64 _,.str _]) (H2:=_::_::_) tok rfl rfl rfl rfl (rfl) rfl rfl rfl rfl) ?_
 rintro _ _ ⟨rfl,rfl⟩
 refine AOL.ghost (GS.freeze (t:=6) 0 rfl rfl) ?_
 refine Qnn (AW.seq (Qsr (Qp Qf0 (Qp Qli (Qp Qceq (Qnn (Qif (fun hc1=>?_) fun hc1=>?_)))))))
 ·
  refine Qsr (Qp Qf0 (Qp Qli (Qp Qf2 (Qp Qli (Qp Qf3 (Qp Qli (Qp (Qbd [.int .i64 _,.int .i64 _,.int .i64 _]) ?_)))))))
  refine Qp (P_buildSlice (es:=[[.int .i64 _,.int .i64 _,.int .i64 _]]) tok rfl rfl rfl rfl rfl rfl rfl rfl rfl) ?_
  refine Qp (Qbd [_,_,.int .i64 _]) ?_
  refine Qe (E_store (k:=0) (v:=.agg _) (cs':=[_,_,.int .i64 _]) (H2:=_::_) tok rfl rfl rfl rfl (rfl) rfl rfl rfl rfl) ?_
  rintro _ _ ⟨rfl,rfl⟩
  refine Qp Qab (Qnn (Qrt ?_))
  refine ⟨.inr rfl,[.agg [_,_,.int .i64 _],.bool _],.cons (.box _ _ _ 0 _ _ _ _ rfl rfl rfl rfl rfl rfl) <| .cons (.tmp _ _ rfl) <| .nil,.cons _ (.refl _),?_⟩
  exact Eq.trans rfl (congrArg (fun q:Gp×Bool=>AV.tuple [.agg (cGp q.1),.bool q.2]) (num_1 hc1)).symm
 ·
  refine Qst (AW.seq (Qsr (Qp Qle ?_)))
  refine Qp (Qc rfl (d_compares c.cond)) ?_
  refine Qp Qnt (Qp Qmb (Qg [] Qw (Qlg [_,_]) (Qg [] Qw Qle ?_)))
  refine AOL.g (y:=.bool _) _ [(25,_),(26,_)] rfl (EntL.all ⟨Ent.self _ _,Ent.self _ _,trivial⟩) (fun hG=>P_callf (by kernel_rfl) rfl rfl (d_texts T V c.cond hk)) rfl ?_
  refine Qp Qpo (Qnn (Qif (fun hc2=>?_) fun hc2=>?_))
  ·
   refine Qsr (Qp (Qbd [_,_,.int .i64 _]) ?_)
   refine Qe (E_store (k:=0) (v:=.agg _) (cs':=[_,_,.int .i64 _]) (H2:=_::_) tok rfl rfl rfl rfl (rfl) rfl rfl rfl rfl) ?_
   rintro _ _ ⟨rfl,rfl⟩
   refine Qp Qab (Qnn (Qrt ?_))
   refine ⟨.inr rfl,[.agg [_,_,.int .i64 _],.bool _],.cons (.box _ _ _ 0 _ _ _ _ rfl rfl rfl rfl rfl rfl) <| .cons (.tmp _ _ rfl) <| .nil,.cons _ (.refl _),?_⟩
   exact Eq.trans rfl (congrArg (fun q:Gp×Bool=>AV.tuple [.agg (cGp q.1),.bool q.2]) (num_2 hc1 hc2)).symm
  ·
   refine Qst (AW.seq ?_)
   have h2:=cmp_two hk (num_cmp hc2)
   have h00:0<c.cond.args.length:=by omega
   have hsz:=arg_sizes h2
   have hk0:=kok_arg hk (arg0_mem h00)
   have hk1:=kok_arg hk (arg1_mem h2)
   refine AW.draw mixed (fun _=>True) trivial (by kernel_rfl) ?_
   refine Qn 0 rfl Qf1 (Qn 1 rfl Qls ?_)
   refine Qn 2 rfl (P_indexAddr (c:=[.int .i64 _,_,.int .i64 _,.int .i64 _,.int .i64 _,.int .i64 _,.int .i64 _,.str _]) tok rfl rfl rfl rfl rfl rfl (by decide) (arg0_at h00)) ?_
   refine Qn 3 rfl Qle (Qn 4 rfl Qf1 (Qn 5 rfl Qls ?_))
   refine Qn 6 rfl (P_indexAddr (c:=[.int .i64 _,_,.int .i64 _,.int .i64 _,.int .i64 _,.int .i64 _,.int .i64 _,.str _]) tok rfl rfl rfl rfl rfl rfl (by decide) (arg1_at h2)) ?_
   refine Qn 7 rfl Qle ?_
   refine Qn 8 rfl (Qc rfl (d_between _ _ hk0.nodes hk1.nodes (by omega))) ?_
   refine Qn 9 rfl (P_extract (v:=.agg [_,_,.int .i64 _]) rfl rfl) ?_
   refine Qn 10 rfl Qxb ?_
   refine Canon.eff _ _ 11 _ _ rfl (by kernel_rfl) rfl rfl (E_store (k:=0) (v:=.agg _) (cs':=[_,_,.int .i64 _]) (H2:=_::_) tok rfl rfl rfl rfl (rfl) rfl rfl rfl rfl) (fun _ _ _=>trivial) ?_
   rintro _ _ ⟨rfl,rfl⟩
   refine Qn 12 rfl Qab ?_
   refine Canon.done _ _ (by kernel_rfl) ?_
   refine thenN (AW.ret ?_)
   refine ⟨.inr rfl,[.agg [_,_,.int .i64 _],.bool _],.cons (.box _ _ _ 0 _ _ _ _ rfl rfl rfl rfl rfl rfl) <| .cons (.tmp _ _ rfl) <| .nil,.cons _ (.refl _),?_⟩
   exact Eq.trans rfl (congrArg (fun q:Gp×Bool=>AV.tuple [.agg (cGp q.1),.bool q.2]) (num_3 hc1 hc2)).symm
theorem d_limits (T:List Sc)(V:List Va)(t:Tm)(hk:KOK T V (tmE t)):APure Tryz.prog 131 [.agg (cScene T V),.agg (cTm t)] (.tuple [.int .i64 (limitsS T V t).1,.int .i64 (limitsS T V t).2]):=by
 refine APure.body (n:=16) tok Tryz.func131 rfl rfl rfl fun H=>?_
 refine Qsr (Qp (Qbx [_,_]) (Qp (Qbx [.int .i64 _,.int .i64 _,.int .i64 _]) (Qp Qai (Qp Qai (Qnn (AW.seq (AW.block (Qsr (Qp (Qf [.int .i64 _,.int .i64 _,.int .i64 _]) ?_)))))))))
 refine Qp Qli (Qp Qceq (Qp Qab (Qnn (Qif (fun hc1=>?_) fun hc1=>?_))))
 ·
  refine Qsr (Qp Qai (Qp Qai (Qnn (AW.ret (blkR (thenR ?_))))))
  refine Qrr (.int .i64 _) (.int .i64 _) ?_
  exact Eq.trans rfl (congrArg (fun q:Int×Int=>AV.tuple [.int .i64 q.1,.int .i64 q.2]) (lim_1 hc1)).symm
 ·
  refine AW.seq ?_
  refine AW.draw mixed (fun _=>True) trivial (by kernel_rfl) ?_
  refine Qn 0 rfl (Qlg [_,_]) (Qn 1 rfl (Qlg [.int .i64 _,.int .i64 _,.int .i64 _]) ?_)
  refine Qn 2 rfl (Qc rfl (d_expr t)) ?_
  refine Qn 3 rfl (Qc rfl (d_kind T V _ hk)) ?_
  refine Qn 4 rfl Qceq (Qn 5 rfl Qab ?_)
  refine Canon.done _ _ (by kernel_rfl) ?_
  refine thenN (Qif (fun hc2=>?_) fun hc2=>?_)
  ·
   refine Qsr (Qp Qai (Qp Qai (Qnn (AW.ret (blkR (thenR ?_))))))
   refine Qrr (.int .i64 _) (.int .i64 _) ?_
   exact Eq.trans rfl (congrArg (fun q:Int×Int=>AV.tuple [.int .i64 q.1,.int .i64 q.2]) (lim_2 hc1 hc2)).symm
  ·
   refine AW.skip (blkN (thenN (Qsr (Qp Qai (Qp Qai (Qnn (AW.ret ?_)))))))
   refine Qrr (.int .i64 _) (.int .i64 _) ?_
   exact Eq.trans rfl (congrArg (fun q:Int×Int=>AV.tuple [.int .i64 q.1,.int .i64 q.2]) (lim_3 hc1 hc2)).symm
theorem d_fits (T:List Sc)(V:List Va)(l:List Lit):APure Tryz.prog 80 [.ptr (cSy T V l)] (.bool (fitsS (zoneS T V l))):=by
 refine APure.body (n:=18) tok Tryz.func80 rfl rfl rfl fun H=>?_
 refine Qsr (Qp Qab (Qns (Qp Qmp ?_)))
 refine Qp (P_nilCheck_ptr rfl) ?_
 refine Qp (Qf [.int .i64 _,_,_,_]) (Qp (Qf [.int .i64 _,_,_,_]) (Qp Qli (Qp Qclq (Qp Qmb (Qg [] Qw Qmp ?_)))))
 refine AOL.g (y:=.ptr _) _ [(10,_)] rfl (EntL.all ⟨Ent.self _ _,trivial⟩) (fun hG=>P_nilCheck_ptr rfl) rfl ?_
 refine Qg [(11,_)] Qw (Qf [.int .i64 _,_,_,_]) (Qg [(12,_)] Qw (Qf [_,_,_]) (Qg [(13,_)] Qw Qls ?_))
 refine AOL.g (y:=.int .i64 _) _ [(14,_)] rfl (EntL.all ⟨Ent.self _ _,trivial⟩) (fun hG=>P_len_sl (n:=(zoneS T V l).bs.length) tok rfl rfl rfl (by simp)) rfl ?_
 refine Qg [(15,_)] Qw Qclq (Qp Qpa (Qp Qab (Qnn (AW.ret ?_))))
 refine Qr (.bool _) ?_
 rfl
theorem d_unknown (m yb:Nat)(v:Value)(n0:Int)(c1:AV)(ts l:List Tm)(R:List HO)(hts:ts.length≤1048576):ACall Tryz.prog 130 (sysH m yb v (.int .i64 n0) c1 ts R) [.val (.pointer (some ⟨yb,0,none⟩)),.sl 3 (l.map cTm)] (fun r H'=>∃v',r = .int .i64 (numTm (addTm ts l) l)∧H'=sysH m yb v' (.int .i64 n0) c1 (addTm ts l) R):=by
 have hsc:∀c∈(ts.map cTm),scalars c=true:=sc_map fun _=>rfl
 refine ACall.body (n:=55) tok Tryz.func130 rfl rfl rfl ?_
 refine Qsr (Qp Qai (Qnn (AW.seq (Qsr (Qp Qms ?_)))))
 refine Qp (P_len_sl (n:=l.length) tok rfl rfl rfl (by simp)) ?_
 refine Qp Qceq (Qnn (Qif (fun hc1=>?_) fun hc1=>?_))
 ·
  have hnil:=nil_of hc1
  subst hnil
  refine Qsr (Qp Qai (Qnn (Qrt ?_)))
  refine ⟨.inr rfl,[.int .i64 _],.cons (.tmp _ _ rfl) <| .nil,_,.refl _,?_⟩
  exact ⟨_,rfl,rfl⟩
 ·
  obtain ⟨t,l,rfl⟩:=ne_cons hc1
  refine Qst ?_
  refine AW.cut (fun (w:Value)=>(⟨[(0,.val (.pointer (some ⟨yb,0,none⟩))),(1,.sl 3 ((t::l).map cTm))],sysH m yb w (.int .i64 n0) c1 (addTm ts (t::l)) R,55⟩:St)) (fun (w:Value)=>True) ?_ ?_
  ·
   refine AW.seq ?_
   refine AW.draw mixed (fun H'=>_∈H'∧_∈H') ⟨(List.mem_of_getElem? (i:=1) rfl),(List.mem_of_getElem? (i:=2) rfl)⟩ (by kernel_rfl) ?_
   refine Qn 0 rfl Qmv ?_
   refine Qn 1 rfl (P_nilCheck rfl) ?_
   refine Qn 2 rfl Qfv ?_
   refine Qn 3 rfl (OpP.mem (fun k=>P_load_box (k:=k) (c:=.val _) tok rfl rfl rfl rfl) (fun _ h=>h.1)) ?_
   refine Qn 4 rfl Qms ?_
   refine Qn 5 rfl (P_indexAddr (c:=[.int .i64 _,.int .i64 _,.int .i64 _]) tok rfl rfl rfl rfl rfl rfl (by decide) (rfl)) ?_
   refine Qn 6 rfl (Qlg [.int .i64 _,.int .i64 _,.int .i64 _]) ?_
   refine Qn 7 rfl (OpP.mem (fun k=>P_klookOk (i:=k) (eq:=eqTm t) tok rfl rfl rfl rfl rfl (by kernel_rfl) rfl rfl (rfl) (yMap_eq t _) (look_y0 t ts) (yMap_has t ts)) (fun _ h=>h.2)) ?_
   refine Qn 8 rfl Qmu (Qn 9 rfl Qxi (Qn 10 rfl Qxb (Qn 11 rfl Qai (Qn 12 rfl Qab ?_))))
   refine Canon.done _ _ (by kernel_rfl) ?_
   refine thenN (Qsr (Qp Qmb (Qp Qnt (Qnn (Qif (fun hc2=>?_) fun hc2=>?_)))))
   ·
    have hnew:ts.contains t=false:=by simpa using hc2
    refine AW.seq ?_
    refine AW.draw mixed (fun H'=>_∈H') (List.mem_of_getElem? (i:=1) rfl) (by kernel_rfl) ?_
    refine Qn 0 rfl Qmv (Qn 1 rfl Qmv ?_)
    refine Qn 2 rfl (P_nilCheck rfl) ?_
    refine Qn 3 rfl Qfv ?_
    refine Qn 4 rfl (OpP.mem (fun k=>P_load_box (k:=k) (c:=.row _ _ _) tok rfl rfl rfl rfl) (fun _ h=>h)) ?_
    refine Qn 5 rfl Qms ?_
    refine Qn 6 rfl (P_indexAddr (c:=[.int .i64 _,.int .i64 _,.int .i64 _]) tok rfl rfl rfl rfl rfl rfl (by decide) (rfl)) ?_
    refine Qn 7 rfl (Qlg [.int .i64 _,.int .i64 _,.int .i64 _]) ?_
    refine Qn 8 rfl (P_buildSlice (es:=[[.int .i64 _,.int .i64 _,.int .i64 _]]) tok rfl rfl rfl rfl rfl rfl rfl rfl rfl) ?_
    refine Canon.eff _ _ 9 _ _ rfl (by kernel_rfl) rfl rfl (E_append (k:=0) tok rfl rfl rfl rfl rfl rfl rfl rfl (sc_one rfl) (hsc) (by simp;omega) (by simp [maxLen];omega)) (by rintro _ _ ⟨v32,rfl,rfl⟩;simp) ?_
    rintro _ _ ⟨v32,rfl,rfl⟩
    refine Qn 10 rfl (P_nilCheck rfl) ?_
    refine Qn 11 rfl Qfv ?_
    refine Canon.last _ _ 12 _ _ rfl (by kernel_rfl) rfl rfl (E_store (k:=1) (v:=.row _ _ _) (cs':=[.int .i64 _,_,_,_]) (H2:=_::_::_::_) tok rfl rfl rfl rfl (rfl) rfl rfl rfl rfl) (by kernel_rfl) ?_
    rintro _ _ ⟨rfl,rfl⟩
    refine thenN ?_
    refine AW.draw mixed (fun H'=>_∈H') (List.mem_of_getElem? (i:=1) rfl) (by kernel_rfl) ?_
    refine Qn 0 rfl Qmv ?_
    refine Qn 1 rfl (P_nilCheck rfl) ?_
    refine Qn 2 rfl Qfv ?_
    refine Qn 3 rfl (OpP.mem (fun k=>P_load_box (k:=k) (c:=.val _) tok rfl rfl rfl rfl) (fun _ h=>h)) ?_
    refine Qn 4 rfl Qms ?_
    refine Qn 5 rfl (P_indexAddr (c:=[.int .i64 _,.int .i64 _,.int .i64 _]) tok rfl rfl rfl rfl rfl rfl (by decide) (rfl)) ?_
    refine Qn 6 rfl (Qlg [.int .i64 _,.int .i64 _,.int .i64 _]) (Qn 7 rfl Qmv ?_)
    refine Qn 8 rfl (P_nilCheck rfl) ?_
    refine Qn 9 rfl Qfv ?_
    refine Qn 10 rfl (OpP.mem (fun k=>P_load_box (k:=k) (c:=.row _ _ _) tok rfl rfl rfl rfl) (fun _ h=>h)) ?_
    refine Qn 11 rfl (P_len_row (n:=ts.length+1) tok rfl rfl rfl (by simp)) ?_
    refine Canon.last _ _ 12 _ _ rfl (by kernel_rfl) rfl rfl (E_kmapAdd (i:=2) (eq:=eqTm t) (H2:=_::_::_::_) tok rfl rfl rfl rfl rfl rfl rfl (rfl) (yMap_eq t _) rfl (yMap_none hnew) rfl) (by kernel_rfl) ?_
    rintro _ _ ⟨rfl,rfl⟩
    refine thenN ?_
    refine ⟨v32,?_,GS.trans (GS.heapTo (unk_new hnew)) (GS.weaken ⟨rfl,rfl,trivial⟩ (.refl _))⟩
    trivial
   ·
    have hold:ts.contains t=true:=by simpa using hc2
    refine Qst ?_
    refine ⟨v,?_,GS.trans (GS.heapTo (unk_old hold)) (GS.weaken ⟨rfl,rfl,trivial⟩ (.refl _))⟩
    trivial
  ·
   rintro w _
   refine AW.seq ?_
   refine AW.draw mixed (fun H'=>_∈H'∧_∈H') ⟨(List.mem_of_getElem? (i:=1) rfl),(List.mem_of_getElem? (i:=2) rfl)⟩ (by kernel_rfl) ?_
   refine Qn 0 rfl Qmv ?_
   refine Qn 1 rfl (P_nilCheck rfl) ?_
   refine Qn 2 rfl Qfv ?_
   refine Qn 3 rfl (OpP.mem (fun k=>P_load_box (k:=k) (c:=.val _) tok rfl rfl rfl rfl) (fun _ h=>h.1)) ?_
   refine Qn 4 rfl Qms ?_
   refine Qn 5 rfl (P_indexAddr (c:=[.int .i64 _,.int .i64 _,.int .i64 _]) tok rfl rfl rfl rfl rfl rfl (by decide) (rfl)) ?_
   refine Qn 6 rfl (Qlg [.int .i64 _,.int .i64 _,.int .i64 _]) ?_
   refine Qn 7 rfl (OpP.mem (fun k=>P_klook (i:=k) (eq:=eqTm t) tok rfl rfl rfl rfl rfl (by kernel_rfl) rfl rfl (rfl) (yMap_eq t _) (look_y (contains_addTm t l ts))) (fun _ h=>h.2)) ?_
   refine Qn 8 rfl Qai ?_
   refine Canon.done _ _ (by kernel_rfl) ?_
   refine thenN (AW.ret ?_)
   refine ⟨.inr rfl,[.int .i64 _],.cons (.tmp _ _ rfl) <| .nil,_,.refl _,?_⟩
   exact ⟨_,rfl,rfl⟩
theorem d_add1 (bb:Nat)(v:Value)(es:List (List AV))(R:List HO)(x z most:Int)(hel:es.length≤1048576)(hsc:∀c∈es,scalars c=true):ACall Tryz.prog 128 (.row v es.length 94 3 :: .box bb 88 [.row v 3 es]::R) [.int .i64 x,.int .i64 z,.int .i64 most,.val (.pointer (some ⟨bb,0,none⟩))] (fun r H'=>∃v',r = .tuple []∧H' = .row v' (es ++ [cBd ⟨x,z,most⟩]).length 94 3 :: .box bb 88 [.row v' 3 (es ++ [cBd ⟨x,z,most⟩])]::R):=by
 refine ACall.body (n:=14) tok Tryz.func128 rfl rfl rfl ?_
 refine AW.region ?_
 refine AOL.pk (P_load_box (k:=1) (c:=.row _ _ _) tok rfl rfl rfl rfl) rfl rfl ?_
 refine Qp Qmi (Qp Qmi (Qp Qmi (Qp (Qbd [.int .i64 _,.int .i64 _,.int .i64 _]) ?_)))
 refine Qp (P_buildSlice (es:=[[.int .i64 _,.int .i64 _,.int .i64 _]]) tok rfl rfl rfl rfl rfl rfl rfl rfl rfl) ?_
 refine Qe (E_append (k:=0) tok rfl rfl rfl rfl rfl rfl rfl rfl (sc_one rfl) (hsc) (by simp;omega) (by simp [maxLen];omega)) ?_
 rintro _ _ ⟨v13,rfl,rfl⟩
 refine Qe (E_store (k:=1) (v:=.row _ _ _) (cs':=[_]) (H2:=_::_::_) tok rfl rfl rfl rfl (rfl) rfl rfl rfl rfl) ?_
 rintro _ _ ⟨rfl,rfl⟩
 refine AOL.nil ?_
 refine ⟨.inl rfl,[],.nil,_,.refl _,?_⟩
 exact ⟨_,rfl,rfl⟩

set_option maxHeartbeats 6400000
set_option maxRecDepth 20000

theorem d_system (T:List Sc)(V:List Va)(l:List Lit)(hll:l.length≤4096)(hlk:LOK T V l):APure Tryz.prog 79 [.agg (cScene T V),.sl 9 (l.map cLit)] (.ptr (cSy T V l)):=by
 have hgo:=sysGo_ok hlk
 have hgl:=hgo.len
 have hgb:=hgo.bnds
 refine APure.body (n:=179) tok Tryz.func79 rfl rfl rfl fun H=>?_
 refine Qsr (Qp (Qbx [_,_]) (Qp Qav (Qns ?_)))
 refine Qe (E_makeKMap) ?_
 rintro _ _ ⟨b19,rfl,rfl⟩
 refine Qp (P_buildZ (l0:=[.int .i64 0,.val (.slice none 0 0),.val (.slice none 0 0),.val (.map none)]) (l:=[.int .i64 _,_,_,_]) tok rfl rfl (by kernel_rfl) rfl) ?_
 refine Qe (E_box (v:=.agg _) (cs:=[.int .i64 _,_,_,_]) rfl rfl (rfl)) ?_
 rintro _ _ ⟨b21,rfl,rfl⟩
 refine Qp Qav ?_
 refine AOL.ghost (GS.cellRow 0 2 143 3 rfl rfl rfl rfl) ?_
 refine Qns ?_
 refine Qe (E_alloc (l:=[.val (.slice none 0 0)]) (by kernel_rfl)) ?_
 rintro _ _ ⟨b6,rfl,rfl⟩
 refine AOL.ghost (GS.cellRow 0 0 94 3 rfl rfl rfl rfl) ?_
 refine Qns ?_
 refine Qp (P_makeFunc (l:=[]) (l':=[.val _]) rfl rfl) ?_
 refine Qp (P_assign (v:=.fn _ _ _) rfl) ?_
 refine Qnn (AW.seq (Qsr (Qp Qms ?_)))
 refine Qp (P_len_sl (n:=l.length) tok rfl rfl rfl (by simp)) ?_
 refine Qp Qmi (Qnn (AW.block ?_))
 refine AW.loopS (fun (p:Nat×Sy×Value×Value×List (List AV))=>(⟨[(2,.ptr (cScene T V)),(5,.val (.pointer (some ⟨b21,0,none⟩))),(6,.val (.pointer (some ⟨b6,0,none⟩))),(7,.fn (.func 128) [] [.val (.pointer (some ⟨b6,0,none⟩))]),(23,.sl 9 (l.map cLit)),(24,.int .i64 l.length),(25,.int .i64 (p.1:Int))],.row p.2.2.2.1 p.2.2.2.2.length 94 3 :: .box b6 88 [.row p.2.2.2.1 3 p.2.2.2.2]::sysH b19 b21 p.2.2.1 (.int .i64 0) (.val (.slice none 0 0)) p.2.1.ts H,179⟩:St)) (fun (p:Nat×Sy×Value×Value×List (List AV))=>p.1≤l.length∧p.2.1=sysGo T V (l.take p.1)∧p.2.2.2.2=p.2.1.bs.map cBd) (fun (p:Nat×Sy×Value×Value×List (List AV))=>l.length-p.1) ((0,⟨[],[]⟩,.slice none 0 0,.slice none 0 0,[])) ?_ (GS.weaken ⟨rfl,rfl,rfl,rfl,rfl,rfl,rfl,trivial⟩ (.refl _)) ?_
 · exact ⟨Nat.zero_le _,rfl,rfl⟩
 ·
  rintro p hR
  have hok:=sysGo_ok (LOK_take hlk p.1)
  rw [←hR.2.1] at hok
  have hkl:(l.take p.1).length≤4096:=by rw [List.length_take];omega
  have htl:=hok.len
  have hbl:=hok.bnds
  have hel:p.2.2.2.2.length≤8192:=by rw [hR.2.2,List.length_map];omega
  have hsb:∀c∈p.2.2.2.2,scalars c=true:=by rw [hR.2.2];exact sc_map fun _=>rfl
  have hx:=num_range (ts:=[]) (l:=[]) (n:=0)
  refine Qsr (Qp Qclt (Qnn (AW.seq (Qif (fun hc1=>?_) fun hc1=>?_))))
  ·
   obtain ⟨c,hc⟩:=get_lt hc1
   have hlt:=get_lt' hc
   have hcm:=List.mem_of_getElem? hc
   have hck:=(hlk c hcm).1
   have hcs:=(hlk c hcm).2
   have hgn:=numeric_ok hck hcs
   have hgr:=hgn.rest
   refine Qst (AW.seq (AW.block (Qsr ?_)))
   refine Qp (P_indexAddr (c:=[.int .i64 _,_,.int .i64 _,.int .i64 _,.int .i64 _,.int .i64 _,.int .i64 _,.str _,.bool _]) tok rfl rfl rfl rfl rfl rfl (by omega) (map_at hc)) ?_
   refine Qp (Qlg [.int .i64 _,_,.int .i64 _,.int .i64 _,.int .i64 _,.int .i64 _,.int .i64 _,.str _,.bool _]) ?_
   refine Qe (E_alloc (l:=[.int .i64 0,.sl 8 [],.int .i64 0,.int .i64 0,.int .i64 0,.int .i64 0,.int .i64 0,.str [],.bool false]) (by kernel_rfl)) ?_
   rintro _ _ ⟨b9,rfl,rfl⟩
   refine Qe (E_store (k:=0) (v:=.agg _) (cs':=[.int .i64 _,_,.int .i64 _,.int .i64 _,.int .i64 _,.int .i64 _,.int .i64 _,.str _,.bool _]) (H2:=_::_::_::_::_::_::_) tok rfl rfl rfl rfl (rfl) rfl rfl rfl rfl) ?_
   rintro _ _ ⟨rfl,rfl⟩
   refine AOL.ghost (GS.freeze (t:=9) 0 rfl rfl) ?_
   refine Qns (Qp (Qlg [_,_]) (Qp (Qlg [.int .i64 _,_,.int .i64 _,.int .i64 _,.int .i64 _,.int .i64 _,.int .i64 _,.str _,.bool _]) ?_))
   refine Qp (Qc rfl (d_numeric T V c hck hcs)) ?_
   refine Qp Qmu ?_
   refine Qp (P_extract (v:=.agg [_,_,.int .i64 _]) rfl rfl) ?_
   refine Qp Qxb ?_
   refine Qe (E_alloc (l:=[.sl 3 [],.sl 3 [],.int .i64 0]) (by kernel_rfl)) ?_
   rintro _ _ ⟨b10,rfl,rfl⟩
   refine Qe (E_store (k:=0) (v:=.agg _) (cs':=[_,_,.int .i64 _]) (H2:=_::_::_::_::_::_::_) tok rfl rfl rfl rfl (rfl) rfl rfl rfl rfl) ?_
   rintro _ _ ⟨rfl,rfl⟩
   refine Qp Qab ?_
   refine AOL.ghost (GS.freeze (t:=10) 0 rfl rfl) ?_
   refine Qnn (AW.seq (Qsr (Qp Qmb (Qp Qnt (Qnn (Qif (fun hc2=>?_) fun hc2=>?_))))))
   ·
    refine AW.exit ?_
    refine thenE (blkHit (thenN (AW.region (Qp Qad (Qp Qmi (Qnn ?_))))))
    refine ⟨(p.1+1,p.2),?_,?_,GS.weaken ⟨rfl,rfl,rfl,rfl,rfl,rfl,rfl,trivial⟩ (.refl _)⟩
    · exact ⟨hlt,sys_same hc hR.2.1 hc2,hR.2.2⟩
    · simp only;omega
   ·
    have hnum:=hc2
    refine Qst (Qsr (Qp Qmv (Qp (Qf [_,_,.int .i64 _]) (Qp Qls ?_))))
    refine Qe (E_callf (by kernel_rfl) rfl rfl (ACall.front3 (R:=_::_::_) 4 3 2 rfl rfl rfl rfl (d_unknown b19 b21 _ 0 (.val (.slice none 0 0)) p.2.1.ts (numericS T V c).1.plus _ (by omega)))) ?_
    rintro _ _ ⟨w1,rfl,rfl⟩
    refine Qp Qai (Qns (Qp Qmv (Qp (Qf [_,.int .i64 _]) (Qp Qls ?_))))
    refine Qe (E_callf (by kernel_rfl) rfl rfl (ACall.front3 (R:=_::_::_) 2 1 0 rfl rfl rfl rfl (d_unknown b19 b21 _ 0 (.val (.slice none 0 0)) (addTm p.2.1.ts (numericS T V c).1.plus) (numericS T V c).1.minus _ (by have:=addTm_len p.2.1.ts (numericS T V c).1.plus;omega)))) ?_
    rintro _ _ ⟨w2,rfl,rfl⟩
    refine Qp Qai (Qns (Qp (Qf [.int .i64 _,_,.int .i64 _,.int .i64 _,.int .i64 _,.int .i64 _,.int .i64 _,.str _,.bool _]) (Qp (Qf [.int .i64 _,_,.int .i64 _,.int .i64 _,.int .i64 _,.int .i64 _,.int .i64 _,.str _,.bool _]) (Qp Qli (Qp Qai (Qnn (AW.block (AW.seq (Qsr ?_)))))))))
    refine Qp Qmi (Qp Qceq (Qp Qmb (Qg [] Qw (Qf [.bool _]) (Qg [(65,_)] Qw Qlb (Qp Qpa (Qp Qab (Qnn (Qif (fun hc3=>?_) fun hc3=>?_))))))))
    ·
     refine Qst (Qif (fun hc4=>?_) fun hc4=>?_)
     ·
      refine AW.region ?_
      refine Qp (P_move (v:=.fn _ _ _) rfl) ?_
      refine Qp Qmi (Qp Qmi (Qp (Qf [.int .i64 _]) (Qp Qli ?_)))
      refine Qp (P_neg rfl rfl (by constructor <;> omega)) ?_
      refine Qe (E_call (by kernel_rfl) rfl rfl rfl (ACall.front2 (R:=_::_::_::_) 4 3 rfl rfl rfl (d_add1 b6 _ p.2.2.2.2 _ (numTm (addTm p.2.1.ts (numericS T V c).1.plus) (numericS T V c).1.plus) (numTm (addTm (addTm p.2.1.ts (numericS T V c).1.plus) (numericS T V c).1.minus) (numericS T V c).1.minus) (0-(numericS T V c).1.rest) (Nat.le_trans hel (by decide)) hsb))) ?_
      rintro _ _ ⟨u1,rfl,rfl⟩
      refine AOL.nil (blkN (blkN (thenN (AW.region (Qp Qad (Qp Qmi (Qnn ?_)))))))
      refine ⟨(p.1+1,⟨(addTm (addTm p.2.1.ts (numericS T V c).1.plus) (numericS T V c).1.minus),p.2.1.bs ++ [⟨(numTm (addTm p.2.1.ts (numericS T V c).1.plus) (numericS T V c).1.plus),(numTm (addTm (addTm p.2.1.ts (numericS T V c).1.plus) (numericS T V c).1.minus) (numericS T V c).1.minus),0-(numericS T V c).1.rest⟩]⟩,w2,u1,(p.2.2.2.2 ++ [cBd ⟨(numTm (addTm p.2.1.ts (numericS T V c).1.plus) (numericS T V c).1.plus),(numTm (addTm (addTm p.2.1.ts (numericS T V c).1.plus) (numericS T V c).1.minus) (numericS T V c).1.minus),0-(numericS T V c).1.rest⟩])),?_,?_,GS.weaken ⟨rfl,rfl,rfl,rfl,rfl,rfl,rfl,trivial⟩ (.refl _)⟩
      · exact ⟨hlt,sys_next hc hR.2.1 hnum (bd_1 ‹(c.cond.op==1&&c.neg)=true›),enc_snoc hR.2.2⟩
      · simp only;omega
     ·
      exact absurd (hc4.symm.trans hc3) (by decide)
    ·
     refine AW.region (Qp Qmi (Qp Qceq (Qp Qmb (Qg [] Qw (Qf [.bool _]) (Qg [(71,_)] Qw Qlb (Qg [(72,_)] Qw Qnt (Qp Qpa (Qp Qab (Qnn (Qif (fun hc5=>?_) fun hc5=>?_))))))))))
     ·
      refine AW.region ?_
      refine Qp (P_move (v:=.fn _ _ _) rfl) ?_
      refine Qp Qmi (Qp Qmi (Qp (Qf [.int .i64 _]) (Qp Qli ?_)))
      refine Qp (P_neg rfl rfl (by constructor <;> omega)) ?_
      refine Qe (E_call (by kernel_rfl) rfl rfl rfl (ACall.front2 (R:=_::_::_::_) 4 3 rfl rfl rfl (d_add1 b6 _ p.2.2.2.2 _ (numTm (addTm p.2.1.ts (numericS T V c).1.plus) (numericS T V c).1.plus) (numTm (addTm (addTm p.2.1.ts (numericS T V c).1.plus) (numericS T V c).1.minus) (numericS T V c).1.minus) (0-(numericS T V c).1.rest) (Nat.le_trans hel (by decide)) hsb))) ?_
      rintro _ _ ⟨u1,rfl,rfl⟩
      refine AOL.nil (blkN (blkN (thenN (AW.region (Qp Qad (Qp Qmi (Qnn ?_)))))))
      refine ⟨(p.1+1,⟨(addTm (addTm p.2.1.ts (numericS T V c).1.plus) (numericS T V c).1.minus),p.2.1.bs ++ [⟨(numTm (addTm p.2.1.ts (numericS T V c).1.plus) (numericS T V c).1.plus),(numTm (addTm (addTm p.2.1.ts (numericS T V c).1.plus) (numericS T V c).1.minus) (numericS T V c).1.minus),0-(numericS T V c).1.rest⟩]⟩,w2,u1,(p.2.2.2.2 ++ [cBd ⟨(numTm (addTm p.2.1.ts (numericS T V c).1.plus) (numericS T V c).1.plus),(numTm (addTm (addTm p.2.1.ts (numericS T V c).1.plus) (numericS T V c).1.minus) (numericS T V c).1.minus),0-(numericS T V c).1.rest⟩])),?_,?_,GS.weaken ⟨rfl,rfl,rfl,rfl,rfl,rfl,rfl,trivial⟩ (.refl _)⟩
      · exact ⟨hlt,sys_next hc hR.2.1 hnum (bd_2 ‹(c.cond.op==8 && !c.neg)=true›),enc_snoc hR.2.2⟩
      · simp only;omega
     ·
      refine AW.seq (Qsr (Qp Qmi (Qp Qceq (Qp Qab (Qnn (Qif (fun hc6=>?_) fun hc6=>?_))))))
      ·
       refine Qst (Qif (fun hc7=>?_) fun hc7=>?_)
       ·
        refine AW.region ?_
        refine Qp (P_move (v:=.fn _ _ _) rfl) ?_
        refine Qp Qmi (Qp Qmi (Qp (Qf [.int .i64 _]) (Qp Qli ?_)))
        refine Qp (P_sub rfl rfl rfl (by constructor <;> omega)) ?_
        refine Qe (E_call (by kernel_rfl) rfl rfl rfl (ACall.front2 (R:=_::_::_::_) 4 3 rfl rfl rfl (d_add1 b6 _ p.2.2.2.2 _ (numTm (addTm (addTm p.2.1.ts (numericS T V c).1.plus) (numericS T V c).1.minus) (numericS T V c).1.minus) (numTm (addTm p.2.1.ts (numericS T V c).1.plus) (numericS T V c).1.plus) ((numericS T V c).1.rest-1) (Nat.le_trans hel (by decide)) hsb))) ?_
        rintro _ _ ⟨u1,rfl,rfl⟩
        refine AOL.nil (blkN (blkN (thenN (AW.region (Qp Qad (Qp Qmi (Qnn ?_)))))))
        refine ⟨(p.1+1,⟨(addTm (addTm p.2.1.ts (numericS T V c).1.plus) (numericS T V c).1.minus),p.2.1.bs ++ [⟨(numTm (addTm (addTm p.2.1.ts (numericS T V c).1.plus) (numericS T V c).1.minus) (numericS T V c).1.minus),(numTm (addTm p.2.1.ts (numericS T V c).1.plus) (numericS T V c).1.plus),(numericS T V c).1.rest-1⟩]⟩,w2,u1,(p.2.2.2.2 ++ [cBd ⟨(numTm (addTm (addTm p.2.1.ts (numericS T V c).1.plus) (numericS T V c).1.minus) (numericS T V c).1.minus),(numTm (addTm p.2.1.ts (numericS T V c).1.plus) (numericS T V c).1.plus),(numericS T V c).1.rest-1⟩])),?_,?_,GS.weaken ⟨rfl,rfl,rfl,rfl,rfl,rfl,rfl,trivial⟩ (.refl _)⟩
        · exact ⟨hlt,sys_next hc hR.2.1 hnum (bd_3 ‹(c.cond.op==1&&c.neg)=false› ‹(c.cond.op==8 && !c.neg)=false› ‹(c.cond.op==1)=true›),enc_snoc hR.2.2⟩
        · simp only;omega
       ·
        exact absurd (hc7.symm.trans hc6) (by decide)
      ·
       refine AW.region (Qp Qmi (Qp Qceq (Qp Qab (Qnn (Qif (fun hc8=>?_) fun hc8=>?_)))))
       ·
        refine AW.region ?_
        refine Qp (P_move (v:=.fn _ _ _) rfl) ?_
        refine Qp Qmi (Qp Qmi (Qp (Qf [.int .i64 _]) (Qp Qli ?_)))
        refine Qp (P_sub rfl rfl rfl (by constructor <;> omega)) ?_
        refine Qe (E_call (by kernel_rfl) rfl rfl rfl (ACall.front2 (R:=_::_::_::_) 4 3 rfl rfl rfl (d_add1 b6 _ p.2.2.2.2 _ (numTm (addTm (addTm p.2.1.ts (numericS T V c).1.plus) (numericS T V c).1.minus) (numericS T V c).1.minus) (numTm (addTm p.2.1.ts (numericS T V c).1.plus) (numericS T V c).1.plus) ((numericS T V c).1.rest-1) (Nat.le_trans hel (by decide)) hsb))) ?_
        rintro _ _ ⟨u1,rfl,rfl⟩
        refine AOL.nil (blkN (blkN (thenN (AW.region (Qp Qad (Qp Qmi (Qnn ?_)))))))
        refine ⟨(p.1+1,⟨(addTm (addTm p.2.1.ts (numericS T V c).1.plus) (numericS T V c).1.minus),p.2.1.bs ++ [⟨(numTm (addTm (addTm p.2.1.ts (numericS T V c).1.plus) (numericS T V c).1.minus) (numericS T V c).1.minus),(numTm (addTm p.2.1.ts (numericS T V c).1.plus) (numericS T V c).1.plus),(numericS T V c).1.rest-1⟩]⟩,w2,u1,(p.2.2.2.2 ++ [cBd ⟨(numTm (addTm (addTm p.2.1.ts (numericS T V c).1.plus) (numericS T V c).1.minus) (numericS T V c).1.minus),(numTm (addTm p.2.1.ts (numericS T V c).1.plus) (numericS T V c).1.plus),(numericS T V c).1.rest-1⟩])),?_,?_,GS.weaken ⟨rfl,rfl,rfl,rfl,rfl,rfl,rfl,trivial⟩ (.refl _)⟩
        · exact ⟨hlt,sys_next hc hR.2.1 hnum (bd_4 ‹(c.cond.op==1&&c.neg)=false› ‹(c.cond.op==8 && !c.neg)=false› ‹(c.cond.op==8)=true›),enc_snoc hR.2.2⟩
        · simp only;omega
       ·
        refine Qsr (Qp Qmi (Qp Qceq (Qp Qmb (Qg [] Qw (Qf [.bool _]) (Qg [(98,_)] Qw Qlb (Qg [(99,_)] Qw Qnt (Qp Qpa (Qp Qab (Qnn (Qif (fun hc9=>?_) fun hc9=>?_))))))))))
        ·
         refine AW.region ?_
         refine Qp (P_move (v:=.fn _ _ _) rfl) ?_
         refine Qp Qmi (Qp Qmi (Qp (Qf [.int .i64 _]) (Qp Qli ?_)))
         refine Qp (P_neg rfl rfl (by constructor <;> omega)) ?_
         refine Qp (P_sub rfl rfl rfl (by constructor <;> omega)) ?_
         refine Qe (E_call (by kernel_rfl) rfl rfl rfl (ACall.front2 (R:=_::_::_::_) 4 3 rfl rfl rfl (d_add1 b6 _ p.2.2.2.2 _ (numTm (addTm p.2.1.ts (numericS T V c).1.plus) (numericS T V c).1.plus) (numTm (addTm (addTm p.2.1.ts (numericS T V c).1.plus) (numericS T V c).1.minus) (numericS T V c).1.minus) (0-(numericS T V c).1.rest-1) (Nat.le_trans hel (by decide)) hsb))) ?_
         rintro _ _ ⟨u1,rfl,rfl⟩
         refine AOL.nil (blkN (blkN (thenN (AW.region (Qp Qad (Qp Qmi (Qnn ?_)))))))
         refine ⟨(p.1+1,⟨(addTm (addTm p.2.1.ts (numericS T V c).1.plus) (numericS T V c).1.minus),p.2.1.bs ++ [⟨(numTm (addTm p.2.1.ts (numericS T V c).1.plus) (numericS T V c).1.plus),(numTm (addTm (addTm p.2.1.ts (numericS T V c).1.plus) (numericS T V c).1.minus) (numericS T V c).1.minus),0-(numericS T V c).1.rest-1⟩]⟩,w2,u1,(p.2.2.2.2 ++ [cBd ⟨(numTm (addTm p.2.1.ts (numericS T V c).1.plus) (numericS T V c).1.plus),(numTm (addTm (addTm p.2.1.ts (numericS T V c).1.plus) (numericS T V c).1.minus) (numericS T V c).1.minus),0-(numericS T V c).1.rest-1⟩])),?_,?_,GS.weaken ⟨rfl,rfl,rfl,rfl,rfl,rfl,rfl,trivial⟩ (.refl _)⟩
         · exact ⟨hlt,sys_next hc hR.2.1 hnum (bd_5 ‹(c.cond.op==1&&c.neg)=false› ‹(c.cond.op==8 && !c.neg)=false› ‹(c.cond.op==1)=false› ‹(c.cond.op==8)=false› ‹(c.cond.op==7 && !c.neg)=true›),enc_snoc hR.2.2⟩
         · simp only;omega
        ·
         refine Qsr (Qp Qmi (Qp Qceq (Qp Qab (Qnn (Qif (fun hc10=>?_) fun hc10=>?_)))))
         ·
          refine AW.region ?_
          refine Qp (P_move (v:=.fn _ _ _) rfl) ?_
          refine Qp Qmi (Qp Qmi (Qp (Qf [.int .i64 _]) (Qp Qli ?_)))
          refine Qe (E_call (by kernel_rfl) rfl rfl rfl (ACall.front2 (R:=_::_::_::_) 4 3 rfl rfl rfl (d_add1 b6 _ p.2.2.2.2 _ (numTm (addTm (addTm p.2.1.ts (numericS T V c).1.plus) (numericS T V c).1.minus) (numericS T V c).1.minus) (numTm (addTm p.2.1.ts (numericS T V c).1.plus) (numericS T V c).1.plus) ((numericS T V c).1.rest) (Nat.le_trans hel (by decide)) hsb))) ?_
          rintro _ _ ⟨u1,rfl,rfl⟩
          refine AOL.nil (blkN (blkN (thenN (AW.region (Qp Qad (Qp Qmi (Qnn ?_)))))))
          refine ⟨(p.1+1,⟨(addTm (addTm p.2.1.ts (numericS T V c).1.plus) (numericS T V c).1.minus),p.2.1.bs ++ [⟨(numTm (addTm (addTm p.2.1.ts (numericS T V c).1.plus) (numericS T V c).1.minus) (numericS T V c).1.minus),(numTm (addTm p.2.1.ts (numericS T V c).1.plus) (numericS T V c).1.plus),(numericS T V c).1.rest⟩]⟩,w2,u1,(p.2.2.2.2 ++ [cBd ⟨(numTm (addTm (addTm p.2.1.ts (numericS T V c).1.plus) (numericS T V c).1.minus) (numericS T V c).1.minus),(numTm (addTm p.2.1.ts (numericS T V c).1.plus) (numericS T V c).1.plus),(numericS T V c).1.rest⟩])),?_,?_,GS.weaken ⟨rfl,rfl,rfl,rfl,rfl,rfl,rfl,trivial⟩ (.refl _)⟩
          · exact ⟨hlt,sys_next hc hR.2.1 hnum (bd_6 ‹(c.cond.op==1&&c.neg)=false› ‹(c.cond.op==8 && !c.neg)=false› ‹(c.cond.op==1)=false› ‹(c.cond.op==8)=false› ‹(c.cond.op==7 && !c.neg)=false› ‹(c.cond.op==7)=true›),enc_snoc hR.2.2⟩
          · simp only;omega
         ·
          refine Qsr ?_
          refine Qp (P_move (v:=.fn _ _ _) rfl) ?_
          refine Qp Qmi (Qp Qmi (Qp (Qf [.int .i64 _]) (Qp Qli ?_)))
          refine Qp (P_neg rfl rfl (by constructor <;> omega)) ?_
          refine Qe (E_call (by kernel_rfl) rfl rfl rfl (ACall.front2 (R:=_::_::_::_) 4 3 rfl rfl rfl (d_add1 b6 _ p.2.2.2.2 _ (numTm (addTm p.2.1.ts (numericS T V c).1.plus) (numericS T V c).1.plus) (numTm (addTm (addTm p.2.1.ts (numericS T V c).1.plus) (numericS T V c).1.minus) (numericS T V c).1.minus) (0-(numericS T V c).1.rest) (Nat.le_trans hel (by decide)) hsb))) ?_
          rintro _ _ ⟨u1,rfl,rfl⟩
          refine Qnn (AW.region ?_)
          refine Qp (P_move (v:=.fn _ _ _) rfl) ?_
          refine Qp Qmi (Qp Qmi (Qp (Qf [.int .i64 _]) (Qp Qli ?_)))
          refine Qe (E_call (by kernel_rfl) rfl rfl rfl (ACall.front2 (R:=_::_::_::_) 1 0 rfl rfl rfl (d_add1 b6 _ (p.2.2.2.2 ++ [cBd ⟨(numTm (addTm p.2.1.ts (numericS T V c).1.plus) (numericS T V c).1.plus),(numTm (addTm (addTm p.2.1.ts (numericS T V c).1.plus) (numericS T V c).1.minus) (numericS T V c).1.minus),0-(numericS T V c).1.rest⟩]) _ (numTm (addTm (addTm p.2.1.ts (numericS T V c).1.plus) (numericS T V c).1.minus) (numericS T V c).1.minus) (numTm (addTm p.2.1.ts (numericS T V c).1.plus) (numericS T V c).1.plus) ((numericS T V c).1.rest) (by rw [List.length_append];simp;omega) (fun d hd=>(List.mem_append.1 hd).elim (hsb d) (sc_one rfl d))))) ?_
          rintro _ _ ⟨u2,rfl,rfl⟩
          refine AOL.nil (blkN (blkN (thenN (AW.region (Qp Qad (Qp Qmi (Qnn ?_)))))))
          refine ⟨(p.1+1,⟨(addTm (addTm p.2.1.ts (numericS T V c).1.plus) (numericS T V c).1.minus),p.2.1.bs ++ [⟨(numTm (addTm p.2.1.ts (numericS T V c).1.plus) (numericS T V c).1.plus),(numTm (addTm (addTm p.2.1.ts (numericS T V c).1.plus) (numericS T V c).1.minus) (numericS T V c).1.minus),0-(numericS T V c).1.rest⟩,⟨(numTm (addTm (addTm p.2.1.ts (numericS T V c).1.plus) (numericS T V c).1.minus) (numericS T V c).1.minus),(numTm (addTm p.2.1.ts (numericS T V c).1.plus) (numericS T V c).1.plus),(numericS T V c).1.rest⟩]⟩,w2,u2,((p.2.2.2.2 ++ [cBd ⟨(numTm (addTm p.2.1.ts (numericS T V c).1.plus) (numericS T V c).1.plus),(numTm (addTm (addTm p.2.1.ts (numericS T V c).1.plus) (numericS T V c).1.minus) (numericS T V c).1.minus),0-(numericS T V c).1.rest⟩]) ++ [cBd ⟨(numTm (addTm (addTm p.2.1.ts (numericS T V c).1.plus) (numericS T V c).1.minus) (numericS T V c).1.minus),(numTm (addTm p.2.1.ts (numericS T V c).1.plus) (numericS T V c).1.plus),(numericS T V c).1.rest⟩])),?_,?_,GS.weaken ⟨rfl,rfl,rfl,rfl,rfl,rfl,rfl,trivial⟩ (.refl _)⟩
          · exact ⟨hlt,sys_next hc hR.2.1 hnum (bd_7 ‹(c.cond.op==1&&c.neg)=false› ‹(c.cond.op==8 && !c.neg)=false› ‹(c.cond.op==1)=false› ‹(c.cond.op==8)=false› ‹(c.cond.op==7 && !c.neg)=false› ‹(c.cond.op==7)=false›),enc_snoc2 hR.2.2⟩
          · simp only;omega
  ·
   have hte:=take_end hc1
   have hS:=hR.2.1
   rw [hte] at hS
   have hpt:=hgo.terms
   rw [←hS] at hpt hgl
   refine AW.exit ?_
   refine thenE (thenE (blkHit (thenN (Qsr (Qp Qmv (Qp Qmv ?_))))))
   refine Qp (P_nilCheck rfl) ?_
   refine Qp Qfv ?_
   refine AOL.pk (P_load_box (k:=3) (c:=.row _ _ _) tok rfl rfl rfl rfl) rfl rfl ?_
   refine Qp (P_len_row (n:=p.2.1.ts.length) tok rfl rfl rfl (by simp)) ?_
   refine Qp Qad ?_
   refine Qp (P_nilCheck rfl) ?_
   refine Qp Qfv (Qp Qfv ?_)
   refine Qe (E_store (k:=3) (v:=.int .i64 _) (cs':=[.int .i64 _,_,_,_]) (H2:=_::_::_::_::_::_) tok rfl rfl rfl rfl (rfl) rfl rfl rfl rfl) ?_
   rintro _ _ ⟨rfl,rfl⟩
   refine Qnn (AW.seq (Qsr (Qp Qmv ?_)))
   refine Qp (P_nilCheck rfl) ?_
   refine Qp Qfv ?_
   refine AOL.pk (P_load_box (k:=3) (c:=.row _ _ _) tok rfl rfl rfl rfl) rfl rfl ?_
   refine Qp (P_len_row (n:=p.2.1.ts.length) tok rfl rfl rfl (by simp)) ?_
   refine Qp Qmi ?_
   refine AOL.ghost (GS.cellRow 3 1 94 3 rfl rfl rfl rfl) ?_
   refine Qnn (AW.block ?_)
   refine AW.loopS (fun (q:Nat×Value×List (List AV))=>(⟨[(2,.ptr (cScene T V)),(5,.val (.pointer (some ⟨b21,0,none⟩))),(6,.val (.pointer (some ⟨b6,0,none⟩))),(133,.row p.2.2.1 3 (p.2.1.ts.map cTm)),(134,.int .i64 p.2.1.ts.length),(135,.int .i64 (q.1:Int))],.row q.2.1 q.2.2.length 94 3 :: .row p.2.2.2.1 p.2.2.2.2.length 94 3 :: .box b6 88 [.row p.2.2.2.1 3 p.2.2.2.2] :: .row p.2.2.1 (p.2.1.ts.map cTm).length 143 3 :: .box b21 141 [.int .i64 ((p.2.1.ts.length:Int)+1),.row q.2.1 3 q.2.2,.row p.2.2.1 3 (p.2.1.ts.map cTm),.val (.map (some b19))] :: .kmap b19 (yMap p.2.1.ts)::H,179⟩:St)) (fun (q:Nat×Value×List (List AV))=>q.1≤p.2.1.ts.length∧q.2.2=(limGo T V 0 (p.2.1.ts.take q.1)).map cBd) (fun (q:Nat×Value×List (List AV))=>p.2.1.ts.length-q.1) ((0,.slice none 0 0,[])) ?_ (GS.weaken ⟨rfl,rfl,rfl,rfl,rfl,rfl,trivial⟩ (.refl _)) ?_
   · exact ⟨Nat.zero_le _,rfl⟩
   ·
    rintro q hQ
    have hsz:∀c∈q.2.2,scalars c=true:=by rw [hQ.2];exact sc_map fun _=>rfl
    have hzl:q.2.2.length≤2*p.2.1.ts.length:=by rw [hQ.2,List.length_map,lim_len,List.length_take];omega
    refine Qsr (Qp Qclt (Qnn (AW.seq (Qif (fun hc11=>?_) fun hc11=>?_))))
    ·
     obtain ⟨t,ht⟩:=get_lt hc11
     have hlt2:=get_lt' ht
     have htm:=List.mem_of_getElem? ht
     refine Qst (AW.seq (AW.block (Qsr (Qp Qmi ?_))))
     refine Qp (P_indexAddr_row (c:=[.int .i64 _,.int .i64 _,.int .i64 _]) tok rfl rfl rfl rfl rfl rfl (by omega) (map_at ht)) ?_
     refine Qp (Qlg [.int .i64 _,.int .i64 _,.int .i64 _]) ?_
     refine Qe (E_alloc (l:=[.int .i64 0,.int .i64 0,.int .i64 0]) (by kernel_rfl)) ?_
     rintro _ _ ⟨b16,rfl,rfl⟩
     refine Qp Qai ?_
     refine Qe (E_store (k:=0) (v:=.agg _) (cs':=[.int .i64 _,.int .i64 _,.int .i64 _]) (H2:=_::_::_::_::_::_::_::_) tok rfl rfl rfl rfl (rfl) rfl rfl rfl rfl) ?_
     rintro _ _ ⟨rfl,rfl⟩
     refine AOL.ghost (GS.freeze (t:=16) 0 rfl rfl) ?_
     refine Qns (Qp (Qlg [_,_]) (Qp (Qlg [.int .i64 _,.int .i64 _,.int .i64 _]) ?_))
     refine Qp (Qc rfl (d_limits T V t (hpt t htm))) ?_
     refine Qp Qmu (Qp Qxi (Qp Qxi (Qp Qai (Qp Qai (Qnn ?_)))))
     have hlr:=limits_range (T:=T) (V:=V) t
     refine AW.region (Qp Qmv (Qp Qmv ?_))
     refine Qp (P_nilCheck rfl) ?_
     refine Qp Qfv (Qp Qfv ?_)
     refine AOL.pk (P_load_box (k:=4) (c:=.row _ _ _) tok rfl rfl rfl rfl) rfl rfl ?_
     refine Qp Qmi (Qp Qad (Qp Qmi (Qp (Qbd [.int .i64 _,.int .i64 _,.int .i64 _]) (Qp Qmi (Qp Qad (Qp Qmi ?_))))))
     refine Qp (P_neg rfl rfl (by constructor <;> omega)) ?_
     refine Qp (Qbd [.int .i64 _,.int .i64 _,.int .i64 _]) ?_
     refine Qp (P_buildSlice (es:=[[.int .i64 _,.int .i64 _,.int .i64 _],[.int .i64 _,.int .i64 _,.int .i64 _]]) tok rfl rfl rfl rfl rfl rfl rfl rfl rfl) ?_
     refine Qe (E_append (k:=0) tok rfl rfl rfl rfl rfl rfl rfl rfl ((sc_two rfl rfl)) (hsz) (by simp;omega) (by simp [maxLen];omega)) ?_
     rintro _ _ ⟨v162,rfl,rfl⟩
     refine Qp (P_nilCheck rfl) ?_
     refine Qp Qfv (Qp Qfv ?_)
     refine Qe (E_store (k:=4) (v:=.row _ _ _) (cs':=[.int .i64 _,_,_,_]) (H2:=_::_::_::_::_::_::_) tok rfl rfl rfl rfl (rfl) rfl rfl rfl rfl) ?_
     rintro _ _ ⟨rfl,rfl⟩
     refine AOL.nil (blkN (thenN (AW.region (Qp Qad (Qp Qmi (Qnn ?_))))))
     refine ⟨(q.1+1,v162,q.2.2 ++ [cBd ⟨(q.1:Int)+1,0,(limitsS T V t).2⟩,cBd ⟨0,(q.1:Int)+1,0-(limitsS T V t).1⟩]),?_,?_,GS.weaken ⟨rfl,rfl,rfl,rfl,rfl,rfl,trivial⟩ (.refl _)⟩
     · exact ⟨hlt2,by simp only;rw [lim_take ht,List.map_append,hQ.2];rfl⟩
     · simp only;omega
    ·
     have hte2:=take_end hc11
     have hQe:=hQ.2
     rw [hte2] at hQe
     refine AW.exit ?_
     refine thenE (thenE (blkHit (thenN (AW.seq ?_))))
     refine AW.ghost (GS.cell (H2:=_::_::_::_::_::_::_) 2 0 rfl rfl rfl rfl unrow_cell) ?_
     have hsz:∀c∈q.2.2,scalars c=true:=by rw [hQ.2];exact sc_map fun _=>rfl
     have hzl:q.2.2.length≤2*p.2.1.ts.length:=by rw [hQ.2,List.length_map,lim_len,List.length_take];omega
     refine AW.draw mixed (fun H'=>_∈H'∧_∈H') ⟨(List.mem_of_getElem? (i:=4) rfl),(List.mem_of_getElem? (i:=2) rfl)⟩ (by kernel_rfl) ?_
     refine Qn 0 rfl Qmv (Qn 1 rfl Qmv ?_)
     refine Qn 2 rfl (P_nilCheck rfl) ?_
     refine Qn 3 rfl Qfv (Qn 4 rfl Qfv ?_)
     refine Qn 5 rfl (OpP.mem (fun k=>P_load_box (k:=k) (c:=.row _ _ _) tok rfl rfl rfl rfl) (fun _ h=>h.1)) ?_
     refine Qn 6 rfl (OpP.mem (fun k=>P_load_box (k:=k) (c:=.sl _ _) tok rfl rfl rfl rfl) (fun _ h=>h.2)) ?_
     refine Canon.eff _ _ 7 _ _ rfl (by kernel_rfl) rfl rfl (E_append (k:=0) tok rfl rfl rfl rfl rfl rfl rfl rfl (hsb) (hsz) (by simp;omega) (by simp [maxLen];omega)) (by rintro _ _ ⟨v174,rfl,rfl⟩;simp) ?_
     rintro _ _ ⟨v174,rfl,rfl⟩
     refine Qn 8 rfl (P_nilCheck rfl) ?_
     refine Qn 9 rfl Qfv (Qn 10 rfl Qfv ?_)
     refine Canon.last _ _ 11 _ _ rfl (by kernel_rfl) rfl rfl (E_store (k:=4) (v:=.row _ _ _) (cs':=[.int .i64 _,_,_,_]) (H2:=_::_::_::_::_::_::_) tok rfl rfl rfl rfl (rfl) rfl rfl rfl rfl) (by kernel_rfl) ?_
     rintro _ _ ⟨rfl,rfl⟩
     refine thenN (AW.seq ?_)
     refine AW.ghost (GS.cell (H2:=_::_::_::_::_::_::_) 4 1 rfl rfl rfl rfl unrow_cell) ?_
     refine AW.ghost (GS.cell (H2:=_::_::_::_::_::_::_) 4 2 rfl rfl rfl rfl unrow_cell) ?_
     refine AW.ghost (GS.cell (H2:=_::_::_::_::_::_::_) (c':=.junk) 4 3 rfl rfl rfl rfl (fun _ _ _ _=>.junk _)) ?_
     refine AW.ghost (GS.freeze (t:=5) 4 rfl rfl) ?_
     refine AW.region (Qp Qmp (Qp Qap (Qnn (AW.ret ?_))))
     refine ⟨.inr rfl,[.ptr _],.cons (.tmp _ _ rfl) <| .nil,.cons _ (.cons _ (.cons _ (.cons _ (.cons _ (.refl _))))),?_⟩
     exact Eq.trans rfl (cSy_eq hS hQe hR.2.2)
theorem d_Zone (T:List Sc)(hl:T.length≤1048576)(hst:∀s∈T,scOK s)(V:List Va)(hvl:V.length≤1048576)(l:List Lit)(hll:l.length≤1048576)(hls:∀c∈l,sizeN c.cond≤1048576):APure Tryz.prog 43 [.sl 2 (T.map cSc),.sl 2 (V.map cVa),.sl 9 (l.map cLit)] (.tuple [.agg (cZn (ZoneS T V l).zone),.sl 8 ((ZoneS T V l).terms.map encE),.int .i64 (ZoneS T V l).err]):=by
 refine APure.body (n:=52) tok Tryz.func43 rfl rfl rfl fun H=>?_
 refine Qsr ?_
 refine Qe (E_alloc (l:=[.int .i64 0,.sl 3 []]) (by kernel_rfl)) ?_
 rintro _ _ ⟨b6,rfl,rfl⟩
 refine Qp (P_assign_nil (z:=8) rfl) ?_
 refine Qp Qai (Qns (Qp Qms (Qp Qms (Qp (Qbd [_,_]) ?_))))
 refine Qe (E_alloc (l:=[.sl 2 [],.sl 2 []]) (by kernel_rfl)) ?_
 rintro _ _ ⟨b9,rfl,rfl⟩
 refine Qe (E_store (k:=0) (v:=.agg _) (cs':=[_,_]) (H2:=_::_::_) tok rfl rfl rfl rfl (rfl) rfl rfl rfl rfl) ?_
 rintro _ _ ⟨rfl,rfl⟩
 refine AOL.ghost (GS.freeze (t:=9) 0 rfl rfl) ?_
 refine Qnn (AW.seq (Qsr (Qp (Qlg [_,_]) (Qp Qms ?_))))
 refine Qp (Qc rfl (d_clause T hl hst V hvl l hll hls)) ?_
 refine Qp Qai (Qns (Qp Qmi (Qp Qcne (Qnn (Qif (fun hc1=>?_) fun hc1=>?_)))))
 ·
  refine Qsr (Qp (Qbd [.int .i64 _,_]) (Qp Qmi ?_))
  refine Qe (E_store (k:=0) (v:=.agg _) (cs':=[.int .i64 _,_]) (H2:=_::_) tok rfl rfl rfl rfl (rfl) rfl rfl rfl rfl) ?_
  rintro _ _ ⟨rfl,rfl⟩
  refine Qp (P_assign_nil (z:=8) rfl) ?_
  refine Qp Qai (Qnn (Qrt ?_))
  refine ⟨.inr rfl,[.agg [.int .i64 _,_],.sl _ _,.int .i64 _],.cons (.box _ _ _ 0 _ _ _ _ rfl rfl rfl rfl rfl rfl) <| .cons (.tmp _ _ rfl) <| .cons (.tmp _ _ rfl) <| .nil,.cons _ (.refl _),?_⟩
  exact Eq.trans rfl (congrArg (fun q:Zr=>AV.tuple [.agg (cZn q.zone),.sl 8 (q.terms.map encE),.int .i64 q.err]) (Zone_1 hc1)).symm
 ·
  have hok:=clause_ok hc1
  have hgl:=(sysGo_ok hok.1).len
  have hol:=hok.2
  refine Qst (Qsr (Qp (Qlg [_,_]) (Qp Qms ?_)))
  refine Qp (Qc rfl (d_system T V l (Nat.le_trans hok.2 (by decide)) hok.1)) ?_
  refine Qp Qap (Qnn (AW.seq (Qsr (Qp Qmp ?_))))
  refine Qp (Qc rfl (d_fits T V l)) ?_
  refine Qp Qnt (Qnn (Qif (fun hc2=>?_) fun hc2=>?_))
  ·
   refine Qsr (Qp (Qbd [.int .i64 _,_]) ?_)
   refine Qe (E_store (k:=0) (v:=.agg _) (cs':=[.int .i64 _,_]) (H2:=_::_) tok rfl rfl rfl rfl (rfl) rfl rfl rfl rfl) ?_
   rintro _ _ ⟨rfl,rfl⟩
   refine Qp (P_assign_nil (z:=8) rfl) ?_
   refine Qp Qai (Qnn (Qrt ?_))
   refine ⟨.inr rfl,[.agg [.int .i64 _,_],.sl _ _,.int .i64 _],.cons (.box _ _ _ 0 _ _ _ _ rfl rfl rfl rfl rfl rfl) <| .cons (.tmp _ _ rfl) <| .cons (.tmp _ _ rfl) <| .nil,.cons _ (.refl _),?_⟩
   exact Eq.trans rfl (congrArg (fun q:Zr=>AV.tuple [.agg (cZn q.zone),.sl 8 (q.terms.map encE),.int .i64 q.err]) (Zone_2 hc1 hc2)).symm
  ·
   refine Qst (Qsr (Qp Qav ?_))
   refine AOL.ghost (GS.row (t:=12) 30 8 rfl) ?_
   refine Qnn (AW.seq (Qsr (Qp Qmp ?_)))
   refine Qp (P_nilCheck_ptr rfl) ?_
   refine Qp (Qf [_,_]) (Qp Qls ?_)
   refine Qp (P_len_sl (n:=(sysGo T V l).ts.length) tok rfl rfl rfl (by simp)) ?_
   refine Qp Qmi (Qnn (AW.block ?_))
   refine AW.loopS (fun (p:Nat×List (List AV)×Value)=>(⟨[(6,.val (.pointer (some ⟨b6,0,none⟩))),(11,.ptr (cSy T V l)),(12,.row p.2.2 8 p.2.1),(35,.sl 3 ((sysGo T V l).ts.map cTm)),(36,.int .i64 (sysGo T V l).ts.length),(37,.int .i64 (p.1:Int))],.row p.2.2 p.2.1.length 30 8 :: .box b6 90 [.int .i64 0,.sl 3 []]::H,52⟩:St)) (fun (p:Nat×List (List AV)×Value)=>p.1≤(sysGo T V l).ts.length∧p.2.1=((sysGo T V l).ts.take p.1).map fun t=>cE (tmE t)) (fun (p:Nat×List (List AV)×Value)=>(sysGo T V l).ts.length-p.1) ((0,[],.slice none 0 0)) ?_ (GS.weaken ⟨rfl,rfl,rfl,rfl,rfl,rfl,trivial⟩ (.refl _)) ?_
   · exact ⟨Nat.zero_le _,rfl⟩
   ·
    rintro p hR
    have hsc:∀c∈p.2.1,scalars c=true:=by rw [hR.2];exact sc_map fun _=>rfl
    have hpl:p.2.1.length≤p.1:=by rw [hR.2];simp;omega
    refine Qsr (Qp Qclt (Qnn (AW.seq (Qif (fun hc3=>?_) fun hc3=>?_))))
    ·
     obtain ⟨t,ht⟩:=get_lt hc3
     have hlt:=get_lt' ht
     refine Qst (AW.seq (AW.block (Qsr ?_)))
     refine Qp (P_indexAddr (c:=[.int .i64 _,.int .i64 _,.int .i64 _]) tok rfl rfl rfl rfl rfl rfl (by omega) (map_at ht)) ?_
     refine Qp (Qlg [.int .i64 _,.int .i64 _,.int .i64 _]) ?_
     refine Qe (E_alloc (l:=[.int .i64 0,.int .i64 0,.int .i64 0]) (by kernel_rfl)) ?_
     rintro _ _ ⟨b14,rfl,rfl⟩
     refine Qe (E_store (k:=0) (v:=.agg _) (cs':=[.int .i64 _,.int .i64 _,.int .i64 _]) (H2:=_::_::_::_) tok rfl rfl rfl rfl (rfl) rfl rfl rfl rfl) ?_
     rintro _ _ ⟨rfl,rfl⟩
     refine AOL.ghost (GS.freeze (t:=14) 0 rfl rfl) ?_
     refine Qnn (AW.region ?_)
     refine Qp (P_move (v:=.row _ _ _) rfl) ?_
     refine Qp (Qlg [.int .i64 _,.int .i64 _,.int .i64 _]) ?_
     refine Qp (Qc rfl (d_expr t)) ?_
     refine Qp (P_buildSlice (es:=[[.int .i64 _,_,.int .i64 _,.int .i64 _,.int .i64 _,.int .i64 _,.int .i64 _,.str _]]) tok rfl rfl rfl rfl rfl rfl rfl rfl rfl) ?_
     refine Qe (E_append (k:=0) tok rfl rfl rfl rfl rfl rfl rfl rfl (sc_one rfl) (hsc) (by simp;omega) (by simp [maxLen];omega)) ?_
     rintro _ _ ⟨v45,rfl,rfl⟩
     refine Qp (P_assign (v:=.row _ _ _) rfl) ?_
     refine AOL.nil (blkN (thenN (AW.region (Qp Qad (Qp Qmi (Qnn ?_))))))
     refine ⟨(p.1+1,p.2.1 ++ [cE (tmE t)],v45),?_,?_,GS.weaken ⟨rfl,rfl,rfl,rfl,rfl,rfl,trivial⟩ (.refl _)⟩
     · exact ⟨hlt,by simp only;rw [take_get ht,hR.2,List.map_append];rfl⟩
     · simp only;omega
    ·
     have hte:=take_end hc3
     have hall:=hR.2
     rw [hte] at hall
     refine AW.exit ?_
     refine thenE (thenE (blkHit (thenN (Qsr (Qp Qmp ?_)))))
     refine Qp (P_nilCheck_ptr rfl) ?_
     refine Qp (Qf [.int .i64 _,_,_,_]) (Qp (Qlg [.int .i64 _,_]) ?_)
     refine Qp (P_move (v:=.row _ _ _) rfl) ?_
     refine Qe (E_store (k:=1) (v:=.agg _) (cs':=[.int .i64 _,_]) (H2:=_::_::_) tok rfl rfl rfl rfl (rfl) rfl rfl rfl rfl) ?_
     rintro _ _ ⟨rfl,rfl⟩
     refine AOL.ghost (GS.unrow 51 rfl) ?_
     refine Qp Qas (Qp Qai (Qnn (AW.ret ?_)))
     refine ⟨.inr rfl,[.agg [.int .i64 _,_],.sl _ _,.int .i64 _],.cons (.box _ _ _ 1 _ _ _ _ rfl rfl rfl rfl rfl rfl) <| .cons (.tmp _ _ rfl) <| .cons (.tmp _ _ rfl) <| .nil,.cons _ (.cons _ (.refl _)),?_⟩
     rw [hall,show ((sysGo T V l).ts.map fun t=>cE (tmE t))=((sysGo T V l).ts.map tmE).map encE by rw [List.map_map];exact List.map_congr_left fun t _=>(encE_eq _).symm]
     exact Eq.trans rfl (congrArg (fun q:Zr=>AV.tuple [.agg (cZn q.zone),.sl 8 (q.terms.map encE),.int .i64 q.err]) (Zone_3 hc1 hc2)).symm

end Go.Proofs.YtkddpedfbicbeaaGreatDoor
