/-
  Several texts in one: Y3, Y4, Y5, Y5b, Y5c, Y5d, Y6. No condition.
-/
import Derived.Test.YtkddpedfbicbeaaGreatDoorK01
import Derived.Test.YtkddpedfbicbeaaGreatDoorK08
import Derived.KernelRfl
import Derived.Test.YtkddpedfbicbeaaGreatDoorK09
set_option linter.unusedVariables false
set_option linter.unusedSimpArgs false
namespace Go.Proofs.YtkddpedfbicbeaaGreatDoor
open Go Go.Aw
set_option maxHeartbeats 1600000
set_option maxRecDepth 20000

theorem d_kind (T:List Sc)(V:List Va)(e:Ex)(hk:KOK T V e):APure Tryz.prog 89 [.agg (cScene T V),.agg (cE e)] (.int .i64 (kindR T V e)):=by
 refine APure.body (n:=37) tok Tryz.func89 rfl rfl rfl fun H=>?_
 refine Qsr (Qp (Qbx [_,_]) (Qp Qbe (Qp Qai (Qnn (AW.seq (Qsr (Qp Qf0 (Qp Qli (Qnn ?_)))))))))
 refine AW.block (AW.seq (Qsr (Qp Qceq (Qp Qab (Qnn (Qif (fun hc1=>?_) fun hc1=>?_))))))
 ·
  refine Qst (Qif (fun hc2=>?_) fun hc2=>?_)
  ·
   refine Qsr (Qp Qf5 (Qp Qf5 (Qp Qli (Qp Qai (Qnn (AW.ret (blkR (thenR ?_))))))))
   refine Qr (.int .i64 _) ?_
   first
    | exact Eq.trans rfl (congrArg (fun q:Int=>AV.int .i64 q) hfk).symm
    | (exfalso;simp_all;done)
    | (simp_all [resOf,kindR];done)
  ·
   refine Qsr (Qp Qceq (Qp Qab (Qnn (Qif (fun hc3=>?_) fun hc3=>?_))))
   ·
    refine AW.seq ?_
    refine (kok_at hk (eq_of_beq ‹(e.op==1)=true›)).elim fun v hv=>?_
    refine hv.elim fun s hv=>?_
    refine hv.elim fun f hv=>?_
    have hv0:=hv.1
    have hv1:=hv.2.1
    have ht0:=hv.2.2.1
    have ht1:=hv.2.2.2.1
    have hf0:=hv.2.2.2.2.1
    have hf1:=hv.2.2.2.2.2.1
    have hfk:=hv.2.2.2.2.2.2
    refine AW.draw mixed (fun _=>True) trivial (by kernel_rfl) ?_
    refine Qn 0 rfl (Qf [_,_]) (Qn 1 rfl Qls (Qn 2 rfl (Qf [_]) (Qn 3 rfl Qls (Qn 4 rfl Qf2 (Qn 5 rfl Qli ?_)))))
    refine Qn 6 rfl (P_indexAddr (c:=[.str _,.int .i64 _]) tok rfl rfl rfl rfl rfl rfl (hv0) (map_at hv1)) ?_
    refine Qn 7 rfl (Qf [.int .i64 _]) (Qn 8 rfl Qli ?_)
    refine Qn 9 rfl (P_indexAddr (c:=[.str _,_]) tok rfl rfl rfl rfl rfl rfl (ht0) (map_at ht1)) ?_
    refine Qn 10 rfl (Qf [_]) (Qn 11 rfl Qls (Qn 12 rfl Qf3 (Qn 13 rfl Qli ?_)))
    refine Qn 14 rfl (P_indexAddr (c:=[.str _,.int .i64 _]) tok rfl rfl rfl rfl rfl rfl (hf0) (map_at hf1)) ?_
    refine Qn 15 rfl (Qf [.int .i64 _]) (Qn 16 rfl Qli (Qn 17 rfl Qai ?_))
    refine Canon.done _ _ (by kernel_rfl) ?_
    refine thenN (AW.ret (blkR (thenR ?_)))
    refine Qr (.int .i64 _) ?_
    first
     | exact Eq.trans rfl (congrArg (fun q:Int=>AV.int .i64 q) hfk).symm
     | (exfalso;simp_all;done)
     | (simp_all [resOf,kindR];done)
   ·
    refine AW.seq (Qsr (Qp Qceq (Qp Qab (Qnn (Qif (fun hc4=>?_) fun hc4=>?_)))))
    ·
     refine Qst (Qif (fun hc5=>?_) fun hc5=>?_)
     ·
      refine Qsr (Qp Qai (Qnn (AW.ret (blkR (thenR ?_)))))
      refine Qr (.int .i64 _) ?_
      first
       | exact Eq.trans rfl (congrArg (fun q:Int=>AV.int .i64 q) hfk).symm
       | (exfalso;simp_all;done)
       | (simp_all [resOf,kindR];done)
     ·
      refine AW.skip (blkN (thenN (Qsr (Qp Qai (Qnn (AW.ret ?_))))))
      refine Qr (.int .i64 _) ?_
      first
       | exact Eq.trans rfl (congrArg (fun q:Int=>AV.int .i64 q) hfk).symm
       | (exfalso;simp_all;done)
       | (simp_all [resOf,kindR];done)
    ·
     refine Qsr (Qp Qceq (Qp Qab (Qnn (Qif (fun hc6=>?_) fun hc6=>?_))))
     ·
      refine Qst (Qif (fun hc7=>?_) fun hc7=>?_)
      ·
       refine Qsr (Qp Qai (Qnn (AW.ret (blkR (thenR ?_)))))
       refine Qr (.int .i64 _) ?_
       first
        | exact Eq.trans rfl (congrArg (fun q:Int=>AV.int .i64 q) hfk).symm
        | (exfalso;simp_all;done)
        | (simp_all [resOf,kindR];done)
      ·
       refine AW.skip (blkN (thenN (Qsr (Qp Qai (Qnn (AW.ret ?_))))))
       refine Qr (.int .i64 _) ?_
       first
        | exact Eq.trans rfl (congrArg (fun q:Int=>AV.int .i64 q) hfk).symm
        | (exfalso;simp_all;done)
        | (simp_all [resOf,kindR];done)
     ·
      refine Qsr (Qp Qceq (Qp Qab (Qnn (Qif (fun hc8=>?_) fun hc8=>?_))))
      ·
       refine Qst (Qif (fun hc9=>?_) fun hc9=>?_)
       ·
        refine Qsr (Qp Qai (Qnn (AW.ret (blkR (thenR ?_)))))
        refine Qr (.int .i64 _) ?_
        first
         | exact Eq.trans rfl (congrArg (fun q:Int=>AV.int .i64 q) hfk).symm
         | (exfalso;simp_all;done)
         | (simp_all [resOf,kindR];done)
       ·
        refine AW.skip (blkN (thenN (Qsr (Qp Qai (Qnn (AW.ret ?_))))))
        refine Qr (.int .i64 _) ?_
        first
         | exact Eq.trans rfl (congrArg (fun q:Int=>AV.int .i64 q) hfk).symm
         | (exfalso;simp_all;done)
         | (simp_all [resOf,kindR];done)
      ·
       refine AW.region (Qp Qceq (Qp Qab (Qnn (Qif (fun hc10=>?_) fun hc10=>?_))))
       ·
        refine Qsr (Qp Qai (Qnn (AW.ret (blkR (thenR ?_)))))
        refine Qr (.int .i64 _) ?_
        first
         | exact Eq.trans rfl (congrArg (fun q:Int=>AV.int .i64 q) hfk).symm
         | (exfalso;simp_all;done)
         | (simp_all [resOf,kindR];done)
       ·
        refine AW.skip (blkN (thenN (Qsr (Qp Qai (Qnn (AW.ret ?_))))))
        refine Qr (.int .i64 _) ?_
        first
         | exact Eq.trans rfl (congrArg (fun q:Int=>AV.int .i64 q) hfk).symm
         | (exfalso;simp_all;done)
         | (simp_all [resOf,kindR];done)
 ·
  refine AW.region (Qp Qceq (Qp Qab (Qnn (Qif (fun hc11=>?_) fun hc11=>?_))))
  ·
   refine Qsr (Qp Qf5 (Qp Qf5 (Qp Qli (Qp Qai (Qnn (AW.ret (blkR (thenR ?_))))))))
   refine Qr (.int .i64 _) ?_
   first
    | exact Eq.trans rfl (congrArg (fun q:Int=>AV.int .i64 q) hfk).symm
    | (exfalso;simp_all;done)
    | (simp_all [resOf,kindR];done)
  ·
   refine Qsr (Qp Qceq (Qp Qab (Qnn (Qif (fun hc12=>?_) fun hc12=>?_))))
   ·
    refine AW.seq ?_
    refine (kok_at hk (eq_of_beq ‹(e.op==1)=true›)).elim fun v hv=>?_
    refine hv.elim fun s hv=>?_
    refine hv.elim fun f hv=>?_
    have hv0:=hv.1
    have hv1:=hv.2.1
    have ht0:=hv.2.2.1
    have ht1:=hv.2.2.2.1
    have hf0:=hv.2.2.2.2.1
    have hf1:=hv.2.2.2.2.2.1
    have hfk:=hv.2.2.2.2.2.2
    refine AW.draw mixed (fun _=>True) trivial (by kernel_rfl) ?_
    refine Qn 0 rfl (Qf [_,_]) (Qn 1 rfl Qls (Qn 2 rfl (Qf [_]) (Qn 3 rfl Qls (Qn 4 rfl Qf2 (Qn 5 rfl Qli ?_)))))
    refine Qn 6 rfl (P_indexAddr (c:=[.str _,.int .i64 _]) tok rfl rfl rfl rfl rfl rfl (hv0) (map_at hv1)) ?_
    refine Qn 7 rfl (Qf [.int .i64 _]) (Qn 8 rfl Qli ?_)
    refine Qn 9 rfl (P_indexAddr (c:=[.str _,_]) tok rfl rfl rfl rfl rfl rfl (ht0) (map_at ht1)) ?_
    refine Qn 10 rfl (Qf [_]) (Qn 11 rfl Qls (Qn 12 rfl Qf3 (Qn 13 rfl Qli ?_)))
    refine Qn 14 rfl (P_indexAddr (c:=[.str _,.int .i64 _]) tok rfl rfl rfl rfl rfl rfl (hf0) (map_at hf1)) ?_
    refine Qn 15 rfl (Qf [.int .i64 _]) (Qn 16 rfl Qli (Qn 17 rfl Qai ?_))
    refine Canon.done _ _ (by kernel_rfl) ?_
    refine thenN (AW.ret (blkR (thenR ?_)))
    refine Qr (.int .i64 _) ?_
    first
     | exact Eq.trans rfl (congrArg (fun q:Int=>AV.int .i64 q) hfk).symm
     | (exfalso;simp_all;done)
     | (simp_all [resOf,kindR];done)
   ·
    refine AW.seq (Qsr (Qp Qceq (Qp Qab (Qnn (Qif (fun hc13=>?_) fun hc13=>?_)))))
    ·
     refine Qst (Qif (fun hc14=>?_) fun hc14=>?_)
     ·
      refine Qsr (Qp Qai (Qnn (AW.ret (blkR (thenR ?_)))))
      refine Qr (.int .i64 _) ?_
      first
       | exact Eq.trans rfl (congrArg (fun q:Int=>AV.int .i64 q) hfk).symm
       | (exfalso;simp_all;done)
       | (simp_all [resOf,kindR];done)
     ·
      refine AW.skip (blkN (thenN (Qsr (Qp Qai (Qnn (AW.ret ?_))))))
      refine Qr (.int .i64 _) ?_
      first
       | exact Eq.trans rfl (congrArg (fun q:Int=>AV.int .i64 q) hfk).symm
       | (exfalso;simp_all;done)
       | (simp_all [resOf,kindR];done)
    ·
     refine Qsr (Qp Qceq (Qp Qab (Qnn (Qif (fun hc15=>?_) fun hc15=>?_))))
     ·
      refine Qst (Qif (fun hc16=>?_) fun hc16=>?_)
      ·
       refine Qsr (Qp Qai (Qnn (AW.ret (blkR (thenR ?_)))))
       refine Qr (.int .i64 _) ?_
       first
        | exact Eq.trans rfl (congrArg (fun q:Int=>AV.int .i64 q) hfk).symm
        | (exfalso;simp_all;done)
        | (simp_all [resOf,kindR];done)
      ·
       refine AW.skip (blkN (thenN (Qsr (Qp Qai (Qnn (AW.ret ?_))))))
       refine Qr (.int .i64 _) ?_
       first
        | exact Eq.trans rfl (congrArg (fun q:Int=>AV.int .i64 q) hfk).symm
        | (exfalso;simp_all;done)
        | (simp_all [resOf,kindR];done)
     ·
      refine Qsr (Qp Qceq (Qp Qab (Qnn (Qif (fun hc17=>?_) fun hc17=>?_))))
      ·
       refine Qst (Qif (fun hc18=>?_) fun hc18=>?_)
       ·
        refine Qsr (Qp Qai (Qnn (AW.ret (blkR (thenR ?_)))))
        refine Qr (.int .i64 _) ?_
        first
         | exact Eq.trans rfl (congrArg (fun q:Int=>AV.int .i64 q) hfk).symm
         | (exfalso;simp_all;done)
         | (simp_all [resOf,kindR];done)
       ·
        refine AW.skip (blkN (thenN (Qsr (Qp Qai (Qnn (AW.ret ?_))))))
        refine Qr (.int .i64 _) ?_
        first
         | exact Eq.trans rfl (congrArg (fun q:Int=>AV.int .i64 q) hfk).symm
         | (exfalso;simp_all;done)
         | (simp_all [resOf,kindR];done)
      ·
       refine AW.region (Qp Qceq (Qp Qab (Qnn (Qif (fun hc19=>?_) fun hc19=>?_))))
       ·
        refine Qsr (Qp Qai (Qnn (AW.ret (blkR (thenR ?_)))))
        refine Qr (.int .i64 _) ?_
        first
         | exact Eq.trans rfl (congrArg (fun q:Int=>AV.int .i64 q) hfk).symm
         | (exfalso;simp_all;done)
         | (simp_all [resOf,kindR];done)
       ·
        refine AW.skip (blkN (thenN (Qsr (Qp Qai (Qnn (AW.ret ?_))))))
        refine Qr (.int .i64 _) ?_
        first
         | exact Eq.trans rfl (congrArg (fun q:Int=>AV.int .i64 q) hfk).symm
         | (exfalso;simp_all;done)
         | (simp_all [resOf,kindR];done)
theorem d_compares (e:Ex):APure Tryz.prog 135 [.agg (cE e)] (.bool (comparesS e)):=by
 refine APure.body (n:=16) tok Tryz.func135 rfl rfl rfl fun H=>?_
 refine Qsr (Qp Qbe (Qp Qab (Qns (Qp Qf0 (Qp Qli (Qp Qceq (Qp Qmb (Qg [] Qw Qf0 (Qg [(7,_)] Qw Qli ?_)))))))))
 refine Qg [(8,_)] Qw Qceq (Qp Qpo (Qp Qmb (Qg [] Qw Qf0 (Qg [(12,_)] Qw Qli (Qg [(13,_)] Qw Qceq (Qp Qpo (Qp Qab (Qnn (AW.ret ?_)))))))))
 refine Qr (.bool _) ?_
 rfl
theorem d_expr (t:Tm):APure Tryz.prog 81 [.agg (cTm t)] (.agg (cE (tmE t))):=by
 refine APure.body (n:=10) tok Tryz.func81 rfl rfl rfl fun H=>?_
 refine Qsr (Qp (Qbx [.int .i64 _,.int .i64 _,.int .i64 _]) ?_)
 refine Qe (E_alloc (l:=[.int .i64 0,.sl 8 [],.int .i64 0,.int .i64 0,.int .i64 0,.int .i64 0,.int .i64 0,.str []]) (by kernel_rfl)) ?_
 rintro _ _ ⟨b2,rfl,rfl⟩
 refine Qns (Qp (Qf [.int .i64 _,.int .i64 _,.int .i64 _]) (Qp Qli (Qp (Qf [.int .i64 _,.int .i64 _]) (Qp Qli (Qp (Qf [.int .i64 _]) (Qp Qli (Qp (Qbd [.int .i64 _,_,.int .i64 _,.int .i64 _,.int .i64 _,.int .i64 _,.int .i64 _,.str _]) ?_)))))))
 refine Qe (E_store (k:=0) (v:=.agg _) (cs':=[.int .i64 _,_,.int .i64 _,.int .i64 _,.int .i64 _,.int .i64 _,.int .i64 _,.str _]) (H2:=_::_) tok rfl rfl rfl rfl (rfl) rfl rfl rfl rfl) ?_
 rintro _ _ ⟨rfl,rfl⟩
 refine Qnn (AW.ret ?_)
 refine ⟨.inr rfl,[.agg [.int .i64 _,_,.int .i64 _,.int .i64 _,.int .i64 _,.int .i64 _,.int .i64 _,.str _]],.cons (.box _ _ _ 0 _ _ _ _ rfl rfl rfl rfl rfl rfl) <| .nil,.cons _ (.refl _),?_⟩
 rfl
theorem d_direct (e:Ex):APure Tryz.prog 134 [.agg (cE e)] (.bool (directS e)):=by
 refine APure.body (n:=11) tok Tryz.func134 rfl rfl rfl fun H=>?_
 refine Qsr (Qp Qbe (Qp Qab (Qns (Qp Qf0 (Qp Qli (Qp Qceq (Qp Qmb (Qg [] Qw Qf0 (Qg [(7,_)] Qw Qli ?_)))))))))
 refine Qg [(8,_)] Qw Qceq (Qp Qpo (Qp Qab (Qnn (AW.ret ?_))))
 refine Qr (.bool _) ?_
 rfl
theorem d_condition (T:List Sc)(hl:T.length≤1048576)(hst:∀s∈T,scOK s)(V:List Va)(hvl:V.length≤1048576)(e:Ex)(hse:sizeN e≤1048576):APure Tryz.prog 49 [.agg (cScene T V),.agg (cE e)] (.int .i64 (condE T V e)):=by
 refine APure.body (n:=21) tok Tryz.func49 rfl rfl rfl fun H=>?_
 refine Qsr (Qp (Qbx [_,_]) (Qp Qbe (Qp Qai (Qns (Qp (Qf [_,_]) (Qp Qls (Qp (Qf [_]) (Qp Qls (Qp Qle ?_)))))))))
 refine Qp (Qc rfl (c31 T hl hst V hvl e hse)) ?_
 refine Qp Qmu (Qp Qxi (Qp Qxi (Qp Qai (Qp Qai (Qnn (AW.seq (Qsr (Qp Qmi (Qp Qcne ?_)))))))))
 refine Qnn (Qif (fun hc1=>?_) fun hc1=>?_)
 ·
  refine Qsr (Qp Qmi (Qp Qai (Qnn (Qrt ?_))))
  refine Qr (.int .i64 _) ?_
  exact Eq.trans rfl (congrArg (fun q:Int=>AV.int .i64 q) (condE_1 hc1)).symm
 ·
  refine Qst (AW.seq (Qsr (Qp Qmi (Qp Qcne (Qnn (Qif (fun hc2=>?_) fun hc2=>?_))))))
  ·
   refine Qsr (Qp Qai (Qnn (Qrt ?_)))
   refine Qr (.int .i64 _) ?_
   exact Eq.trans rfl (congrArg (fun q:Int=>AV.int .i64 q) (condE_2 hc1 hc2)).symm
  ·
   refine Qst (Qsr (Qp Qai (Qnn (AW.ret ?_))))
   refine Qr (.int .i64 _) ?_
   exact Eq.trans rfl (congrArg (fun q:Int=>AV.int .i64 q) (condE_3 hc1 hc2)).symm
theorem d_texts (T:List Sc)(V:List Va)(e:Ex)(hk:KOK T V e):APure Tryz.prog 136 [.agg (cScene T V),.agg (cE e)] (.bool (textsS T V e)):=by
 refine APure.body (n:=17) tok Tryz.func136 rfl rfl rfl fun H=>?_
 refine Qsr (Qp (Qbx [_,_]) (Qp Qbe (Qp Qab (Qnn (AW.seq ?_)))))
 refine AW.draw mixed (fun _=>True) trivial (by kernel_rfl) ?_
 refine Qn 0 rfl Qf0 (Qn 1 rfl Qli (Qn 2 rfl Qceq (Qn 3 rfl Qmb (Qo 4 rfl [] Qw (Qlg [_,_]) (Qo 5 rfl [] Qw Qf1 (Qo 6 rfl [(10,_)] Qw Qls ?_))))))
 refine Canon.pure _ _ 7 _ _ rfl (by kernel_rfl) (by kernel_rfl) rfl (.opt _ (.ptr _) [(11,_)] rfl (EntL.all ⟨Ent.self _ _,trivial⟩) (fun hG=>P_indexAddr (c:=[.int .i64 _,_,.int .i64 _,.int .i64 _,.int .i64 _,.int .i64 _,.int .i64 _,.str _]) tok rfl rfl rfl rfl rfl rfl (by decide) (arg0_at (Nat.lt_of_succ_lt (g9 hk hG)))) rfl) ?_
 refine Qo 8 rfl [(12,_)] Qw Qle ?_
 refine Canon.pure _ _ 9 _ _ rfl (by kernel_rfl) (by kernel_rfl) rfl (.opt _ (.int .i64 _) [(9,_),(13,_)] rfl (EntL.all ⟨Ent.self _ _,Ent.self _ _,trivial⟩) (fun hG=>P_callf (by kernel_rfl) rfl rfl (d_kind T V _ (kok_arg hk (arg0_mem (Nat.lt_of_succ_lt (g9 hk hG)))))) rfl) ?_
 refine Qo 10 rfl [(14,_)] Qw Qceq (Qn 11 rfl Qpa (Qn 12 rfl Qab ?_))
 refine Canon.done _ _ (by kernel_rfl) ?_
 refine thenN (AW.ret ?_)
 refine Qr (.bool _) ?_
 rfl
theorem d_composed (T:List Sc)(V:List Va)(e:Ex)(hk:KOK T V e):APure Tryz.prog 83 [.agg (cScene T V),.agg (cE e)] (.bool (composedS T V e)):=by
 refine APure.body (n:=21) tok Tryz.func83 rfl rfl rfl fun H=>?_
 refine Qsr (Qp (Qbx [_,_]) (Qp Qbe (Qp Qab (Qnn (AW.seq (Qsr (Qp Qf0 (Qp Qli (Qnn ?_)))))))))
 refine AW.block (Qsr (Qp Qceq (Qp Qab (Qnn (Qif (fun hc1=>?_) fun hc1=>?_)))))
 ·
  refine AW.seq ?_
  have h2:=l9 hk ‹(e.op==9)=true›
  have h00:0<e.args.length:=by omega
  refine AW.draw mixed (fun _=>True) trivial (by kernel_rfl) ?_
  refine Qn 0 rfl (Qlg [_,_]) (Qn 1 rfl Qf1 (Qn 2 rfl Qls ?_))
  refine Qn 3 rfl (P_indexAddr (c:=[.int .i64 _,_,.int .i64 _,.int .i64 _,.int .i64 _,.int .i64 _,.int .i64 _,.str _]) tok rfl rfl rfl rfl rfl rfl (by decide) (arg0_at h00)) ?_
  refine Qn 4 rfl Qle ?_
  refine Qn 5 rfl (Qc rfl (d_kind T V _ (kok_arg hk (arg0_mem h00)))) ?_
  refine Qn 6 rfl Qceq (Qn 7 rfl Qab ?_)
  refine Canon.done _ _ (by kernel_rfl) ?_
  refine thenN (AW.ret (blkR (thenR ?_)))
  refine Qr (.bool _) ?_
  first
   | (exfalso;simp_all;done)
   | (simp_all [resOf,composedS];done)
 ·
  refine AW.seq (Qsr (Qp Qceq (Qp Qab (Qnn (Qif (fun hc2=>?_) fun hc2=>?_)))))
  ·
   refine Qst (Qif (fun hc3=>?_) fun hc3=>?_)
   ·
    refine Qsr (Qp Qab (Qnn (AW.ret (blkR (thenR ?_)))))
    refine Qr (.bool _) ?_
    first
     | (exfalso;simp_all;done)
     | (simp_all [resOf,composedS];done)
   ·
    refine AW.skip (blkN (thenN (Qsr (Qp Qab (Qnn (AW.ret ?_))))))
    refine Qr (.bool _) ?_
    first
     | (exfalso;simp_all;done)
     | (simp_all [resOf,composedS];done)
  ·
   refine Qsr (Qp Qceq (Qp Qab (Qnn (Qif (fun hc4=>?_) fun hc4=>?_))))
   ·
    refine Qst (Qif (fun hc5=>?_) fun hc5=>?_)
    ·
     refine Qsr (Qp Qab (Qnn (AW.ret (blkR (thenR ?_)))))
     refine Qr (.bool _) ?_
     first
      | (exfalso;simp_all;done)
      | (simp_all [resOf,composedS];done)
    ·
     refine AW.skip (blkN (thenN (Qsr (Qp Qab (Qnn (AW.ret ?_))))))
     refine Qr (.bool _) ?_
     first
      | (exfalso;simp_all;done)
      | (simp_all [resOf,composedS];done)
   ·
    refine Qsr (Qp Qceq (Qp Qab (Qnn (Qif (fun hc6=>?_) fun hc6=>?_))))
    ·
     refine Qst (Qif (fun hc7=>?_) fun hc7=>?_)
     ·
      refine Qsr (Qp Qab (Qnn (AW.ret (blkR (thenR ?_)))))
      refine Qr (.bool _) ?_
      first
       | (exfalso;simp_all;done)
       | (simp_all [resOf,composedS];done)
     ·
      refine AW.skip (blkN (thenN (Qsr (Qp Qab (Qnn (AW.ret ?_))))))
      refine Qr (.bool _) ?_
      first
       | (exfalso;simp_all;done)
       | (simp_all [resOf,composedS];done)
    ·
     refine AW.region (Qp Qceq (Qp Qab (Qnn (Qif (fun hc8=>?_) fun hc8=>?_))))
     ·
      refine Qsr (Qp Qab (Qnn (AW.ret (blkR (thenR ?_)))))
      refine Qr (.bool _) ?_
      first
       | (exfalso;simp_all;done)
       | (simp_all [resOf,composedS];done)
     ·
      refine AW.skip (blkN (thenN (Qsr (Qp Qab (Qnn (AW.ret ?_))))))
      refine Qr (.bool _) ?_
      first
       | (exfalso;simp_all;done)
       | (simp_all [resOf,composedS];done)

set_option maxHeartbeats 3200000
set_option maxRecDepth 20000

theorem d_add (m bs:Nat)(R:List HO)(e:Ex)(hn:nodesS e=0)(n:Nat)(b:Int)(hb:b=1∨b = -1)(s:Su)(hs:suOK n s)(hm:n+sizeN e≤1048576)(v:Value):ACall Tryz.prog 157 (sumH m bs v s R) [.val (.pointer (some ⟨bs,0,none⟩)),.agg (cE e),.int .i64 b] (fun r H'=>r = .bool (linS e b s).2∧∃v',H'=sumH m bs v' (linS e b s).1 R):=by
 revert n b s v hn
 induction e using Ex.ind
 rename_i e ih
 intro hn n b hb s hs hm v
 have hz:=nodes_zero hn
 have hsr:=hs.rest
 have hsl:=hs.len
 have hsp:1≤sizeN e:=by rw [sizeN_eq];omega
 refine ACall.body (n:=104) tok Tryz.func157 rfl rfl rfl ?_
 refine Qsr (Qp Qbe (Qp Qab (Qnn (AW.seq (Qsr (Qp Qf0 (Qp Qli (Qnn (AW.block ?_)))))))))
 refine Qsr (Qp Qceq (Qp Qab (Qnn (Qif (fun hc1=>?_) fun hc1=>?_))))
 ·
  refine AW.seq ?_
  have hcn:=const_num hz.1 (eq_of_beq ‹(e.op==0)=true›)
  have hmul:b*e.val.num=e.val.num∨b*e.val.num = - e.val.num:=by rcases hb with rfl | rfl <;> omega
  refine AW.draw mixed (fun H'=>_∈H') (List.mem_of_getElem? (i:=1) rfl) (by kernel_rfl) ?_
  refine Qn 0 rfl Qmv ?_
  refine Qn 1 rfl (P_nilCheck rfl) ?_
  refine Qn 2 rfl Qfv ?_
  refine Qn 3 rfl (OpP.mem (fun k=>P_load_box (k:=k) (c:=.int .i64 _) tok rfl rfl rfl rfl) (fun _ h=>h)) ?_
  refine Qn 4 rfl Qmi (Qn 5 rfl Qf5 (Qn 6 rfl Qf6 (Qn 7 rfl Qli ?_)))
  refine Qn 8 rfl (P_mul rfl rfl rfl (by constructor <;> omega)) ?_
  refine Qn 9 rfl Qad ?_
  refine Qn 10 rfl (P_nilCheck rfl) ?_
  refine Qn 11 rfl Qfv ?_
  refine Canon.last _ _ 12 _ _ rfl (by kernel_rfl) rfl rfl (E_store (k:=1) (v:=.int .i64 _) (cs':=[_,_,.int .i64 _]) (H2:=_::_::_::_) tok rfl rfl rfl rfl (rfl) rfl rfl rfl rfl) (by kernel_rfl) ?_
  rintro _ _ ⟨rfl,rfl⟩
  refine thenN (Qsr (Qp Qab (Qnn (AW.ret (blkR (thenR ?_))))))
  refine ⟨.inr rfl,[.bool _],.cons (.tmp _ _ rfl) <| .nil,_,.refl _,?_⟩
  first
   | exact absurd (‹(e.op==1)=true›.symm.trans ‹(e.op==1)=false›) (by decide)
   | exact absurd (‹(e.op==2)=true›.symm.trans ‹(e.op==2)=false›) (by decide)
   | exact lin_wrap (lin_const ‹(e.op==0)=true›) ⟨rfl,_,rfl⟩
   | exact lin_wrap (lin_term ‹(e.op==0)=false› (or1 ‹(e.op==1)=true›)) ⟨rfl,_,sum_new hnew⟩
   | exact lin_wrap (lin_term ‹(e.op==0)=false› (or1 ‹(e.op==1)=true›)) ⟨rfl,_,sum_old hj3⟩
   | exact lin_wrap (lin_term ‹(e.op==0)=false› (or2 ‹(e.op==2)=true›)) ⟨rfl,_,sum_new hnew⟩
   | exact lin_wrap (lin_term ‹(e.op==0)=false› (or2 ‹(e.op==2)=true›)) ⟨rfl,_,sum_old hj3⟩
   | exact ⟨congrArg AV.bool (lin_two_snd hl2 (.inl ⟨ho,rfl⟩)),_,rfl⟩
   | exact ⟨congrArg AV.bool (lin_two_snd hl2 (.inr ⟨ho,rfl⟩)),_,rfl⟩
   | exact lin_wrap (lin_else ‹(e.op==0)=false› (or0 ‹(e.op==1)=false› ‹(e.op==2)=false›) ‹(e.op==5)=false› ‹(e.op==6)=false›) ⟨rfl,_,rfl⟩
 ·
  refine AW.seq (Qsr (Qp Qceq (Qp Qab (Qnn (Qif (fun hc2=>?_) fun hc2=>?_)))))
  ·
   refine Qst (Qif (fun hc3=>?_) fun hc3=>?_)
   ·
    refine AW.seq ?_
    have hsc:∀c∈(s.ts.map fun p=>cTm p.1),scalars c=true:=sc_map fun _=>rfl
    refine AW.region (Qp Qf0 (Qp Qli (Qp Qf2 (Qp Qli (Qp Qf3 (Qp Qli (Qp (Qbd [.int .i64 _,.int .i64 _,.int .i64 _]) ?_)))))))
    refine Qe (E_alloc (l:=[.int .i64 0,.int .i64 0,.int .i64 0]) (by kernel_rfl)) ?_
    rintro _ _ ⟨b7,rfl,rfl⟩
    refine Qe (E_store (k:=0) (v:=.agg _) (cs':=[.int .i64 _,.int .i64 _,.int .i64 _]) (H2:=_::_::_::_::_) tok rfl rfl rfl rfl (rfl) rfl rfl rfl rfl) ?_
    rintro _ _ ⟨rfl,rfl⟩
    refine AOL.ghost (GS.freeze (t:=7) 0 rfl rfl) ?_
    refine Qnn (AW.seq (AW.seq ?_))
    refine AW.draw mixed (fun H'=>_∈H'∧_∈H') ⟨(List.mem_of_getElem? (i:=1) rfl),(List.mem_of_getElem? (i:=2) rfl)⟩ (by kernel_rfl) ?_
    refine Qn 0 rfl Qmv ?_
    refine Qn 1 rfl (P_nilCheck rfl) ?_
    refine Qn 2 rfl Qfv ?_
    refine Qn 3 rfl (OpP.mem (fun k=>P_load_box (k:=k) (c:=.val _) tok rfl rfl rfl rfl) (fun _ h=>h.1)) ?_
    refine Qn 4 rfl (Qlg [.int .i64 _,.int .i64 _,.int .i64 _]) ?_
    refine Qn 5 rfl (OpP.mem (fun k=>P_klookOk (i:=k) (eq:=eqTm (tmOf e)) tok rfl rfl rfl rfl rfl (by kernel_rfl) rfl rfl (rfl) (sMap_eq (tmOf e) s.ts) (look_t (tmOf e) s.ts) (has_t (tmOf e) s.ts)) (fun _ h=>h.2)) ?_
    refine Qn 6 rfl Qmu (Qn 7 rfl Qxi (Qn 8 rfl Qxb (Qn 9 rfl Qai (Qn 10 rfl Qab ?_))))
    refine Canon.done _ _ (by kernel_rfl) ?_
    refine thenN (Qsr (Qp Qmb (Qp Qnt (Qnn (Qif (fun hc4=>?_) fun hc4=>?_)))))
    ·
     have hnew:hasT (tmOf e) s.ts=false:=by simpa using hc4
     refine AW.draw mixed (fun H'=>_∈H') (List.mem_of_getElem? (i:=1) rfl) (by kernel_rfl) ?_
     refine Qn 0 rfl Qmv (Qn 1 rfl Qmv ?_)
     refine Qn 2 rfl (P_nilCheck rfl) ?_
     refine Qn 3 rfl Qfv ?_
     refine Qn 4 rfl (OpP.mem (fun k=>P_load_box (k:=k) (c:=.row _ _ _) tok rfl rfl rfl rfl) (fun _ h=>h)) ?_
     refine Qn 5 rfl (Qlg [.int .i64 _,.int .i64 _,.int .i64 _]) ?_
     refine Qn 6 rfl (P_buildSlice (es:=[[.int .i64 _,.int .i64 _,.int .i64 _]]) tok rfl rfl rfl rfl rfl rfl rfl rfl rfl) ?_
     refine Canon.eff _ _ 7 _ _ rfl (by kernel_rfl) rfl rfl (E_append (k:=0) tok rfl rfl rfl rfl rfl rfl rfl rfl (sc_one rfl) (hsc) (by simp;omega) (by simp [maxLen];omega)) (by rintro _ _ ⟨v54,rfl,rfl⟩;simp) ?_
     rintro _ _ ⟨v54,rfl,rfl⟩
     refine Qn 8 rfl (P_nilCheck rfl) ?_
     refine Qn 9 rfl Qfv ?_
     refine Canon.last _ _ 10 _ _ rfl (by kernel_rfl) rfl rfl (E_store (k:=1) (v:=.row _ _ _) (cs':=[_,_,.int .i64 _]) (H2:=_::_::_::_) tok rfl rfl rfl rfl (rfl) rfl rfl rfl rfl) (by kernel_rfl) ?_
     rintro _ _ ⟨rfl,rfl⟩
     refine thenN (AW.seq ?_)
     have hcf:=coef_ok hs (tmOf e)
     have htt:=hnew
     refine AW.draw mixed (fun H'=>_∈H'∧(HO.kmap m (sMap s.ts)∈H'∨HO.kmap m (sMap s.ts ++ [([.int .i64 e.op,.int .i64 e.var,.int .i64 e.field],AV.int .i64 0)])∈H')) ⟨(List.mem_of_getElem? (i:=1) rfl),.inl (List.mem_of_getElem? (i:=2) rfl)⟩ (by kernel_rfl) ?_
     refine Qn 0 rfl Qmv ?_
     refine Qn 1 rfl (P_nilCheck rfl) ?_
     refine Qn 2 rfl Qfv ?_
     refine Qn 3 rfl (OpP.mem (fun k=>P_load_box (k:=k) (c:=.val _) tok rfl rfl rfl rfl) (fun _ h=>h.1)) ?_
     refine Qn 4 rfl (Qlg [.int .i64 _,.int .i64 _,.int .i64 _]) ?_
     refine Qn 5 rfl (OpP_or2 (fun k=>P_klook (i:=k) (eq:=eqTm (tmOf e)) tok rfl rfl rfl rfl rfl (by kernel_rfl) rfl rfl (rfl) (sMap_eq (tmOf e) s.ts) (look_t (tmOf e) s.ts)) (fun k=>P_klook (i:=k) (eq:=eqTm (tmOf e)) tok rfl rfl rfl rfl rfl (by kernel_rfl) rfl rfl (rfl) (sMap_eq' (tmOf e) s.ts) (look_t' hnew)) (fun _ h=>h.2)) ?_
     refine Qn 6 rfl Qmi (Qn 7 rfl Qad ?_)
     refine Canon.eff _ _ 8 _ _ rfl (by kernel_rfl) rfl rfl (E_mapEntryNew (i:=2) (eq:=eqTm (tmOf e)) tok rfl rfl rfl rfl rfl rfl rfl (fun _ _ _ h=>h) rfl rfl rfl (sMap_eq (tmOf e) s.ts) rfl (has_none hnew)) (by rintro _ _ ⟨rfl,rfl⟩;simp) ?_
     rintro _ _ ⟨rfl,rfl⟩
     refine Qn 9 rfl Qxi ?_
     refine Canon.last _ _ 10 _ _ rfl (by kernel_rfl) rfl rfl (E_entryStore (i:=2) (j:=(sMap s.ts).length) (H2:=_::_::_::_) rfl rfl rfl rfl (sMap_end (t:=tmOf e)) rfl) (by kernel_rfl) ?_
     rintro _ _ ⟨rfl,rfl⟩
     refine thenN (Qsr (Qp Qab (Qnn (AW.ret (blkR (thenR ?_))))))
     refine ⟨.inr rfl,[.bool _],.cons (.tmp _ _ rfl) <| .nil,_,.refl _,?_⟩
     first
      | exact absurd (‹(e.op==1)=true›.symm.trans ‹(e.op==1)=false›) (by decide)
      | exact absurd (‹(e.op==2)=true›.symm.trans ‹(e.op==2)=false›) (by decide)
      | exact lin_wrap (lin_const ‹(e.op==0)=true›) ⟨rfl,_,rfl⟩
      | exact lin_wrap (lin_term ‹(e.op==0)=false› (or1 ‹(e.op==1)=true›)) ⟨rfl,_,sum_new hnew⟩
      | exact lin_wrap (lin_term ‹(e.op==0)=false› (or1 ‹(e.op==1)=true›)) ⟨rfl,_,sum_old hj3⟩
      | exact lin_wrap (lin_term ‹(e.op==0)=false› (or2 ‹(e.op==2)=true›)) ⟨rfl,_,sum_new hnew⟩
      | exact lin_wrap (lin_term ‹(e.op==0)=false› (or2 ‹(e.op==2)=true›)) ⟨rfl,_,sum_old hj3⟩
      | exact ⟨congrArg AV.bool (lin_two_snd hl2 (.inl ⟨ho,rfl⟩)),_,rfl⟩
      | exact ⟨congrArg AV.bool (lin_two_snd hl2 (.inr ⟨ho,rfl⟩)),_,rfl⟩
      | exact lin_wrap (lin_else ‹(e.op==0)=false› (or0 ‹(e.op==1)=false› ‹(e.op==2)=false›) ‹(e.op==5)=false› ‹(e.op==6)=false›) ⟨rfl,_,rfl⟩
    ·
     refine Qst (AW.seq ?_)
     have hcf:=coef_ok hs (tmOf e)
     refine (add_old (b:=b) (by simpa using hc4:hasT (tmOf e) s.ts=true)).elim fun j hj=>?_
     have hj1:=hj.1
     have hj2:=hj.2.1
     have hj3:=hj.2.2
     refine AW.draw mixed (fun H'=>_∈H'∧_∈H') ⟨(List.mem_of_getElem? (i:=1) rfl),(List.mem_of_getElem? (i:=2) rfl)⟩ (by kernel_rfl) ?_
     refine Qn 0 rfl Qmv ?_
     refine Qn 1 rfl (P_nilCheck rfl) ?_
     refine Qn 2 rfl Qfv ?_
     refine Qn 3 rfl (OpP.mem (fun k=>P_load_box (k:=k) (c:=.val _) tok rfl rfl rfl rfl) (fun _ h=>h.1)) ?_
     refine Qn 4 rfl (Qlg [.int .i64 _,.int .i64 _,.int .i64 _]) ?_
     refine Qn 5 rfl (OpP.mem (fun k=>P_klook (i:=k) (eq:=eqTm (tmOf e)) tok rfl rfl rfl rfl rfl (by kernel_rfl) rfl rfl (rfl) (sMap_eq (tmOf e) s.ts) (look_t (tmOf e) s.ts)) (fun _ h=>h.2)) ?_
     refine Qn 6 rfl Qmi (Qn 7 rfl Qad ?_)
     refine Canon.eff _ _ 8 _ _ rfl (by kernel_rfl) rfl rfl (E_mapEntry (i:=2) (eq:=eqTm (tmOf e)) tok rfl rfl rfl rfl rfl rfl rfl (sMap_eq (tmOf e) s.ts) rfl (by rw [kidx_t];exact hj1) (sMap_at hj2) rfl) (by rintro _ _ ⟨rfl,rfl⟩;simp) ?_
     rintro _ _ ⟨rfl,rfl⟩
     refine Qn 9 rfl Qxi ?_
     refine Canon.last _ _ 10 _ _ rfl (by kernel_rfl) rfl rfl (E_entryStore (i:=2) (j:=j) (H2:=_::_::_::_) rfl rfl rfl rfl (sMap_at hj2) rfl) (by kernel_rfl) ?_
     rintro _ _ ⟨rfl,rfl⟩
     refine thenN (Qsr (Qp Qab (Qnn (AW.ret (blkR (thenR ?_))))))
     refine ⟨.inr rfl,[.bool _],.cons (.tmp _ _ rfl) <| .nil,_,.refl _,?_⟩
     first
      | exact absurd (‹(e.op==1)=true›.symm.trans ‹(e.op==1)=false›) (by decide)
      | exact absurd (‹(e.op==2)=true›.symm.trans ‹(e.op==2)=false›) (by decide)
      | exact lin_wrap (lin_const ‹(e.op==0)=true›) ⟨rfl,_,rfl⟩
      | exact lin_wrap (lin_term ‹(e.op==0)=false› (or1 ‹(e.op==1)=true›)) ⟨rfl,_,sum_new hnew⟩
      | exact lin_wrap (lin_term ‹(e.op==0)=false› (or1 ‹(e.op==1)=true›)) ⟨rfl,_,sum_old hj3⟩
      | exact lin_wrap (lin_term ‹(e.op==0)=false› (or2 ‹(e.op==2)=true›)) ⟨rfl,_,sum_new hnew⟩
      | exact lin_wrap (lin_term ‹(e.op==0)=false› (or2 ‹(e.op==2)=true›)) ⟨rfl,_,sum_old hj3⟩
      | exact ⟨congrArg AV.bool (lin_two_snd hl2 (.inl ⟨ho,rfl⟩)),_,rfl⟩
      | exact ⟨congrArg AV.bool (lin_two_snd hl2 (.inr ⟨ho,rfl⟩)),_,rfl⟩
      | exact lin_wrap (lin_else ‹(e.op==0)=false› (or0 ‹(e.op==1)=false› ‹(e.op==2)=false›) ‹(e.op==5)=false› ‹(e.op==6)=false›) ⟨rfl,_,rfl⟩
   ·
    exact absurd (hc3.symm.trans hc2) (by decide)
  ·
   refine AW.region (Qp Qceq (Qp Qab (Qnn (Qif (fun hc5=>?_) fun hc5=>?_))))
   ·
    refine AW.seq ?_
    have hsc:∀c∈(s.ts.map fun p=>cTm p.1),scalars c=true:=sc_map fun _=>rfl
    refine AW.region (Qp Qf0 (Qp Qli (Qp Qf2 (Qp Qli (Qp Qf3 (Qp Qli (Qp (Qbd [.int .i64 _,.int .i64 _,.int .i64 _]) ?_)))))))
    refine Qe (E_alloc (l:=[.int .i64 0,.int .i64 0,.int .i64 0]) (by kernel_rfl)) ?_
    rintro _ _ ⟨b7,rfl,rfl⟩
    refine Qe (E_store (k:=0) (v:=.agg _) (cs':=[.int .i64 _,.int .i64 _,.int .i64 _]) (H2:=_::_::_::_::_) tok rfl rfl rfl rfl (rfl) rfl rfl rfl rfl) ?_
    rintro _ _ ⟨rfl,rfl⟩
    refine AOL.ghost (GS.freeze (t:=7) 0 rfl rfl) ?_
    refine Qnn (AW.seq (AW.seq ?_))
    refine AW.draw mixed (fun H'=>_∈H'∧_∈H') ⟨(List.mem_of_getElem? (i:=1) rfl),(List.mem_of_getElem? (i:=2) rfl)⟩ (by kernel_rfl) ?_
    refine Qn 0 rfl Qmv ?_
    refine Qn 1 rfl (P_nilCheck rfl) ?_
    refine Qn 2 rfl Qfv ?_
    refine Qn 3 rfl (OpP.mem (fun k=>P_load_box (k:=k) (c:=.val _) tok rfl rfl rfl rfl) (fun _ h=>h.1)) ?_
    refine Qn 4 rfl (Qlg [.int .i64 _,.int .i64 _,.int .i64 _]) ?_
    refine Qn 5 rfl (OpP.mem (fun k=>P_klookOk (i:=k) (eq:=eqTm (tmOf e)) tok rfl rfl rfl rfl rfl (by kernel_rfl) rfl rfl (rfl) (sMap_eq (tmOf e) s.ts) (look_t (tmOf e) s.ts) (has_t (tmOf e) s.ts)) (fun _ h=>h.2)) ?_
    refine Qn 6 rfl Qmu (Qn 7 rfl Qxi (Qn 8 rfl Qxb (Qn 9 rfl Qai (Qn 10 rfl Qab ?_))))
    refine Canon.done _ _ (by kernel_rfl) ?_
    refine thenN (Qsr (Qp Qmb (Qp Qnt (Qnn (Qif (fun hc6=>?_) fun hc6=>?_)))))
    ·
     have hnew:hasT (tmOf e) s.ts=false:=by simpa using hc6
     refine AW.draw mixed (fun H'=>_∈H') (List.mem_of_getElem? (i:=1) rfl) (by kernel_rfl) ?_
     refine Qn 0 rfl Qmv (Qn 1 rfl Qmv ?_)
     refine Qn 2 rfl (P_nilCheck rfl) ?_
     refine Qn 3 rfl Qfv ?_
     refine Qn 4 rfl (OpP.mem (fun k=>P_load_box (k:=k) (c:=.row _ _ _) tok rfl rfl rfl rfl) (fun _ h=>h)) ?_
     refine Qn 5 rfl (Qlg [.int .i64 _,.int .i64 _,.int .i64 _]) ?_
     refine Qn 6 rfl (P_buildSlice (es:=[[.int .i64 _,.int .i64 _,.int .i64 _]]) tok rfl rfl rfl rfl rfl rfl rfl rfl rfl) ?_
     refine Canon.eff _ _ 7 _ _ rfl (by kernel_rfl) rfl rfl (E_append (k:=0) tok rfl rfl rfl rfl rfl rfl rfl rfl (sc_one rfl) (hsc) (by simp;omega) (by simp [maxLen];omega)) (by rintro _ _ ⟨v54,rfl,rfl⟩;simp) ?_
     rintro _ _ ⟨v54,rfl,rfl⟩
     refine Qn 8 rfl (P_nilCheck rfl) ?_
     refine Qn 9 rfl Qfv ?_
     refine Canon.last _ _ 10 _ _ rfl (by kernel_rfl) rfl rfl (E_store (k:=1) (v:=.row _ _ _) (cs':=[_,_,.int .i64 _]) (H2:=_::_::_::_) tok rfl rfl rfl rfl (rfl) rfl rfl rfl rfl) (by kernel_rfl) ?_
     rintro _ _ ⟨rfl,rfl⟩
     refine thenN (AW.seq ?_)
     have hcf:=coef_ok hs (tmOf e)
     have htt:=hnew
     refine AW.draw mixed (fun H'=>_∈H'∧(HO.kmap m (sMap s.ts)∈H'∨HO.kmap m (sMap s.ts ++ [([.int .i64 e.op,.int .i64 e.var,.int .i64 e.field],AV.int .i64 0)])∈H')) ⟨(List.mem_of_getElem? (i:=1) rfl),.inl (List.mem_of_getElem? (i:=2) rfl)⟩ (by kernel_rfl) ?_
     refine Qn 0 rfl Qmv ?_
     refine Qn 1 rfl (P_nilCheck rfl) ?_
     refine Qn 2 rfl Qfv ?_
     refine Qn 3 rfl (OpP.mem (fun k=>P_load_box (k:=k) (c:=.val _) tok rfl rfl rfl rfl) (fun _ h=>h.1)) ?_
     refine Qn 4 rfl (Qlg [.int .i64 _,.int .i64 _,.int .i64 _]) ?_
     refine Qn 5 rfl (OpP_or2 (fun k=>P_klook (i:=k) (eq:=eqTm (tmOf e)) tok rfl rfl rfl rfl rfl (by kernel_rfl) rfl rfl (rfl) (sMap_eq (tmOf e) s.ts) (look_t (tmOf e) s.ts)) (fun k=>P_klook (i:=k) (eq:=eqTm (tmOf e)) tok rfl rfl rfl rfl rfl (by kernel_rfl) rfl rfl (rfl) (sMap_eq' (tmOf e) s.ts) (look_t' hnew)) (fun _ h=>h.2)) ?_
     refine Qn 6 rfl Qmi (Qn 7 rfl Qad ?_)
     refine Canon.eff _ _ 8 _ _ rfl (by kernel_rfl) rfl rfl (E_mapEntryNew (i:=2) (eq:=eqTm (tmOf e)) tok rfl rfl rfl rfl rfl rfl rfl (fun _ _ _ h=>h) rfl rfl rfl (sMap_eq (tmOf e) s.ts) rfl (has_none hnew)) (by rintro _ _ ⟨rfl,rfl⟩;simp) ?_
     rintro _ _ ⟨rfl,rfl⟩
     refine Qn 9 rfl Qxi ?_
     refine Canon.last _ _ 10 _ _ rfl (by kernel_rfl) rfl rfl (E_entryStore (i:=2) (j:=(sMap s.ts).length) (H2:=_::_::_::_) rfl rfl rfl rfl (sMap_end (t:=tmOf e)) rfl) (by kernel_rfl) ?_
     rintro _ _ ⟨rfl,rfl⟩
     refine thenN (Qsr (Qp Qab (Qnn (AW.ret (blkR (thenR ?_))))))
     refine ⟨.inr rfl,[.bool _],.cons (.tmp _ _ rfl) <| .nil,_,.refl _,?_⟩
     first
      | exact absurd (‹(e.op==1)=true›.symm.trans ‹(e.op==1)=false›) (by decide)
      | exact absurd (‹(e.op==2)=true›.symm.trans ‹(e.op==2)=false›) (by decide)
      | exact lin_wrap (lin_const ‹(e.op==0)=true›) ⟨rfl,_,rfl⟩
      | exact lin_wrap (lin_term ‹(e.op==0)=false› (or1 ‹(e.op==1)=true›)) ⟨rfl,_,sum_new hnew⟩
      | exact lin_wrap (lin_term ‹(e.op==0)=false› (or1 ‹(e.op==1)=true›)) ⟨rfl,_,sum_old hj3⟩
      | exact lin_wrap (lin_term ‹(e.op==0)=false› (or2 ‹(e.op==2)=true›)) ⟨rfl,_,sum_new hnew⟩
      | exact lin_wrap (lin_term ‹(e.op==0)=false› (or2 ‹(e.op==2)=true›)) ⟨rfl,_,sum_old hj3⟩
      | exact ⟨congrArg AV.bool (lin_two_snd hl2 (.inl ⟨ho,rfl⟩)),_,rfl⟩
      | exact ⟨congrArg AV.bool (lin_two_snd hl2 (.inr ⟨ho,rfl⟩)),_,rfl⟩
      | exact lin_wrap (lin_else ‹(e.op==0)=false› (or0 ‹(e.op==1)=false› ‹(e.op==2)=false›) ‹(e.op==5)=false› ‹(e.op==6)=false›) ⟨rfl,_,rfl⟩
    ·
     refine Qst (AW.seq ?_)
     have hcf:=coef_ok hs (tmOf e)
     refine (add_old (b:=b) (by simpa using hc6:hasT (tmOf e) s.ts=true)).elim fun j hj=>?_
     have hj1:=hj.1
     have hj2:=hj.2.1
     have hj3:=hj.2.2
     refine AW.draw mixed (fun H'=>_∈H'∧_∈H') ⟨(List.mem_of_getElem? (i:=1) rfl),(List.mem_of_getElem? (i:=2) rfl)⟩ (by kernel_rfl) ?_
     refine Qn 0 rfl Qmv ?_
     refine Qn 1 rfl (P_nilCheck rfl) ?_
     refine Qn 2 rfl Qfv ?_
     refine Qn 3 rfl (OpP.mem (fun k=>P_load_box (k:=k) (c:=.val _) tok rfl rfl rfl rfl) (fun _ h=>h.1)) ?_
     refine Qn 4 rfl (Qlg [.int .i64 _,.int .i64 _,.int .i64 _]) ?_
     refine Qn 5 rfl (OpP.mem (fun k=>P_klook (i:=k) (eq:=eqTm (tmOf e)) tok rfl rfl rfl rfl rfl (by kernel_rfl) rfl rfl (rfl) (sMap_eq (tmOf e) s.ts) (look_t (tmOf e) s.ts)) (fun _ h=>h.2)) ?_
     refine Qn 6 rfl Qmi (Qn 7 rfl Qad ?_)
     refine Canon.eff _ _ 8 _ _ rfl (by kernel_rfl) rfl rfl (E_mapEntry (i:=2) (eq:=eqTm (tmOf e)) tok rfl rfl rfl rfl rfl rfl rfl (sMap_eq (tmOf e) s.ts) rfl (by rw [kidx_t];exact hj1) (sMap_at hj2) rfl) (by rintro _ _ ⟨rfl,rfl⟩;simp) ?_
     rintro _ _ ⟨rfl,rfl⟩
     refine Qn 9 rfl Qxi ?_
     refine Canon.last _ _ 10 _ _ rfl (by kernel_rfl) rfl rfl (E_entryStore (i:=2) (j:=j) (H2:=_::_::_::_) rfl rfl rfl rfl (sMap_at hj2) rfl) (by kernel_rfl) ?_
     rintro _ _ ⟨rfl,rfl⟩
     refine thenN (Qsr (Qp Qab (Qnn (AW.ret (blkR (thenR ?_))))))
     refine ⟨.inr rfl,[.bool _],.cons (.tmp _ _ rfl) <| .nil,_,.refl _,?_⟩
     first
      | exact absurd (‹(e.op==1)=true›.symm.trans ‹(e.op==1)=false›) (by decide)
      | exact absurd (‹(e.op==2)=true›.symm.trans ‹(e.op==2)=false›) (by decide)
      | exact lin_wrap (lin_const ‹(e.op==0)=true›) ⟨rfl,_,rfl⟩
      | exact lin_wrap (lin_term ‹(e.op==0)=false› (or1 ‹(e.op==1)=true›)) ⟨rfl,_,sum_new hnew⟩
      | exact lin_wrap (lin_term ‹(e.op==0)=false› (or1 ‹(e.op==1)=true›)) ⟨rfl,_,sum_old hj3⟩
      | exact lin_wrap (lin_term ‹(e.op==0)=false› (or2 ‹(e.op==2)=true›)) ⟨rfl,_,sum_new hnew⟩
      | exact lin_wrap (lin_term ‹(e.op==0)=false› (or2 ‹(e.op==2)=true›)) ⟨rfl,_,sum_old hj3⟩
      | exact ⟨congrArg AV.bool (lin_two_snd hl2 (.inl ⟨ho,rfl⟩)),_,rfl⟩
      | exact ⟨congrArg AV.bool (lin_two_snd hl2 (.inr ⟨ho,rfl⟩)),_,rfl⟩
      | exact lin_wrap (lin_else ‹(e.op==0)=false› (or0 ‹(e.op==1)=false› ‹(e.op==2)=false›) ‹(e.op==5)=false› ‹(e.op==6)=false›) ⟨rfl,_,rfl⟩
   ·
    refine Qsr (Qp Qceq (Qp Qab (Qnn (Qif (fun hc7=>?_) fun hc7=>?_))))
    ·
     refine AW.seq ?_
     have ho:=eq_of_beq ‹(e.op==5)=true›
     have hl2:=len_two' hz.1 (by omega)
     have h00:0<e.args.length:=by omega
     have hsz:=arg_sizes hl2
     have hs0:=lin_ok _ (hz.2 _ (arg0_mem h00)) hb hs
     refine AW.region (Qp Qmv (Qp Qf1 (Qp Qls ?_)))
     refine Qp (P_indexAddr (c:=[.int .i64 _,_,.int .i64 _,.int .i64 _,.int .i64 _,.int .i64 _,.int .i64 _,.str _]) tok rfl rfl rfl rfl rfl rfl (by decide) (arg0_at h00)) ?_
     refine Qp Qle (Qp Qmi ?_)
     refine Qe (E_callf (by kernel_rfl) rfl rfl (ih _ (arg0_mem h00) (hz.2 _ (arg0_mem h00)) n b hb s hs (by omega) v)) ?_
     rintro _ _ ⟨rfl,u0,rfl⟩
     refine Qp Qmb (Qg [] Qw Qmv (Qg [] Qw Qf1 (Qg [(78,_)] Qw Qls ?_)))
     refine AOL.g (y:=.ptr _) _ [(79,_)] rfl (EntL.all ⟨Ent.self _ _,trivial⟩) (fun hG=>P_indexAddr (c:=[.int .i64 _,_,.int .i64 _,.int .i64 _,.int .i64 _,.int .i64 _,.int .i64 _,.str _]) tok rfl rfl rfl rfl rfl rfl (by decide) (arg1_at hl2)) rfl ?_
     refine Qg [(80,_)] Qw Qle (Qg [] Qw Qmi ?_)
     refine AOL.geX (F:=fun u=>sumH m bs u (linS e b s).1 R) _ [(77,_),(81,_),(82,_)] rfl (EntL.all ⟨Ent.self _ _,Ent.self _ _,Ent.self _ _,trivial⟩) (fun hG=>E_callf (by kernel_rfl) rfl rfl (lin_call hl2 (.inl ⟨ho,rfl⟩) hG (ih _ (arg1_mem hl2) (hz.2 _ (arg1_mem hl2)) (n+sizeN (arg0 e)) b hb _ hs0 (by omega) u0))) (fun hG=>lin_two_f hl2 (.inl ⟨ho,rfl⟩) hG) rfl fun u1=>?_
     refine Qp Qpa (Qp Qab (Qnn (AW.ret (blkR (thenR ?_)))))
     refine ⟨.inr rfl,[.bool _],.cons (.tmp _ _ rfl) <| .nil,_,.refl _,?_⟩
     first
      | exact absurd (‹(e.op==1)=true›.symm.trans ‹(e.op==1)=false›) (by decide)
      | exact absurd (‹(e.op==2)=true›.symm.trans ‹(e.op==2)=false›) (by decide)
      | exact lin_wrap (lin_const ‹(e.op==0)=true›) ⟨rfl,_,rfl⟩
      | exact lin_wrap (lin_term ‹(e.op==0)=false› (or1 ‹(e.op==1)=true›)) ⟨rfl,_,sum_new hnew⟩
      | exact lin_wrap (lin_term ‹(e.op==0)=false› (or1 ‹(e.op==1)=true›)) ⟨rfl,_,sum_old hj3⟩
      | exact lin_wrap (lin_term ‹(e.op==0)=false› (or2 ‹(e.op==2)=true›)) ⟨rfl,_,sum_new hnew⟩
      | exact lin_wrap (lin_term ‹(e.op==0)=false› (or2 ‹(e.op==2)=true›)) ⟨rfl,_,sum_old hj3⟩
      | exact ⟨congrArg AV.bool (lin_two_snd hl2 (.inl ⟨ho,rfl⟩)),_,rfl⟩
      | exact ⟨congrArg AV.bool (lin_two_snd hl2 (.inr ⟨ho,rfl⟩)),_,rfl⟩
      | exact lin_wrap (lin_else ‹(e.op==0)=false› (or0 ‹(e.op==1)=false› ‹(e.op==2)=false›) ‹(e.op==5)=false› ‹(e.op==6)=false›) ⟨rfl,_,rfl⟩
    ·
     refine Qsr (Qp Qceq (Qp Qab (Qnn (Qif (fun hc8=>?_) fun hc8=>?_))))
     ·
      refine AW.seq ?_
      have ho:=eq_of_beq ‹(e.op==6)=true›
      have hl2:=len_two' hz.1 (by omega)
      have h00:0<e.args.length:=by omega
      have hsz:=arg_sizes hl2
      have hs0:=lin_ok _ (hz.2 _ (arg0_mem h00)) hb hs
      refine AW.region (Qp Qmv (Qp Qf1 (Qp Qls ?_)))
      refine Qp (P_indexAddr (c:=[.int .i64 _,_,.int .i64 _,.int .i64 _,.int .i64 _,.int .i64 _,.int .i64 _,.str _]) tok rfl rfl rfl rfl rfl rfl (by decide) (arg0_at h00)) ?_
      refine Qp Qle (Qp Qmi ?_)
      refine Qe (E_callf (by kernel_rfl) rfl rfl (ih _ (arg0_mem h00) (hz.2 _ (arg0_mem h00)) n b hb s hs (by omega) v)) ?_
      rintro _ _ ⟨rfl,u0,rfl⟩
      refine Qp Qmb (Qg [] Qw Qmv (Qg [] Qw Qf1 (Qg [(96,_)] Qw Qls ?_)))
      refine AOL.g (y:=.ptr _) _ [(97,_)] rfl (EntL.all ⟨Ent.self _ _,trivial⟩) (fun hG=>P_indexAddr (c:=[.int .i64 _,_,.int .i64 _,.int .i64 _,.int .i64 _,.int .i64 _,.int .i64 _,.str _]) tok rfl rfl rfl rfl rfl rfl (by decide) (arg1_at hl2)) rfl ?_
      refine Qg [(98,_)] Qw Qle (Qg [] Qw Qmi ?_)
      refine AOL.g (y:=.int .i64 _) _ [(100,_)] rfl (EntL.all ⟨Ent.self _ _,trivial⟩) (fun hG=>P_neg rfl rfl (by constructor <;> omega)) rfl ?_
      refine AOL.geX (F:=fun u=>sumH m bs u (linS e b s).1 R) _ [(95,_),(99,_),(101,_)] rfl (EntL.all ⟨Ent.self _ _,Ent.self _ _,Ent.self _ _,trivial⟩) (fun hG=>E_callf (by kernel_rfl) rfl rfl (lin_call hl2 (.inr ⟨ho,rfl⟩) hG (ih _ (arg1_mem hl2) (hz.2 _ (arg1_mem hl2)) (n+sizeN (arg0 e)) (0-b) (by omega) _ hs0 (by omega) u0))) (fun hG=>lin_two_f hl2 (.inr ⟨ho,rfl⟩) hG) rfl fun u1=>?_
      refine Qp Qpa (Qp Qab (Qnn (AW.ret (blkR (thenR ?_)))))
      refine ⟨.inr rfl,[.bool _],.cons (.tmp _ _ rfl) <| .nil,_,.refl _,?_⟩
      first
       | exact absurd (‹(e.op==1)=true›.symm.trans ‹(e.op==1)=false›) (by decide)
       | exact absurd (‹(e.op==2)=true›.symm.trans ‹(e.op==2)=false›) (by decide)
       | exact lin_wrap (lin_const ‹(e.op==0)=true›) ⟨rfl,_,rfl⟩
       | exact lin_wrap (lin_term ‹(e.op==0)=false› (or1 ‹(e.op==1)=true›)) ⟨rfl,_,sum_new hnew⟩
       | exact lin_wrap (lin_term ‹(e.op==0)=false› (or1 ‹(e.op==1)=true›)) ⟨rfl,_,sum_old hj3⟩
       | exact lin_wrap (lin_term ‹(e.op==0)=false› (or2 ‹(e.op==2)=true›)) ⟨rfl,_,sum_new hnew⟩
       | exact lin_wrap (lin_term ‹(e.op==0)=false› (or2 ‹(e.op==2)=true›)) ⟨rfl,_,sum_old hj3⟩
       | exact ⟨congrArg AV.bool (lin_two_snd hl2 (.inl ⟨ho,rfl⟩)),_,rfl⟩
       | exact ⟨congrArg AV.bool (lin_two_snd hl2 (.inr ⟨ho,rfl⟩)),_,rfl⟩
       | exact lin_wrap (lin_else ‹(e.op==0)=false› (or0 ‹(e.op==1)=false› ‹(e.op==2)=false›) ‹(e.op==5)=false› ‹(e.op==6)=false›) ⟨rfl,_,rfl⟩
     ·
      refine AW.skip (blkN (thenN (Qsr (Qp Qab (Qnn (AW.ret ?_))))))
      refine ⟨.inr rfl,[.bool _],.cons (.tmp _ _ rfl) <| .nil,_,.refl _,?_⟩
      first
       | exact absurd (‹(e.op==1)=true›.symm.trans ‹(e.op==1)=false›) (by decide)
       | exact absurd (‹(e.op==2)=true›.symm.trans ‹(e.op==2)=false›) (by decide)
       | exact lin_wrap (lin_const ‹(e.op==0)=true›) ⟨rfl,_,rfl⟩
       | exact lin_wrap (lin_term ‹(e.op==0)=false› (or1 ‹(e.op==1)=true›)) ⟨rfl,_,sum_new hnew⟩
       | exact lin_wrap (lin_term ‹(e.op==0)=false› (or1 ‹(e.op==1)=true›)) ⟨rfl,_,sum_old hj3⟩
       | exact lin_wrap (lin_term ‹(e.op==0)=false› (or2 ‹(e.op==2)=true›)) ⟨rfl,_,sum_new hnew⟩
       | exact lin_wrap (lin_term ‹(e.op==0)=false› (or2 ‹(e.op==2)=true›)) ⟨rfl,_,sum_old hj3⟩
       | exact ⟨congrArg AV.bool (lin_two_snd hl2 (.inl ⟨ho,rfl⟩)),_,rfl⟩
       | exact ⟨congrArg AV.bool (lin_two_snd hl2 (.inr ⟨ho,rfl⟩)),_,rfl⟩
       | exact lin_wrap (lin_else ‹(e.op==0)=false› (or0 ‹(e.op==1)=false› ‹(e.op==2)=false›) ‹(e.op==5)=false› ‹(e.op==6)=false›) ⟨rfl,_,rfl⟩

set_option maxHeartbeats 3200000
set_option maxRecDepth 20000

theorem d_between (a b:Ex)(hna:nodesS a=0)(hnb:nodesS b=0)(hs:sizeN a+sizeN b≤1048576):APure Tryz.prog 137 [.agg (cE a),.agg (cE b)] (.tuple [.agg (cGp (betweenS a b).1),.bool (betweenS a b).2]):=by
 have hok:=sumEnd_ok hna hnb
 have hnd:=sumEnd_nodup hna hnb
 have htl:=hok.len
 refine APure.body (n:=75) tok Tryz.func137 rfl rfl rfl fun H=>?_
 refine Qsr (Qp Qbe (Qp Qbe ?_))
 refine Qe (E_alloc (l:=[.sl 3 [],.sl 3 [],.int .i64 0]) (by kernel_rfl)) ?_
 rintro _ _ ⟨b4,rfl,rfl⟩
 refine Qp Qab (Qns ?_)
 refine Qe (E_makeKMap) ?_
 rintro _ _ ⟨b10,rfl,rfl⟩
 refine Qp (P_buildZ (l0:=[.val (.map none),.val (.slice none 0 0),.int .i64 0]) (l:=[_,_,_]) tok rfl rfl (by kernel_rfl) rfl) ?_
 refine Qe (E_box (v:=.agg _) (cs:=[_,_,.int .i64 _]) rfl rfl (rfl)) ?_
 rintro _ _ ⟨b12,rfl,rfl⟩
 refine Qp Qav ?_
 refine AOL.ghost (GS.cellRow 0 1 143 3 rfl rfl rfl rfl) ?_
 refine Qnn (AW.seq (Qsr (Qp Qmv (Qp Qle ?_))))
 refine Qe (E_callf (by kernel_rfl) rfl rfl (d_add b10 b12 _ a hna 0 1 (.inl rfl) su0 su0_ok (by omega) _)) ?_
 rintro _ _ ⟨rfl,u0,rfl⟩
 refine Qp Qnt (Qp Qmb (Qg [] Qw Qmv (Qg [] Qw Qle ?_)))
 refine AOL.geX (F:=fun u=>sumH b10 b12 u (sumEnd a b) (.box b4 178 [.sl 3 [],.sl 3 [],.int .i64 0]::H)) _ [(18,_),(19,_)] rfl (EntL.all ⟨Ent.self _ _,Ent.self _ _,trivial⟩) (fun hG=>E_callf (by kernel_rfl) rfl rfl (btw_call hG (d_add b10 b12 _ b hnb (0+sizeN a) (-1) (.inr rfl) _ (lin_ok a hna (.inl rfl) su0_ok) (by omega) u0))) (fun hG=>btw_f (m:=b10) (bs:=b12) (v:=u0) (b:=b) (R:=(.box b4 178 [.sl 3 [],.sl 3 [],.int .i64 0]::H)) hG) rfl fun u1=>?_
 refine Qg [(20,_)] Qw Qnt (Qp Qpo (Qnn (Qif (fun hc1=>?_) fun hc1=>?_)))
 ·
  refine Qsr (Qp (Qbd [_,_,.int .i64 _]) ?_)
  refine Qe (E_store (k:=3) (v:=.agg _) (cs':=[_,_,.int .i64 _]) (H2:=_::_::_::_::_) tok rfl rfl rfl rfl (rfl) rfl rfl rfl rfl) ?_
  rintro _ _ ⟨rfl,rfl⟩
  refine Qp Qab (Qnn (Qrt ?_))
  refine ⟨.inr rfl,[.agg [_,_,.int .i64 _],.bool _],.cons (.box _ _ _ 3 _ _ _ _ rfl rfl rfl rfl rfl rfl) <| .cons (.tmp _ _ rfl) <| .nil,.cons _ (.cons _ (.cons _ (.cons _ (.refl _)))),?_⟩
  exact Eq.trans rfl (congrArg (fun q:Gp×Bool=>AV.tuple [.agg (cGp q.1),.bool q.2]) (btw_no hc1)).symm
 ·
  refine Qst (Qsr (Qp Qmv ?_))
  refine Qp (P_nilCheck rfl) ?_
  refine Qp Qfv ?_
  refine AOL.pk (P_load_box (k:=1) (c:=.int .i64 _) tok rfl rfl rfl rfl) rfl rfl ?_
  refine Qp (P_buildZ (l0:=[.val (.slice none 0 0),.val (.slice none 0 0),.int .i64 0]) (l:=[_,_,_]) tok rfl rfl (by kernel_rfl) rfl) ?_
  refine Qe (E_alloc (l:=[.sl 3 [],.sl 3 [],.int .i64 0]) (by kernel_rfl)) ?_
  rintro _ _ ⟨b7,rfl,rfl⟩
  refine Qe (E_store (k:=0) (v:=.agg _) (cs':=[_,_,.int .i64 _]) (H2:=_::_::_::_::_::_) tok rfl rfl rfl rfl (rfl) rfl rfl rfl rfl) ?_
  rintro _ _ ⟨rfl,rfl⟩
  refine AOL.ghost (GS.cellRow 0 0 143 3 rfl rfl rfl rfl) ?_
  refine AOL.ghost (GS.cellRow 1 1 143 3 rfl rfl rfl rfl) ?_
  refine Qnn (AW.seq (Qsr (Qp Qmv ?_)))
  refine Qp (P_nilCheck rfl) ?_
  refine Qp Qfv ?_
  refine AOL.pk (P_load_box (k:=4) (c:=.row _ _ _) tok rfl rfl rfl rfl) rfl rfl ?_
  refine Qp (P_len_row (n:=(sumEnd a b).ts.length) tok rfl rfl rfl (by simp)) ?_
  refine Qp Qmi (Qnn (AW.block ?_))
  refine AW.loopS (fun (p:Nat×List Tm×List Tm×Value×Value×List (List AV)×List (List AV))=>(⟨[(2,.ptr (cE a)),(3,.ptr (cE b)),(4,.val (.pointer (some ⟨b4,0,none⟩))),(5,.bool false),(6,.val (.pointer (some ⟨b12,0,none⟩))),(7,.val (.pointer (some ⟨b7,0,none⟩))),(32,.row u1 3 ((sumEnd a b).ts.map fun p=>cTm p.1)),(33,.int .i64 (sumEnd a b).ts.length),(34,.int .i64 (p.1:Int))],.row p.2.2.2.2.1 p.2.2.2.2.2.2.length 143 3 :: .row p.2.2.2.1 p.2.2.2.2.2.1.length 143 3 :: .box b7 178 [.row p.2.2.2.1 3 p.2.2.2.2.2.1,.row p.2.2.2.2.1 3 p.2.2.2.2.2.2,.int .i64 (sumEnd a b).rest]::sumH b10 b12 u1 (sumEnd a b) (.box b4 178 [.sl 3 [],.sl 3 [],.int .i64 0]::H),75⟩:St)) (fun (p:Nat×List Tm×List Tm×Value×Value×List (List AV)×List (List AV))=>p.1≤(sumEnd a b).ts.length∧partsS (sumEnd a b).ts [] []=partsS ((sumEnd a b).ts.drop p.1) p.2.1 p.2.2.1∧p.2.1.length≤p.1∧p.2.2.1.length≤p.1∧p.2.2.2.2.2.1=p.2.1.map cTm∧p.2.2.2.2.2.2=p.2.2.1.map cTm) (fun (p:Nat×List Tm×List Tm×Value×Value×List (List AV)×List (List AV))=>(sumEnd a b).ts.length-p.1) ((0,[],[],.slice none 0 0,.slice none 0 0,[],[])) ?_ (GS.weaken ⟨rfl,rfl,rfl,rfl,rfl,rfl,rfl,rfl,rfl,trivial⟩ (.refl _)) ?_
  · exact ⟨Nat.zero_le _,rfl,Nat.le_refl _,Nat.le_refl _,rfl,rfl⟩
  ·
   rintro p hR
   have hpl:=hR.2.2.1
   have hml:=hR.2.2.2.1
   have hpe:=hR.2.2.2.2.1
   have hme:=hR.2.2.2.2.2
   have hpel:p.2.2.2.2.2.1.length=p.2.1.length:=by rw [hpe];simp
   have hmel:p.2.2.2.2.2.2.length=p.2.2.1.length:=by rw [hme];simp
   refine Qsr (Qp Qclt (Qnn (AW.seq (Qif (fun hc2=>?_) fun hc2=>?_))))
   ·
    obtain ⟨q,hq⟩:=get_lt hc2
    have hlt:=get_lt' hq
    have hdc:=drop_cons hq
    have hR2:=hR.2.1
    rw [hdc] at hR2
    refine Qst (AW.seq (AW.block (Qsr ?_)))
    refine Qp (P_indexAddr_row (c:=[.int .i64 _,.int .i64 _,.int .i64 _]) tok rfl rfl rfl rfl rfl rfl (by omega) (map_at hq)) ?_
    refine Qp (Qlg [.int .i64 _,.int .i64 _,.int .i64 _]) ?_
    refine Qe (E_alloc (l:=[.int .i64 0,.int .i64 0,.int .i64 0]) (by kernel_rfl)) ?_
    rintro _ _ ⟨b9,rfl,rfl⟩
    refine Qe (E_store (k:=0) (v:=.agg _) (cs':=[.int .i64 _,.int .i64 _,.int .i64 _]) (H2:=_::_::_::_::_::_::_::_::_) tok rfl rfl rfl rfl (rfl) rfl rfl rfl rfl) ?_
    rintro _ _ ⟨rfl,rfl⟩
    refine AOL.ghost (GS.freeze (t:=9) 0 rfl rfl) ?_
    refine Qnn (AW.seq ?_)
    refine AW.draw mixed (fun H'=>_∈H'∧_∈H') ⟨(List.mem_of_getElem? (i:=4) rfl),(List.mem_of_getElem? (i:=5) rfl)⟩ (by kernel_rfl) ?_
    refine Qn 0 rfl Qmv ?_
    refine Qn 1 rfl (P_nilCheck rfl) ?_
    refine Qn 2 rfl Qfv ?_
    refine Qn 3 rfl (OpP.mem (fun k=>P_load_box (k:=k) (c:=.val _) tok rfl rfl rfl rfl) (fun _ h=>h.1)) ?_
    refine Qn 4 rfl (Qlg [.int .i64 _,.int .i64 _,.int .i64 _]) ?_
    refine Qn 5 rfl (OpP.mem (fun k=>P_klook (i:=k) (eq:=eqTm q.1) tok rfl rfl rfl rfl rfl (by kernel_rfl) rfl rfl (rfl) (sMap_eq q.1 (sumEnd a b).ts) (look_at hnd hq)) (fun _ h=>h.2)) ?_
    refine Canon.done _ _ (by kernel_rfl) ?_
    refine thenN (AW.block (Qsr (Qp Qceq (Qp Qab (Qnn (Qif (fun hc3=>?_) fun hc3=>?_))))))
    ·
     refine AW.skip (blkN (blkN (thenN (AW.region (Qp Qad (Qp Qmi (Qnn ?_)))))))
     refine ⟨(p.1+1,p.2.1,p.2.2.1,p.2.2.2.1,p.2.2.2.2.1,p.2.2.2.2.2.1,p.2.2.2.2.2.2),?_,?_,GS.weaken ⟨rfl,rfl,rfl,rfl,rfl,rfl,rfl,rfl,rfl,trivial⟩ (.refl _)⟩
     · exact ⟨hlt,by simp only;rw [hR2,parts_0 hc3],by simp only;omega,by simp only;omega,hpe,hme⟩
     · simp only;omega
    ·
     refine Qsr (Qp Qceq (Qp Qab (Qnn (Qif (fun hc4=>?_) fun hc4=>?_))))
     ·
      have hsc:∀c∈p.2.2.2.2.2.1,scalars c=true:=by rw [hpe];exact sc_map fun _=>rfl
      refine AW.region (Qp Qfv ?_)
      refine AOL.pk (P_load_box (k:=2) (c:=.row _ _ _) tok rfl rfl rfl rfl) rfl rfl ?_
      refine Qp (Qlg [.int .i64 _,.int .i64 _,.int .i64 _]) ?_
      refine Qp (P_buildSlice (es:=[[.int .i64 _,.int .i64 _,.int .i64 _]]) tok rfl rfl rfl rfl rfl rfl rfl rfl rfl) ?_
      refine Qe (E_append (k:=1) tok rfl rfl rfl rfl rfl rfl rfl rfl (sc_one rfl) (hsc) (by simp;omega) (by simp [maxLen];omega)) ?_
      rintro _ _ ⟨v53,rfl,rfl⟩
      refine Qp Qfv ?_
      refine Qe (E_store (k:=2) (v:=.row _ _ _) (cs':=[_,_,.int .i64 _]) (H2:=_::_::_::_::_::_::_::_) tok rfl rfl rfl rfl (rfl) rfl rfl rfl rfl) ?_
      rintro _ _ ⟨rfl,rfl⟩
      refine AOL.nil (blkN (blkN (thenN (AW.region (Qp Qad (Qp Qmi (Qnn ?_)))))))
      refine ⟨(p.1+1,p.2.1 ++ [q.1],p.2.2.1,v53,p.2.2.2.2.1,p.2.2.2.2.2.1 ++ [cTm q.1],p.2.2.2.2.2.2),?_,?_,GS.weaken ⟨rfl,rfl,rfl,rfl,rfl,rfl,rfl,rfl,rfl,trivial⟩ (.refl _)⟩
      · exact ⟨hlt,by simp only;rw [hR2,parts_1 hc3 hc4],by simp only [List.length_append,List.length_singleton];omega,by simp only [List.length_append,List.length_singleton];omega,by simp [hpe],by simp [hme]⟩
      · simp only;omega
     ·
      refine Qsr (Qp Qceq (Qp Qab (Qnn (Qif (fun hc5=>?_) fun hc5=>?_))))
      ·
       have hsc:∀c∈p.2.2.2.2.2.2,scalars c=true:=by rw [hme];exact sc_map fun _=>rfl
       refine AW.region (Qp Qfv ?_)
       refine AOL.pk (P_load_box (k:=2) (c:=.row _ _ _) tok rfl rfl rfl rfl) rfl rfl ?_
       refine Qp (Qlg [.int .i64 _,.int .i64 _,.int .i64 _]) ?_
       refine Qp (P_buildSlice (es:=[[.int .i64 _,.int .i64 _,.int .i64 _]]) tok rfl rfl rfl rfl rfl rfl rfl rfl rfl) ?_
       refine Qe (E_append (k:=0) tok rfl rfl rfl rfl rfl rfl rfl rfl (sc_one rfl) (hsc) (by simp;omega) (by simp [maxLen];omega)) ?_
       rintro _ _ ⟨v61,rfl,rfl⟩
       refine Qp Qfv ?_
       refine Qe (E_store (k:=2) (v:=.row _ _ _) (cs':=[_,_,.int .i64 _]) (H2:=_::_::_::_::_::_::_::_) tok rfl rfl rfl rfl (rfl) rfl rfl rfl rfl) ?_
       rintro _ _ ⟨rfl,rfl⟩
       refine AOL.nil (blkN (blkN (thenN (AW.region (Qp Qad (Qp Qmi (Qnn ?_)))))))
       refine ⟨(p.1+1,p.2.1,p.2.2.1 ++ [q.1],p.2.2.2.1,v61,p.2.2.2.2.2.1,p.2.2.2.2.2.2 ++ [cTm q.1]),?_,?_,GS.weaken ⟨rfl,rfl,rfl,rfl,rfl,rfl,rfl,rfl,rfl,trivial⟩ (.refl _)⟩
       · exact ⟨hlt,by simp only;rw [hR2,parts_2 hc3 hc4 hc5],by simp only [List.length_append,List.length_singleton];omega,by simp only [List.length_append,List.length_singleton];omega,by simp [hpe],by simp [hme]⟩
       · simp only;omega
      ·
       refine Qsr (Qp (Qbd [_,_,.int .i64 _]) ?_)
       refine Qe (E_store (k:=6) (v:=.agg _) (cs':=[_,_,.int .i64 _]) (H2:=_::_::_::_::_::_::_::_) tok rfl rfl rfl rfl (rfl) rfl rfl rfl rfl) ?_
       rintro _ _ ⟨rfl,rfl⟩
       refine Qp Qab (Qnn (AW.ret (blkR (blkR (thenR (thenR (blkR (thenR ?_))))))))
       refine ⟨.inr rfl,[.agg [_,_,.int .i64 _],.bool _],.cons (.box _ _ _ 6 _ _ _ _ rfl rfl rfl rfl rfl rfl) <| .cons (.tmp _ _ rfl) <| .nil,.cons _ (.cons _ (.cons _ (.cons _ (.cons _ (.cons _ (.cons _ (.refl _))))))),?_⟩
       exact Eq.trans rfl (congrArg (fun q:Gp×Bool=>AV.tuple [.agg (cGp q.1),.bool q.2]) (btw_part_no hc1 (hR2.trans (parts_3 hc3 hc4 hc5)))).symm
   ·
    have hde:=get_end hc2
    have hR2:=hR.2.1
    rw [hde] at hR2
    refine AW.exit ?_
    refine thenE (thenE (blkHit (thenN (AW.seq ?_))))
    refine AW.ghost (GS.cell 2 0 rfl rfl rfl rfl unrow_cell) ?_
    refine AW.ghost (GS.cell 2 1 rfl rfl rfl rfl unrow_cell) ?_
    refine AW.draw mixed (fun H'=>_∈H') (List.mem_of_getElem? (i:=2) rfl) (by kernel_rfl) ?_
    refine Qn 0 rfl (OpP.mem (fun k=>P_load_box_agg (k:=k) (l:=[_,_,.int .i64 _]) tok rfl rfl rfl rfl rfl) (fun _ h=>h)) ?_
    refine Qn 1 rfl Qfv ?_
    refine Qn 2 rfl (OpP.mem (fun k=>P_load_box (k:=k) (c:=.sl _ _) tok rfl rfl rfl rfl) (fun _ h=>h)) ?_
    refine Qn 3 rfl (P_len_sl (n:=p.2.1.length) tok rfl rfl rfl (hpel)) ?_
    refine Qn 4 rfl Qclq (Qn 5 rfl Qmb (Qo 6 rfl [] Qw Qfv ?_))
    refine Canon.pure _ _ 7 _ _ rfl (by kernel_rfl) (by kernel_rfl) rfl (.opt _ (.sl _ _) [(70,_)] rfl (EntL.all ⟨Ent.self _ _,trivial⟩) (fun hG=>OpP.mem (fun k=>P_load_box (k:=k) (c:=.sl _ _) tok rfl rfl rfl rfl) (fun _ h=>h)) rfl) ?_
    refine Canon.pure _ _ 8 _ _ rfl (by kernel_rfl) (by kernel_rfl) rfl (.opt _ (.int .i64 _) [(71,_)] rfl (EntL.all ⟨Ent.self _ _,trivial⟩) (fun hG=>P_len_sl (n:=p.2.2.1.length) tok rfl rfl rfl (hmel)) rfl) ?_
    refine Qo 9 rfl [(72,_)] Qw Qclq (Qn 10 rfl Qpa ?_)
    refine Canon.eff _ _ 11 _ _ rfl (by kernel_rfl) rfl rfl (E_store (k:=6) (v:=.agg _) (cs':=[_,_,.int .i64 _]) (H2:=_::_::_::_::_::_::_::_) tok rfl rfl rfl rfl (rfl) rfl rfl rfl rfl) (by rintro _ _ ⟨rfl,rfl⟩;simp) ?_
    rintro _ _ ⟨rfl,rfl⟩
    refine Qn 12 rfl Qab ?_
    refine Canon.done _ _ (by kernel_rfl) ?_
    refine thenN (AW.ret ?_)
    refine ⟨.inr rfl,[.agg [_,_,.int .i64 _],.bool _],.cons (.box _ _ _ 6 _ _ _ _ rfl rfl rfl rfl rfl rfl) <| .cons (.tmp _ _ rfl) <| .nil,.cons _ (.cons _ (.cons _ (.cons _ (.cons _ (.cons _ (.cons _ (.refl _))))))),?_⟩
    rw [hpe,hme]
    exact Eq.trans rfl (congrArg (fun q:Gp×Bool=>AV.tuple [.agg (cGp q.1),.bool q.2]) (btw_part hc1 hR2)).symm

set_option maxHeartbeats 1600000
set_option maxRecDepth 20000

theorem d_simple (T:List Sc)(V:List Va)(e:Ex)(hk:KOK T V e)(hse:sizeN e≤1048576):APure Tryz.prog 84 [.agg (cScene T V),.agg (cE e)] (.bool (simpleS T V e)):=by
 refine APure.body (n:=47) tok Tryz.func84 rfl rfl rfl fun H=>?_
 refine Qsr (Qp (Qbx [_,_]) (Qp Qbe (Qp Qab (Qns ?_))))
 refine Qp (P_assign (v:=.fn _ _ _) rfl) ?_
 refine Qnn (AW.seq (AW.block (Qsr (Qp Qf0 (Qp Qli (Qp Qceq (Qp Qab (Qnn (Qif (fun hc1=>?_) fun hc1=>?_)))))))))
 ·
  refine Qsr (Qp Qab (Qnn (AW.ret (blkR (thenR ?_)))))
  refine Qr (.bool _) ?_
  exact Eq.trans rfl (congrArg (fun q:Bool=>AV.bool q) (simple_1 hc1)).symm
 ·
  refine Qsr (Qp Qle ?_)
  refine Qp (Qc rfl (d_compares e)) ?_
  refine Qp Qnt (Qp Qab (Qnn (Qif (fun hc2=>?_) fun hc2=>?_)))
  ·
   refine Qsr (Qp Qab (Qnn (AW.ret (blkR (thenR ?_)))))
   refine Qr (.bool _) ?_
   exact Eq.trans rfl (congrArg (fun q:Bool=>AV.bool q) (simple_2 hc1 hc2)).symm
  ·
   refine Qsr (Qp (Qlg [_,_]) (Qp Qle ?_))
   refine Qp (Qc rfl (d_texts T V e hk)) ?_
   refine Qp Qab (Qnn (Qif (fun hc3=>?_) fun hc3=>?_))
   ·
    refine AW.seq ?_
    have hcmp:comparesS e=true:=by simpa using ‹(!comparesS e)=false›
    have h2:=cmp_two hk hcmp
    have h00:0<e.args.length:=by omega
    have hsz:=arg_sizes h2
    have hk0:=kok_arg hk (arg0_mem h00)
    have hk1:=kok_arg hk (arg1_mem h2)
    refine AW.region ?_
    refine Qp (P_move (v:=.fn _ _ _) rfl) ?_
    refine Qp Qf1 (Qp Qls ?_)
    refine Qp (P_indexAddr (c:=[.int .i64 _,_,.int .i64 _,.int .i64 _,.int .i64 _,.int .i64 _,.int .i64 _,.str _]) tok rfl rfl rfl rfl rfl rfl (by decide) (arg0_at h00)) ?_
    refine Qp Qle ?_
    refine Qp (P_call (by kernel_rfl) rfl rfl rfl (d_direct (arg0 e))) ?_
    refine Qp Qmb ?_
    refine AOL.g (y:=.fn _ _ _) _ [] rfl (EntL.all trivial) (fun hG=>P_move (v:=.fn _ _ _) rfl) rfl ?_
    refine Qg [] Qw Qf1 (Qg [(28,_)] Qw Qls ?_)
    refine AOL.g (y:=.ptr _) _ [(29,_)] rfl (EntL.all ⟨Ent.self _ _,trivial⟩) (fun hG=>P_indexAddr (c:=[.int .i64 _,_,.int .i64 _,.int .i64 _,.int .i64 _,.int .i64 _,.int .i64 _,.str _]) tok rfl rfl rfl rfl rfl rfl (by decide) (arg1_at h2)) rfl ?_
    refine Qg [(30,_)] Qw Qle ?_
    refine AOL.g (y:=.bool _) _ [(31,_),(27,_)] rfl (EntL.all ⟨Ent.self _ _,Ent.self _ _,trivial⟩) (fun hG=>P_call (by kernel_rfl) rfl rfl rfl (d_direct (arg1 e))) rfl ?_
    refine Qp Qpa (Qp Qab (Qnn (AW.ret (blkR (thenR ?_)))))
    refine Qr (.bool _) ?_
    exact Eq.trans rfl (congrArg (fun q:Bool=>AV.bool q) (simple_3 hc1 hc2 hc3)).symm
   ·
    refine AW.skip (blkN (thenN (AW.seq ?_)))
    have hcmp:comparesS e=true:=by simpa using ‹(!comparesS e)=false›
    have h2:=cmp_two hk hcmp
    have h00:0<e.args.length:=by omega
    have hsz:=arg_sizes h2
    have hk0:=kok_arg hk (arg0_mem h00)
    have hk1:=kok_arg hk (arg1_mem h2)
    refine AW.draw mixed (fun _=>True) trivial (by kernel_rfl) ?_
    refine Qn 0 rfl Qf1 (Qn 1 rfl Qls ?_)
    refine Qn 2 rfl (P_indexAddr (c:=[.int .i64 _,_,.int .i64 _,.int .i64 _,.int .i64 _,.int .i64 _,.int .i64 _,.str _]) tok rfl rfl rfl rfl rfl rfl (by decide) (arg0_at h00)) ?_
    refine Qn 3 rfl Qle (Qn 4 rfl Qf1 (Qn 5 rfl Qls ?_))
    refine Qn 6 rfl (P_indexAddr (c:=[.int .i64 _,_,.int .i64 _,.int .i64 _,.int .i64 _,.int .i64 _,.int .i64 _,.str _]) tok rfl rfl rfl rfl rfl rfl (by decide) (arg1_at h2)) ?_
    refine Qn 7 rfl Qle ?_
    refine Qn 8 rfl (Qc rfl (d_between _ _ hk0.nodes hk1.nodes (by omega))) ?_
    refine Qn 9 rfl Qmu ?_
    refine Qn 10 rfl (P_extract (v:=.agg [_,_,.int .i64 _]) rfl rfl) ?_
    refine Qn 11 rfl Qxb ?_
    refine Canon.eff _ _ 12 _ _ rfl (by kernel_rfl) rfl rfl (E_alloc (l:=[.sl 3 [],.sl 3 [],.int .i64 0]) (by kernel_rfl)) (fun _ _ _=>trivial) ?_
    rintro _ _ ⟨b6,rfl,rfl⟩
    refine Canon.eff _ _ 13 _ _ rfl (by kernel_rfl) rfl rfl (E_store (k:=0) (v:=.agg _) (cs':=[_,_,.int .i64 _]) (H2:=_::_) tok rfl rfl rfl rfl (rfl) rfl rfl rfl rfl) (fun _ _ _=>trivial) ?_
    rintro _ _ ⟨rfl,rfl⟩
    refine Qn 14 rfl Qab ?_
    refine Canon.done _ _ (by kernel_rfl) ?_
    refine thenN ?_
    refine AW.ghost (GS.freeze (t:=6) 0 rfl rfl) ?_
    refine Qsr (Qp Qmb (Qp Qab (Qnn (AW.ret ?_))))
    refine Qr (.bool _) ?_
    exact Eq.trans rfl (congrArg (fun q:Bool=>AV.bool q) (simple_4 hc1 hc2 hc3)).symm


set_option maxHeartbeats 3200000
set_option maxRecDepth 20000

theorem d_product (a b:List (List Lit))(hla:a.length≤512)(hlb:b.length≤512)(ha:∀x∈a,x.length≤1048576)(hb:∀x∈b,x.length≤1048576):APure Tryz.prog 106 [.sl 1 (a.map cCl),.sl 1 (b.map cCl)] (.tuple [.sl 1 ((prodS a b).1.map cCl),.bool (prodS a b).2]):=by
 refine APure.body (n:=40) tok Tryz.func106 rfl rfl rfl fun H=>?_
 refine Qsr ?_
 refine Qp (P_assign_nil (z:=1) rfl) ?_
 refine Qp Qab (Qnn (AW.seq (Qsr (Qp Qms ?_))))
 refine Qp (P_len_sl (n:=a.length) tok rfl rfl rfl (by simp)) ?_
 refine Qp Qms ?_
 refine Qp (P_len_sl (n:=b.length) tok rfl rfl rfl (by simp)) ?_
 refine Qp (P_mul rfl rfl rfl (by constructor <;> (have h1:(0:Int)≤(a.length:Int)*(b.length:Int):=Int.mul_nonneg (by omega) (by omega);have h2:(a.length:Int)*(b.length:Int)≤512*512:=Int.mul_le_mul (by omega) (by omega) (by omega) (by omega);omega))) ?_
 refine Qp Qcgt (Qnn (Qif (fun hc1=>?_) fun hc1=>?_))
 ·
  refine Qsr ?_
  refine Qp (P_assign_nil (z:=1) rfl) ?_
  refine Qp Qab (Qnn (Qrt ?_))
  refine Qrr (.sl _ _) (.bool _) ?_
  exact Eq.trans rfl (congrArg (fun q:Cs=>AV.tuple [.sl 1 (q.1.map cCl),.bool q.2]) (prod_no hc1)).symm
 ·
  refine Qst (Qsr (Qp Qav ?_))
  refine AOL.ghost (GS.row (t:=6) 71 1 rfl) ?_
  refine Qnn (AW.seq (Qsr (Qp Qms ?_)))
  refine Qp (P_len_sl (n:=a.length) tok rfl rfl rfl (by simp)) ?_
  refine Qp Qmi (Qnn (AW.block ?_))
  refine AW.loopS (fun (p:Nat×List (List AV)×Value)=>(⟨[(0,.sl 1 (a.map cCl)),(1,.sl 1 (b.map cCl)),(5,.bool false),(6,.row p.2.2 1 p.2.1),(17,.sl 1 (a.map cCl)),(18,.int .i64 a.length),(19,.int .i64 (p.1:Int))],.row p.2.2 p.2.1.length 71 1::H,40⟩:St)) (fun (p:Nat×List (List AV)×Value)=>p.1≤a.length∧p.2.1=((a.take p.1).flatMap fun x=>b.map fun y=>x++y).map cCl) (fun (p:Nat×List (List AV)×Value)=>a.length-p.1) ((0,[],.slice none 0 0)) ?_ (GS.weaken ⟨rfl,rfl,rfl,rfl,rfl,rfl,rfl,trivial⟩ (.refl _)) ?_
  · exact ⟨Nat.zero_le _,rfl⟩
  ·
   rintro p hR
   refine Qsr (Qp Qclt (Qnn (AW.seq (Qif (fun hc2=>?_) fun hc2=>?_))))
   ·
    obtain ⟨x,hx⟩:=get_lt hc2
    have hlx:=get_lt' hx
    have hxl:=ha x (List.mem_of_getElem? hx)
    refine Qst (AW.seq (AW.block (Qsr ?_)))
    refine Qp (P_indexAddr (c:=[_]) tok rfl rfl rfl rfl rfl rfl (by omega) (map_at hx)) ?_
    refine Qp Qls (Qp Qas (Qns (Qp Qms ?_)))
    refine Qp (P_len_sl (n:=b.length) tok rfl rfl rfl (by simp)) ?_
    refine Qp Qmi (Qnn (AW.block ?_))
    refine AW.loopS (fun (q:Nat×List (List AV)×Value)=>(⟨[(0,.sl 1 (a.map cCl)),(1,.sl 1 (b.map cCl)),(5,.bool false),(6,.row q.2.2 1 q.2.1),(8,.sl 9 (x.map cLit)),(17,.sl 1 (a.map cCl)),(18,.int .i64 a.length),(19,.int .i64 (p.1:Int)),(23,.sl 1 (b.map cCl)),(24,.int .i64 b.length),(25,.int .i64 (q.1:Int))],.row q.2.2 q.2.1.length 71 1::H,40⟩:St)) (fun (q:Nat×List (List AV)×Value)=>q.1≤b.length∧q.2.1=(((a.take p.1).flatMap fun x=>b.map fun y=>x++y)++(b.take q.1).map fun y=>x++y).map cCl∧True) (fun (q:Nat×List (List AV)×Value)=>b.length-q.1) ((0,p.2.1,p.2.2)) ?_ (GS.weaken ⟨rfl,rfl,rfl,rfl,rfl,rfl,rfl,rfl,rfl,rfl,rfl,trivial⟩ (.refl _)) ?_
    · exact ⟨Nat.zero_le _,by simp only [List.take_zero,List.map_nil,List.append_nil];exact hR.2,trivial⟩
    ·
     rintro q hQ
     refine Qsr (Qp Qclt (Qnn (AW.seq (Qif (fun hc3=>?_) fun hc3=>?_))))
     ·
      obtain ⟨y,hy⟩:=get_lt hc3
      have hly:=get_lt' hy
      have hyl:=hb y (List.mem_of_getElem? hy)
      have hple:=prod_le hlx hly hc1
      refine Qst (AW.seq (AW.block (Qsr ?_)))
      refine Qp (P_indexAddr (c:=[_]) tok rfl rfl rfl rfl rfl rfl (by omega) (map_at hy)) ?_
      refine Qp Qls (Qp Qas (Qnn ?_))
      have hsx:∀c∈(x.map cLit),scalars c=true:=sc_map fun _=>rfl
      have hsy:∀c∈(y.map cLit),scalars c=true:=sc_map fun _=>rfl
      have hscx:∀c∈(x.map cLit++y.map cLit),scalars c=true:=fun c hc=>(List.mem_append.1 hc).elim (hsx c) (hsy c)
      have hso:∀c∈q.2.1,scalars c=true:=by rw [hQ.2.1];exact sc_map fun _=>rfl
      have hql:q.2.1.length<256:=by rw [hQ.2.1,List.length_map,List.length_append,prod_len,List.length_map,List.length_take,List.length_take,Nat.min_eq_left (Nat.le_of_lt hlx),Nat.min_eq_left (Nat.le_of_lt hly)];exact hple
      refine AW.region ?_
      refine Qp (P_move (v:=.row _ _ _) rfl) ?_
      refine Qe (E_buildSlice (es:=[]) tok rfl rfl rfl rfl rfl rfl rfl rfl rfl) ?_
      rintro _ _ ⟨v30,rfl,rfl⟩
      refine Qp Qms ?_
      refine Qe (E_append (k:=0) tok rfl rfl rfl rfl rfl rfl rfl rfl (hsx) (sc_nil) (by simp;omega) (by simp [maxLen];omega)) ?_
      rintro _ _ ⟨v32,rfl,rfl⟩
      refine Qp Qms ?_
      refine Qe (E_append (k:=0) tok rfl rfl rfl rfl rfl rfl rfl rfl (hsy) (hsx) (by simp;omega) (by simp [maxLen];omega)) ?_
      rintro _ _ ⟨v34,rfl,rfl⟩
      refine AOL.ghost (GS.unrow 34 rfl) ?_
      refine Qp (P_buildSlice (es:=[[_]]) tok rfl rfl rfl rfl rfl rfl rfl rfl rfl) ?_
      refine Qe (E_append (k:=1) tok rfl rfl rfl rfl rfl rfl rfl rfl (sc_one rfl) (hso) (by simp;omega) (by simp [maxLen];omega)) ?_
      rintro _ _ ⟨v36,rfl,rfl⟩
      refine Qp (P_assign (v:=.row _ _ _) rfl) ?_
      refine AOL.nil (blkN (thenN (AW.region (Qp Qad (Qp Qmi (Qnn ?_))))))
      refine ⟨(q.1+1,q.2.1 ++ [[.sl 9 (x.map cLit++y.map cLit)]],v36),?_,?_,GS.weaken ⟨rfl,rfl,rfl,rfl,rfl,rfl,rfl,rfl,rfl,rfl,rfl,trivial⟩ (.cons _ (.refl _))⟩
      · exact ⟨hly,by simp only;rw [take_get hy,hQ.2.1];simp [cCl],trivial⟩
      · simp only;omega
     ·
      have hte:=take_end hc3
      have hall:=hQ.2.1
      rw [hte] at hall
      refine AW.exit ?_
      refine thenE (thenE (blkHit (blkN (thenN (AW.region (Qp Qad (Qp Qmi (Qnn ?_))))))))
      refine ⟨(p.1+1,q.2.1,q.2.2),?_,?_,GS.weaken ⟨rfl,rfl,rfl,rfl,rfl,rfl,rfl,trivial⟩ (.refl _)⟩
      · exact ⟨hlx,by simp only;rw [prod_take hx];exact hall⟩
      · simp only;omega
   ·
    have hte:=take_end hc2
    have hall:=hR.2
    rw [hte] at hall
    refine AW.exit ?_
    refine thenE (thenE (blkHit (thenN (Qsr ?_))))
    refine Qp (P_move (v:=.row _ _ _) rfl) ?_
    refine AOL.ghost (GS.unrow 39 rfl) ?_
    refine Qp Qas (Qp Qab (Qnn (AW.ret ?_)))
    refine ⟨.inr rfl,[.sl _ _,.bool _],.cons (.tmp _ _ rfl) <| .cons (.tmp _ _ rfl) <| .nil,.cons _ (.refl _),?_⟩
    rw [hall]
    exact Eq.trans rfl (congrArg (fun q:Cs=>AV.tuple [.sl 1 (q.1.map cCl),.bool q.2]) (prod_yes hc1)).symm
end Go.Proofs.YtkddpedfbicbeaaGreatDoor
