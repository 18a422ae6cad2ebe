/-
  Several texts in one: Y5b, Y5c, Y5d. No condition.
-/
import Derived.Test.YtkddpedfbicbeaaGreatDoorK01
import Derived.Test.YtkddpedfbicbeaaGreatDoorK06
import Derived.Test.YtkddpedfbicbeaaGreatDoorK10
import Derived.KernelRfl
namespace Go.Proofs.YtkddpedfbicbeaaGreatDoor
open Go Go.Aw
set_option maxHeartbeats 1600000
set_option maxRecDepth 20000
set_option linter.unusedVariables false
set_option linter.unusedSimpArgs false

theorem d_simple (T:List Sc)(V:List Va)(e:Ex)(hk:KOK T V e)(hse:sizeN e≤1048576):APure Tryz.prog 84 [.agg (cScene T V),.agg (cE e)] (.bool (simpleS T V e)):=by
 refine APure.body (n:=47) tok Tryz.func84 rfl rfl rfl fun H=>?_
 refine Qsr (Qp (Qbx [_,_]) ?_)
 refine Qp Qbe ?_
 refine Qp Qab ?_
 refine Qns (Qp (P_assign (v:=.fn _ _ _) rfl) ?_)
 refine Qnn (AW.seq (AW.block (Qsr (Qp Qf0 ?_))))
 refine Qp Qli ?_
 refine Qp Qceq ?_
 refine Qp Qab ?_
 refine Qnn (Qif (fun hc1=>?_) fun hc1=>?_)
 ·
  refine Qsr (Qp Qab ?_)
  refine Qnn (AW.ret (blkR (thenR (Qr (.bool _) ?_))))
  exact Eq.trans rfl (congrArg (fun q:Bool=>AV.bool q) (simple_1 hc1)).symm
 ·
  refine Qsr (Qp Qle ?_)
  refine Qp (Qc rfl (d_compares e)) ?_
  refine Qp Qnt ?_
  refine Qp Qab ?_
  refine Qnn (Qif (fun hc2=>?_) fun hc2=>?_)
  ·
   refine Qsr (Qp Qab ?_)
   refine Qnn (AW.ret (blkR (thenR (Qr (.bool _) ?_))))
   exact Eq.trans rfl (congrArg (fun q:Bool=>AV.bool q) (simple_2 hc1 hc2)).symm
  ·
   refine Qsr (Qp (Qlg [_,_]) ?_)
   refine Qp Qle ?_
   refine Qp (Qc rfl (d_texts T V e hk)) ?_
   refine Qp Qab ?_
   refine Qnn (Qif (fun hc3=>?_) fun hc3=>?_)
   ·
    refine AW.seq ?_
    have hcmp:comparesS e=true:=by simpa using ‹(!comparesS e)=false›
    have h2:=cmp_two hk hcmp
    have h00:0 < e.args.length:=by omega
    have hsz:=arg_sizes h2
    have hk0:=kok_arg hk (arg0_mem h00)
    have hk1:=kok_arg hk (arg1_mem h2)
    refine AW.region (Qp (P_move (v:=.fn _ _ _) rfl) ?_)
    refine Qp Qf1 ?_
    refine Qp Qls ?_
    refine Qp (P_indexAddr (c:=[.int .i64 _,_,.int .i64 _,.int .i64 _,.int .i64 _,.int .i64 _,.int .i64 _,.str _]) tok rfl rfl rfl rfl rfl rfl (by decide) (arg0_at h00)) ?_
    refine Qp Qle ?_
    refine Qp (P_call (by kernel_rfl) rfl rfl rfl (d_direct (arg0 e))) ?_
    refine Qp Qmb ?_
    refine AOL.g (y:=.fn _ _ _) _ [] rfl (EntL.all trivial) (fun hG=>P_move (v:=.fn _ _ _) rfl) rfl ?_
    refine Qg [] Qw Qf1 ?_
    refine Qg [(28,_)] Qw Qls ?_
    refine AOL.g (y:=.ptr _) _ [(29,_)] rfl (EntL.all ⟨Ent.self _ _,trivial⟩) (fun hG=>P_indexAddr (c:=[.int .i64 _,_,.int .i64 _,.int .i64 _,.int .i64 _,.int .i64 _,.int .i64 _,.str _]) tok rfl rfl rfl rfl rfl rfl (by decide) (arg1_at h2)) rfl ?_
    refine Qg [(30,_)] Qw Qle ?_
    refine AOL.g (y:=.bool _) _ [(31,_),(27,_)] rfl (EntL.all ⟨Ent.self _ _,Ent.self _ _,trivial⟩) (fun hG=>P_call (by kernel_rfl) rfl rfl rfl (d_direct (arg1 e))) rfl ?_
    refine Qp Qpa ?_
    refine Qp Qab ?_
    refine Qnn (AW.ret (blkR (thenR (Qr (.bool _) ?_))))
    exact Eq.trans rfl (congrArg (fun q:Bool=>AV.bool q) (simple_3 hc1 hc2 hc3)).symm
   ·
    refine AW.skip (blkN (thenN (AW.seq ?_)))
    have hcmp:comparesS e=true:=by simpa using ‹(!comparesS e)=false›
    have h2:=cmp_two hk hcmp
    have h00:0 < e.args.length:=by omega
    have hsz:=arg_sizes h2
    have hk0:=kok_arg hk (arg0_mem h00)
    have hk1:=kok_arg hk (arg1_mem h2)
    refine AW.draw mixed (fun _=>True) trivial (by kernel_rfl) ?_
    refine Qn 0 rfl Qf1 ?_
    refine Qn 1 rfl Qls ?_
    refine Qn 2 rfl (P_indexAddr (c:=[.int .i64 _,_,.int .i64 _,.int .i64 _,.int .i64 _,.int .i64 _,.int .i64 _,.str _]) tok rfl rfl rfl rfl rfl rfl (by decide) (arg0_at h00)) ?_
    refine Qn 3 rfl Qle ?_
    refine Qn 4 rfl Qf1 ?_
    refine Qn 5 rfl Qls ?_
    refine Qn 6 rfl (P_indexAddr (c:=[.int .i64 _,_,.int .i64 _,.int .i64 _,.int .i64 _,.int .i64 _,.int .i64 _,.str _]) tok rfl rfl rfl rfl rfl rfl (by decide) (arg1_at h2)) ?_
    refine Qn 7 rfl Qle ?_
    refine Qn 8 rfl (Qc rfl (d_between _ _ hk0.nodes hk1.nodes (by omega))) ?_
    refine Qn 9 rfl Qmu ?_
    refine Qn 10 rfl (P_extract (v:=.agg [_,_,.int .i64 _]) rfl rfl) ?_
    refine Qn 11 rfl Qxb ?_
    refine Canon.eff _ _ 12 _ _ rfl (by kernel_rfl) rfl rfl (E_alloc (l:=[.sl 3 [],.sl 3 [],.int .i64 0]) (by kernel_rfl)) (fun _ _ _=>trivial) ?_
    rintro _ _ ⟨b6,rfl,rfl⟩
    refine Canon.eff _ _ 13 _ _ rfl (by kernel_rfl) rfl rfl (E_store (k:=0) (v:=.agg _) (cs':=[_,_,.int .i64 _]) (H2:=_::_) tok rfl rfl rfl rfl (rfl) rfl rfl rfl rfl) (fun _ _ _=>trivial) ?_
    rintro _ _ ⟨rfl,rfl⟩
    refine Qn 14 rfl Qab ?_
    refine Canon.done _ _ (by kernel_rfl) ?_
    refine thenN ?_
    refine AW.ghost (GS.freeze (t:=6) 0 rfl rfl) ?_
    refine Qsr (Qp Qmb ?_)
    refine Qp Qab ?_
    refine Qnn (AW.ret (Qr (.bool _) ?_))
    exact Eq.trans rfl (congrArg (fun q:Bool=>AV.bool q) (simple_4 hc1 hc2 hc3)).symm
theorem d_plain (T:List Sc)(V:List Va)(e:Ex)(hk:KOK T V e)(hse:sizeN e≤1048576):APure Tryz.prog 50 [.agg (cScene T V),.agg (cE e)] (.bool (plainS T V e)):=by
 induction e using Ex.ind
 rename_i e ih
 have hal:=args_le e hse
 refine APure.body (n:=26) tok Tryz.func50 rfl rfl rfl fun H=>?_
 refine Qsr (Qp (Qbx [_,_]) ?_)
 refine Qp Qbe ?_
 refine Qp Qab ?_
 refine Qnn (AW.seq (Qsr (Qp (Qlg [_,_]) ?_)))
 refine Qp Qle ?_
 refine Qp (Qc rfl (d_composed T V e hk)) ?_
 refine Qp Qnt ?_
 refine Qnn (Qif (fun hc1=>?_) fun hc1=>?_)
 ·
  refine Qsr (Qp (Qlg [_,_]) ?_)
  refine Qp Qle ?_
  refine Qp (Qc rfl (d_simple T V e hk hse)) ?_
  refine Qp Qab ?_
  refine Qnn (Qrt (Qr (.bool _) ?_))
  exact Eq.trans rfl (congrArg (fun q:Bool=>AV.bool q) (plainE_1 hc1)).symm
 ·
  refine Qst (AW.seq (Qsr (Qp Qf1 ?_)))
  refine Qp Qls ?_
  refine Qp (P_len_sl (n:=e.args.length) tok rfl rfl rfl (by simp)) ?_
  refine Qp Qmi ?_
  refine Qnn (AW.block ?_)
  refine AW.loopS (fun (k:Nat)=>(⟨[(2,.ptr (cScene T V)),(3,.ptr (cE e)),(4,.bool false),(15,.sl 8 (e.args.map encE)),(16,.int .i64 e.args.length),(17,.int .i64 (k:Int))],H,26⟩:St)) (fun (k:Nat)=>k≤e.args.length∧(e.args.take k).all (plainS T V)=true) (fun (k:Nat)=>e.args.length - k) (0) ?_ (GS.weaken ⟨rfl,rfl,rfl,rfl,rfl,rfl,trivial⟩ (.refl _)) ?_
  · simp
  ·
   rintro k hR
   refine Qsr (Qp Qclt ?_)
   refine Qnn (AW.seq (Qif (fun hc2=>?_) fun hc2=>?_))
   ·
    obtain ⟨a,ha⟩:=get_lt hc2
    have hlt:=get_lt' ha
    have hm:=List.mem_of_getElem? ha
    refine Qst (AW.seq (AW.block (Qsr (Qp (P_indexAddr (c:=[.int .i64 _,_,.int .i64 _,.int .i64 _,.int .i64 _,.int .i64 _,.int .i64 _,.str _]) tok rfl rfl rfl rfl rfl rfl (by omega) (encE_at ha)) ?_))))
    refine Qp Qle ?_
    refine Qe (E_alloc (l:=[.int .i64 0,.sl 8 [],.int .i64 0,.int .i64 0,.int .i64 0,.int .i64 0,.int .i64 0,.str []]) (by kernel_rfl)) ?_
    rintro _ _ ⟨b6,rfl,rfl⟩
    refine Qe (E_store (k:=0) (v:=.agg _) (cs':=[.int .i64 _,_,.int .i64 _,.int .i64 _,.int .i64 _,.int .i64 _,.int .i64 _,.str _]) (H2:=_::_) tok rfl rfl rfl rfl (rfl) rfl rfl rfl rfl) ?_
    rintro _ _ ⟨rfl,rfl⟩
    refine AOL.ghost (GS.freeze (t:=6) 0 rfl rfl) ?_
    refine Qns (Qp (Qlg [_,_]) ?_)
    refine Qp Qle ?_
    refine Qp (Qc rfl (ih a hm (kok_arg hk hm) (Nat.le_trans (Nat.le_of_lt (size_arg hm)) hse))) ?_
    refine Qp Qnt ?_
    refine Qnn (Qif (fun hc3=>?_) fun hc3=>?_)
    ·
     refine Qsr (Qp Qab ?_)
     refine Qnn (AW.ret (blkR (thenR (thenR (blkR (thenR (Qr (.bool _) ?_)))))))
     exact Eq.trans rfl (congrArg (fun q:Bool=>AV.bool q) (plainE_2 hc1 hm hc3)).symm
    ·
     refine AW.skip (blkN (thenN (AW.region (Qp Qad ?_))))
     refine Qp Qmi ?_
     refine Qnn ?_
     refine ⟨k+1,?_,?_,GS.weaken ⟨rfl,rfl,rfl,rfl,rfl,rfl,trivial⟩ (.refl _)⟩
     · exact ⟨hlt,by rw [take_get ha,List.all_append,hR.2];simpa using hc3⟩
     · omega
   ·
    have hte:=take_end hc2
    have hall:=hR.2
    rw [hte] at hall
    refine AW.exit ?_
    refine thenE (thenE (blkHit (thenN (Qsr (Qp Qab ?_)))))
    refine Qnn (AW.ret (Qr (.bool _) ?_))
    exact Eq.trans rfl (congrArg (fun q:Bool=>AV.bool q) (plainE_3 hc1 hall)).symm
theorem d_Plain (T:List Sc)(hl:T.length≤1048576)(hst:∀s∈T,scOK s)(V:List Va)(hvl:V.length≤1048576)(e:Ex)(hse:sizeN e≤1048576):APure Tryz.prog 11 [.sl 2 (T.map cSc),.sl 2 (V.map cVa),.agg (cE e)] (.tuple [.bool (PlainS T V e).1,.int .i64 (PlainS T V e).2]):=by
 refine APure.body (n:=22) tok Tryz.func11 rfl rfl rfl fun H=>?_
 refine Qsr (Qp Qbe ?_)
 refine Qp Qab ?_
 refine Qp Qai ?_
 refine Qns (Qp Qms ?_)
 refine Qp Qms ?_
 refine Qp (Qbd [_,_]) ?_
 refine Qe (E_alloc (l:=[.sl 2 [],.sl 2 []]) (by kernel_rfl)) ?_
 rintro _ _ ⟨b8,rfl,rfl⟩
 refine Qe (E_store (k:=0) (v:=.agg _) (cs':=[_,_]) (H2:=_::_) tok rfl rfl rfl rfl (rfl) rfl rfl rfl rfl) ?_
 rintro _ _ ⟨rfl,rfl⟩
 refine AOL.ghost (GS.freeze (t:=8) 0 rfl rfl) ?_
 refine Qnn (AW.seq (Qsr (Qp (Qlg [_,_]) ?_)))
 refine Qp Qle ?_
 refine Qp (Qc rfl (d_condition T hl hst V hvl e hse)) ?_
 refine Qp Qai ?_
 refine Qns (Qp Qmi ?_)
 refine Qp Qcne ?_
 refine Qnn (Qif (fun hc1=>?_) fun hc1=>?_)
 ·
  refine Qsr (Qp Qmi ?_)
  refine Qp Qab ?_
  refine Qp Qai ?_
  refine Qnn (Qrt (Qrr (.bool _) (.int .i64 _) ?_))
  exact Eq.trans rfl (congrArg (fun q:Bool×Int=>AV.tuple [.bool q.1,.int .i64 q.2]) (PlainS_1 hc1)).symm
 ·
  have hk:=condE_kok hc1
  refine Qst (Qsr (Qp (Qlg [_,_]) ?_))
  refine Qp Qle ?_
  refine Qp (Qc rfl (d_plain T V e hk hse)) ?_
  refine Qp Qab ?_
  refine Qp Qai ?_
  refine Qnn (AW.ret (Qrr (.bool _) (.int .i64 _) ?_))
  exact Eq.trans rfl (congrArg (fun q:Bool×Int=>AV.tuple [.bool q.1,.int .i64 q.2]) (PlainS_2 hc1)).symm

end Go.Proofs.YtkddpedfbicbeaaGreatDoor

namespace Go.Proofs.YtkddpedfbicbeaaGreatDoor
open Go Go.Aw
set_option maxHeartbeats 3200000
set_option maxRecDepth 20000
set_option linter.unusedVariables false
set_option linter.unusedSimpArgs false

theorem r_same_tm (t u:Tm):APure Tryz.prog 22 [.agg (cE (tmE u)),.agg (cE (tmE t))] (.bool (eqT t u)):=by
  have h:=c20 (tmE u) (tmE t) (by rw [sizeN_eq];simp [tmE])
  rw [sameS_tm'] at h
  exact h
theorem r_add (R:List HO)(t:Tm)(n:Nat)(b:Int)(hb:b=1∨b = -1)(s:Su)(hs:suOK n s)(hm:n+1≤1048576)(ok:Bool)(v u:Value):ACall Tryz.prog 173 (linH v u s.ts R) [linR v u s ok,.agg (cE (tmE t)),.int .i64 b] (fun r H'=>∃v' u',u'.oneCell'=true∧r=linR v' u' ⟨addT t b s.ts,s.rest⟩ ok∧H'=linH v' u' (addT t b s.ts) R):=by
 refine ACall.bufOne 1 rfl fun hu1=>?_
 have hsl:=hs.len
 have hcl:(rCo s.ts).length=s.ts.length:=List.length_map ..
 refine ACall.body (n:=44) tok Tryz.func173 rfl rfl rfl ?_
 refine Qsr (Qe (E_box (v:=.agg _) (cs:=[_,_,.int .i64 _,.bool _]) rfl rfl (sc_lin hu1)) ?_)
 rintro _ _ ⟨b3,rfl,rfl⟩
 refine Qp Qbe ?_
 refine Qe (E_alloc (l:=[.sl 8 [],.sl 1 [],.int .i64 0,.bool false]) (by kernel_rfl)) ?_
 rintro _ _ ⟨b6,rfl,rfl⟩
 refine Qnn (AW.seq (Qsr (Qp Qai ?_)))
 refine Qnn (AW.block ?_)
 refine AW.loopS (fun (p:Nat)=>(⟨[(2,.int .i64 b),(3,.val (.pointer (some ⟨b3,0,none⟩))),(4,.ptr (cE (tmE t))),(6,.val (.pointer (some ⟨b6,0,none⟩))),(7,.int .i64 (p:Int))],.box b6 210 [.sl 8 [],.sl 1 [],.int .i64 0,.bool false] :: .box b3 210 [.row v 8 (rTm s.ts),.val u,.int .i64 s.rest,.bool ok]::linH v u s.ts R,44⟩:St)) (fun (p:Nat)=>p≤s.ts.length∧(s.ts.take p).all (fun q=>!eqT t q.1)=true) (fun (p:Nat)=>s.ts.length - p) (0) ?_ (GS.weaken ⟨rfl,rfl,rfl,rfl,rfl,trivial⟩ (.refl _)) ?_
 · exact ⟨Nat.zero_le _,rfl⟩
 ·
  rintro p hR
  refine AW.seq (Qsr (Qp Qmi ?_))
  refine Qp Qfv ?_
  refine AOL.pk (P_load_box (k:=1) (c:=.row _ _ _) tok rfl rfl rfl rfl) rfl rfl ?_
  refine Qp (P_len_row (n:=s.ts.length) tok rfl rfl rfl (by simp)) ?_
  refine Qp Qclt ?_
  refine Qnn (Qif (fun hc1=>?_) fun hc1=>?_)
  ·
   obtain ⟨q,hq⟩:=get_lt hc1
   have hlt:=get_lt' hq
   have hqc:=hs.coef q (List.mem_of_getElem? hq)
   refine Qst (AW.seq (AW.block (AW.seq ?_)))
   refine AW.draw mixed (fun H'=>_∈H') (List.mem_of_getElem? (i:=1) rfl) (by kernel_rfl) ?_
   refine Qn 0 rfl Qfv ?_
   refine Qn 1 rfl (OpP.mem (fun k=>P_load_box (k:=k) (c:=.row _ _ _) tok rfl rfl rfl rfl) (fun _ h=>h)) ?_
   refine Qn 2 rfl Qmi ?_
   refine Qn 3 rfl (P_indexAddr_row (c:=[.int .i64 _,_,.int .i64 _,.int .i64 _,.int .i64 _,.int .i64 _,.int .i64 _,.str _]) tok rfl rfl rfl rfl rfl rfl (by omega) (map_at hq)) ?_
   refine Qn 4 rfl Qle ?_
   refine Qn 5 rfl Qle ?_
   refine Qn 6 rfl (Qc rfl (r_same_tm t q.1)) ?_
   refine Canon.done _ _ (by kernel_rfl) ?_
   refine thenN (Qif (fun hc2=>?_) fun hc2=>?_)
   ·
    refine AW.seq ?_
    refine AW.unbuf 3 rfl (rCo_ne hq) fun bb cap J hub hcap hcm hJ hz=>?_
    subst hub
    refine AW.region (Qp Qfv ?_)
    refine AOL.pk (P_load_box (k:=1) (c:=.val _) tok rfl rfl rfl rfl) rfl rfl ?_
    refine Qp Qmi ?_
    refine Qp (P_indexAddr_val tok rfl rfl rfl rfl rfl (by omega) (by rw [hcl];omega) (rfl)) ?_
    refine AOL.pk (P_load_box (k:=3) (c:=.int .i64 q.2) tok rfl rfl rfl (rCo_at hq)) rfl rfl ?_
    refine Qp Qmi ?_
    refine Qp Qad ?_
    refine Qp (P_indexAddr_val tok rfl rfl rfl rfl rfl (by omega) (by rw [hcl];omega) (rfl)) ?_
    refine Qe (E_store (k:=3) (v:=.int .i64 _) (cs':=_) (H2:=_::_::_::_::_) tok rfl rfl rfl rfl rfl rfl (rCo_le hq) (rfl) rfl) ?_
    rintro _ _ ⟨rfl,rfl⟩
    refine Qnn (AW.seq ?_)
    refine AW.ghost (GS.rebuf (H2:=_::_::_::_::_) 3 ((rCo s.ts).set p [AV.int .i64 (q.2+b)]) J rCo_len rfl (rCo_put hq) (by rw [rCo_len];exact hcap) hcm (by rw [rCo_len];exact hJ) rCo_set1 rfl) ?_
    refine AW.region ?_
    refine AOL.pk (P_load_box_agg (k:=1) (l:=[_,_,.int .i64 _,.bool _]) tok rfl rfl rfl rfl rfl) rfl rfl ?_
    refine Qe (E_store (k:=0) (v:=.agg _) (cs':=[_,_,.int .i64 _,.bool _]) (H2:=_::_::_::_::_) tok rfl rfl rfl rfl (sc_lin (v:=v) rfl) rfl rfl rfl rfl) ?_
    rintro _ _ ⟨rfl,rfl⟩
    refine Qnn (AW.ret (blkR (thenR (thenR (blkR (thenR ?_))))))
    refine ⟨.inr rfl,[.agg [_,_,.int .i64 _,.bool _]],.cons (.box _ _ _ 0 _ _ _ _ rfl rfl rfl rfl rfl rfl) <| .nil,_,.cons _ (.cons _ (.refl _)),?_⟩
    exact ⟨_,_,rfl,linr_old hR.2 hq hc2,linh_old hR.2 hq hc2⟩
   ·
    refine AW.skip (blkN (thenN (AW.region (Qp Qmi ?_))))
    refine Qp Qad ?_
    refine Qp Qai ?_
    refine Qnn ?_
    refine ⟨p+1,?_,?_,GS.weaken ⟨rfl,rfl,rfl,rfl,rfl,trivial⟩ (.refl _)⟩
    · exact ⟨hlt,by rw [take_get hq,List.all_append,hR.2];simp [hc2]⟩
    · omega
  ·
   have hte:=take_end hc1
   have hall:=hR.2
   rw [hte] at hall
   refine AW.exit ?_
   refine thenE (thenE (blkHit (thenN (AW.seq ?_))))
   have hsc:∀c∈rTm s.ts,scalars c=true:=sc_map fun _=>rfl
   refine AW.drawI mixed (fun j H'=>(j == 1||j == 6)=true→_∈H') (fun _ _=>(List.mem_of_getElem? (i:=1) rfl)) (by kernel_rfl) ?_
   refine CanonI.pure _ _ 0 _ _ rfl (by kernel_rfl) (by kernel_rfl) rfl (.run rfl (P_fieldAddr_val tok rfl rfl rfl rfl rfl rfl)) ?_
   refine CanonI.pure _ _ 1 _ _ rfl (by kernel_rfl) (by kernel_rfl) rfl (.run rfl (OpP.mem (fun k=>P_load_box (k:=k) (c:=.row _ _ _) tok rfl rfl rfl rfl) (fun _ h=>(h rfl)))) ?_
   refine CanonI.pure _ _ 2 _ _ rfl (by kernel_rfl) (by kernel_rfl) rfl (.run rfl (P_load_ptr_agg (l:=[.int .i64 _,_,.int .i64 _,.int .i64 _,.int .i64 _,.int .i64 _,.int .i64 _,.str _]) tok rfl rfl rfl rfl rfl)) ?_
   refine CanonI.pure _ _ 3 _ _ rfl (by kernel_rfl) (by kernel_rfl) rfl (.run rfl (P_buildSlice (es:=[[.int .i64 _,_,.int .i64 _,.int .i64 _,.int .i64 _,.int .i64 _,.int .i64 _,.str _]]) tok rfl rfl rfl rfl rfl rfl rfl rfl rfl)) ?_
   refine CanonI.pure _ _ 5 _ _ rfl (by kernel_rfl) (by kernel_rfl) rfl (.run rfl (P_fieldAddr_val tok rfl rfl rfl rfl rfl rfl)) ?_
   refine CanonI.pure _ _ 6 _ _ rfl (by kernel_rfl) (by kernel_rfl) rfl (.run rfl (OpP.mem (fun k=>P_load_box (k:=k) (c:=.val _) tok rfl rfl rfl rfl) (fun _ h=>(h rfl)))) ?_
   refine CanonI.pure _ _ 7 _ _ rfl (by kernel_rfl) (by kernel_rfl) rfl (.run rfl (P_move (v:=.int .i64 _) rfl)) ?_
   refine CanonI.pure _ _ 8 _ _ rfl (by kernel_rfl) (by kernel_rfl) rfl (.run rfl (P_buildSlice (es:=[[.int .i64 _]]) tok rfl rfl rfl rfl rfl rfl rfl rfl rfl)) ?_
   refine CanonI.eff _ _ 4 _ _ rfl (by kernel_rfl) rfl rfl (E_append (k:=2) tok rfl rfl rfl rfl rfl rfl rfl rfl (sc_one rfl) (hsc) (by simp;omega) (by simp [maxLen];omega)) (by rintro _ _ ⟨v35,rfl,rfl⟩;exact fun _ _=>(List.mem_of_getElem? (i:=1) rfl)) ?_
   rintro _ _ ⟨v35,rfl,rfl⟩
   refine CanonI.pure _ _ 10 _ _ rfl (by kernel_rfl) (by kernel_rfl) rfl (.run rfl (P_fieldAddr_val tok rfl rfl rfl rfl rfl rfl)) ?_
   refine CanonI.eff _ _ 9 _ _ rfl (by kernel_rfl) rfl rfl (OpE.bufs (E_appendBuf (k:=3) tok rfl rfl rfl rfl rfl rfl rfl rfl (rfl) (by simp;omega) (by simp [maxLen];omega))) (by rintro _ _ ⟨⟨v40,rfl,rfl⟩,hbs⟩;exact fun _ _=>(List.mem_of_getElem? (i:=1) rfl)) ?_
   rintro _ _ ⟨⟨v40,rfl,rfl⟩,hbs⟩
   have hu2:=hbs v40 _ _ _ (List.mem_of_getElem? (i:=3) rfl)
   refine CanonI.phase (fun _ _=>True) _ _ 11 _ _ rfl (by kernel_rfl) rfl rfl (E_store (k:=1) (v:=.row _ _ _) (cs':=[_,_,.int .i64 _,.bool _]) (H2:=_::_::_::_::_) tok rfl rfl rfl rfl (rfl) rfl rfl rfl rfl) (fun j _ _ hr _ _ hj=>?_) (fun _ _ _ _=>trivial) ?_
   ·
    rcases (by simpa only [Bool.or_eq_true,beq_iff_eq,or_assoc] using hj:j=1∨j=6) with rfl | rfl
    · exact Bool.noConfusion ((show reachB _ 7 _ 1=true by kernel_rfl).symm.trans hr)
    · exact Bool.noConfusion ((show reachB _ 7 _ 6=true by kernel_rfl).symm.trans hr)
   rintro _ _ ⟨rfl,rfl⟩
   refine CanonI.pure _ _ 12 _ _ rfl (by kernel_rfl) (by kernel_rfl) rfl (.run rfl (P_fieldAddr_val tok rfl rfl rfl rfl rfl rfl)) ?_
   refine CanonI.eff _ _ 13 _ _ rfl (by kernel_rfl) rfl rfl (E_store (k:=1) (v:=.val _) (cs':=[_,_,.int .i64 _,.bool _]) (H2:=_::_::_::_::_) tok rfl rfl rfl rfl ((by simp [cellsA,scalars,scalar,hu2])) rfl rfl rfl rfl) (fun _ _ _ _=>trivial) ?_
   rintro _ _ ⟨rfl,rfl⟩
   refine CanonI.done _ _ (by kernel_rfl) ?_
   refine thenN (Qsr ?_)
   refine AOL.pk (P_load_box_agg (k:=1) (l:=[_,_,.int .i64 _,.bool _]) tok rfl rfl rfl rfl rfl) rfl rfl ?_
   refine Qe (E_store (k:=0) (v:=.agg _) (cs':=[_,_,.int .i64 _,.bool _]) (H2:=_::_::_::_::_) tok rfl rfl rfl rfl (sc_lin hu2) rfl rfl rfl rfl) ?_
   rintro _ _ ⟨rfl,rfl⟩
   refine Qnn (AW.ret ?_)
   refine ⟨.inr rfl,[.agg [_,_,.int .i64 _,.bool _]],.cons (.box _ _ _ 0 _ _ _ _ rfl rfl rfl rfl rfl rfl) <| .nil,_,.cons _ (.cons _ (.refl _)),?_⟩
   exact ⟨_,_,hu2,linr_new hall,linh_new hall⟩
theorem r_add' (R:List HO)(e:Ex)(he:tmE (tmOf e)=e)(n:Nat)(b:Int)(hb:b=1∨b = -1)(s:Su)(hs:suOK n s)(hm:n+1≤1048576)(ok:Bool)(v u:Value) :
    ACall Tryz.prog 173 (linH v u s.ts R) [linR v u s ok,.agg (cE e),.int .i64 b] (fun r H'=>∃v' u',u'.oneCell'=true∧r=linR v' u' ⟨addT (tmOf e) b s.ts,s.rest⟩ ok∧H'=linH v' u' (addT (tmOf e) b s.ts) R):=by
  have h:=r_add R (tmOf e) n b hb s hs hm ok v u
  rw [he] at h
  exact h
theorem r_collect (R:List HO)(e:Ex)(hn:nodesS e=0)(n:Nat)(b:Int)(hb:b=1∨b = -1)(s:Su×Bool)(hs:suOK n s.1)(hm:n+sizeN e≤1048576)(v u:Value):ACall Tryz.prog 158 (linH v u s.1.ts R) [linR v u s.1 s.2,.agg (cE e),.int .i64 b] (fun r H'=>∃v' u',u'.oneCell'=true∧r=linR v' u' (colS e b s).1 (colS e b s).2∧H'=linH v' u' (colS e b s).1.ts R):=by
 revert R n b s v u hn
 induction e using Ex.ind
 rename_i e ih
 intro R hn n b hb s hs hm v u
 refine ACall.bufOne 1 rfl fun hu1=>?_
 have hz:=nodes_zero hn
 have hsr:=hs.rest
 have hsp:1≤sizeN e:=by rw [sizeN_eq];omega
 refine ACall.body (n:=61) tok Tryz.func158 rfl rfl rfl ?_
 refine Qsr (Qe (E_box (v:=.agg _) (cs:=[_,_,.int .i64 _,.bool _]) rfl rfl (sc_lin hu1)) ?_)
 rintro _ _ ⟨b3,rfl,rfl⟩
 refine Qp Qbe ?_
 refine Qe (E_alloc (l:=[.sl 8 [],.sl 1 [],.int .i64 0,.bool false]) (by kernel_rfl)) ?_
 rintro _ _ ⟨b6,rfl,rfl⟩
 refine Qnn (AW.seq (Qsr (Qp Qf0 ?_)))
 refine Qp Qli ?_
 refine Qnn (AW.block (Qsr (Qp Qceq ?_)))
 refine Qp Qab ?_
 refine Qnn (Qif (fun hc1=>?_) fun hc1=>?_)
 ·
  refine AW.seq ?_
  have hcn:=const_num hz.1 (eq_of_beq ‹(e.op == 0)=true›)
  have hmul:b*e.val.num=e.val.num∨b*e.val.num = - e.val.num:=by rcases hb with rfl | rfl <;> omega
  refine AW.region (Qp Qfv ?_)
  refine AOL.pk (P_load_box (k:=1) (c:=.int .i64 _) tok rfl rfl rfl rfl) rfl rfl ?_
  refine Qp Qmi ?_
  refine Qp Qf5 ?_
  refine Qp Qf6 ?_
  refine Qp Qli ?_
  refine Qp (P_mul rfl rfl rfl (by constructor <;> omega)) ?_
  refine Qp Qad ?_
  refine Qp Qfv ?_
  refine Qe (E_store (k:=1) (v:=.int .i64 _) (cs':=[_,_,.int .i64 _,.bool _]) (H2:=_::_::_::_::_) tok rfl rfl rfl rfl (rfl) rfl rfl rfl rfl) ?_
  rintro _ _ ⟨rfl,rfl⟩
  refine Qns ?_
  refine AOL.pk (P_load_box_agg (k:=1) (l:=[_,_,.int .i64 _,.bool _]) tok rfl rfl rfl rfl rfl) rfl rfl ?_
  refine Qe (E_store (k:=0) (v:=.agg _) (cs':=[_,_,.int .i64 _,.bool _]) (H2:=_::_::_::_::_) tok rfl rfl rfl rfl (sc_lin hu1) rfl rfl rfl rfl) ?_
  rintro _ _ ⟨rfl,rfl⟩
  refine Qnn (AW.ret (blkR (thenR ?_)))
  refine ⟨.inr rfl,[.agg [_,_,.int .i64 _,.bool _]],.cons (.box _ _ _ 0 _ _ _ _ rfl rfl rfl rfl rfl rfl) <| .nil,_,.cons _ (.cons _ (.refl _)),?_⟩
  first
   | exact col_wrap (col_const ‹(e.op == 0)=true›) ⟨_,_,hu1,rfl,rfl⟩
   | exact col_wrap (col_term ‹(e.op == 0)=false› ht) ⟨_,_,hu2,rfl,rfl⟩
   | exact col_wrap (col_two hl2 (.inl ⟨ho,rfl⟩)) ⟨_,_,hu2,rfl,rfl⟩
   | exact col_wrap (col_two hl2 (.inr ⟨ho,rfl⟩)) ⟨_,_,hu2,rfl,rfl⟩
   | exact col_wrap (col_else ‹(e.op == 0)=false› (or0 ‹(e.op == 1)=false› ‹(e.op == 2)=false›) ‹(e.op == 5)=false› ‹(e.op == 6)=false›) ⟨_,_,hu1,rfl,rfl⟩
   | exact absurd (‹(e.op == 1)=true›.symm.trans ‹(e.op == 1)=false›) (by decide)
   | exact absurd (‹(e.op == 2)=true›.symm.trans ‹(e.op == 2)=false›) (by decide)
 ·
  refine AW.seq (Qsr (Qp Qceq ?_))
  refine Qp Qab ?_
  refine Qnn (Qif (fun hc2=>?_) fun hc2=>?_)
  ·
   refine Qst (Qif (fun hc3=>?_) fun hc3=>?_)
   ·
    refine AW.seq ?_
    have ht:(e.op == 1||e.op == 2)=true:=by first | exact or1 ‹(e.op == 1)=true› | exact or2 ‹(e.op == 2)=true›
    refine AW.region ?_
    refine AOL.pk (P_load_box_agg (k:=1) (l:=[_,_,.int .i64 _,.bool _]) tok rfl rfl rfl rfl rfl) rfl rfl ?_
    refine Qp Qle ?_
    refine Qp Qmi ?_
    refine Qe (E_callf (by kernel_rfl) rfl rfl (ACall.front2 (R:=_::_::_) 3 2 rfl rfl rfl (r_add' _ e (leaf_tm hz.1 ht) n b hb s.1 hs (by omega) s.2 v u))) ?_
    rintro _ _ ⟨v0,u0,hu2,rfl,rfl⟩
    refine Qe (E_store (k:=2) (v:=.agg _) (cs':=[_,_,.int .i64 _,.bool _]) (H2:=_::_::_::_::_) tok rfl rfl rfl rfl (sc_lin hu2) rfl rfl rfl rfl) ?_
    rintro _ _ ⟨rfl,rfl⟩
    refine Qnn (AW.ret (blkR (thenR ?_)))
    refine ⟨.inr rfl,[.agg [_,_,.int .i64 _,.bool _]],.cons (.box _ _ _ 2 _ _ _ _ rfl rfl rfl rfl rfl rfl) <| .nil,_,.cons_cons _ (.cons_cons _ (.cons _ (.cons _ (.refl _)))),?_⟩
    first
     | exact col_wrap (col_const ‹(e.op == 0)=true›) ⟨_,_,hu1,rfl,rfl⟩
     | exact col_wrap (col_term ‹(e.op == 0)=false› ht) ⟨_,_,hu2,rfl,rfl⟩
     | exact col_wrap (col_two hl2 (.inl ⟨ho,rfl⟩)) ⟨_,_,hu2,rfl,rfl⟩
     | exact col_wrap (col_two hl2 (.inr ⟨ho,rfl⟩)) ⟨_,_,hu2,rfl,rfl⟩
     | exact col_wrap (col_else ‹(e.op == 0)=false› (or0 ‹(e.op == 1)=false› ‹(e.op == 2)=false›) ‹(e.op == 5)=false› ‹(e.op == 6)=false›) ⟨_,_,hu1,rfl,rfl⟩
     | exact absurd (‹(e.op == 1)=true›.symm.trans ‹(e.op == 1)=false›) (by decide)
     | exact absurd (‹(e.op == 2)=true›.symm.trans ‹(e.op == 2)=false›) (by decide)
   ·
    exact absurd (hc3.symm.trans hc2) (by decide)
  ·
   refine AW.region (Qp Qceq ?_)
   refine Qp Qab ?_
   refine Qnn (Qif (fun hc4=>?_) fun hc4=>?_)
   ·
    refine AW.seq ?_
    have ht:(e.op == 1||e.op == 2)=true:=by first | exact or1 ‹(e.op == 1)=true› | exact or2 ‹(e.op == 2)=true›
    refine AW.region ?_
    refine AOL.pk (P_load_box_agg (k:=1) (l:=[_,_,.int .i64 _,.bool _]) tok rfl rfl rfl rfl rfl) rfl rfl ?_
    refine Qp Qle ?_
    refine Qp Qmi ?_
    refine Qe (E_callf (by kernel_rfl) rfl rfl (ACall.front2 (R:=_::_::_) 3 2 rfl rfl rfl (r_add' _ e (leaf_tm hz.1 ht) n b hb s.1 hs (by omega) s.2 v u))) ?_
    rintro _ _ ⟨v0,u0,hu2,rfl,rfl⟩
    refine Qe (E_store (k:=2) (v:=.agg _) (cs':=[_,_,.int .i64 _,.bool _]) (H2:=_::_::_::_::_) tok rfl rfl rfl rfl (sc_lin hu2) rfl rfl rfl rfl) ?_
    rintro _ _ ⟨rfl,rfl⟩
    refine Qnn (AW.ret (blkR (thenR ?_)))
    refine ⟨.inr rfl,[.agg [_,_,.int .i64 _,.bool _]],.cons (.box _ _ _ 2 _ _ _ _ rfl rfl rfl rfl rfl rfl) <| .nil,_,.cons_cons _ (.cons_cons _ (.cons _ (.cons _ (.refl _)))),?_⟩
    first
     | exact col_wrap (col_const ‹(e.op == 0)=true›) ⟨_,_,hu1,rfl,rfl⟩
     | exact col_wrap (col_term ‹(e.op == 0)=false› ht) ⟨_,_,hu2,rfl,rfl⟩
     | exact col_wrap (col_two hl2 (.inl ⟨ho,rfl⟩)) ⟨_,_,hu2,rfl,rfl⟩
     | exact col_wrap (col_two hl2 (.inr ⟨ho,rfl⟩)) ⟨_,_,hu2,rfl,rfl⟩
     | exact col_wrap (col_else ‹(e.op == 0)=false› (or0 ‹(e.op == 1)=false› ‹(e.op == 2)=false›) ‹(e.op == 5)=false› ‹(e.op == 6)=false›) ⟨_,_,hu1,rfl,rfl⟩
     | exact absurd (‹(e.op == 1)=true›.symm.trans ‹(e.op == 1)=false›) (by decide)
     | exact absurd (‹(e.op == 2)=true›.symm.trans ‹(e.op == 2)=false›) (by decide)
   ·
    refine Qsr (Qp Qceq ?_)
    refine Qp Qab ?_
    refine Qnn (Qif (fun hc5=>?_) fun hc5=>?_)
    ·
     refine AW.seq ?_
     have ho:=eq_of_beq ‹(e.op == 5)=true›
     have hl2:=len_two' hz.1 (by omega)
     have h00:0 < e.args.length:=by omega
     have hsz:=arg_sizes hl2
     have hs0:=col_ok _ (hz.2 _ (arg0_mem h00)) hb hs
     refine AW.drawI mixed (fun j H'=>(j == 0)=true→_∈H') (fun _ _=>(List.mem_of_getElem? (i:=1) rfl)) (by kernel_rfl) ?_
     refine CanonI.pure _ _ 0 _ _ rfl (by kernel_rfl) (by kernel_rfl) rfl (.run rfl (OpP.mem (fun k=>P_load_box_agg (k:=k) (l:=[_,_,.int .i64 _,.bool _]) tok rfl rfl rfl rfl rfl) (fun _ h=>(h rfl)))) ?_
     refine CanonI.pure _ _ 1 _ _ rfl (by kernel_rfl) (by kernel_rfl) rfl (.run rfl (P_fieldAddr_ptr (cs':=[_,.int .i64 _,.int .i64 _,.int .i64 _,.int .i64 _,.int .i64 _,.str _]) tok rfl rfl rfl rfl rfl rfl)) ?_
     refine CanonI.pure _ _ 2 _ _ rfl (by kernel_rfl) (by kernel_rfl) rfl (.run rfl (P_load_ptr (c:=.sl _ _) tok rfl rfl rfl)) ?_
     refine CanonI.pure _ _ 3 _ _ rfl (by kernel_rfl) (by kernel_rfl) rfl (.run rfl (P_indexAddr (c:=[.int .i64 _,_,.int .i64 _,.int .i64 _,.int .i64 _,.int .i64 _,.int .i64 _,.str _]) tok rfl rfl rfl rfl rfl rfl (by decide) (arg0_at h00))) ?_
     refine CanonI.pure _ _ 4 _ _ rfl (by kernel_rfl) (by kernel_rfl) rfl (.run rfl (P_load_ptr_agg (l:=[.int .i64 _,_,.int .i64 _,.int .i64 _,.int .i64 _,.int .i64 _,.int .i64 _,.str _]) tok rfl rfl rfl rfl rfl)) ?_
     refine CanonI.pure _ _ 5 _ _ rfl (by kernel_rfl) (by kernel_rfl) rfl (.run rfl (P_move (v:=.int .i64 _) rfl)) ?_
     refine CanonI.pure _ _ 7 _ _ rfl (by kernel_rfl) (by kernel_rfl) rfl (.run rfl (P_fieldAddr_ptr (cs':=[_,.int .i64 _,.int .i64 _,.int .i64 _,.int .i64 _,.int .i64 _,.str _]) tok rfl rfl rfl rfl rfl rfl)) ?_
     refine CanonI.pure _ _ 8 _ _ rfl (by kernel_rfl) (by kernel_rfl) rfl (.run rfl (P_load_ptr (c:=.sl _ _) tok rfl rfl rfl)) ?_
     refine CanonI.pure _ _ 9 _ _ rfl (by kernel_rfl) (by kernel_rfl) rfl (.run rfl (P_indexAddr (c:=[.int .i64 _,_,.int .i64 _,.int .i64 _,.int .i64 _,.int .i64 _,.int .i64 _,.str _]) tok rfl rfl rfl rfl rfl rfl (by decide) (arg1_at hl2))) ?_
     refine CanonI.pure _ _ 10 _ _ rfl (by kernel_rfl) (by kernel_rfl) rfl (.run rfl (P_load_ptr_agg (l:=[.int .i64 _,_,.int .i64 _,.int .i64 _,.int .i64 _,.int .i64 _,.int .i64 _,.str _]) tok rfl rfl rfl rfl rfl)) ?_
     refine CanonI.pure _ _ 11 _ _ rfl (by kernel_rfl) (by kernel_rfl) rfl (.run rfl (P_move (v:=.int .i64 _) rfl)) ?_
     refine CanonI.phase (fun _ _=>True) _ _ 6 _ _ rfl (by kernel_rfl) rfl rfl (E_callf (by kernel_rfl) rfl rfl (ACall.front2 (R:=_::_::_) 3 2 rfl rfl rfl (ih _ (arg0_mem h00) _ (hz.2 _ (arg0_mem h00)) n b hb s hs (by omega) v u))) (fun j _ _ hr _ _ hj=>?_) (fun _ _ _ _=>trivial) ?_
     ·
      rcases (by simpa only [Bool.or_eq_true,beq_iff_eq,or_assoc] using hj:j=0) with rfl
      · exact Bool.noConfusion ((show reachB _ 7 _ 0=true by kernel_rfl).symm.trans hr)
     rintro _ _ ⟨v0,u0,hu2,rfl,rfl⟩
     refine CanonI.eff _ _ 12 _ _ rfl (by kernel_rfl) rfl rfl (E_callf (by kernel_rfl) rfl rfl (ACall.front2 (R:=_::_::_) 1 0 rfl rfl rfl (ih _ (arg1_mem hl2) _ (hz.2 _ (arg1_mem hl2)) (n+sizeN (arg0 e)) b hb _ hs0 (by omega) _ _))) (fun _ _ _ _=>trivial) ?_
     rintro _ _ ⟨v1,u1,hu2,rfl,rfl⟩
     refine CanonI.eff _ _ 13 _ _ rfl (by kernel_rfl) rfl rfl (E_store (k:=2) (v:=.agg _) (cs':=[_,_,.int .i64 _,.bool _]) (H2:=_::_::_::_::_) tok rfl rfl rfl rfl (sc_lin hu2) rfl rfl rfl rfl) (fun _ _ _ _=>trivial) ?_
     rintro _ _ ⟨rfl,rfl⟩
     refine CanonI.done _ _ (by kernel_rfl) ?_
     refine thenN (AW.ret (blkR (thenR ?_)))
     refine ⟨.inr rfl,[.agg [_,_,.int .i64 _,.bool _]],.cons (.box _ _ _ 2 _ _ _ _ rfl rfl rfl rfl rfl rfl) <| .nil,_,.cons_cons _ (.cons_cons _ (.cons _ (.cons _ (.refl _)))),?_⟩
     first
      | exact col_wrap (col_const ‹(e.op == 0)=true›) ⟨_,_,hu1,rfl,rfl⟩
      | exact col_wrap (col_term ‹(e.op == 0)=false› ht) ⟨_,_,hu2,rfl,rfl⟩
      | exact col_wrap (col_two hl2 (.inl ⟨ho,rfl⟩)) ⟨_,_,hu2,rfl,rfl⟩
      | exact col_wrap (col_two hl2 (.inr ⟨ho,rfl⟩)) ⟨_,_,hu2,rfl,rfl⟩
      | exact col_wrap (col_else ‹(e.op == 0)=false› (or0 ‹(e.op == 1)=false› ‹(e.op == 2)=false›) ‹(e.op == 5)=false› ‹(e.op == 6)=false›) ⟨_,_,hu1,rfl,rfl⟩
      | exact absurd (‹(e.op == 1)=true›.symm.trans ‹(e.op == 1)=false›) (by decide)
      | exact absurd (‹(e.op == 2)=true›.symm.trans ‹(e.op == 2)=false›) (by decide)
    ·
     refine Qsr (Qp Qceq ?_)
     refine Qp Qab ?_
     refine Qnn (Qif (fun hc6=>?_) fun hc6=>?_)
     ·
      refine AW.seq ?_
      have ho:=eq_of_beq ‹(e.op == 6)=true›
      have hl2:=len_two' hz.1 (by omega)
      have h00:0 < e.args.length:=by omega
      have hsz:=arg_sizes hl2
      have hs0:=col_ok _ (hz.2 _ (arg0_mem h00)) hb hs
      refine AW.drawI mixed (fun j H'=>(j == 0)=true→_∈H') (fun _ _=>(List.mem_of_getElem? (i:=1) rfl)) (by kernel_rfl) ?_
      refine CanonI.pure _ _ 0 _ _ rfl (by kernel_rfl) (by kernel_rfl) rfl (.run rfl (OpP.mem (fun k=>P_load_box_agg (k:=k) (l:=[_,_,.int .i64 _,.bool _]) tok rfl rfl rfl rfl rfl) (fun _ h=>(h rfl)))) ?_
      refine CanonI.pure _ _ 1 _ _ rfl (by kernel_rfl) (by kernel_rfl) rfl (.run rfl (P_fieldAddr_ptr (cs':=[_,.int .i64 _,.int .i64 _,.int .i64 _,.int .i64 _,.int .i64 _,.str _]) tok rfl rfl rfl rfl rfl rfl)) ?_
      refine CanonI.pure _ _ 2 _ _ rfl (by kernel_rfl) (by kernel_rfl) rfl (.run rfl (P_load_ptr (c:=.sl _ _) tok rfl rfl rfl)) ?_
      refine CanonI.pure _ _ 3 _ _ rfl (by kernel_rfl) (by kernel_rfl) rfl (.run rfl (P_indexAddr (c:=[.int .i64 _,_,.int .i64 _,.int .i64 _,.int .i64 _,.int .i64 _,.int .i64 _,.str _]) tok rfl rfl rfl rfl rfl rfl (by decide) (arg0_at h00))) ?_
      refine CanonI.pure _ _ 4 _ _ rfl (by kernel_rfl) (by kernel_rfl) rfl (.run rfl (P_load_ptr_agg (l:=[.int .i64 _,_,.int .i64 _,.int .i64 _,.int .i64 _,.int .i64 _,.int .i64 _,.str _]) tok rfl rfl rfl rfl rfl)) ?_
      refine CanonI.pure _ _ 5 _ _ rfl (by kernel_rfl) (by kernel_rfl) rfl (.run rfl (P_move (v:=.int .i64 _) rfl)) ?_
      refine CanonI.pure _ _ 7 _ _ rfl (by kernel_rfl) (by kernel_rfl) rfl (.run rfl (P_fieldAddr_ptr (cs':=[_,.int .i64 _,.int .i64 _,.int .i64 _,.int .i64 _,.int .i64 _,.str _]) tok rfl rfl rfl rfl rfl rfl)) ?_
      refine CanonI.pure _ _ 8 _ _ rfl (by kernel_rfl) (by kernel_rfl) rfl (.run rfl (P_load_ptr (c:=.sl _ _) tok rfl rfl rfl)) ?_
      refine CanonI.pure _ _ 9 _ _ rfl (by kernel_rfl) (by kernel_rfl) rfl (.run rfl (P_indexAddr (c:=[.int .i64 _,_,.int .i64 _,.int .i64 _,.int .i64 _,.int .i64 _,.int .i64 _,.str _]) tok rfl rfl rfl rfl rfl rfl (by decide) (arg1_at hl2))) ?_
      refine CanonI.pure _ _ 10 _ _ rfl (by kernel_rfl) (by kernel_rfl) rfl (.run rfl (P_load_ptr_agg (l:=[.int .i64 _,_,.int .i64 _,.int .i64 _,.int .i64 _,.int .i64 _,.int .i64 _,.str _]) tok rfl rfl rfl rfl rfl)) ?_
      refine CanonI.pure _ _ 11 _ _ rfl (by kernel_rfl) (by kernel_rfl) rfl (.run rfl (P_move (v:=.int .i64 _) rfl)) ?_
      refine CanonI.pure _ _ 12 _ _ rfl (by kernel_rfl) (by kernel_rfl) rfl (.run rfl (P_neg rfl rfl (by constructor <;> omega))) ?_
      refine CanonI.phase (fun _ _=>True) _ _ 6 _ _ rfl (by kernel_rfl) rfl rfl (E_callf (by kernel_rfl) rfl rfl (ACall.front2 (R:=_::_::_) 3 2 rfl rfl rfl (ih _ (arg0_mem h00) _ (hz.2 _ (arg0_mem h00)) n b hb s hs (by omega) v u))) (fun j _ _ hr _ _ hj=>?_) (fun _ _ _ _=>trivial) ?_
      ·
       rcases (by simpa only [Bool.or_eq_true,beq_iff_eq,or_assoc] using hj:j=0) with rfl
       · exact Bool.noConfusion ((show reachB _ 7 _ 0=true by kernel_rfl).symm.trans hr)
      rintro _ _ ⟨v0,u0,hu2,rfl,rfl⟩
      refine CanonI.eff _ _ 13 _ _ rfl (by kernel_rfl) rfl rfl (E_callf (by kernel_rfl) rfl rfl (ACall.front2 (R:=_::_::_) 1 0 rfl rfl rfl (ih _ (arg1_mem hl2) _ (hz.2 _ (arg1_mem hl2)) (n+sizeN (arg0 e)) (0 - b) (by omega) _ hs0 (by omega) _ _))) (fun _ _ _ _=>trivial) ?_
      rintro _ _ ⟨v1,u1,hu2,rfl,rfl⟩
      refine CanonI.eff _ _ 14 _ _ rfl (by kernel_rfl) rfl rfl (E_store (k:=2) (v:=.agg _) (cs':=[_,_,.int .i64 _,.bool _]) (H2:=_::_::_::_::_) tok rfl rfl rfl rfl (sc_lin hu2) rfl rfl rfl rfl) (fun _ _ _ _=>trivial) ?_
      rintro _ _ ⟨rfl,rfl⟩
      refine CanonI.done _ _ (by kernel_rfl) ?_
      refine thenN (AW.ret (blkR (thenR ?_)))
      refine ⟨.inr rfl,[.agg [_,_,.int .i64 _,.bool _]],.cons (.box _ _ _ 2 _ _ _ _ rfl rfl rfl rfl rfl rfl) <| .nil,_,.cons_cons _ (.cons_cons _ (.cons _ (.cons _ (.refl _)))),?_⟩
      first
       | exact col_wrap (col_const ‹(e.op == 0)=true›) ⟨_,_,hu1,rfl,rfl⟩
       | exact col_wrap (col_term ‹(e.op == 0)=false› ht) ⟨_,_,hu2,rfl,rfl⟩
       | exact col_wrap (col_two hl2 (.inl ⟨ho,rfl⟩)) ⟨_,_,hu2,rfl,rfl⟩
       | exact col_wrap (col_two hl2 (.inr ⟨ho,rfl⟩)) ⟨_,_,hu2,rfl,rfl⟩
       | exact col_wrap (col_else ‹(e.op == 0)=false› (or0 ‹(e.op == 1)=false› ‹(e.op == 2)=false›) ‹(e.op == 5)=false› ‹(e.op == 6)=false›) ⟨_,_,hu1,rfl,rfl⟩
       | exact absurd (‹(e.op == 1)=true›.symm.trans ‹(e.op == 1)=false›) (by decide)
       | exact absurd (‹(e.op == 2)=true›.symm.trans ‹(e.op == 2)=false›) (by decide)
     ·
      refine AW.skip (blkN (thenN (Qsr (Qp Qfv ?_))))
      refine Qe (E_store (k:=1) (v:=.bool _) (cs':=[_,_,.int .i64 _,.bool _]) (H2:=_::_::_::_::_) tok rfl rfl rfl rfl (rfl) rfl rfl rfl rfl) ?_
      rintro _ _ ⟨rfl,rfl⟩
      refine Qns ?_
      refine AOL.pk (P_load_box_agg (k:=1) (l:=[_,_,.int .i64 _,.bool _]) tok rfl rfl rfl rfl rfl) rfl rfl ?_
      refine Qe (E_store (k:=0) (v:=.agg _) (cs':=[_,_,.int .i64 _,.bool _]) (H2:=_::_::_::_::_) tok rfl rfl rfl rfl (sc_lin hu1) rfl rfl rfl rfl) ?_
      rintro _ _ ⟨rfl,rfl⟩
      refine Qnn (AW.ret ?_)
      refine ⟨.inr rfl,[.agg [_,_,.int .i64 _,.bool _]],.cons (.box _ _ _ 0 _ _ _ _ rfl rfl rfl rfl rfl rfl) <| .nil,_,.cons _ (.cons _ (.refl _)),?_⟩
      first
       | exact col_wrap (col_const ‹(e.op == 0)=true›) ⟨_,_,hu1,rfl,rfl⟩
       | exact col_wrap (col_term ‹(e.op == 0)=false› ht) ⟨_,_,hu2,rfl,rfl⟩
       | exact col_wrap (col_two hl2 (.inl ⟨ho,rfl⟩)) ⟨_,_,hu2,rfl,rfl⟩
       | exact col_wrap (col_two hl2 (.inr ⟨ho,rfl⟩)) ⟨_,_,hu2,rfl,rfl⟩
       | exact col_wrap (col_else ‹(e.op == 0)=false› (or0 ‹(e.op == 1)=false› ‹(e.op == 2)=false›) ‹(e.op == 5)=false› ‹(e.op == 6)=false›) ⟨_,_,hu1,rfl,rfl⟩
       | exact absurd (‹(e.op == 1)=true›.symm.trans ‹(e.op == 1)=false›) (by decide)
       | exact absurd (‹(e.op == 2)=true›.symm.trans ‹(e.op == 2)=false›) (by decide)
theorem r_difference (a b:Ex)(hna:nodesS a=0)(hnb:nodesS b=0)(hs:sizeN a+sizeN b≤1048576):APure Tryz.prog 139 [.agg (cE a),.agg (cE b)] (.tuple [.agg (cGpR (differS a b).1),.bool (differS a b).2]):=by
 have hok:=colEnd_ok hna hnb
 have htl:=hok.len
 refine APure.body (n:=78) tok Tryz.func139 rfl rfl rfl fun H=>?_
 refine Qsr (Qp Qbe ?_)
 refine Qp Qbe ?_
 refine Qe (E_alloc (l:=[.sl 8 [],.sl 8 [],.int .i64 0]) (by kernel_rfl)) ?_
 rintro _ _ ⟨b4,rfl,rfl⟩
 refine Qp Qab ?_
 refine Qnn ?_
 refine AW.cut (fun (p:Nat×Value×Value)=>(⟨[(2,.ptr (cE a)),(3,.ptr (cE b)),(4,.val (.pointer (some ⟨b4,0,none⟩))),(5,.bool false),(6,.val (.pointer (some ⟨p.1,0,none⟩)))],linH p.2.1 p.2.2 (colEnd a b).1.ts (.box p.1 210 [.row p.2.1 8 (rTm (colEnd a b).1.ts),.val p.2.2,.int .i64 (colEnd a b).1.rest,.bool (colEnd a b).2] :: .box b4 189 [.sl 8 [],.sl 8 [],.int .i64 0]::H),78⟩:St)) (fun (p:Nat×Value×Value)=>True) ?_ ?_
 ·
  refine AW.ghost (GS.buf 3 1) ?_
  refine AW.ghost (GS.rowZ 30 8) ?_
  refine AW.draw mixed (fun _=>True) trivial (by kernel_rfl) ?_
  refine Qn 0 rfl (OpP.weakV (P_buildZ (l0:=[.val (.slice none 0 0),.val (.slice none 0 0),.int .i64 0,.bool false]) (l:=[.val (.slice none 0 0),.val (.slice none 0 0),.int .i64 0,.bool true]) tok rfl rfl (by kernel_rfl) rfl) (nilrow_agg (z:=8) (r:=[.val (.slice none 0 0),.int .i64 0,.bool true]))) ?_
  refine Qn 1 rfl Qle ?_
  refine Qn 3 rfl Qle ?_
  refine Canon.two _ _ 2 5 _ _ _ _ rfl rfl (by kernel_rfl) rfl rfl rfl rfl (E_callf (by kernel_rfl) rfl rfl (ACall.front2 (R:=_::_) 1 0 rfl rfl rfl (r_collect _ a hna 0 1 (.inl rfl) (su0,true) su0_ok (by omega) _ _))) (E_alloc (l:=[.sl 8 [],.sl 1 [],.int .i64 0,.bool false]) (by kernel_rfl)) (by rintro _ _ ⟨v0,u0,hu2,rfl,rfl⟩;trivial) (by rintro _ _ ⟨b6,rfl,rfl⟩;trivial) ?_ ?_
  ·
   rintro _ _ ⟨v0,u0,hu2,rfl,rfl⟩
   refine Canon.two _ _ 4 5 _ _ _ _ rfl rfl (by kernel_rfl) rfl rfl rfl rfl (E_callf (by kernel_rfl) rfl rfl (ACall.front2 (R:=_::_) 1 0 rfl rfl rfl (r_collect _ b hnb (0+sizeN a) (-1) (.inr rfl) _ (col_ok a hna (.inl rfl) su0_ok) (by omega) _ _))) (E_alloc (l:=[.sl 8 [],.sl 1 [],.int .i64 0,.bool false]) (by kernel_rfl)) (by rintro _ _ ⟨v1,u1,hu2,rfl,rfl⟩;trivial) (by rintro _ _ ⟨b6,rfl,rfl⟩;trivial) ?_ ?_
   ·
    rintro _ _ ⟨v1,u1,hu2,rfl,rfl⟩
    refine Canon.eff _ _ 5 _ _ rfl (by kernel_rfl) rfl rfl (E_alloc (l:=[.sl 8 [],.sl 1 [],.int .i64 0,.bool false]) (by kernel_rfl)) (fun _ _ _=>trivial) ?_
    rintro _ _ ⟨b6,rfl,rfl⟩
    refine Canon.eff _ _ 6 _ _ rfl (by kernel_rfl) rfl rfl (E_store (k:=0) (v:=.agg _) (cs':=[_,_,.int .i64 _,.bool _]) (H2:=_::_::_::_::_) tok rfl rfl rfl rfl (sc_lin hu2) rfl rfl rfl rfl) (fun _ _ _=>trivial) ?_
    rintro _ _ ⟨rfl,rfl⟩
    refine Canon.done _ _ (by kernel_rfl) ?_
    refine thenN ?_
    refine ⟨(b6,v1,u1),?_,GS.trans (GS.perm (.trans (.swap ..) (.cons _ (.swap ..)))) (GS.weaken ⟨rfl,rfl,rfl,rfl,rfl,trivial⟩ (.refl _))⟩
    trivial
   ·
    rintro _ _ ⟨b6,rfl,rfl⟩
    refine Canon.eff _ _ 4 _ _ rfl (by kernel_rfl) rfl rfl (E_callf (by kernel_rfl) rfl rfl (ACall.front2 (R:=_::_::_) 2 1 rfl rfl rfl (r_collect _ b hnb (0+sizeN a) (-1) (.inr rfl) _ (col_ok a hna (.inl rfl) su0_ok) (by omega) _ _))) (fun _ _ _=>trivial) ?_
    rintro _ _ ⟨v1,u1,hu2,rfl,rfl⟩
    refine Canon.eff _ _ 6 _ _ rfl (by kernel_rfl) rfl rfl (E_store (k:=2) (v:=.agg _) (cs':=[_,_,.int .i64 _,.bool _]) (H2:=_::_::_::_::_) tok rfl rfl rfl rfl (sc_lin hu2) rfl rfl rfl rfl) (fun _ _ _=>trivial) ?_
    rintro _ _ ⟨rfl,rfl⟩
    refine Canon.done _ _ (by kernel_rfl) ?_
    refine thenN ?_
    refine ⟨(b6,v1,u1),?_,GS.trans (GS.refl _) (GS.weaken ⟨rfl,rfl,rfl,rfl,rfl,trivial⟩ (.refl _))⟩
    trivial
  ·
   rintro _ _ ⟨b6,rfl,rfl⟩
   refine Canon.eff _ _ 2 _ _ rfl (by kernel_rfl) rfl rfl (E_callf (by kernel_rfl) rfl rfl (ACall.front2 (R:=_::_::_) 2 1 rfl rfl rfl (r_collect _ a hna 0 1 (.inl rfl) (su0,true) su0_ok (by omega) _ _))) (fun _ _ _=>trivial) ?_
   rintro _ _ ⟨v0,u0,hu2,rfl,rfl⟩
   refine Canon.eff _ _ 4 _ _ rfl (by kernel_rfl) rfl rfl (E_callf (by kernel_rfl) rfl rfl (ACall.front2 (R:=_::_::_) 1 0 rfl rfl rfl (r_collect _ b hnb (0+sizeN a) (-1) (.inr rfl) _ (col_ok a hna (.inl rfl) su0_ok) (by omega) _ _))) (fun _ _ _=>trivial) ?_
   rintro _ _ ⟨v1,u1,hu2,rfl,rfl⟩
   refine Canon.eff _ _ 6 _ _ rfl (by kernel_rfl) rfl rfl (E_store (k:=2) (v:=.agg _) (cs':=[_,_,.int .i64 _,.bool _]) (H2:=_::_::_::_::_) tok rfl rfl rfl rfl (sc_lin hu2) rfl rfl rfl rfl) (fun _ _ _=>trivial) ?_
   rintro _ _ ⟨rfl,rfl⟩
   refine Canon.done _ _ (by kernel_rfl) ?_
   refine thenN ?_
   refine ⟨(b6,v1,u1),?_,GS.trans (GS.refl _) (GS.weaken ⟨rfl,rfl,rfl,rfl,rfl,trivial⟩ (.refl _))⟩
   trivial
 ·
  rintro p _
  refine AW.seq ?_
  refine AW.ghost (GS.freezeBufCell (H2:=_::_::_::_) 1 1 1 rfl rfl rfl rfl rfl) ?_
  refine AW.ghost (GS.cell (H2:=_::_::_::_) 1 0 rfl rfl rfl rfl unrow_cell) ?_
  refine AW.ghost (GS.freeze (t:=6) 1 rfl rfl) ?_
  skip
  refine AW.region (Qp (Qf [.int .i64 _,.bool _]) ?_)
  refine Qp Qli ?_
  refine Qp (P_buildZ (l0:=[.val (.slice none 0 0),.val (.slice none 0 0),.int .i64 0]) (l:=[_,_,_]) tok rfl rfl (by kernel_rfl) rfl) ?_
  refine Qe (E_alloc (l:=[.sl 8 [],.sl 8 [],.int .i64 0]) (by kernel_rfl)) ?_
  rintro _ _ ⟨b7,rfl,rfl⟩
  refine Qe (E_store (k:=0) (v:=.agg _) (cs':=[_,_,.int .i64 _]) (H2:=_::_::_::_) tok rfl rfl rfl rfl (rfl) rfl rfl rfl rfl) ?_
  rintro _ _ ⟨rfl,rfl⟩
  refine AOL.ghost (GS.cellRow 0 0 30 8 rfl rfl rfl rfl) ?_
  refine AOL.ghost (GS.cellRow 1 1 30 8 rfl rfl rfl rfl) ?_
  refine Qnn (AW.seq (Qsr (Qp Qai ?_)))
  refine Qnn (AW.block ?_)
  refine AW.loopS (fun (p:Nat×List Tm×List Tm×Value×Value×List (List AV)×List (List AV))=>(⟨[(2,.ptr (cE a)),(3,.ptr (cE b)),(4,.val (.pointer (some ⟨b4,0,none⟩))),(5,.bool false),(6,.ptr [.sl 8 (rTm (colEnd a b).1.ts),.sl 1 (rCo (colEnd a b).1.ts),.int .i64 (colEnd a b).1.rest,.bool (colEnd a b).2]),(7,.val (.pointer (some ⟨b7,0,none⟩))),(8,.int .i64 (p.1:Int))],.row p.2.2.2.2.1 p.2.2.2.2.2.2.length 30 8 :: .row p.2.2.2.1 p.2.2.2.2.2.1.length 30 8 :: .box b7 189 [.row p.2.2.2.1 8 p.2.2.2.2.2.1,.row p.2.2.2.2.1 8 p.2.2.2.2.2.2,.int .i64 (colEnd a b).1.rest] :: .box b4 189 [.sl 8 [],.sl 8 [],.int .i64 0]::H,78⟩:St)) (fun (p:Nat×List Tm×List Tm×Value×Value×List (List AV)×List (List AV))=>p.1≤(colEnd a b).1.ts.length∧partsS (colEnd a b).1.ts [] []=partsS ((colEnd a b).1.ts.drop p.1) p.2.1 p.2.2.1∧p.2.1.length≤p.1∧p.2.2.1.length≤p.1∧p.2.2.2.2.2.1=p.2.1.map (fun t=>cE (tmE t))∧p.2.2.2.2.2.2=p.2.2.1.map (fun t=>cE (tmE t))) (fun (p:Nat×List Tm×List Tm×Value×Value×List (List AV)×List (List AV))=>(colEnd a b).1.ts.length - p.1) ((0,[],[],.slice none 0 0,.slice none 0 0,[],[])) ?_ (GS.weaken ⟨rfl,rfl,rfl,rfl,rfl,rfl,rfl,trivial⟩ (.cons_cons _ (.cons_cons _ (.cons_cons _ (.cons _ (.refl _)))))) ?_
  · exact ⟨Nat.zero_le _,rfl,Nat.le_refl _,Nat.le_refl _,rfl,rfl⟩
  ·
   rintro p hR
   have hpl:=hR.2.2.1
   have hml:=hR.2.2.2.1
   have hpe:=hR.2.2.2.2.1
   have hme:=hR.2.2.2.2.2
   have hpel:p.2.2.2.2.2.1.length=p.2.1.length:=by rw [hpe];simp
   have hmel:p.2.2.2.2.2.2.length=p.2.2.1.length:=by rw [hme];simp
   refine AW.seq (Qsr (Qp Qmi ?_))
   refine Qp (Qf [_,_,.int .i64 _,.bool _]) ?_
   refine Qp Qls ?_
   refine Qp (P_len_sl (n:=(colEnd a b).1.ts.length) tok rfl rfl rfl (by simp [rTm])) ?_
   refine Qp Qclt ?_
   refine Qnn (Qif (fun hc1=>?_) fun hc1=>?_)
   ·
    obtain ⟨q,hq⟩:=get_lt hc1
    have hlt:=get_lt' hq
    have hdc:=drop_cons hq
    have hR2:=hR.2.1
    rw [hdc] at hR2
    refine Qst (AW.seq (AW.block (Qsr (Qp (Qf [_,.int .i64 _,.bool _]) ?_))))
    refine Qp Qls ?_
    refine Qp Qmi ?_
    refine Qp (P_indexAddr (c:=[.int .i64 _]) tok rfl rfl rfl rfl rfl rfl (by omega) (map_at hq)) ?_
    refine Qp Qli ?_
    refine Qp Qceq ?_
    refine Qnn (Qif (fun hc2=>?_) fun hc2=>?_)
    ·
     have hsc:∀c∈p.2.2.2.2.2.1,scalars c=true:=by rw [hpe];exact sc_map fun _=>rfl
     refine AW.draw mixed (fun H'=>_∈H') (List.mem_of_getElem? (i:=2) rfl) (by kernel_rfl) ?_
     refine Qn 0 rfl Qfv ?_
     refine Qn 1 rfl (OpP.mem (fun k=>P_load_box (k:=k) (c:=.row _ _ _) tok rfl rfl rfl rfl) (fun _ h=>h)) ?_
     refine Qn 2 rfl (Qf [_,_,.int .i64 _,.bool _]) ?_
     refine Qn 3 rfl Qls ?_
     refine Qn 4 rfl Qmi ?_
     refine Qn 5 rfl (P_indexAddr (c:=[.int .i64 _,_,.int .i64 _,.int .i64 _,.int .i64 _,.int .i64 _,.int .i64 _,.str _]) tok rfl rfl rfl rfl rfl rfl (by omega) (map_at hq)) ?_
     refine Qn 6 rfl Qle ?_
     refine Qn 7 rfl (P_buildSlice (es:=[[.int .i64 _,_,.int .i64 _,.int .i64 _,.int .i64 _,.int .i64 _,.int .i64 _,.str _]]) tok rfl rfl rfl rfl rfl rfl rfl rfl rfl) ?_
     refine Canon.eff _ _ 8 _ _ rfl (by kernel_rfl) rfl rfl (E_append (k:=1) tok rfl rfl rfl rfl rfl rfl rfl rfl (sc_one rfl) (hsc) (by simp;omega) (by simp [maxLen];omega)) (by rintro _ _ ⟨v38,rfl,rfl⟩;simp) ?_
     rintro _ _ ⟨v38,rfl,rfl⟩
     refine Qn 9 rfl Qfv ?_
     refine Canon.last _ _ 10 _ _ rfl (by kernel_rfl) rfl rfl (E_store (k:=2) (v:=.row _ _ _) (cs':=[_,_,.int .i64 _]) (H2:=_::_::_::_::_) tok rfl rfl rfl rfl (rfl) rfl rfl rfl rfl) (by kernel_rfl) ?_
     rintro _ _ ⟨rfl,rfl⟩
     refine blkN (thenN (AW.region (Qp Qmi ?_)))
     refine Qp Qad ?_
     refine Qp Qai ?_
     refine Qnn ?_
     refine ⟨(p.1+1,p.2.1++[q.1],p.2.2.1,v38,p.2.2.2.2.1,p.2.2.2.2.2.1++[cE (tmE q.1)],p.2.2.2.2.2.2),?_,?_,GS.weaken ⟨rfl,rfl,rfl,rfl,rfl,rfl,rfl,trivial⟩ (.refl _)⟩
     · exact ⟨hlt,by simp only;rw [hR2,parts_1 (one_ne hc2) hc2],by simp only [List.length_append,List.length_singleton];omega,by simp only [List.length_append,List.length_singleton];omega,by simp [hpe],by simp [hme]⟩
     · simp only;omega
    ·
     refine Qsr (Qp (Qf [_,.int .i64 _,.bool _]) ?_)
     refine Qp Qls ?_
     refine Qp Qmi ?_
     refine Qp (P_indexAddr (c:=[.int .i64 _]) tok rfl rfl rfl rfl rfl rfl (by omega) (map_at hq)) ?_
     refine Qp Qli ?_
     refine Qp Qceq ?_
     refine Qnn (Qif (fun hc3=>?_) fun hc3=>?_)
     ·
      have hsc:∀c∈p.2.2.2.2.2.2,scalars c=true:=by rw [hme];exact sc_map fun _=>rfl
      refine AW.draw mixed (fun H'=>_∈H') (List.mem_of_getElem? (i:=2) rfl) (by kernel_rfl) ?_
      refine Qn 0 rfl Qfv ?_
      refine Qn 1 rfl (OpP.mem (fun k=>P_load_box (k:=k) (c:=.row _ _ _) tok rfl rfl rfl rfl) (fun _ h=>h)) ?_
      refine Qn 2 rfl (Qf [_,_,.int .i64 _,.bool _]) ?_
      refine Qn 3 rfl Qls ?_
      refine Qn 4 rfl Qmi ?_
      refine Qn 5 rfl (P_indexAddr (c:=[.int .i64 _,_,.int .i64 _,.int .i64 _,.int .i64 _,.int .i64 _,.int .i64 _,.str _]) tok rfl rfl rfl rfl rfl rfl (by omega) (map_at hq)) ?_
      refine Qn 6 rfl Qle ?_
      refine Qn 7 rfl (P_buildSlice (es:=[[.int .i64 _,_,.int .i64 _,.int .i64 _,.int .i64 _,.int .i64 _,.int .i64 _,.str _]]) tok rfl rfl rfl rfl rfl rfl rfl rfl rfl) ?_
      refine Canon.eff _ _ 8 _ _ rfl (by kernel_rfl) rfl rfl (E_append (k:=0) tok rfl rfl rfl rfl rfl rfl rfl rfl (sc_one rfl) (hsc) (by simp;omega) (by simp [maxLen];omega)) (by rintro _ _ ⟨v54,rfl,rfl⟩;simp) ?_
      rintro _ _ ⟨v54,rfl,rfl⟩
      refine Qn 9 rfl Qfv ?_
      refine Canon.last _ _ 10 _ _ rfl (by kernel_rfl) rfl rfl (E_store (k:=2) (v:=.row _ _ _) (cs':=[_,_,.int .i64 _]) (H2:=_::_::_::_::_) tok rfl rfl rfl rfl (rfl) rfl rfl rfl rfl) (by kernel_rfl) ?_
      rintro _ _ ⟨rfl,rfl⟩
      refine blkN (thenN (AW.region (Qp Qmi ?_)))
      refine Qp Qad ?_
      refine Qp Qai ?_
      refine Qnn ?_
      refine ⟨(p.1+1,p.2.1,p.2.2.1++[q.1],p.2.2.2.1,v54,p.2.2.2.2.2.1,p.2.2.2.2.2.2++[cE (tmE q.1)]),?_,?_,GS.weaken ⟨rfl,rfl,rfl,rfl,rfl,rfl,rfl,trivial⟩ (.refl _)⟩
      · exact ⟨hlt,by simp only;rw [hR2,parts_2 (mone_ne hc3) hc2 hc3],by simp only [List.length_append,List.length_singleton];omega,by simp only [List.length_append,List.length_singleton];omega,by simp [hpe],by simp [hme]⟩
      · simp only;omega
     ·
      refine Qsr (Qp (Qf [_,.int .i64 _,.bool _]) ?_)
      refine Qp Qls ?_
      refine Qp Qmi ?_
      refine Qp (P_indexAddr (c:=[.int .i64 _]) tok rfl rfl rfl rfl rfl rfl (by omega) (map_at hq)) ?_
      refine Qp Qli ?_
      refine Qp Qcne ?_
      refine Qnn (Qif (fun hc4=>?_) fun hc4=>?_)
      ·
       refine Qsr (Qp (Qbd [_,_,.int .i64 _]) ?_)
       refine Qe (E_store (k:=3) (v:=.agg _) (cs':=[_,_,.int .i64 _]) (H2:=_::_::_::_::_) tok rfl rfl rfl rfl (rfl) rfl rfl rfl rfl) ?_
       rintro _ _ ⟨rfl,rfl⟩
       refine Qp Qab ?_
       refine Qnn (AW.ret (blkR (thenR (thenR (blkR (thenR ?_))))))
       refine ⟨.inr rfl,[.agg [_,_,.int .i64 _],.bool _],.cons (.box _ _ _ 3 _ _ _ _ rfl rfl rfl rfl rfl rfl) <| .cons (.tmp _ _ rfl) <| .nil,.cons _ (.cons _ (.cons _ (.cons _ (.refl _)))),?_⟩
       exact Eq.trans rfl (congrArg (fun q:Gp×Bool=>AV.tuple [.agg (cGpR q.1),.bool q.2]) (dif_no (hR2.trans (parts_3' (bne_ne hc4) hc2 hc3)))).symm
      ·
       refine AW.skip (blkN (thenN (AW.region (Qp Qmi ?_))))
       refine Qp Qad ?_
       refine Qp Qai ?_
       refine Qnn ?_
       refine ⟨(p.1+1,p.2.1,p.2.2.1,p.2.2.2.1,p.2.2.2.2.1,p.2.2.2.2.2.1,p.2.2.2.2.2.2),?_,?_,GS.weaken ⟨rfl,rfl,rfl,rfl,rfl,rfl,rfl,trivial⟩ (.refl _)⟩
       · exact ⟨hlt,by simp only;rw [hR2,parts_0 (bne_eq hc4)],by simp only;omega,by simp only;omega,hpe,hme⟩
       · simp only;omega
   ·
    have hde:=get_end hc1
    have hR2:=hR.2.1
    rw [hde] at hR2
    refine AW.exit ?_
    refine thenE (thenE (blkHit (thenN (AW.seq ?_))))
    refine AW.ghost (GS.cell 2 0 rfl rfl rfl rfl unrow_cell) ?_
    refine AW.ghost (GS.cell 2 1 rfl rfl rfl rfl unrow_cell) ?_
    refine AW.draw mixed (fun H'=>_∈H') (List.mem_of_getElem? (i:=2) rfl) (by kernel_rfl) ?_
    refine Qn 0 rfl (OpP.mem (fun k=>P_load_box_agg (k:=k) (l:=[_,_,.int .i64 _]) tok rfl rfl rfl rfl rfl) (fun _ h=>h)) ?_
    refine Qn 1 rfl (Qf [.bool _]) ?_
    refine Qn 2 rfl Qlb ?_
    refine Qn 3 rfl Qmb ?_
    refine Qo 4 rfl [] Qw Qfv ?_
    refine Canon.pure _ _ 5 _ _ rfl (by kernel_rfl) (by kernel_rfl) rfl (.opt _ (.sl _ _) [(67,_)] rfl (EntL.all ⟨Ent.self _ _,trivial⟩) (fun hG=>OpP.mem (fun k=>P_load_box (k:=k) (c:=.sl _ _) tok rfl rfl rfl rfl) (fun _ h=>h)) rfl) ?_
    refine Canon.pure _ _ 6 _ _ rfl (by kernel_rfl) (by kernel_rfl) rfl (.opt _ (.int .i64 _) [(68,_)] rfl (EntL.all ⟨Ent.self _ _,trivial⟩) (fun hG=>P_len_sl (n:=p.2.1.length) tok rfl rfl rfl (hpel)) rfl) ?_
    refine Qo 7 rfl [(69,_)] Qw Qclq ?_
    refine Qn 8 rfl Qpa ?_
    refine Qn 9 rfl Qmb ?_
    refine Qo 10 rfl [] Qw Qfv ?_
    refine Canon.pure _ _ 11 _ _ rfl (by kernel_rfl) (by kernel_rfl) rfl (.opt _ (.sl _ _) [(73,_)] rfl (EntL.all ⟨Ent.self _ _,trivial⟩) (fun hG=>OpP.mem (fun k=>P_load_box (k:=k) (c:=.sl _ _) tok rfl rfl rfl rfl) (fun _ h=>h)) rfl) ?_
    refine Canon.pure _ _ 12 _ _ rfl (by kernel_rfl) (by kernel_rfl) rfl (.opt _ (.int .i64 _) [(74,_)] rfl (EntL.all ⟨Ent.self _ _,trivial⟩) (fun hG=>P_len_sl (n:=p.2.2.1.length) tok rfl rfl rfl (hmel)) rfl) ?_
    refine Qo 13 rfl [(75,_)] Qw Qclq ?_
    refine Qn 14 rfl Qpa ?_
    refine Canon.eff _ _ 15 _ _ rfl (by kernel_rfl) rfl rfl (E_store (k:=3) (v:=.agg _) (cs':=[_,_,.int .i64 _]) (H2:=_::_::_::_::_) tok rfl rfl rfl rfl (rfl) rfl rfl rfl rfl) (by rintro _ _ ⟨rfl,rfl⟩;simp) ?_
    rintro _ _ ⟨rfl,rfl⟩
    refine Qn 16 rfl Qab ?_
    refine Canon.done _ _ (by kernel_rfl) ?_
    refine thenN (AW.ret ?_)
    refine ⟨.inr rfl,[.agg [_,_,.int .i64 _],.bool _],.cons (.box _ _ _ 3 _ _ _ _ rfl rfl rfl rfl rfl rfl) <| .cons (.tmp _ _ rfl) <| .nil,.cons _ (.cons _ (.cons _ (.cons _ (.refl _)))),?_⟩
    rw [hpe,hme]
    exact Eq.trans rfl (congrArg (fun q:Gp×Bool=>AV.tuple [.agg (cGpR q.1),.bool q.2]) (dif_yes hR2)).symm

end Go.Proofs.YtkddpedfbicbeaaGreatDoor

namespace Go.Proofs.YtkddpedfbicbeaaGreatDoor
open Go Go.Aw
set_option maxHeartbeats 1600000
set_option maxRecDepth 20000
set_option linter.unusedVariables false
set_option linter.unusedSimpArgs false

theorem r_kindR (T:List Sc)(hl:T.length≤1048576)(hst:∀s∈T,scOK s)(V:List Va)(hvl:V.length≤1048576)(e:Ex)(hk:KC T V e):APure Tryz.prog 93 [.sl 2 (T.map cSc),.sl 2 (V.map cVa),.agg (cE e)] (.int .i64 (kindR T V e)):=by
  have h:=r_kind T hl hst V hvl e (Nat.le_trans (kc_size hk) (by decide))
  rw [kc_kindR hk] at h
  exact h
theorem r_logical (T:List Sc)(hl:T.length≤1048576)(hst:∀s∈T,scOK s)(V:List Va)(hvl:V.length≤1048576)(e:Ex)(hk:KC T V e):APure Tryz.prog 85 [.sl 2 (T.map cSc),.sl 2 (V.map cVa),.agg (cE e)] (.bool (composedS T V e)):=by
 refine APure.body (n:=36) tok Tryz.func85 rfl rfl rfl fun H=>?_
 refine Qsr (Qp Qbe ?_)
 refine Qp Qab ?_
 refine Qnn (AW.seq (Qsr (Qp Qf0 ?_)))
 refine Qp Qli ?_
 refine Qp Qceq ?_
 refine Qnn (Qif (fun hc1=>?_) fun hc1=>?_)
 ·
  refine AW.seq ?_
  have h2:=l9 hk.kok ‹(e.op == 9)=true›
  have h00:0 < e.args.length:=by omega
  have hk0:=kc_arg hk (arg0_mem h00)
  refine AW.region (Qp Qms ?_)
  refine Qp Qms ?_
  refine Qp Qf1 ?_
  refine Qp Qls ?_
  refine Qp (P_indexAddr (c:=[.int .i64 _,_,.int .i64 _,.int .i64 _,.int .i64 _,.int .i64 _,.int .i64 _,.str _]) tok rfl rfl rfl rfl rfl rfl (by decide) (arg0_at h00)) ?_
  refine Qp Qle ?_
  refine Qp (Qc rfl (r_kindR T hl hst V hvl _ hk0)) ?_
  refine Qp Qceq ?_
  refine Qp Qab ?_
  refine Qnn (Qrt (Qr (.bool _) ?_))
  exact Eq.trans rfl (congrArg (fun q:Bool=>AV.bool q) (rlog_1 hc1)).symm
 ·
  refine Qst (Qsr (Qp Qf0 ?_))
  refine Qp Qli ?_
  refine Qp Qceq ?_
  refine Qp Qmb ?_
  refine Qg [] Qw Qf0 ?_
  refine Qg [(22,_)] Qw Qli ?_
  refine Qg [(23,_)] Qw Qceq ?_
  refine Qp Qpo ?_
  refine Qp Qmb ?_
  refine Qg [] Qw Qf0 ?_
  refine Qg [(27,_)] Qw Qli ?_
  refine Qg [(28,_)] Qw Qceq ?_
  refine Qp Qpo ?_
  refine Qp Qmb ?_
  refine Qg [] Qw Qf0 ?_
  refine Qg [(32,_)] Qw Qli ?_
  refine Qg [(33,_)] Qw Qceq ?_
  refine Qp Qpo ?_
  refine Qp Qab ?_
  refine Qnn (AW.ret (Qr (.bool _) ?_))
  exact Eq.trans rfl (congrArg (fun q:Bool=>AV.bool q) (rlog_2 hc1)).symm
theorem r_Simple (T:List Sc)(hl:T.length≤1048576)(hst:∀s∈T,scOK s)(V:List Va)(hvl:V.length≤1048576)(e:Ex)(hk:KC T V e):APure Tryz.prog 86 [.sl 2 (T.map cSc),.sl 2 (V.map cVa),.agg (cE e)] (.bool (simpleS T V e)):=by
 refine APure.body (n:=58) tok Tryz.func86 rfl rfl rfl fun H=>?_
 refine Qsr (Qp Qbe ?_)
 refine Qp Qab ?_
 refine Qnn (AW.seq (Qsr (Qp Qf0 ?_)))
 refine Qp Qli ?_
 refine Qp Qceq ?_
 refine Qnn (Qif (fun hc1=>?_) fun hc1=>?_)
 ·
  refine Qsr (Qp Qab ?_)
  refine Qnn (Qrt (Qr (.bool _) ?_))
  exact Eq.trans rfl (congrArg (fun q:Bool=>AV.bool q) (simple_1 hc1)).symm
 ·
  refine Qst (AW.seq (Qsr (Qp Qf0 ?_)))
  refine Qp Qli ?_
  refine Qp Qcne ?_
  refine Qp Qmb ?_
  refine Qg [] Qw Qf0 ?_
  refine Qg [(16,_)] Qw Qli ?_
  refine Qg [(17,_)] Qw Qcne ?_
  refine Qp Qpa ?_
  refine Qp Qmb ?_
  refine Qg [] Qw Qf0 ?_
  refine Qg [(21,_)] Qw Qli ?_
  refine Qg [(22,_)] Qw Qcne ?_
  refine Qp Qpa ?_
  refine Qnn (Qif (fun hc2=>?_) fun hc2=>?_)
  ·
   refine Qsr (Qp Qab ?_)
   refine Qnn (Qrt (Qr (.bool _) ?_))
   exact Eq.trans rfl (congrArg (fun q:Bool=>AV.bool q) (rsim_2 hc1 hc2)).symm
  ·
   refine Qst (AW.seq (AW.seq ?_))
   have hcmp:=rcmp_c hc2
   have h2:=cmp_two hk.kok hcmp
   have h00:0 < e.args.length:=by omega
   have hsz:=arg_sizes h2
   have hks:=kc_size hk
   have hk0:=kc_arg hk (arg0_mem h00)
   have hk1:=kc_arg hk (arg1_mem h2)
   refine AW.region (Qp Qms ?_)
   refine Qp Qms ?_
   refine Qp Qf1 ?_
   refine Qp Qls ?_
   refine Qp (P_indexAddr (c:=[.int .i64 _,_,.int .i64 _,.int .i64 _,.int .i64 _,.int .i64 _,.int .i64 _,.str _]) tok rfl rfl rfl rfl rfl rfl (by decide) (arg0_at h00)) ?_
   refine Qp Qle ?_
   refine Qp (Qc rfl (r_kindR T hl hst V hvl _ hk0)) ?_
   refine Qp Qceq ?_
   refine Qnn (Qif (fun hc3=>?_) fun hc3=>?_)
   ·
    refine Qsr (Qp Qf1 ?_)
    refine Qp Qls ?_
    refine Qp (P_indexAddr (c:=[.int .i64 _,_,.int .i64 _,.int .i64 _,.int .i64 _,.int .i64 _,.int .i64 _,.str _]) tok rfl rfl rfl rfl rfl rfl (by decide) (arg0_at h00)) ?_
    refine Qp Qle ?_
    refine Qp (Qc rfl (r_stringy (arg0 e))) ?_
    refine Qp Qmb ?_
    refine Qg [] Qw Qf1 ?_
    refine Qg [(39,_)] Qw Qls ?_
    refine AOL.g (y:=.ptr _) _ [(40,_)] rfl (EntL.all ⟨Ent.self _ _,trivial⟩) (fun hG=>P_indexAddr (c:=[.int .i64 _,_,.int .i64 _,.int .i64 _,.int .i64 _,.int .i64 _,.int .i64 _,.str _]) tok rfl rfl rfl rfl rfl rfl (by decide) (arg1_at h2)) rfl ?_
    refine Qg [(41,_)] Qw Qle ?_
    refine Qg [(42,_)] Qw (Qc rfl (r_stringy (arg1 e))) ?_
    refine Qp Qpa ?_
    refine Qp Qab ?_
    refine Qnn (Qrt (Qr (.bool _) ?_))
    exact Eq.trans rfl (congrArg (fun q:Bool=>AV.bool q) (rsim_3 hk.kok hc1 hc2 hc3)).symm
   ·
    refine Qst (AW.seq ?_)
    refine AW.draw mixed (fun _=>True) trivial (by kernel_rfl) ?_
    refine Qn 0 rfl Qf1 ?_
    refine Qn 1 rfl Qls ?_
    refine Qn 2 rfl (P_indexAddr (c:=[.int .i64 _,_,.int .i64 _,.int .i64 _,.int .i64 _,.int .i64 _,.int .i64 _,.str _]) tok rfl rfl rfl rfl rfl rfl (by decide) (arg0_at h00)) ?_
    refine Qn 3 rfl Qle ?_
    refine Qn 4 rfl Qf1 ?_
    refine Qn 5 rfl Qls ?_
    refine Qn 6 rfl (P_indexAddr (c:=[.int .i64 _,_,.int .i64 _,.int .i64 _,.int .i64 _,.int .i64 _,.int .i64 _,.str _]) tok rfl rfl rfl rfl rfl rfl (by decide) (arg1_at h2)) ?_
    refine Qn 7 rfl Qle ?_
    refine Qn 8 rfl (Qc rfl (r_difference _ _ hk0.kok.nodes hk1.kok.nodes (by omega))) ?_
    refine Qn 9 rfl Qmu ?_
    refine Qn 10 rfl (P_extract (v:=.agg [_,_,.int .i64 _]) rfl rfl) ?_
    refine Qn 11 rfl Qxb ?_
    refine Canon.eff _ _ 12 _ _ rfl (by kernel_rfl) rfl rfl (E_alloc (l:=[.sl 8 [],.sl 8 [],.int .i64 0]) (by kernel_rfl)) (fun _ _ _=>trivial) ?_
    rintro _ _ ⟨b7,rfl,rfl⟩
    refine Canon.eff _ _ 13 _ _ rfl (by kernel_rfl) rfl rfl (E_store (k:=0) (v:=.agg _) (cs':=[_,_,.int .i64 _]) (H2:=_::_) tok rfl rfl rfl rfl (rfl) rfl rfl rfl rfl) (fun _ _ _=>trivial) ?_
    rintro _ _ ⟨rfl,rfl⟩
    refine Qn 14 rfl Qab ?_
    refine Canon.done _ _ (by kernel_rfl) ?_
    refine thenN ?_
    refine AW.ghost (GS.freeze (t:=7) 0 rfl rfl) ?_
    refine Qsr (Qp Qmb ?_)
    refine Qp Qab ?_
    refine Qnn (AW.ret (Qr (.bool _) ?_))
    exact Eq.trans rfl (congrArg (fun q:Bool=>AV.bool q) (rsim_4 hk.kok hc1 hc2 hc3 (differ_snd hk0.kok.nodes hk1.kok.nodes))).symm
theorem r_plain (T:List Sc)(hl:T.length≤1048576)(hst:∀s∈T,scOK s)(V:List Va)(hvl:V.length≤1048576)(e:Ex)(hk:KC T V e):APure Tryz.prog 52 [.sl 2 (T.map cSc),.sl 2 (V.map cVa),.agg (cE e)] (.bool (plainS T V e)):=by
 induction e using Ex.ind
 rename_i e ih
 have hal:=args_le e (Nat.le_trans (kc_size hk) (by decide))
 refine APure.body (n:=33) tok Tryz.func52 rfl rfl rfl fun H=>?_
 refine Qsr (Qp Qbe ?_)
 refine Qp Qab ?_
 refine Qnn (AW.seq (Qsr (Qp Qms ?_)))
 refine Qp Qms ?_
 refine Qp Qle ?_
 refine Qp (Qc rfl (r_logical T hl hst V hvl e hk)) ?_
 refine Qp Qnt ?_
 refine Qnn (Qif (fun hc1=>?_) fun hc1=>?_)
 ·
  refine Qsr (Qp Qms ?_)
  refine Qp Qms ?_
  refine Qp Qle ?_
  refine Qp (Qc rfl (r_Simple T hl hst V hvl e hk)) ?_
  refine Qp Qab ?_
  refine Qnn (Qrt (Qr (.bool _) ?_))
  exact Eq.trans rfl (congrArg (fun q:Bool=>AV.bool q) (plainE_1 hc1)).symm
 ·
  refine Qst (AW.seq (Qsr (Qp Qai ?_)))
  refine Qnn (AW.block ?_)
  refine AW.loopS (fun (k:Nat)=>(⟨[(0,.sl 2 (T.map cSc)),(1,.sl 2 (V.map cVa)),(5,.ptr (cE e)),(6,.bool false),(7,.int .i64 (k:Int))],H,33⟩:St)) (fun (k:Nat)=>k≤e.args.length∧(e.args.take k).all (plainS T V)=true) (fun (k:Nat)=>e.args.length - k) (0) ?_ (GS.weaken ⟨rfl,rfl,rfl,rfl,rfl,trivial⟩ (.refl _)) ?_
  · simp
  ·
   rintro k hR
   refine AW.seq (Qsr (Qp Qmi ?_))
   refine Qp Qf1 ?_
   refine Qp Qls ?_
   refine Qp (P_len_sl (n:=e.args.length) tok rfl rfl rfl (by simp)) ?_
   refine Qp Qclt ?_
   refine Qnn (Qif (fun hc2=>?_) fun hc2=>?_)
   ·
    obtain ⟨a,ha⟩:=get_lt hc2
    have hlt:=get_lt' ha
    have hm:=List.mem_of_getElem? ha
    refine Qst (AW.seq (AW.block (Qsr (Qp Qms ?_))))
    refine Qp Qms ?_
    refine Qp Qf1 ?_
    refine Qp Qls ?_
    refine Qp Qmi ?_
    refine Qp (P_indexAddr (c:=[.int .i64 _,_,.int .i64 _,.int .i64 _,.int .i64 _,.int .i64 _,.int .i64 _,.str _]) tok rfl rfl rfl rfl rfl rfl (by omega) (encE_at ha)) ?_
    refine Qp Qle ?_
    refine Qp (Qc rfl (ih a hm (kc_arg hk hm))) ?_
    refine Qp Qnt ?_
    refine Qnn (Qif (fun hc3=>?_) fun hc3=>?_)
    ·
     refine Qsr (Qp Qab ?_)
     refine Qnn (AW.ret (blkR (thenR (thenR (blkR (thenR (Qr (.bool _) ?_)))))))
     exact Eq.trans rfl (congrArg (fun q:Bool=>AV.bool q) (plainE_2 hc1 hm hc3)).symm
    ·
     refine AW.skip (blkN (thenN (AW.region (Qp Qmi ?_))))
     refine Qp Qad ?_
     refine Qp Qai ?_
     refine Qnn ?_
     refine ⟨k+1,?_,?_,GS.weaken ⟨rfl,rfl,rfl,rfl,rfl,trivial⟩ (.refl _)⟩
     · exact ⟨hlt,by rw [take_get ha,List.all_append,hR.2];simpa using hc3⟩
     · omega
   ·
    have hte:=take_end hc2
    have hall:=hR.2
    rw [hte] at hall
    refine AW.exit ?_
    refine thenE (thenE (blkHit (thenN (Qsr (Qp Qab ?_)))))
    refine Qnn (AW.ret (Qr (.bool _) ?_))
    exact Eq.trans rfl (congrArg (fun q:Bool=>AV.bool q) (plainE_3 hc1 hall)).symm
theorem r_Plain (T:List Sc)(hl:T.length≤1048576)(hst:∀s∈T,scOK s)(V:List Va)(hvl:V.length≤1048576)(e:Ex)(hse:sizeN e≤1048576):APure Tryz.prog 12 [.sl 2 (T.map cSc),.sl 2 (V.map cVa),.agg (cE e)] (.tuple [.bool (PlainS T V e).1,.int .i64 (PlainS T V e).2]):=by
 refine APure.body (n:=20) tok Tryz.func12 rfl rfl rfl fun H=>?_
 refine Qsr (Qp Qbe ?_)
 refine Qp Qab ?_
 refine Qp Qai ?_
 refine Qnn (AW.seq (Qsr (Qp Qms ?_)))
 refine Qp Qms ?_
 refine Qp Qle ?_
 refine Qp (Qc rfl (r_Condition T hl hst V hvl e hse)) ?_
 refine Qp Qai ?_
 refine Qns (Qp Qmi ?_)
 refine Qp Qcne ?_
 refine Qnn (Qif (fun hc1=>?_) fun hc1=>?_)
 ·
  refine Qsr (Qp Qmi ?_)
  refine Qp Qab ?_
  refine Qp Qai ?_
  refine Qnn (Qrt (Qrr (.bool _) (.int .i64 _) ?_))
  exact Eq.trans rfl (congrArg (fun q:Bool×Int=>AV.tuple [.bool q.1,.int .i64 q.2]) (PlainS_1 hc1)).symm
 ·
  refine Qst (Qsr (Qp Qms ?_))
  refine Qp Qms ?_
  refine Qp Qle ?_
  refine Qp (Qc rfl (r_plain T hl hst V hvl e (condE_kc hc1).1)) ?_
  refine Qp Qab ?_
  refine Qp Qai ?_
  refine Qnn (AW.ret (Qrr (.bool _) (.int .i64 _) ?_))
  exact Eq.trans rfl (congrArg (fun q:Bool×Int=>AV.tuple [.bool q.1,.int .i64 q.2]) (PlainS_2 hc1)).symm

end Go.Proofs.YtkddpedfbicbeaaGreatDoor
