/-
  Several texts in one: Y14, Y15, Y16, G11, B11. No condition.
-/
import Derived.Test.YtkddpedfbicbeaaGreatDoorK01
import Derived.Test.YtkddpedfbicbeaaGreatDoorK09
import Derived.Test.YtkddpedfbicbeaaGreatDoorK16
import Derived.Test.YtkddpedfbicbeaaGreatDoorK13
import Derived.Test.YtkddpedfbicbeaaGreatDoorK11
import Derived.KernelRfl
import Derived.Test.YtkddpedfbicbeaaGreatDoorAx
import Derived.Test.YtkddpedfbicbeaaGreatDoorCards
import Derived.Test.YtkddpedfbicbeaaGreatDoorTie
import Derived.Deep.DeepHandedRow
import Derived.Lib.LaidTab
import Derived.Test.YtkddpedfbicbeaaGreatDoorRows
import Derived.JoinedCond
import Derived.ProofKit
namespace Go.Proofs.YtkddpedfbicbeaaGreatDoor
open Go Go.Aw
set_option maxHeartbeats 1600000
set_option maxRecDepth 20000
set_option linter.unusedVariables false
set_option linter.unusedSimpArgs false

set_option maxRecDepth 100000
theorem l_example  : APure Tryz.prog 39 [] (.agg (cScene exT exV)):=by
 refine APure.body (n:=12) tok Tryz.func39 rfl rfl rfl fun H=>?_
 refine Qsr (Qe (E_alloc (l:=[.sl 2 [],.sl 2 []]) (by kernel_rfl)) ?_)
 rintro _ _ ⟨b0,rfl,rfl⟩
 refine Qns (Qp (Qbd [.str _,.int .i64 _]) ?_)
 refine Qp (Qbd [.str _,.int .i64 _]) ?_
 refine Qp (P_buildSlice (es:=[[.str _,.int .i64 _],[.str _,.int .i64 _]]) tok rfl rfl rfl rfl rfl rfl rfl rfl rfl) ?_
 refine Qp (Qbd [.str _,_]) ?_
 refine Qe (E_alloc (l:=[.str [],.sl 2 []]) (by kernel_rfl)) ?_
 rintro _ _ ⟨b1,rfl,rfl⟩
 refine Qe (E_store (k:=0) (v:=.agg _) (cs':=[.str _,_]) (H2:=_::_::_) tok rfl rfl rfl rfl (rfl) rfl rfl rfl rfl) ?_
 rintro _ _ ⟨rfl,rfl⟩
 refine AOL.ghost (GS.freeze (t:=1) 0 rfl rfl) ?_
 refine Qns (Qp (Qlg [.str _,_]) ?_)
 refine Qp (P_buildSlice (es:=[[.str _,_]]) tok rfl rfl rfl rfl rfl rfl rfl rfl rfl) ?_
 refine Qp (Qbd [.str _,.int .i64 _]) ?_
 refine Qp (Qbd [.str _,.int .i64 _]) ?_
 refine Qp (P_buildSlice (es:=[[.str _,.int .i64 _],[.str _,.int .i64 _]]) tok rfl rfl rfl rfl rfl rfl rfl rfl rfl) ?_
 refine Qp (Qbd [_,_]) ?_
 refine Qe (E_store (k:=0) (v:=.agg _) (cs':=[_,_]) (H2:=_::_) tok rfl rfl rfl rfl (rfl) rfl rfl rfl rfl) ?_
 rintro _ _ ⟨rfl,rfl⟩
 refine Qnn (AW.ret ?_)
 refine ⟨.inr rfl,[.agg [_,_]],.cons (.box _ _ _ 0 _ _ _ _ rfl rfl rfl rfl rfl rfl) <| .nil,.cons _ (.refl _),?_⟩
 rfl
theorem r_FewT (T:List Sc)(hl:T.length≤1048576)(hst:∀s∈T,scOK s):APure Tryz.prog 38 [.sl 2 (T.map cSc)] (.bool (fewT T)):=by
 refine APure.body (n:=29) tok Tryz.func38 rfl rfl rfl fun H=>?_
 refine Qsr (Qp Qab ?_)
 refine Qnn (AW.seq (Qsr (Qp Qai ?_)))
 refine Qnn (AW.block ?_)
 refine AW.loopS (fun (k:Nat)=>(⟨[(0,.sl 2 (T.map cSc)),(3,.int .i64 (k:Int))],H,29⟩:St)) (fun (k:Nat)=>k≤T.length∧(T.take k).any bigSc=false) (fun (k:Nat)=>T.length - k) (0) ?_ (GS.weaken ⟨rfl,rfl,trivial⟩ (.refl _)) ?_
 · exact ⟨Nat.zero_le _,by simp⟩
 ·
  rintro k hR
  refine AW.seq (Qsr (Qp Qmi ?_))
  refine Qp Qms ?_
  refine Qp (P_len_sl (n:=T.length) tok rfl rfl rfl (by simp)) ?_
  refine Qp Qclt ?_
  refine Qnn (Qif (fun hc1=>?_) fun hc1=>?_)
  ·
   obtain ⟨a,ha⟩:=get_lt hc1
   have hlt:=get_lt' ha
   have hm:=List.mem_of_getElem? ha
   refine Qst (AW.seq (AW.block (Qsr (Qp Qms ?_))))
   refine Qp Qmi ?_
   refine Qp (P_indexAddr (c:=[.str _,_]) tok rfl rfl rfl rfl rfl rfl (by omega) (map_at ha)) ?_
   refine Qp (Qf [_]) ?_
   refine Qp Qls ?_
   refine Qp (P_len_sl (n:=a.fields.length) tok rfl rfl rfl (by simp)) ?_
   refine Qp Qcgt ?_
   refine Qp Qmb ?_
   refine Qg [] Qw Qms ?_
   refine Qg [] Qw Qmi ?_
   refine AOL.g (y:=.ptr _) _ [(18,_),(19,_)] rfl (EntL.all ⟨Ent.self _ _,Ent.self _ _,trivial⟩) (fun hG=>P_indexAddr (c:=[.str _,_]) tok rfl rfl rfl rfl rfl rfl (by omega) (map_at ha)) rfl ?_
   refine Qg [(20,_)] Qw (Qf [.str _,_]) ?_
   refine Qg [(21,_)] Qw Qlt ?_
   refine AOL.g (y:=.int .i64 _) _ [(22,_)] rfl (EntL.all ⟨Ent.self _ _,trivial⟩) (fun hG=>P_len_str (n:=a.name.length) tok rfl rfl rfl (rfl)) rfl ?_
   refine Qg [(23,_)] Qw Qcgt ?_
   refine Qp Qpo ?_
   refine Qnn (Qif (fun hc2=>?_) fun hc2=>?_)
   ·
    refine Qsr (Qp Qab ?_)
    refine Qnn (AW.ret (blkR (thenR (thenR (blkR (thenR (Qr (.bool _) ?_)))))))
    exact Eq.trans rfl (congrArg (fun q:Bool=>AV.bool q) ((by unfold fewT;rw [if_pos (any_hit ha hc2)]:fewT T=false))).symm
   ·
    refine AW.skip (blkN (thenN (AW.region (Qp Qmi ?_))))
    refine Qp Qad ?_
    refine Qp Qai ?_
    refine Qnn ?_
    refine ⟨k+1,?_,?_,GS.weaken ⟨rfl,rfl,trivial⟩ (.refl _)⟩
    · exact ⟨hlt,any_snoc hR.2 ha hc2⟩
    · omega
  ·
   have hte:=take_end hc1
   have hall:=hR.2
   rw [hte] at hall
   refine AW.exit ?_
   refine thenE (thenE (blkHit (thenN (Qsr (Qp Qms ?_)))))
   refine Qp (P_len_sl (n:=T.length) tok rfl rfl rfl (by simp)) ?_
   refine Qp Qclq ?_
   refine Qp Qab ?_
   refine Qnn (AW.ret (Qr (.bool _) ?_))
   exact Eq.trans rfl (congrArg (fun q:Bool=>AV.bool q) ((by unfold fewT;rw [ifF hall]:fewT T=decide ((T.length:Int)≤20)))).symm
theorem l_few (T:List Sc)(hl:T.length≤1048576)(hst:∀s∈T,scOK s)(V:List Va)(hvl:V.length≤1048576)(es:List Ex)(hel:es.length≤1048576)(hes:∀e∈es,sizeN e≤1048576):APure Tryz.prog 9 [.agg (cScene T V),.sl 8 (es.map encE)] (.bool (fewP T V es)):=by
 refine APure.body (n:=31) tok Tryz.func9 rfl rfl rfl fun H=>?_
 refine Qsr (Qp (Qbx [_,_]) ?_)
 refine Qp Qab ?_
 refine Qnn (AW.seq (Qsr (Qp Qms ?_)))
 refine Qp (P_len_sl (n:=es.length) tok rfl rfl rfl (by simp)) ?_
 refine Qp Qmi ?_
 refine Qnn (AW.block ?_)
 refine AW.loopS (fun (k:Nat)=>(⟨[(1,.sl 8 (es.map encE)),(2,.ptr (cScene T V)),(7,.sl 8 (es.map encE)),(8,.int .i64 es.length),(9,.int .i64 (k:Int))],H,31⟩:St)) (fun (k:Nat)=>k≤es.length∧(es.take k).any (fun e=>!fewX e)=false) (fun (k:Nat)=>es.length - k) (0) ?_ (GS.weaken ⟨rfl,rfl,rfl,rfl,rfl,trivial⟩ (.refl _)) ?_
 · exact ⟨Nat.zero_le _,by simp⟩
 ·
  rintro k hR
  refine Qsr (Qp Qclt ?_)
  refine Qnn (AW.seq (Qif (fun hc1=>?_) fun hc1=>?_))
  ·
   obtain ⟨e,he⟩:=get_lt hc1
   have hlt:=get_lt' he
   have hem:=List.mem_of_getElem? he
   refine Qst (AW.seq (AW.block (Qsr (Qp (P_indexAddr (c:=[.int .i64 _,_,.int .i64 _,.int .i64 _,.int .i64 _,.int .i64 _,.int .i64 _,.str _]) tok rfl rfl rfl rfl rfl rfl (by omega) (encE_at he)) ?_))))
   refine Qp Qle ?_
   refine Qe (E_alloc (l:=[.int .i64 0,.sl 8 [],.int .i64 0,.int .i64 0,.int .i64 0,.int .i64 0,.int .i64 0,.str []]) (by kernel_rfl)) ?_
   rintro _ _ ⟨b6,rfl,rfl⟩
   refine Qe (E_store (k:=0) (v:=.agg _) (cs':=[.int .i64 _,_,.int .i64 _,.int .i64 _,.int .i64 _,.int .i64 _,.int .i64 _,.str _]) (H2:=_::_) tok rfl rfl rfl rfl (rfl) rfl rfl rfl rfl) ?_
   rintro _ _ ⟨rfl,rfl⟩
   refine AOL.ghost (GS.freeze (t:=6) 0 rfl rfl) ?_
   refine Qns (Qp Qle ?_)
   refine Qp (Qc rfl (c34 e (hes e hem))) ?_
   refine Qp Qnt ?_
   refine Qnn (Qif (fun hc2=>?_) fun hc2=>?_)
   ·
    refine Qsr (Qp Qab ?_)
    refine Qnn (AW.ret (blkR (thenR (thenR (blkR (thenR (Qr (.bool _) ?_)))))))
    exact Eq.trans rfl (congrArg (fun q:Bool=>AV.bool q) ((by unfold fewP;rw [if_pos (any_hit he hc2)]:fewP T V es=false))).symm
   ·
    refine AW.skip (blkN (thenN (AW.region (Qp Qad ?_))))
    refine Qp Qmi ?_
    refine Qnn ?_
    refine ⟨k+1,?_,?_,GS.weaken ⟨rfl,rfl,rfl,rfl,rfl,trivial⟩ (.refl _)⟩
    · exact ⟨hlt,any_snoc hR.2 he hc2⟩
    · omega
  ·
   have hte:=take_end hc1
   have hall:=hR.2
   rw [hte] at hall
   refine AW.exit ?_
   refine thenE (thenE (blkHit (thenN (Qsr (Qp (Qf [_,_]) ?_)))))
   refine Qp Qls ?_
   refine Qp (Qc rfl (r_FewT T hl hst)) ?_
   refine Qp Qmb ?_
   refine Qg [] Qw (Qf [_]) ?_
   refine Qg [(21,_)] Qw Qls ?_
   refine AOL.g (y:=.int .i64 _) _ [(22,_)] rfl (EntL.all ⟨Ent.self _ _,trivial⟩) (fun hG=>P_len_sl (n:=V.length) tok rfl rfl rfl (by simp)) rfl ?_
   refine Qg [(23,_)] Qw Qclq ?_
   refine Qp Qpa ?_
   refine Qp Qmb ?_
   refine Qg [] Qw Qms ?_
   refine AOL.g (y:=.int .i64 _) _ [(27,_)] rfl (EntL.all ⟨Ent.self _ _,trivial⟩) (fun hG=>P_len_sl (n:=es.length) tok rfl rfl rfl (by simp)) rfl ?_
   refine Qg [(28,_)] Qw Qclq ?_
   refine Qp Qpa ?_
   refine Qp Qab ?_
   refine Qnn (AW.ret (Qr (.bool _) ?_))
   exact Eq.trans rfl (congrArg (fun q:Bool=>AV.bool q) ((by unfold fewP;rw [ifF hall]:fewP T V es=_))).symm
theorem r_SameAll (es:List Ex)(hel:es.length≤1048576)(hes:∀e∈es,sizeN e≤1048576):APure Tryz.prog 45 [.sl 8 (es.map encE),.sl 8 (es.map encE)] (.bool true):=by
 refine APure.body (n:=27) tok Tryz.func45 rfl rfl rfl fun H=>?_
 refine Qsr (Qp Qab ?_)
 refine Qnn (AW.seq (Qsr (Qp Qms ?_)))
 refine Qp (P_len_sl (n:=es.length) tok rfl rfl rfl (by simp)) ?_
 refine Qp Qms ?_
 refine Qp (P_len_sl (n:=es.length) tok rfl rfl rfl (by simp)) ?_
 refine Qp Qcne ?_
 refine Qnn (Qif (fun hc1=>?_) fun hc1=>?_)
 ·
  exact absurd hc1 (by simp)
 ·
  refine Qst (AW.seq (Qsr (Qp Qai ?_)))
  refine Qnn (AW.block ?_)
  refine AW.loopS (fun (k:Nat)=>(⟨[(0,.sl 8 (es.map encE)),(1,.sl 8 (es.map encE)),(4,.bool false),(5,.int .i64 (k:Int))],H,27⟩:St)) (fun (k:Nat)=>k≤es.length) (fun (k:Nat)=>es.length - k) (0) ?_ (GS.weaken ⟨rfl,rfl,rfl,rfl,trivial⟩ (.refl _)) ?_
  · exact Nat.zero_le _
  ·
   rintro k hR
   refine AW.seq (Qsr (Qp Qmi ?_))
   refine Qp Qms ?_
   refine Qp (P_len_sl (n:=es.length) tok rfl rfl rfl (by simp)) ?_
   refine Qp Qclt ?_
   refine Qnn (Qif (fun hc2=>?_) fun hc2=>?_)
   ·
    obtain ⟨e,he⟩:=get_lt hc2
    have hlt:=get_lt' he
    have hem:=List.mem_of_getElem? he
    refine Qst (AW.seq (AW.block (AW.seq ?_)))
    refine AW.draw mixed (fun _=>True) trivial (by kernel_rfl) ?_
    refine Qn 0 rfl Qms ?_
    refine Qn 1 rfl Qmi ?_
    refine Qn 2 rfl (P_indexAddr (c:=[.int .i64 _,_,.int .i64 _,.int .i64 _,.int .i64 _,.int .i64 _,.int .i64 _,.str _]) tok rfl rfl rfl rfl rfl rfl (by omega) (encE_at he)) ?_
    refine Qn 3 rfl Qle ?_
    refine Qn 4 rfl Qms ?_
    refine Qn 5 rfl Qmi ?_
    refine Qn 6 rfl (P_indexAddr (c:=[.int .i64 _,_,.int .i64 _,.int .i64 _,.int .i64 _,.int .i64 _,.int .i64 _,.str _]) tok rfl rfl rfl rfl rfl rfl (by omega) (encE_at he)) ?_
    refine Qn 7 rfl Qle ?_
    refine Qn 8 rfl (Qc rfl (c20 e e (hes e hem))) ?_
    refine Qn 9 rfl Qnt ?_
    refine Canon.done _ _ (by kernel_rfl) ?_
    refine thenN (Qif (fun hc3=>?_) fun hc3=>?_)
    ·
     exact absurd hc3 (by rw [(sameS_iff e e).2 rfl];simp)
    ·
     refine AW.skip (blkN (thenN (AW.region (Qp Qmi ?_))))
     refine Qp Qad ?_
     refine Qp Qai ?_
     refine Qnn ?_
     refine ⟨k+1,?_,?_,GS.weaken ⟨rfl,rfl,rfl,rfl,trivial⟩ (.refl _)⟩
     · exact hlt
     · omega
   ·
    refine AW.exit ?_
    refine thenE (thenE (blkHit (thenN (Qsr (Qp Qab ?_)))))
    refine Qnn (AW.ret (Qr (.bool _) ?_))
    rfl
theorem r_SameZ (z:Zn)(hz:z.bs.length≤1048576):APure Tryz.prog 44 [.agg (cZn z),.agg (cZn z)] (.bool true):=by
 refine APure.body (n:=38) tok Tryz.func44 rfl rfl rfl fun H=>?_
 refine Qsr (Qp (Qbx [.int .i64 _,_]) ?_)
 refine Qp (Qbx [.int .i64 _,_]) ?_
 refine Qp Qab ?_
 refine Qnn (AW.seq (Qsr (Qp (Qf [.int .i64 _,_]) ?_)))
 refine Qp Qli ?_
 refine Qp (Qf [.int .i64 _,_]) ?_
 refine Qp Qli ?_
 refine Qp Qcne ?_
 refine Qp Qmb ?_
 refine Qg [] Qw (Qf [_]) ?_
 refine Qg [(12,_)] Qw Qls ?_
 refine AOL.g (y:=.int .i64 _) _ [(13,_)] rfl (EntL.all ⟨Ent.self _ _,trivial⟩) (fun hG=>P_len_sl (n:=z.bs.length) tok rfl rfl rfl (by simp)) rfl ?_
 refine Qg [] Qw (Qf [_]) ?_
 refine Qg [(15,_)] Qw Qls ?_
 refine AOL.g (y:=.int .i64 _) _ [(16,_)] rfl (EntL.all ⟨Ent.self _ _,trivial⟩) (fun hG=>P_len_sl (n:=z.bs.length) tok rfl rfl rfl (by simp)) rfl ?_
 refine AOL.g (y:=.bool _) _ [(14,_),(17,_)] rfl (EntL.all ⟨Ent.self _ _,Ent.self _ _,trivial⟩) (fun hG=>P_neq rfl rfl) rfl ?_
 refine Qp Qpo ?_
 refine Qnn (Qif (fun hc1=>?_) fun hc1=>?_)
 ·
  exact absurd hc1 (by simp)
 ·
  refine Qst (AW.seq (Qsr (Qp Qai ?_)))
  refine Qnn (AW.block ?_)
  refine AW.loopS (fun (k:Nat)=>(⟨[(2,.ptr (cZn z)),(3,.ptr (cZn z)),(4,.bool false),(5,.int .i64 (k:Int))],H,38⟩:St)) (fun (k:Nat)=>k≤z.bs.length) (fun (k:Nat)=>z.bs.length - k) (0) ?_ (GS.weaken ⟨rfl,rfl,rfl,rfl,trivial⟩ (.refl _)) ?_
  · exact Nat.zero_le _
  ·
   rintro k hR
   refine AW.seq (Qsr (Qp Qmi ?_))
   refine Qp (Qf [_]) ?_
   refine Qp Qls ?_
   refine Qp (P_len_sl (n:=z.bs.length) tok rfl rfl rfl (by simp)) ?_
   refine Qp Qclt ?_
   refine Qnn (Qif (fun hc2=>?_) fun hc2=>?_)
   ·
    obtain ⟨a,ha⟩:=get_lt hc2
    have hlt:=get_lt' ha
    have hm:=List.mem_of_getElem? ha
    refine Qst (AW.seq (AW.block (AW.seq ?_)))
    refine AW.draw mixed (fun _=>True) trivial (by kernel_rfl) ?_
    refine Qn 0 rfl (Qf [_]) ?_
    refine Qn 1 rfl Qls ?_
    refine Qn 2 rfl Qmi ?_
    refine Qn 3 rfl (P_indexAddr (c:=[.int .i64 _,.int .i64 _,.int .i64 _]) tok rfl rfl rfl rfl rfl rfl (by omega) (map_at ha)) ?_
    refine Qn 4 rfl (Qlg [.int .i64 _,.int .i64 _,.int .i64 _]) ?_
    refine Qn 5 rfl (Qf [_]) ?_
    refine Qn 6 rfl Qls ?_
    refine Qn 7 rfl Qmi ?_
    refine Qn 8 rfl (P_indexAddr (c:=[.int .i64 _,.int .i64 _,.int .i64 _]) tok rfl rfl rfl rfl rfl rfl (by omega) (map_at ha)) ?_
    refine Qn 9 rfl (Qlg [.int .i64 _,.int .i64 _,.int .i64 _]) ?_
    refine Qn 10 rfl (P_neq_agg tok rfl rfl rfl rfl rfl) ?_
    refine Canon.done _ _ (by kernel_rfl) ?_
    refine thenN (Qif (fun hc3=>?_) fun hc3=>?_)
    ·
     exact absurd hc3 (by simp)
    ·
     refine AW.skip (blkN (thenN (AW.region (Qp Qmi ?_))))
     refine Qp Qad ?_
     refine Qp Qai ?_
     refine Qnn ?_
     refine ⟨k+1,?_,?_,GS.weaken ⟨rfl,rfl,rfl,rfl,trivial⟩ (.refl _)⟩
     · exact hlt
     · omega
   ·
    refine AW.exit ?_
    refine thenE (thenE (blkHit (thenN (Qsr (Qp Qab ?_)))))
    refine Qnn (AW.ret (Qr (.bool _) ?_))
    rfl
theorem l_down (n:Int):APure Tryz.prog 46 [.int .i64 n] (.agg (cE (downE n))):=by
 refine APure.body (n:=9) tok Tryz.func46 rfl rfl rfl fun H=>?_
 refine Qsr (Qe (E_alloc (l:=[.int .i64 0,.sl 8 [],.int .i64 0,.int .i64 0,.int .i64 0,.int .i64 0,.int .i64 0,.str []]) (by kernel_rfl)) ?_)
 rintro _ _ ⟨b2,rfl,rfl⟩
 refine Qns (Qp (Qc rfl (l_price _)) ?_)
 refine Qp (Qc rfl (l_price _)) ?_
 refine Qp Qmi ?_
 refine Qp (Qc rfl (l_number _)) ?_
 refine Qp (Qc rfl (l_two _ _ _)) ?_
 refine Qp (Qc rfl (l_two _ _ _)) ?_
 refine Qe (E_store (k:=0) (v:=.agg _) (cs':=[.int .i64 _,_,.int .i64 _,.int .i64 _,.int .i64 _,.int .i64 _,.int .i64 _,.str _]) (H2:=_::_) tok rfl rfl rfl rfl (rfl) rfl rfl rfl rfl) ?_
 rintro _ _ ⟨rfl,rfl⟩
 refine Qnn (AW.ret ?_)
 refine ⟨.inr rfl,[.agg [.int .i64 _,_,.int .i64 _,.int .i64 _,.int .i64 _,.int .i64 _,.int .i64 _,.str _]],.cons (.box _ _ _ 0 _ _ _ _ rfl rfl rfl rfl rfl rfl) <| .nil,.cons _ (.refl _),?_⟩
 rfl
theorem l_verdict (w:Int)(es:List Ex)(hel:es.length≤60)(hes:∀e∈es,sizeN e≤1048576):APure Tryz.prog 47 [.int .i64 w,.sl 8 (es.map encE)] (.bool (verS w es)):=by
 refine APure.body (n:=27) tok Tryz.func47 rfl rfl rfl fun H=>?_
 refine Qsr (Qp Qab ?_)
 refine Qns (Qp (Qc rfl (l_example)) ?_)
 refine Qe (E_alloc (l:=[.sl 2 [],.sl 2 []]) (by kernel_rfl)) ?_
 rintro _ _ ⟨b5,rfl,rfl⟩
 refine Qe (E_store (k:=0) (v:=.agg _) (cs':=[_,_]) (H2:=_::_) tok rfl rfl rfl rfl (rfl) rfl rfl rfl rfl) ?_
 rintro _ _ ⟨rfl,rfl⟩
 refine AOL.ghost (GS.freeze (t:=5) 0 rfl rfl) ?_
 refine Qns (Qp (Qf [_,_]) ?_)
 refine Qp Qls ?_
 refine Qp (Qf [_]) ?_
 refine Qp Qls ?_
 refine Qp Qms ?_
 refine Qp (Qc rfl (d_Possible exT (by decide) ex_sc exV (by decide) es hel hes)) ?_
 refine Qp Qmu ?_
 refine Qp Qxi ?_
 refine Qp Qxs ?_
 refine Qp Qxi ?_
 refine Qp Qai ?_
 refine Qp Qas ?_
 refine Qp Qai ?_
 refine Qns (Qp Qmi ?_)
 refine Qp Qceq ?_
 refine Qp Qmb ?_
 refine Qg [] Qw Qmi ?_
 refine Qg [] Qw Qmi ?_
 refine AOL.g (y:=.bool _) _ [(23,_),(24,_)] rfl (EntL.all ⟨Ent.self _ _,Ent.self _ _,trivial⟩) (fun hG=>P_eql rfl rfl) rfl ?_
 refine Qp Qpa ?_
 refine Qp Qab ?_
 refine Qnn (AW.ret (Qr (.bool _) ?_))
 rfl
theorem l_verdictC (w:Int)(es:List Ex)(hel:es.length≤60)(hes:∀e∈es,sizeN e≤1048576)(h:verS w es=true):APure Tryz.prog 47 [.int .i64 w,.sl 8 (es.map cE)] (.bool true):=by
  have h1:=l_verdict w es hel hes
  rw [show es.map encE=es.map cE from List.map_congr_left fun e _=>encE_eq e,h] at h1
  exact h1

end Go.Proofs.YtkddpedfbicbeaaGreatDoor

namespace Go.Proofs.YtkddpedfbicbeaaGreatDoor
open Go Go.Aw
set_option maxHeartbeats 25600000
set_option maxRecDepth 20000
set_option linter.unusedVariables false
set_option linter.unusedSimpArgs false

set_option maxRecDepth 100000
theorem c_clauses:APure Tryz.prog 13 [.sl 2 (exT.map cSc),.sl 2 (exV.map cVa),.agg (cE clE)] (.tuple [.sl 1 (clL.map cCl),.int .i64 0]):=by
  have h:=d_Clauses exT (by decide) ex_sc exV (by decide) clE (ex_size _ (by decide))
  rw [ex_cl] at h
  exact h
theorem c_zone:APure Tryz.prog 43 [.sl 2 (exT.map cSc),.sl 2 (exV.map cVa),.sl 9 ([⟨lessE,true⟩,⟨two 7 (priE 0) (priE 1),false⟩].map cLit)] (.tuple [.agg (cZn znE),.sl 8 ([priE 0,priE 1].map encE),.int .i64 0]):=by
  have h:=d_Zone exT (by decide) ex_sc exV (by decide) [⟨lessE,true⟩,⟨two 7 (priE 0) (priE 1),false⟩] (by decide) (fun c hc=>ex_sizes2 _ (List.mem_cons_self ..) c hc)
  rw [ex_zn] at h
  exact h
theorem c_same:APure Tryz.prog 15 [.sl 1 (clL.map cCl),.sl 1 (clL.map cCl)] (.bool true):=by
  have h:=r_SameClauses clL clL (by decide) (by decide) ex_sizes2
  rw [ex_same] at h
  exact h
theorem c_sameZ:APure Tryz.prog 44 [.agg (cZn znE),.agg (cZn znE)] (.bool true):=r_SameZ znE (by decide)
theorem c_sameA:APure Tryz.prog 45 [.sl 8 ([priE 0,priE 1].map encE),.sl 8 ([priE 0,priE 1].map cE)] (.bool true):=by
  have h:=r_SameAll [priE 0,priE 1] (by decide) (ex_sizes _ (by decide))
  exact h
theorem c_imp1:APure Tryz.prog 24 [.sl 2 (exT.map cSc),.sl 2 (exV.map cVa),.agg (cE lessE),.agg (cE (two 7 (priE 0) (numE 4)))] (.tuple [.int .i64 1,.int .i64 0]):=by
  have h:=d_Implies exT (by decide) ex_sc exV (by decide) lessE (two 7 (priE 0) (numE 4)) (ex_size _ (by decide)) (ex_size _ (by decide))
  rw [imp_1] at h
  exact h
theorem c_imp2:APure Tryz.prog 24 [.sl 2 (exT.map cSc),.sl 2 (exV.map cVa),.agg (cE (two 7 (priE 0) (numE 4))),.agg (cE lessE)] (.tuple [.int .i64 2,.int .i64 0]):=by
  have h:=d_Implies exT (by decide) ex_sc exV (by decide) (two 7 (priE 0) (numE 4)) lessE (ex_size _ (by decide)) (ex_size _ (by decide))
  rw [imp_2] at h
  exact h
theorem l_awake  : APure Tryz.prog 10 [] (.bool true):=by
 refine APure.body (n:=179) tok Tryz.func10 rfl rfl rfl fun H=>?_
 refine Qsr (Qp Qab ?_)
 refine Qns (Qp (Qc rfl (l_example)) ?_)
 refine Qe (E_alloc (l:=[.sl 2 [],.sl 2 []]) (by kernel_rfl)) ?_
 rintro _ _ ⟨b1,rfl,rfl⟩
 refine Qe (E_store (k:=0) (v:=.agg _) (cs':=[_,_]) (H2:=_::_) tok rfl rfl rfl rfl (rfl) rfl rfl rfl rfl) ?_
 rintro _ _ ⟨rfl,rfl⟩
 refine AOL.ghost (GS.freeze (t:=1) 0 rfl rfl) ?_
 refine Qns (Qp (Qc rfl (l_price _)) ?_)
 refine Qp (Qc rfl (l_number _)) ?_
 refine Qp (Qc rfl (l_two _ _ _)) ?_
 refine Qe (E_alloc (l:=[.int .i64 0,.sl 8 [],.int .i64 0,.int .i64 0,.int .i64 0,.int .i64 0,.int .i64 0,.str []]) (by kernel_rfl)) ?_
 rintro _ _ ⟨b2,rfl,rfl⟩
 refine Qe (E_store (k:=0) (v:=.agg _) (cs':=[.int .i64 _,_,.int .i64 _,.int .i64 _,.int .i64 _,.int .i64 _,.int .i64 _,.str _]) (H2:=_::_) tok rfl rfl rfl rfl (rfl) rfl rfl rfl rfl) ?_
 rintro _ _ ⟨rfl,rfl⟩
 refine AOL.ghost (GS.freeze (t:=2) 0 rfl rfl) ?_
 refine Qnn (AW.seq ?_)
 refine AW.draw mixed (fun _=>True) trivial (by kernel_rfl) ?_
 refine Qn 0 rfl (Qf [_,_]) ?_
 refine Qn 1 rfl Qls ?_
 refine Qn 2 rfl (Qf [_]) ?_
 refine Qn 3 rfl Qls ?_
 refine Qn 4 rfl Qle ?_
 refine Qn 5 rfl (Qc rfl (l_price _)) ?_
 refine Qn 6 rfl (Qc rfl (l_price _)) ?_
 refine Qn 7 rfl (Qc rfl (l_two _ _ _)) ?_
 refine Qn 8 rfl (Qc rfl (l_two _ _ _)) ?_
 refine Qn 9 rfl (Qc rfl (l_not _)) ?_
 refine Qn 10 rfl (Qc rfl (c_clauses)) ?_
 refine Qn 11 rfl Qmu ?_
 refine Qn 12 rfl Qxs ?_
 refine Qn 13 rfl Qxi ?_
 refine Qn 14 rfl Qas ?_
 refine Qn 15 rfl Qai ?_
 refine Canon.done _ _ (by kernel_rfl) ?_
 refine thenN (Qsr (Qp Qle ?_))
 refine Qp (Qbd [.int .i64 _,_,.int .i64 _,.int .i64 _,.int .i64 _,.int .i64 _,.int .i64 _,.str _,.bool _]) ?_
 refine Qe (E_alloc (l:=[.int .i64 0,.sl 8 [],.int .i64 0,.int .i64 0,.int .i64 0,.int .i64 0,.int .i64 0,.str [],.bool false]) (by kernel_rfl)) ?_
 rintro _ _ ⟨b5,rfl,rfl⟩
 refine Qe (E_store (k:=0) (v:=.agg _) (cs':=[.int .i64 _,_,.int .i64 _,.int .i64 _,.int .i64 _,.int .i64 _,.int .i64 _,.str _,.bool _]) (H2:=_::_) tok rfl rfl rfl rfl (rfl) rfl rfl rfl rfl) ?_
 rintro _ _ ⟨rfl,rfl⟩
 refine AOL.ghost (GS.freeze (t:=5) 0 rfl rfl) ?_
 refine Qnn (AW.seq (AW.seq ?_))
 refine AW.draw mixed (fun _=>True) trivial (by kernel_rfl) ?_
 refine Qn 0 rfl Qmi ?_
 refine Qn 1 rfl Qcne ?_
 refine Qn 2 rfl Qmb ?_
 refine Qo 3 rfl [] Qw Qms ?_
 refine Qo 4 rfl [] Qw (Qlg [.int .i64 _,_,.int .i64 _,.int .i64 _,.int .i64 _,.int .i64 _,.int .i64 _,.str _,.bool _]) ?_
 refine Qo 5 rfl [] Qw (Qc rfl (l_price _)) ?_
 refine Qo 6 rfl [] Qw (Qc rfl (l_price _)) ?_
 refine Canon.pure _ _ 7 _ _ rfl (by kernel_rfl) (by kernel_rfl) rfl (.opt _ (.agg _) [(43,_),(44,_)] rfl (EntL.all ⟨Ent.self _ _,Ent.self _ _,trivial⟩) (fun hG=>P_callf (by kernel_rfl) rfl rfl (l_two _ _ _)) rfl) ?_
 refine Qo 8 rfl [(45,_)] Qw (Qbd [.int .i64 _,_,.int .i64 _,.int .i64 _,.int .i64 _,.int .i64 _,.int .i64 _,.str _,.bool _]) ?_
 refine Canon.pure _ _ 9 _ _ rfl (by kernel_rfl) (by kernel_rfl) rfl (.opt _ (.sl _ _) [(42,_),(46,_)] rfl (EntL.all ⟨Ent.self _ _,Ent.self _ _,trivial⟩) (fun hG=>P_buildSlice (es:=[[.int .i64 _,_,.int .i64 _,.int .i64 _,.int .i64 _,.int .i64 _,.int .i64 _,.str _,.bool _],[.int .i64 _,_,.int .i64 _,.int .i64 _,.int .i64 _,.int .i64 _,.int .i64 _,.str _,.bool _]]) tok rfl rfl rfl rfl rfl rfl rfl rfl rfl) rfl) ?_
 refine Qo 10 rfl [] Qw (Qlg [.int .i64 _,_,.int .i64 _,.int .i64 _,.int .i64 _,.int .i64 _,.int .i64 _,.str _,.bool _]) ?_
 refine Qo 11 rfl [] Qw (Qc rfl (l_price _)) ?_
 refine Qo 12 rfl [] Qw (Qc rfl (l_price _)) ?_
 refine Canon.pure _ _ 13 _ _ rfl (by kernel_rfl) (by kernel_rfl) rfl (.opt _ (.agg _) [(49,_),(50,_)] rfl (EntL.all ⟨Ent.self _ _,Ent.self _ _,trivial⟩) (fun hG=>P_callf (by kernel_rfl) rfl rfl (l_two _ _ _)) rfl) ?_
 refine Qo 14 rfl [(51,_)] Qw (Qbd [.int .i64 _,_,.int .i64 _,.int .i64 _,.int .i64 _,.int .i64 _,.int .i64 _,.str _,.bool _]) ?_
 refine Canon.pure _ _ 15 _ _ rfl (by kernel_rfl) (by kernel_rfl) rfl (.opt _ (.sl _ _) [(48,_),(52,_)] rfl (EntL.all ⟨Ent.self _ _,Ent.self _ _,trivial⟩) (fun hG=>P_buildSlice (es:=[[.int .i64 _,_,.int .i64 _,.int .i64 _,.int .i64 _,.int .i64 _,.int .i64 _,.str _,.bool _],[.int .i64 _,_,.int .i64 _,.int .i64 _,.int .i64 _,.int .i64 _,.int .i64 _,.str _,.bool _]]) tok rfl rfl rfl rfl rfl rfl rfl rfl rfl) rfl) ?_
 refine Canon.pure _ _ 16 _ _ rfl (by kernel_rfl) (by kernel_rfl) rfl (.opt _ (.sl _ _) [(47,_),(53,_)] rfl (EntL.all ⟨Ent.self _ _,Ent.self _ _,trivial⟩) (fun hG=>P_buildSlice (es:=[[_],[_]]) tok rfl rfl rfl rfl rfl rfl rfl rfl rfl) rfl) ?_
 refine Canon.pure _ _ 17 _ _ rfl (by kernel_rfl) (by kernel_rfl) rfl (.opt _ (.bool _) [(41,_),(54,_)] rfl (EntL.all ⟨Ent.self _ _,Ent.self _ _,trivial⟩) (fun hG=>P_callf (by kernel_rfl) rfl rfl (c_same)) rfl) ?_
 refine Qo 18 rfl [(55,_)] Qw Qnt ?_
 refine Qn 19 rfl Qpo ?_
 refine Canon.done _ _ (by kernel_rfl) ?_
 refine thenN (Qif (fun hc1=>?_) fun hc1=>?_)
 ·
  cases hc1
 ·
  refine Qst (AW.seq ?_)
  refine AW.draw mixed (fun _=>True) trivial (by kernel_rfl) ?_
  refine Qn 0 rfl (Qf [_,_]) ?_
  refine Qn 1 rfl Qls ?_
  refine Qn 2 rfl (Qf [_]) ?_
  refine Qn 3 rfl Qls ?_
  refine Qn 4 rfl Qms ?_
  refine Qn 5 rfl (P_indexAddr (c:=[_]) tok rfl rfl rfl rfl rfl rfl (by decide) (rfl)) ?_
  refine Qn 6 rfl Qls ?_
  refine Qn 7 rfl (Qc rfl (c_zone)) ?_
  refine Qn 8 rfl Qmu ?_
  refine Qn 9 rfl (P_extract (v:=.agg [.int .i64 _,_]) rfl rfl) ?_
  refine Qn 10 rfl Qxs ?_
  refine Qn 11 rfl Qxi ?_
  refine Canon.eff _ _ 12 _ _ rfl (by kernel_rfl) rfl rfl (E_alloc (l:=[.int .i64 0,.sl 3 []]) (by kernel_rfl)) (fun _ _ _=>trivial) ?_
  rintro _ _ ⟨b6,rfl,rfl⟩
  refine Canon.eff _ _ 13 _ _ rfl (by kernel_rfl) rfl rfl (E_store (k:=0) (v:=.agg _) (cs':=[.int .i64 _,_]) (H2:=_::_) tok rfl rfl rfl rfl (rfl) rfl rfl rfl rfl) (fun _ _ _=>trivial) ?_
  rintro _ _ ⟨rfl,rfl⟩
  refine Qn 14 rfl Qas ?_
  refine Qn 15 rfl Qai ?_
  refine Canon.done _ _ (by kernel_rfl) ?_
  refine thenN ?_
  refine AW.ghost (GS.freeze (t:=6) 0 rfl rfl) ?_
  refine Qsr (Qp (Qbd [.int .i64 _,.int .i64 _,.int .i64 _]) ?_)
  refine Qp (Qbd [.int .i64 _,.int .i64 _,.int .i64 _]) ?_
  refine Qp (Qbd [.int .i64 _,.int .i64 _,.int .i64 _]) ?_
  refine Qp (Qbd [.int .i64 _,.int .i64 _,.int .i64 _]) ?_
  refine Qp (Qbd [.int .i64 _,.int .i64 _,.int .i64 _]) ?_
  refine Qp (Qbd [.int .i64 _,.int .i64 _,.int .i64 _]) ?_
  refine Qp (P_buildSlice (es:=[[.int .i64 _,.int .i64 _,.int .i64 _],[.int .i64 _,.int .i64 _,.int .i64 _],[.int .i64 _,.int .i64 _,.int .i64 _],[.int .i64 _,.int .i64 _,.int .i64 _],[.int .i64 _,.int .i64 _,.int .i64 _],[.int .i64 _,.int .i64 _,.int .i64 _]]) tok rfl rfl rfl rfl rfl rfl rfl rfl rfl) ?_
  refine Qp (Qbd [.int .i64 _,_]) ?_
  refine Qe (E_alloc (l:=[.int .i64 0,.sl 3 []]) (by kernel_rfl)) ?_
  rintro _ _ ⟨b9,rfl,rfl⟩
  refine Qe (E_store (k:=0) (v:=.agg _) (cs':=[.int .i64 _,_]) (H2:=_::_) tok rfl rfl rfl rfl (rfl) rfl rfl rfl rfl) ?_
  rintro _ _ ⟨rfl,rfl⟩
  refine AOL.ghost (GS.freeze (t:=9) 0 rfl rfl) ?_
  refine Qnn (AW.seq (Qsr (Qp Qmi ?_)))
  refine Qp Qcne ?_
  refine Qp Qmb ?_
  refine Qg [] Qw (Qlg [.int .i64 _,_]) ?_
  refine Qg [] Qw (Qlg [.int .i64 _,_]) ?_
  refine AOL.g (y:=.bool _) _ [(81,_),(82,_)] rfl (EntL.all ⟨Ent.self _ _,Ent.self _ _,trivial⟩) (fun hG=>P_callf (by kernel_rfl) rfl rfl (c_sameZ)) rfl ?_
  refine Qg [(83,_)] Qw Qnt ?_
  refine Qp Qpo ?_
  refine Qp Qmb ?_
  refine Qg [] Qw Qms ?_
  refine Qg [] Qw (Qc rfl (l_price _)) ?_
  refine Qg [] Qw (Qc rfl (l_price _)) ?_
  refine AOL.g (y:=.sl _ _) _ [(88,_),(89,_)] rfl (EntL.all ⟨Ent.self _ _,Ent.self _ _,trivial⟩) (fun hG=>P_buildSlice (es:=[[.int .i64 _,_,.int .i64 _,.int .i64 _,.int .i64 _,.int .i64 _,.int .i64 _,.str _],[.int .i64 _,_,.int .i64 _,.int .i64 _,.int .i64 _,.int .i64 _,.int .i64 _,.str _]]) tok rfl rfl rfl rfl rfl rfl rfl rfl rfl) rfl ?_
  refine AOL.g (y:=.bool _) _ [(87,_),(90,_)] rfl (EntL.all ⟨Ent.self _ _,Ent.self _ _,trivial⟩) (fun hG=>P_callf (by kernel_rfl) rfl rfl (c_sameA)) rfl ?_
  refine Qg [(91,_)] Qw Qnt ?_
  refine Qp Qpo ?_
  refine Qnn (Qif (fun hc2=>?_) fun hc2=>?_)
  ·
   cases hc2
  ·
   refine Qst (Qsr (Qp (Qc rfl (l_price _)) ?_))
   refine Qp (Qc rfl (l_price _)) ?_
   refine Qp (Qc rfl (l_two _ _ _)) ?_
   refine Qe (E_alloc (l:=[.int .i64 0,.sl 8 [],.int .i64 0,.int .i64 0,.int .i64 0,.int .i64 0,.int .i64 0,.str []]) (by kernel_rfl)) ?_
   rintro _ _ ⟨b10,rfl,rfl⟩
   refine Qe (E_store (k:=0) (v:=.agg _) (cs':=[.int .i64 _,_,.int .i64 _,.int .i64 _,.int .i64 _,.int .i64 _,.int .i64 _,.str _]) (H2:=_::_) tok rfl rfl rfl rfl (rfl) rfl rfl rfl rfl) ?_
   rintro _ _ ⟨rfl,rfl⟩
   refine AOL.ghost (GS.freeze (t:=10) 0 rfl rfl) ?_
   refine Qns (Qp (P_assign (v:=.fn _ _ _) rfl) ?_)
   refine Qns (Qp (Qbd [.int .i64 _,.int .i64 _,.str _]) ?_)
   refine Qp (Qbd [.int .i64 _,_,.int .i64 _,.int .i64 _,.int .i64 _,.int .i64 _,.int .i64 _,.str _]) ?_
   refine Qe (E_alloc (l:=[.int .i64 0,.sl 8 [],.int .i64 0,.int .i64 0,.int .i64 0,.int .i64 0,.int .i64 0,.str []]) (by kernel_rfl)) ?_
   rintro _ _ ⟨b12,rfl,rfl⟩
   refine Qe (E_store (k:=0) (v:=.agg _) (cs':=[.int .i64 _,_,.int .i64 _,.int .i64 _,.int .i64 _,.int .i64 _,.int .i64 _,.str _]) (H2:=_::_) tok rfl rfl rfl rfl (rfl) rfl rfl rfl rfl) ?_
   rintro _ _ ⟨rfl,rfl⟩
   refine AOL.ghost (GS.freeze (t:=12) 0 rfl rfl) ?_
   refine Qns (Qp (Qbd [.int .i64 _,_,.int .i64 _,.int .i64 _,.int .i64 _,.int .i64 _,.int .i64 _,.str _]) ?_)
   refine Qp (Qc rfl (l_number _)) ?_
   refine Qp (Qc rfl (l_two 9 ⟨3,[],0,0,0,v0⟩ (numE 2))) ?_
   refine Qe (E_alloc (l:=[.int .i64 0,.sl 8 [],.int .i64 0,.int .i64 0,.int .i64 0,.int .i64 0,.int .i64 0,.str []]) (by kernel_rfl)) ?_
   rintro _ _ ⟨b13,rfl,rfl⟩
   refine Qe (E_store (k:=0) (v:=.agg _) (cs':=[.int .i64 _,_,.int .i64 _,.int .i64 _,.int .i64 _,.int .i64 _,.int .i64 _,.str _]) (H2:=_::_) tok rfl rfl rfl rfl (rfl) rfl rfl rfl rfl) ?_
   rintro _ _ ⟨rfl,rfl⟩
   refine AOL.ghost (GS.freeze (t:=13) 0 rfl rfl) ?_
   refine Qnn (AW.seq ?_)
   refine AW.draw mixed (fun _=>True) trivial (by kernel_rfl) ?_
   refine Qn 0 rfl (Qf [_,_]) ?_
   refine Qn 1 rfl Qls ?_
   refine Qn 2 rfl (Qf [_]) ?_
   refine Qn 3 rfl Qls ?_
   refine Qn 4 rfl Qle ?_
   refine Qn 5 rfl (Qc rfl (l_price _)) ?_
   refine Qn 6 rfl (Qc rfl (l_number _)) ?_
   refine Qn 7 rfl (Qc rfl (l_two _ _ _)) ?_
   refine Qn 8 rfl (Qc rfl (c_imp1)) ?_
   refine Qn 9 rfl Qmu ?_
   refine Qn 10 rfl Qxi ?_
   refine Qn 11 rfl Qxi ?_
   refine Qn 12 rfl Qai ?_
   refine Qn 13 rfl Qai ?_
   refine Canon.done _ _ (by kernel_rfl) ?_
   refine thenN (AW.seq ?_)
   refine AW.draw mixed (fun _=>True) trivial (by kernel_rfl) ?_
   refine Qn 0 rfl (Qf [_,_]) ?_
   refine Qn 1 rfl Qls ?_
   refine Qn 2 rfl (Qf [_]) ?_
   refine Qn 3 rfl Qls ?_
   refine Qn 4 rfl (Qc rfl (l_price _)) ?_
   refine Qn 5 rfl (Qc rfl (l_number _)) ?_
   refine Qn 6 rfl (Qc rfl (l_two _ _ _)) ?_
   refine Qn 7 rfl Qle ?_
   refine Qn 8 rfl (Qc rfl (c_imp2)) ?_
   refine Qn 9 rfl Qmu ?_
   refine Qn 10 rfl Qxi ?_
   refine Qn 11 rfl Qxi ?_
   refine Qn 12 rfl Qai ?_
   refine Qn 13 rfl Qai ?_
   refine Canon.done _ _ (by kernel_rfl) ?_
   refine thenN (AW.seq ?_)
   refine AW.draw mixed (fun _=>True) trivial (by kernel_rfl) ?_
   refine Qn 0 rfl Qle ?_
   refine Qn 1 rfl (P_move (v:=.fn _ _ _) rfl) ?_
   refine Qn 2 rfl (P_call (by kernel_rfl) rfl rfl rfl (l_down 1)) ?_
   refine Qn 3 rfl (P_buildSlice (es:=[[.int .i64 _,_,.int .i64 _,.int .i64 _,.int .i64 _,.int .i64 _,.int .i64 _,.str _],[.int .i64 _,_,.int .i64 _,.int .i64 _,.int .i64 _,.int .i64 _,.int .i64 _,.str _]]) tok rfl rfl rfl rfl rfl rfl rfl rfl rfl) ?_
   refine Qn 4 rfl (Qc rfl (l_verdictC 2 [upE,downE 1] (by decide) (ex_sizes _ (by decide)) ver_1)) ?_
   refine Qn 5 rfl Qmb ?_
   refine Qo 6 rfl [] Qw Qle ?_
   refine Canon.pure _ _ 7 _ _ rfl (by kernel_rfl) (by kernel_rfl) rfl (.opt _ (.fn _ _ _) [] rfl (EntL.all trivial) (fun hG=>P_move (v:=.fn _ _ _) rfl) rfl) ?_
   refine Canon.pure _ _ 8 _ _ rfl (by kernel_rfl) (by kernel_rfl) rfl (.opt _ (.agg _) [(133,_)] rfl (EntL.all ⟨Ent.self _ _,trivial⟩) (fun hG=>P_call (by kernel_rfl) rfl rfl rfl (l_down 2)) rfl) ?_
   refine Canon.pure _ _ 9 _ _ rfl (by kernel_rfl) (by kernel_rfl) rfl (.opt _ (.sl _ _) [(132,_),(134,_)] rfl (EntL.all ⟨Ent.self _ _,Ent.self _ _,trivial⟩) (fun hG=>P_buildSlice (es:=[[.int .i64 _,_,.int .i64 _,.int .i64 _,.int .i64 _,.int .i64 _,.int .i64 _,.str _],[.int .i64 _,_,.int .i64 _,.int .i64 _,.int .i64 _,.int .i64 _,.int .i64 _,.str _]]) tok rfl rfl rfl rfl rfl rfl rfl rfl rfl) rfl) ?_
   refine Qo 10 rfl [(135,_)] Qw (Qc rfl (l_verdictC 1 [upE,downE 2] (by decide) (ex_sizes _ (by decide)) ver_2)) ?_
   refine Qn 11 rfl Qpa ?_
   refine Qn 12 rfl Qmb ?_
   refine Qo 13 rfl [] Qw (Qc rfl (l_symbol _)) ?_
   refine Qo 14 rfl [] Qw Qle ?_
   refine Canon.pure _ _ 15 _ _ rfl (by kernel_rfl) (by kernel_rfl) rfl (.opt _ (.agg _) [(139,_),(140,_)] rfl (EntL.all ⟨Ent.self _ _,Ent.self _ _,trivial⟩) (fun hG=>P_callf (by kernel_rfl) rfl rfl (l_two 9 (symE 0) textE)) rfl) ?_
   refine Qo 16 rfl [] Qw (Qc rfl (l_symbol _)) ?_
   refine Qo 17 rfl [] Qw (Qc rfl (l_symbol _)) ?_
   refine Canon.pure _ _ 18 _ _ rfl (by kernel_rfl) (by kernel_rfl) rfl (.opt _ (.agg _) [(142,_),(143,_)] rfl (EntL.all ⟨Ent.self _ _,Ent.self _ _,trivial⟩) (fun hG=>P_callf (by kernel_rfl) rfl rfl (l_two 9 (symE 1) (symE 0))) rfl) ?_
   refine Qo 19 rfl [] Qw (Qc rfl (l_symbol _)) ?_
   refine Qo 20 rfl [] Qw Qle ?_
   refine Canon.pure _ _ 21 _ _ rfl (by kernel_rfl) (by kernel_rfl) rfl (.opt _ (.agg _) [(145,_),(146,_)] rfl (EntL.all ⟨Ent.self _ _,Ent.self _ _,trivial⟩) (fun hG=>P_callf (by kernel_rfl) rfl rfl (l_two 9 (symE 1) textE)) rfl) ?_
   refine Qo 22 rfl [(147,_)] Qw (Qc rfl (l_not (two 9 (symE 1) textE))) ?_
   refine Canon.pure _ _ 23 _ _ rfl (by kernel_rfl) (by kernel_rfl) rfl (.opt _ (.sl _ _) [(141,_),(144,_),(148,_)] rfl (EntL.all ⟨Ent.self _ _,Ent.self _ _,Ent.self _ _,trivial⟩) (fun hG=>P_buildSlice (es:=[[.int .i64 _,_,.int .i64 _,.int .i64 _,.int .i64 _,.int .i64 _,.int .i64 _,.str _],[.int .i64 _,_,.int .i64 _,.int .i64 _,.int .i64 _,.int .i64 _,.int .i64 _,.str _],[.int .i64 _,_,.int .i64 _,.int .i64 _,.int .i64 _,.int .i64 _,.int .i64 _,.str _]]) tok rfl rfl rfl rfl rfl rfl rfl rfl rfl) rfl) ?_
   refine Qo 24 rfl [(149,_)] Qw (Qc rfl (l_verdictC 2 [two 9 (symE 0) textE,two 9 (symE 1) (symE 0),notE (two 9 (symE 1) textE)] (by decide) (ex_sizes _ (by decide)) ver_3)) ?_
   refine Qn 25 rfl Qpa ?_
   refine Qn 26 rfl Qmb ?_
   refine Qo 27 rfl [] Qw Qle ?_
   refine Canon.pure _ _ 28 _ _ rfl (by kernel_rfl) (by kernel_rfl) rfl (.opt _ (.sl _ _) [(153,_)] rfl (EntL.all ⟨Ent.self _ _,trivial⟩) (fun hG=>P_buildSlice (es:=[[.int .i64 _,_,.int .i64 _,.int .i64 _,.int .i64 _,.int .i64 _,.int .i64 _,.str _]]) tok rfl rfl rfl rfl rfl rfl rfl rfl rfl) rfl) ?_
   refine Qo 29 rfl [(154,_)] Qw (Qc rfl (l_verdictC 0 [countE] (by decide) (ex_sizes _ (by decide)) ver_4)) ?_
   refine Qn 30 rfl Qpa ?_
   refine Qn 31 rfl Qmb ?_
   refine Qo 32 rfl [] Qw Qle ?_
   refine Qo 33 rfl [] Qw (Qc rfl (l_price _)) ?_
   refine Qo 34 rfl [] Qw (Qc rfl (l_price _)) ?_
   refine Canon.pure _ _ 35 _ _ rfl (by kernel_rfl) (by kernel_rfl) rfl (.opt _ (.agg _) [(159,_),(160,_)] rfl (EntL.all ⟨Ent.self _ _,Ent.self _ _,trivial⟩) (fun hG=>P_callf (by kernel_rfl) rfl rfl (l_two _ _ _)) rfl) ?_
   refine Canon.pure _ _ 36 _ _ rfl (by kernel_rfl) (by kernel_rfl) rfl (.opt _ (.sl _ _) [(158,_),(161,_)] rfl (EntL.all ⟨Ent.self _ _,Ent.self _ _,trivial⟩) (fun hG=>P_buildSlice (es:=[[.int .i64 _,_,.int .i64 _,.int .i64 _,.int .i64 _,.int .i64 _,.int .i64 _,.str _],[.int .i64 _,_,.int .i64 _,.int .i64 _,.int .i64 _,.int .i64 _,.int .i64 _,.str _]]) tok rfl rfl rfl rfl rfl rfl rfl rfl rfl) rfl) ?_
   refine Qo 37 rfl [(162,_)] Qw (Qc rfl (l_verdictC 2 [countE,two 7 (priE 0) (priE 0)] (by decide) (ex_sizes _ (by decide)) ver_5)) ?_
   refine Qn 38 rfl Qpa ?_
   refine Qn 39 rfl Qmb ?_
   refine Qo 40 rfl [] Qw Qmi ?_
   refine Qo 41 rfl [] Qw Qmi ?_
   refine Canon.pure _ _ 42 _ _ rfl (by kernel_rfl) (by kernel_rfl) rfl (.opt _ (.int .i64 _) [(166,_),(167,_)] rfl (EntL.all ⟨Ent.self _ _,Ent.self _ _,trivial⟩) (fun hG=>P_add rfl rfl rfl (by constructor <;> omega)) rfl) ?_
   refine Qo 43 rfl [(168,_)] Qw Qceq ?_
   refine Qn 44 rfl Qpa ?_
   refine Qn 45 rfl Qmb ?_
   refine Qo 46 rfl [] Qw Qmi ?_
   refine Qo 47 rfl [(172,_)] Qw Qceq ?_
   refine Qn 48 rfl Qpa ?_
   refine Qn 49 rfl Qmb ?_
   refine Qo 50 rfl [] Qw Qmi ?_
   refine Qo 51 rfl [(176,_)] Qw Qceq ?_
   refine Qn 52 rfl Qpa ?_
   refine Qn 53 rfl Qab ?_
   refine Canon.done _ _ (by kernel_rfl) ?_
   refine thenN (AW.ret (Qr (.bool _) ?_))
   rfl

end Go.Proofs.YtkddpedfbicbeaaGreatDoor

namespace Go.Proofs.YtkddpedfbicbeaaGreatDoor
open Go Go.Aw
set_option maxHeartbeats 3200000
set_option maxRecDepth 20000
set_option linter.unusedVariables false
set_option linter.unusedSimpArgs false

set_option maxRecDepth 100000
theorem cls_refl (l:List (List Lit)):sameCls l l=true:=(sameCls_iff l l).2 rfl
theorem Clauses_size (T:List Sc)(V:List Va)(e:Ex):(ClausesS T V e).1.length≤1048576∧(∀c∈(ClausesS T V e).1,c.length≤1048576)∧∀c∈(ClausesS T V e).1,∀x∈c,sizeN x.cond≤1048576:=by
  have h0:∀n:Int,(([]:List (List Lit)),n).1.length≤1048576∧(∀c∈(([]:List (List Lit)),n).1,c.length≤1048576)∧∀c∈(([]:List (List Lit)),n).1,∀x∈c,sizeN x.cond≤1048576:=fun n=>⟨by simp,by simp,by simp⟩
  cases h1:(condE T V e != 0) with
  | true=>rw [Clauses_1 h1];exact h0 _
  | false=>
    cases h2:(!(normS T V e true).2) with
    | true=>rw [Clauses_2 h1 h2];exact h0 _
    | false=>
      rw [Clauses_3 h1 h2]
      have hk:=(condE_kc h1).1
      have hn:=norm_ok e hk.kok true
      have hl:=norm_lits e hk.kok true
      have hz:=kc_size hk
      exact ⟨Nat.le_trans hn.len (by omega),fun c hc=>Nat.le_trans (hn.lits c hc) (by omega),fun c hc x hx=>Nat.le_trans (hl c hc x hx).2 (by omega)⟩
theorem one_size {e:Ex}(h:sizeN e≤1048576):∀x∈[e],sizeN x≤1048576:=fun x hx=>by rw [List.mem_singleton.1 hx];exact h
theorem l_fewC (T:List Sc)(hl:T.length≤1048576)(hst:∀s∈T,scOK s)(V:List Va)(hvl:V.length≤1048576)(es:List Ex)(hel:es.length≤1048576)(hes:∀e∈es,sizeN e≤1048576):APure Tryz.prog 9 [.agg (cScene T V),.sl 8 (es.map cE)] (.bool (fewP T V es)):=by
  have h:=l_few T hl hst V hvl es hel hes
  rw [show es.map encE=es.map cE from List.map_congr_left fun e _=>encE_eq e] at h
  exact h
theorem l_ConditionClauses (T:List Sc)(hl:T.length≤1048576)(hst:∀s∈T,scOK s)(V:List Va)(hvl:V.length≤1048576)(e:Ex)(hs:sizeN e≤1048576):APure Tryz.prog 3 [.agg (cScene T V),.agg (cE e)] (.bool true):=by
 refine APure.body (n:=76) tok Tryz.func3 rfl rfl rfl fun H=>?_
 refine Qsr (Qp (Qbx [_,_]) ?_)
 refine Qp Qbe ?_
 refine Qp Qab ?_
 refine Qnn (AW.seq (Qsr (Qp (Qlg [_,_]) ?_)))
 refine Qp Qle ?_
 refine Qp (P_buildSlice (es:=[[.int .i64 _,_,.int .i64 _,.int .i64 _,.int .i64 _,.int .i64 _,.int .i64 _,.str _]]) tok rfl rfl rfl rfl rfl rfl rfl rfl rfl) ?_
 refine Qp (Qc rfl (l_fewC T hl hst V hvl [e] (show (1:Nat)≤_ by decide) (one_size hs))) ?_
 refine Qp Qnt ?_
 refine Qnn (Qif (fun hc1=>?_) fun hc1=>?_)
 ·
  refine Qsr (Qp (Qc rfl (l_awake)) ?_)
  refine Qp Qab ?_
  refine Qnn (Qrt (Qr (.bool _) ?_))
  rfl
 ·
  refine Qst (Qsr (Qp (Qf [_,_]) ?_))
  refine Qp Qls ?_
  refine Qp (Qf [_]) ?_
  refine Qp Qls ?_
  refine Qp Qle ?_
  refine Qp (Qc rfl (d_Plain T hl hst V hvl e hs)) ?_
  refine Qp Qmu ?_
  refine Qp Qxb ?_
  refine Qp Qxi ?_
  refine Qp Qab ?_
  refine Qp Qai ?_
  refine Qns (Qp (Qf [_,_]) ?_)
  refine Qp Qls ?_
  refine Qp (Qf [_]) ?_
  refine Qp Qls ?_
  refine Qp Qle ?_
  refine Qp (Qc rfl (r_Plain T hl hst V hvl e hs)) ?_
  refine Qp Qmu ?_
  refine Qp Qxb ?_
  refine Qp Qxi ?_
  refine Qp Qab ?_
  refine Qp Qai ?_
  refine Qns (Qp (Qf [_,_]) ?_)
  refine Qp Qls ?_
  refine Qp (Qf [_]) ?_
  refine Qp Qls ?_
  refine Qp Qle ?_
  refine Qp (Qc rfl (d_Clauses T hl hst V hvl e hs)) ?_
  refine Qp Qmu ?_
  refine Qp Qxs ?_
  refine Qp Qxi ?_
  refine Qp Qas ?_
  refine Qp Qai ?_
  refine Qns (Qp (Qf [_,_]) ?_)
  refine Qp Qls ?_
  refine Qp (Qf [_]) ?_
  refine Qp Qls ?_
  refine Qp Qle ?_
  refine Qp (Qc rfl (r_Clauses T hl hst V hvl e hs)) ?_
  refine Qp Qmu ?_
  refine Qp Qxs ?_
  refine Qp Qxi ?_
  refine Qp Qas ?_
  refine Qp Qai ?_
  refine Qns (Qp (Qc rfl (l_awake)) ?_)
  refine Qp Qmb ?_
  refine Qg [] Qw Qmb ?_
  refine Qg [] Qw Qmb ?_
  refine AOL.g (y:=.bool _) _ [(57,_),(58,_)] rfl (EntL.all ⟨Ent.self _ _,Ent.self _ _,trivial⟩) (fun hG=>P_eql_bool tok rfl rfl rfl rfl) rfl ?_
  refine Qp Qpa ?_
  refine Qp Qmb ?_
  refine Qg [] Qw Qmi ?_
  refine Qg [] Qw Qmi ?_
  refine AOL.g (y:=.bool _) _ [(62,_),(63,_)] rfl (EntL.all ⟨Ent.self _ _,Ent.self _ _,trivial⟩) (fun hG=>P_eql rfl rfl) rfl ?_
  refine Qp Qpa ?_
  refine Qp Qmb ?_
  refine Qg [] Qw Qms ?_
  refine Qg [] Qw Qms ?_
  refine AOL.g (y:=.bool _) _ [(67,_),(68,_)] rfl (EntL.all ⟨Ent.self _ _,Ent.self _ _,trivial⟩) (fun hG=>P_callf (by kernel_rfl) rfl rfl (r_SameClauses _ _ (Clauses_size T V e).1 (Clauses_size T V e).2.1 (Clauses_size T V e).2.2)) rfl ?_
  refine Qp Qpa ?_
  refine Qp Qmb ?_
  refine Qg [] Qw Qmi ?_
  refine Qg [] Qw Qmi ?_
  refine AOL.g (y:=.bool _) _ [(72,_),(73,_)] rfl (EntL.all ⟨Ent.self _ _,Ent.self _ _,trivial⟩) (fun hG=>P_eql rfl rfl) rfl ?_
  refine Qp Qpa ?_
  refine Qp Qab ?_
  refine Qnn (AW.ret (Qr (.bool _) ?_))
  show AV.bool _=AV.bool true
  simp only [cls_refl,beq_self_eq_true,Bool.and_self,Bool.and_true,Bool.true_and]

end Go.Proofs.YtkddpedfbicbeaaGreatDoor

namespace Go.Proofs.YtkddpedfbicbeaaGreatDoor
open Go Go.Aw Go.ChangeShapes Go.WideShapes Go.ChangeAt Go.RowKit
set_option linter.unusedVariables false
set_option linter.unusedSimpArgs false
set_option maxRecDepth 100000

theorem laid:laidOutB Tryz.prog=true:=by kernel_rfl
theorem own:ownKnob Tryz.prog.godebug=none:=by kernel_rfl
def pow10L:List Int:=[1,10,100,1000,10000,100000,1000000,10000000,100000000,1000000000,10000000000,100000000000,1000000000000,10000000000000,100000000000000,1000000000000000,10000000000000000,100000000000000000,1000000000000000000,10000000000000000000]
theorem pow_of {W : World} (h : laidMet Tryz.prog Rows.conditionKnowsRow.laid W) : Lib.TabIs Tryz.prog W "internal/strconv.uint64pow10" .u64 pow10L := by
  obtain ⟨ps,⟨_,_,_,_,_,_,_,_,_,_,⟨_,_,_,_,_,_,_,_,_,_,⟨g',t',cs,fuel,p,q,hg',ht',hvar,hd,_,_⟩,_⟩,_⟩,_⟩:=h
  obtain rfl := Option.some.inj ((show Tryz.prog.globalNamed "internal/strconv.uint64pow10" = some 0 by kernel_rfl).symm.trans hg')
  obtain rfl:=Option.some.inj ((show (Tryz.prog.globals[0]?).map (·.type)=some 266 by kernel_rfl).symm.trans ht')
  have:=Lib.cells_of_tab (k:=.u64) (zs:=pow10L) (n:=20) (e:=254) (by kernel_rfl) (by kernel_rfl) (by kernel_rfl) (by kernel_rfl) hd
  unfold Lib.TabIs
  rw [hvar,←this]
theorem pow_heap {W : World} (h : Lib.TabIs Tryz.prog W "internal/strconv.uint64pow10" .u64 pow10L) : ∃ T fr, W.heap[0]? = some (.cells (pow10L.map fun z => Value.int .u64 z).toArray T fr) := by
  have e : Tryz.prog.globalNamed "internal/strconv.uint64pow10" = some 0 := by kernel_rfl
  unfold Lib.TabIs World.var? at h
  rw [e] at h
  have hk:∀(X:Array Value) (o:Option Obj),(match o with | some (Obj.cells cs _ _)=>some cs | _=>none)=some X→∃T fr,o=some (Obj.cells X T fr):=by
    intro X o h
    match o,h with
    | some (Obj.cells cs T fr),h=>exact ⟨T,fr,by rw [Option.some.inj h]⟩
  exact hk _ _ h
theorem globOK {W:World}(h:laidMet Tryz.prog Rows.conditionKnowsRow.laid W)(hS:W.ShapedOpen Tryz.prog):GlobOK g0 W:=by
  have ht:=pow_of h
  refine ⟨fun p hp=>?_,fun p hp=>?_⟩
  · obtain rfl:=List.mem_singleton.1 hp
    refine ⟨pow10Cells,rfl,?_⟩
    have hcell : ∀ j, W.cell? ⟨0, j, none⟩ = (pow10L.map fun z => Value.int .u64 z).toArray[j]? := fun j => World.var?_cell (show Tryz.prog.globalNamed "internal/strconv.uint64pow10" = some 0 by kernel_rfl) ht j
    have hs:pow10Cells=pow10L.map fun z=>AV.int .u64 z:=rfl
    rw [hs]
    refine .ptr 0 0 _ (fun j=>Value.int .u64 (pow10L.getD j 0)) (fun j x hj=>?_) (fun j x hj=>?_)
    · rw [List.getElem?_map] at hj
      cases hq:pow10L[j]? with
      | none=>rw [hq] at hj;cases hj
      | some y=>
        refine ⟨trivial,?_⟩
        rw [Nat.zero_add,hcell j]
        simp [hq,List.getD_eq_getElem?_getD]
    · rw [List.getElem?_map] at hj
      cases hq:pow10L[j]? with
      | none=>rw [hq] at hj;cases hj
      | some y=>
        rw [hq] at hj
        simp only [Option.map_some,Option.some.injEq] at hj
        subst hj
        have e:pow10L.getD j 0=y:=by rw [List.getD_eq_getElem?_getD,hq];rfl
        rw [e]
        exact .int _ _
  · obtain rfl:=List.mem_singleton.1 hp
    exact ⟨rfl,pow_heap ht⟩
/-- A world for the witness: the settled one, with the tables as the program's text lays them. -/
def setTab (k:IntKind)(l:List Int):Obj→Obj
  | .cells _ t frozen=>.cells (l.map fun z=>Value.int k z).toArray t frozen
  | o=>o
def ofTab (d:DataW Unit):List Int:=match d with
  | .agg l=>l.map fun | .lit (.int _ n)=>n | _=>0
  | _=>[]
noncomputable def laidWorld (os:Os):World:=
  { World.holding Tryz.prog os ⟨#[],#[],[]⟩ with heap:=(((World.holding Tryz.prog os ⟨#[],#[],[]⟩).heap.modify 0 (setTab .u64 pow10L)).modify 1 (setTab .u8 (ofTab Rows.laid_math_bits_deBruijn32tab))).modify 2 (setTab .u8 (ofTab Rows.laid_math_bits_deBruijn64tab)) }
end Go.Proofs.YtkddpedfbicbeaaGreatDoor

namespace Go.Proofs.YtkddpedfbicbeaaGreatDoor
open Go Go.Aw
set_option linter.unusedVariables false
set_option linter.unusedSimpArgs false
set_option maxRecDepth 20000

theorem bulk {H:Type}:Bulk (Rows.uptoBulk (H:=H)) Rows.uptoBulkAll where
  nil:=by simp [Rows.uptoBulkAll]
  cons:=by intro x r;simp [Rows.uptoBulkAll]
  agg:=by intro ps;simp [Rows.uptoBulk]
  slice:=by intro es sp;simp only [Rows.uptoBulk];omega
  str:=by intro s;simp [Rows.uptoBulk]
  one:=by
    intro d
    cases d with
    | lit l=>cases l <;> simp [Rows.uptoBulk]
    | _=>simp [Rows.uptoBulk]
theorem u_V : Tryz.prog.underlying 28 = some (.struct #[⟨ "Kind", 3, 0, false, "", "", 0⟩, ⟨ "Num", 3, 1, false, "", "", 8⟩, ⟨ "Text", 9, 2, false, "", "", 16⟩]) := by kernel_rfl
theorem z_V:Tryz.prog.cellsOf 28=3:=by kernel_rfl
theorem u_E : Tryz.prog.underlying 30 = some (.struct #[⟨ "Op", 3, 0, false, "", "", 0⟩, ⟨ "Args", 26, 1, false, "", "", 8⟩, ⟨ "Var", 3, 2, false, "", "", 32⟩, ⟨ "Field", 3, 3, false, "", "", 40⟩, ⟨ "Kind", 3, 4, false, "", "", 48⟩, ⟨ "Value", 28, 5, false, "", "", 56⟩]) := by kernel_rfl
theorem z_E:Tryz.prog.cellsOf 30=8:=by kernel_rfl
theorem u_Es:Tryz.prog.underlying 26=some (.slice 30):=by kernel_rfl
theorem z_Es:Tryz.prog.cellsOf 26=1:=by kernel_rfl
theorem u_Fi : Tryz.prog.underlying 134 = some (.struct #[⟨ "Name", 9, 0, false, "", "", 0⟩, ⟨ "Kind", 3, 1, false, "", "", 16⟩]) := by kernel_rfl
theorem z_Fi:Tryz.prog.cellsOf 134=2:=by kernel_rfl
theorem u_Fis:Tryz.prog.underlying 123=some (.slice 134):=by kernel_rfl
theorem z_Fis:Tryz.prog.cellsOf 123=1:=by kernel_rfl
theorem u_Sc : Tryz.prog.underlying 125 = some (.struct #[⟨ "Name", 9, 0, false, "", "", 0⟩, ⟨ "Fields", 123, 1, false, "", "", 16⟩]) := by kernel_rfl
theorem z_Sc:Tryz.prog.cellsOf 125=2:=by kernel_rfl
theorem u_Tys:Tryz.prog.underlying 22=some (.slice 125):=by kernel_rfl
theorem z_Tys:Tryz.prog.cellsOf 22=1:=by kernel_rfl
theorem u_Va : Tryz.prog.underlying 120 = some (.struct #[⟨ "Name", 9, 0, false, "", "", 0⟩, ⟨ "Type", 3, 1, false, "", "", 16⟩]) := by kernel_rfl
theorem z_Va:Tryz.prog.cellsOf 120=2:=by kernel_rfl
theorem u_Vas:Tryz.prog.underlying 23=some (.slice 120):=by kernel_rfl
theorem z_Vas:Tryz.prog.cellsOf 23=1:=by kernel_rfl
theorem u_Scn : Tryz.prog.underlying 25 = some (.struct #[⟨ "Types", 22, 0, false, "", "", 0⟩, ⟨ "Vars", 23, 1, false, "", "", 24⟩]) := by kernel_rfl
def I64 (n:Int):Prop:=-9223372036854775808≤n∧n≤9223372036854775807
theorem wf_I64 {n:Int}(h:(Lit.int .i64 n).wf=true):I64 n:=by
  have h1:(decide (-9223372036854775808≤n)&&decide (n≤9223372036854775807))=true:=h
  simp only [Bool.and_eq_true,decide_eq_true_eq] at h1
  exact h1
theorem sumB_len {α:Type}{f:α→Nat}(h:∀x,1≤f x):∀l:List α,l.length≤(l.map f).sum
  | []=>Nat.le_refl _
  | a::r=>by have:=sumB_len h r;have:=h a;simp only [List.length_cons,List.map_cons,List.sum_cons];omega
theorem sumB_mem {α:Type}{f:α→Nat}:∀{l:List α} {x:α},x∈l→f x≤(l.map f).sum
  | a::r,x,h=>by
    rcases List.mem_cons.1 h with rfl | h
    · simp only [List.map_cons,List.sum_cons];omega
    · have:=sumB_mem (f:=f) h;simp only [List.map_cons,List.sum_cons];omega
theorem sumB_ones {α:Type}(l:List α):(l.map fun _=>1).sum=l.length:=by
  induction l with
  | nil=>rfl
  | cons a r ih=>simp only [List.map_cons,List.sum_cons,List.length_cons,ih];omega
def vN (v:Vl):Nat:=v.text.length+1
def evN (e:Ev):Nat:=(e.values.map vN).sum+1
def evsN (l:List Ev):Nat:=(l.map evN).sum+1
def envN (l:List (List Ev)):Nat:=(l.map evsN).sum+1
def scN (s:Sc):Nat:=s.name.length+(s.fields.map fun f=>f.name.length+1).sum+1
def tysN (l:List Sc):Nat:=(l.map scN).sum+1
structure EvOK8 (e:Ev):Prop where
  len:e.values.length≤1048576
  texts:∀v∈e.values,v.text.length≤1048576
theorem sc_ok {s:Sc}(h:scN s≤1048576):scOK s:=by
  unfold scN at h
  have h1:=sumB_len (f:=fun f:Fi=>f.name.length+1) (fun _=>Nat.succ_le_succ (Nat.zero_le _)) s.fields
  exact ⟨by omega,by omega,fun f hf=>by have:=sumB_mem (f:=fun f:Fi=>f.name.length+1) hf;have h2:f.name.length+1≤(s.fields.map fun f=>f.name.length+1).sum:=this;omega⟩
theorem tys_ok {l:List Sc}(h:tysN l≤1048576):l.length≤1048576∧∀s∈l,scOK s:=by
  unfold tysN at h
  have h1:=sumB_len (f:=scN) (fun s=>by unfold scN;omega) l
  exact ⟨by omega,fun s hs=>sc_ok (by have:=sumB_mem (f:=scN) hs;omega)⟩

section
variable {H:Type} {enc:TypeId×Value→H} {w:World} {sp:Nat→Bool} {hd:Bool}
abbrev R (enc:TypeId×Value→H)(w:World)(sp:Nat→Bool)(hd:Bool){α:Type}(fuel:Nat)(t:TypeId)(f:α→List AV)(ok:α→Prop)(bk:α→Nat):Prop:=Rd enc Tryz.prog w sp hd Rows.uptoBulk fuel t f ok bk
theorem rI (fuel:Nat):R enc w sp hd fuel 3 (fun n:Int=>[.int .i64 n]) I64 (fun _=>1):=(Rd.int (k:=.i64) (by kernel_rfl) bulk).congr rfl (fun _ h=>wf_I64 h) (fun _=>Nat.le_refl _)
theorem rS (fuel:Nat):R enc w sp hd fuel 9 (fun s:List UInt8=>[.str s]) (fun s=>s.length≤maxLen) (fun s=>s.length+1):=Rd.str (by kernel_rfl) bulk
theorem z3:Tryz.prog.cellsOf 3=1:=by kernel_rfl
theorem z9:Tryz.prog.cellsOf 9=1:=by kernel_rfl
theorem rV (fuel:Nat):R enc w sp hd fuel 28 cV (fun v=>I64 v.num) vN:=
  (Rd.struct' u_V bulk rfl (by kernel_rfl) (by kernel_rfl) fun m _=>Rds.cons bulk z3 (rI m) <| Rds.cons bulk z3 (rI m) <| Rds.cons bulk z9 (rS m) Rds.nil).map
    (fun x=>(⟨x.1,x.2.1,x.2.2.1⟩:Vl)) (fun _=>rfl) (fun _ h=>h.2.1) (fun _=>by simp only [vN];omega)
theorem encE_fun:encE=cE:=funext encE_eq
theorem rE (fuel:Nat):R enc w sp hd fuel 30 cE (fun _=>True) sizeN:=by
  induction fuel using Nat.strongRecOn with
  | _ n ih=>
    exact (Rd.struct' u_E bulk rfl (by kernel_rfl) (by kernel_rfl) fun m hm=>Rds.cons bulk z3 (rI m) <| Rds.cons bulk z_Es (Rd.slice' (z:=8) u_Es z_E (by decide) bulk fun k hk=>ih k (Nat.lt_trans hk hm)) <|
      Rds.cons bulk z3 (rI m) <| Rds.cons bulk z3 (rI m) <| Rds.cons bulk z3 (rI m) <| Rds.cons bulk z_V (rV m) Rds.nil).map
      (fun x=>(⟨x.1,x.2.1,x.2.2.1,x.2.2.2.1,x.2.2.2.2.1,x.2.2.2.2.2.1⟩:Ex)) (fun x=>by simp [cE,cV,encE_fun]) (fun _ _=>trivial) (fun x=>by rw [sizeN_eq];simp only;omega)
theorem rFi (fuel:Nat):R enc w sp hd fuel 134 cFi (fun _=>True) (fun f=>f.name.length+1):=
  (Rd.struct' u_Fi bulk rfl (by kernel_rfl) (by kernel_rfl) fun m _=>Rds.cons bulk z9 (rS m) <| Rds.cons bulk z3 (rI m) Rds.nil).map
    (fun x=>(⟨x.1,x.2.1⟩:Fi)) (fun _=>rfl) (fun _ _=>trivial) (fun _=>by simp only;omega)
theorem rSc (fuel:Nat):R enc w sp hd fuel 125 cSc (fun _=>True) scN:=
  (Rd.struct' u_Sc bulk rfl (by kernel_rfl) (by kernel_rfl) fun m _=>Rds.cons bulk z9 (rS m) <| Rds.cons bulk z_Fis (Rd.slice' (z:=2) u_Fis z_Fi (by decide) bulk fun k _=>rFi k) Rds.nil).map
    (fun x=>(⟨x.1,x.2.1⟩:Sc)) (fun _=>rfl) (fun _ _=>trivial) (fun _=>by simp only [scN];omega)
theorem rTys (fuel:Nat):R enc w sp hd fuel 22 (fun l:List Sc=>[.sl 2 (l.map cSc)]) (fun _=>True) tysN:=
  (Rd.slice' (z:=2) u_Tys z_Sc (by decide) bulk fun k _=>rSc k).congr rfl (fun _ _=>trivial) (fun _=>Nat.le_refl _)
theorem rVa (fuel:Nat):R enc w sp hd fuel 120 cVa (fun _=>True) (fun _=>1):=
  (Rd.struct' u_Va bulk rfl (by kernel_rfl) (by kernel_rfl) fun m _=>Rds.cons bulk z9 (rS m) <| Rds.cons bulk z3 (rI m) Rds.nil).map
    (fun x=>(⟨x.1,x.2.1⟩:Va)) (fun _=>rfl) (fun _ _=>trivial) (fun x=>by show 1≤x.1.length+1+(1+0);omega)
theorem rVas (fuel:Nat):R enc w sp hd fuel 23 (fun l:List Va=>[.sl 2 (l.map cVa)]) (fun _=>True) (fun l=>l.length+1):=
  (Rd.slice' (z:=2) u_Vas z_Va (by decide) bulk fun k _=>rVa k).congr rfl (fun _ _=>trivial) (fun l=>by rw [sumB_ones];exact Nat.le_refl _)
theorem rScn (fuel:Nat):R enc w sp hd fuel 25 (fun s:List Sc×List Va=>cScene s.1 s.2) (fun _=>True) (fun s=>tysN s.1+s.2.length):=
  (Rd.struct' u_Scn bulk rfl (by kernel_rfl) (by kernel_rfl) fun m _=>Rds.cons bulk z_Tys (rTys m) <| Rds.cons bulk z_Vas (rVas m) Rds.nil).map
    (fun x=>(x.1,x.2.1)) (fun _=>rfl) (fun _ _=>trivial) (fun _=>by simp only;omega)
end
end Go.Proofs.YtkddpedfbicbeaaGreatDoor
