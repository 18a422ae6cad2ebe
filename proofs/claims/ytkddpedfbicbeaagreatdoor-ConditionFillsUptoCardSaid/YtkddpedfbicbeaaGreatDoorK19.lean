/-
  Several texts in one: Y17, Y20, S38, Y18, Y15, Y16, Y19, Y21, G11, Ab. No condition.
-/
import Derived.Test.YtkddpedfbicbeaaGreatDoorK01
import Derived.Test.YtkddpedfbicbeaaGreatDoorK12
import Derived.Test.YtkddpedfbicbeaaGreatDoorK18
import Derived.KernelRfl
import Derived.Test.YtkddpedfbicbeaaGreatDoorAx
import Derived.Test.YtkddpedfbicbeaaGreatDoorCards
import Derived.Test.YtkddpedfbicbeaaGreatDoorTie
import Derived.Deep.DeepHandedRow
import Derived.Lib.LaidTab
import Derived.OpenShut
set_option linter.unusedVariables false
set_option linter.unusedSimpArgs false
namespace Go.Proofs.YtkddpedfbicbeaaGreatDoor
open Go Go.Aw
set_option maxHeartbeats 1600000
set_option maxRecDepth 20000

theorem r_few1 (l:List Vl):APure Tryz.prog 112 [.sl 3 (l.map cV)] (.bool (few1 l)):=by
 refine APure.body (n:=24) tok Tryz.func112 rfl rfl rfl fun H=>?_
 refine Qsr (Qp Qab (Qnn (AW.seq (Qsr (Qp Qai (Qnn (AW.block ?_)))))))
 refine AW.loopS (fun (k:Nat)=>(⟨[(0,.sl 3 (l.map cV)),(3,.int .i64 (k:Int))],H,24⟩:St)) (fun (k:Nat)=>k≤40∧(l.take k).any (fun v=>decide (128<v.text.length))=false) (fun (k:Nat)=>40-k) (0) ?_ (GS.weaken ⟨rfl,rfl,trivial⟩ (.refl _)) ?_
 · exact ⟨Nat.zero_le _,by simp⟩
 ·
  rintro k hR
  refine AW.seq (Qsr (Qp Qmi (Qp Qms ?_)))
  refine Qp (P_len_sl (n:=l.length) tok rfl rfl rfl (by simp)) ?_
  refine Qp Qclt (Qp Qmb (Qg [] Qw Qmi (Qg [(9,_)] Qw Qclt (Qp Qpa (Qnn (Qif (fun hc1=>?_) fun hc1=>?_))))))
  ·
   rw [Bool.and_eq_true] at hc1
   have hk40:k<40:=by have:=of_decide_eq_true hc1.2;omega
   obtain ⟨a,ha⟩:=get_lt hc1.1
   have hlt:=get_lt' ha
   have hm:=List.mem_of_getElem? ha
   refine Qst (AW.seq (AW.block (Qsr (Qp Qms (Qp Qmi ?_)))))
   refine Qp (P_indexAddr (c:=[.int .i64 _,.int .i64 _,.str _]) tok rfl rfl rfl rfl rfl rfl (by omega) (map_at ha)) ?_
   refine Qp Qf7 (Qp Qlt ?_)
   refine Qp (P_len_str (n:=a.text.length) tok rfl rfl rfl (rfl)) ?_
   refine Qp Qcgt (Qnn (Qif (fun hc2=>?_) fun hc2=>?_))
   ·
    refine Qsr (Qp Qab (Qnn (AW.ret (blkR (thenR (thenR (blkR (thenR ?_))))))))
    refine Qr (.bool _) ?_
    exact congrArg AV.bool (few1_hit ha hk40 hc2).symm
   ·
    refine AW.skip (blkN (thenN (AW.region (Qp Qmi (Qp Qad (Qp Qai (Qnn ?_)))))))
    refine ⟨k+1,?_,?_,GS.weaken ⟨rfl,rfl,trivial⟩ (.refl _)⟩
    · exact ⟨hk40,few1_step ha hR.2 hc2⟩
    · omega
  ·
   refine AW.exit ?_
   refine thenE (thenE (blkHit (thenN (Qsr (Qp Qms ?_)))))
   refine Qp (P_len_sl (n:=l.length) tok rfl rfl rfl (by simp)) ?_
   refine Qp Qclt (Qp Qab (Qnn (AW.ret ?_)))
   refine Qr (.bool _) ?_
   exact congrArg AV.bool (few1_end hc1 hR.1 hR.2).symm
theorem r_FewE (e:Ev):APure Tryz.prog 71 [.agg (cEv e)] (.bool (few1 e.values)):=by
 refine APure.body (n:=6) tok Tryz.func71 rfl rfl rfl fun H=>?_
 refine Qsr (Qp (Qbx [.int .i64 _,.int .i64 _,.int .i64 _,.int .i64 _,_]) (Qp Qab (Qns (Qp (Qf [_]) (Qp Qls ?_)))))
 refine Qp (Qc rfl (r_few1 e.values)) ?_
 refine Qp Qab (Qnn (AW.ret ?_))
 refine Qr (.bool _) ?_
 rfl
theorem r_FewAll (l:List Ev):APure Tryz.prog 33 [.sl 5 (l.map cEv)] (.bool (fewL l)):=by
 refine APure.body (n:=23) tok Tryz.func33 rfl rfl rfl fun H=>?_
 refine Qsr (Qp Qab (Qnn (AW.seq (Qsr (Qp Qai (Qnn (AW.block ?_)))))))
 refine AW.loopS (fun (k:Nat)=>(⟨[(0,.sl 5 (l.map cEv)),(3,.int .i64 (k:Int))],H,23⟩:St)) (fun (k:Nat)=>k≤20∧(l.take k).any (fun e=>!few1 e.values)=false) (fun (k:Nat)=>20-k) (0) ?_ (GS.weaken ⟨rfl,rfl,trivial⟩ (.refl _)) ?_
 · exact ⟨Nat.zero_le _,by simp⟩
 ·
  rintro k hR
  refine AW.seq (Qsr (Qp Qmi (Qp Qms ?_)))
  refine Qp (P_len_sl (n:=l.length) tok rfl rfl rfl (by simp)) ?_
  refine Qp Qclt (Qp Qmb (Qg [] Qw Qmi (Qg [(9,_)] Qw Qclt (Qp Qpa (Qnn (Qif (fun hc1=>?_) fun hc1=>?_))))))
  ·
   rw [Bool.and_eq_true] at hc1
   have hk20:k<20:=by have:=of_decide_eq_true hc1.2;omega
   obtain ⟨a,ha⟩:=get_lt hc1.1
   have hlt:=get_lt' ha
   have hm:=List.mem_of_getElem? ha
   refine Qst (AW.seq (AW.block (Qsr (Qp Qms (Qp Qmi ?_)))))
   refine Qp (P_indexAddr (c:=[.int .i64 _,.int .i64 _,.int .i64 _,.int .i64 _,_]) tok rfl rfl rfl rfl rfl rfl (by omega) (map_at ha)) ?_
   refine Qp (Qlg [.int .i64 _,.int .i64 _,.int .i64 _,.int .i64 _,_]) ?_
   refine Qp (Qc rfl (r_FewE a)) ?_
   refine Qp Qnt (Qnn (Qif (fun hc2=>?_) fun hc2=>?_))
   ·
    refine Qsr (Qp Qab (Qnn (AW.ret (blkR (thenR (thenR (blkR (thenR ?_))))))))
    refine Qr (.bool _) ?_
    exact congrArg AV.bool (fewL_hit ha hk20 hc2).symm
   ·
    refine AW.skip (blkN (thenN (AW.region (Qp Qmi (Qp Qad (Qp Qai (Qnn ?_)))))))
    refine ⟨k+1,?_,?_,GS.weaken ⟨rfl,rfl,trivial⟩ (.refl _)⟩
    · exact ⟨hk20,by rw [any_take _ ha,hR.2,hc2];rfl⟩
    · omega
  ·
   refine AW.exit ?_
   refine thenE (thenE (blkHit (thenN (Qsr (Qp Qms ?_)))))
   refine Qp (P_len_sl (n:=l.length) tok rfl rfl rfl (by simp)) ?_
   refine Qp Qclq (Qp Qab (Qnn (AW.ret ?_)))
   refine Qr (.bool _) ?_
   exact congrArg AV.bool (fewL_end hc1 hR.1 hR.2).symm
theorem r_Valid (T:List Sc)(hs:∀s∈T,scOK s)(e:Ev):APure Tryz.prog 111 [.sl 2 (T.map cSc),.agg (cEv e)] (.int .i64 (validE T e)):=by
 refine APure.body (n:=83) tok Tryz.func111 rfl rfl rfl fun H=>?_
 refine Qsr (Qp (Qbx [.int .i64 _,.int .i64 _,.int .i64 _,.int .i64 _,_]) (Qp Qai (Qnn (AW.seq (Qsr (Qp (Qf [.int .i64 _,.int .i64 _,.int .i64 _,.int .i64 _,_]) (Qp Qli (Qp Qclt (Qp Qmb ?_)))))))))
 refine Qg [] Qw (Qf [.int .i64 _,.int .i64 _,.int .i64 _,.int .i64 _,_]) (Qg [(12,_)] Qw Qli (Qg [(13,_)] Qw Qcgq (Qp Qpo (Qnn (Qif (fun hc1=>?_) fun hc1=>?_)))))
 ·
  refine Qsr (Qp Qai (Qnn (Qrt ?_)))
  refine Qr (.int .i64 _) ?_
  have h0:numbersE e=32:=by unfold numbersE;rw [if_pos hc1]
  exact congrArg (AV.int .i64) (by unfold validE;rw [h0];rfl)
 ·
  have hn0:(numbersE e != 0)=false∨(decide (e.seq<0)||decide (1099511627776<e.seq)||decide (e.time<0)||decide (1099511627776<e.time))=true:=by
     unfold numbersE;rw [ifF hc1];cases (decide (e.seq<0)||decide (1099511627776<e.seq)||decide (e.time<0)||decide (1099511627776<e.time)) <;> simp
  refine Qst (AW.seq (Qsr (Qp (Qf [.int .i64 _,.int .i64 _,.int .i64 _,_]) (Qp Qli (Qp Qclt (Qp Qmb (Qg [] Qw (Qf [.int .i64 _,.int .i64 _,.int .i64 _,_]) (Qg [(20,_)] Qw Qli (Qg [(21,_)] Qw Qcgt ?_)))))))))
  refine Qp Qpo (Qp Qmb (Qg [] Qw (Qf [.int .i64 _,_]) (Qg [(25,_)] Qw Qli (Qg [(26,_)] Qw Qclt (Qp Qpo (Qp Qmb (Qg [] Qw (Qf [.int .i64 _,_]) (Qg [(30,_)] Qw Qli (Qg [(31,_)] Qw Qcgt ?_)))))))))
  refine Qp Qpo (Qnn (Qif (fun hc2=>?_) fun hc2=>?_))
  ·
   refine Qsr (Qp Qai (Qnn (Qrt ?_)))
   refine Qr (.int .i64 _) ?_
   have h0:numbersE e=2:=by unfold numbersE;rw [ifF hc1,if_pos hc2]
   exact congrArg (AV.int .i64) (by unfold validE;rw [h0];rfl)
  ·
   have hn1:(numbersE e != 0)=false:=hn0.resolve_right (by rw [hc2];decide)
   refine Qst (AW.seq (Qsr (Qp (Qf [.int .i64 _,.int .i64 _,_]) (Qp Qli (Qp Qclt (Qp Qmb (Qg [] Qw (Qf [.int .i64 _,.int .i64 _,_]) (Qg [(38,_)] Qw Qli (Qg [] Qw Qms ?_)))))))))
   refine AOL.g (y:=.int .i64 _) _ [(40,_)] rfl (EntL.all ⟨Ent.self _ _,trivial⟩) (fun hG=>P_len_sl (n:=T.length) tok rfl rfl rfl (by simp)) rfl ?_
   refine AOL.g (y:=.bool _) _ [(39,_),(41,_)] rfl (EntL.all ⟨Ent.self _ _,Ent.self _ _,trivial⟩) (fun hG=>P_geq rfl rfl) rfl ?_
   refine Qp Qpo (Qnn (Qif (fun hc3=>?_) fun hc3=>?_))
   ·
    refine Qsr (Qp Qai (Qnn (Qrt ?_)))
    refine Qr (.int .i64 _) ?_
    exact congrArg (AV.int .i64) (by unfold validE;rw [ifF hn1,if_pos hc3])
   ·
    have hty:=ty_in hc3
    have hsc:T[e.type.toNat]? = some ((T[e.type.toNat]?).getD sc0):=get_def sc0 hty.2
    refine Qst (Qsr (Qp Qms (Qp (Qf [.int .i64 _,.int .i64 _,_]) (Qp Qli ?_))))
    refine Qp (P_indexAddr (c:=[.str _,_]) tok rfl rfl rfl rfl rfl rfl (hty.1) (map_at hsc)) ?_
    refine Qp (Qf [_]) (Qp Qls (Qp Qas (Qnn (AW.seq (Qsr (Qp (Qf [_]) (Qp Qls ?_)))))))
    refine Qp (P_len_sl (n:=e.values.length) tok rfl rfl rfl (by simp)) ?_
    refine Qp Qms ?_
    refine Qp (P_len_sl (n:=(fieldsOf T e).length) tok rfl rfl rfl (by simp [fieldsOf])) ?_
    refine Qp Qcne (Qnn (Qif (fun hc4=>?_) fun hc4=>?_))
    ·
     refine Qsr (Qp Qai (Qnn (Qrt ?_)))
     refine Qr (.int .i64 _) ?_
     exact congrArg (AV.int .i64) (by unfold validE;rw [ifF hn1,ifF hc3,if_pos hc4])
    ·
     have hfl:=len_eq hc4
     have hfb:(fieldsOf T e).length≤1048576:=(hs _ (List.mem_of_getElem? hsc)).2.1
     refine Qst (AW.seq (Qsr (Qp Qai (Qnn (AW.block ?_)))))
     refine AW.loopS (fun (k:Nat)=>(⟨[(3,.ptr (cEv e)),(5,.sl 2 ((fieldsOf T e).map cFi)),(6,.int .i64 (k:Int))],H,83⟩:St)) (fun (k:Nat)=>k≤e.values.length∧valsS e.values (fieldsOf T e)=valsS (e.values.drop k) ((fieldsOf T e).drop k)) (fun (k:Nat)=>e.values.length-k) (0) ?_ (GS.weaken ⟨rfl,rfl,rfl,trivial⟩ (.refl _)) ?_
     · exact ⟨Nat.zero_le _,rfl⟩
     ·
      rintro k hR
      refine AW.seq (Qsr (Qp Qmi (Qp Qms ?_)))
      refine Qp (P_len_sl (n:=(fieldsOf T e).length) tok rfl rfl rfl (by simp)) ?_
      refine Qp Qclt (Qnn (Qif (fun hc5=>?_) fun hc5=>?_))
      ·
       have hk5:k<(fieldsOf T e).length:=by have:=of_decide_eq_true hc5;omega
       obtain ⟨a,ha⟩:=get_lt (l:=e.values) (k:=k) (by simp;omega)
       have hlt:=get_lt' ha
       have hm:=List.mem_of_getElem? ha
       have hfk:(fieldsOf T e)[k]? = some (((fieldsOf T e)[k]?).getD fi0):=get_def fi0 (by omega)
       have hstep:=vals_drop ha hfk
       refine Qst (AW.seq (AW.block (AW.seq (Qsr (Qp (Qf [_]) (Qp Qls (Qp Qmi ?_)))))))
       refine Qp (P_indexAddr (c:=[.int .i64 _,.int .i64 _,.str _]) tok rfl rfl rfl rfl rfl rfl (by omega) (map_at ha)) ?_
       refine Qp (Qlg [.int .i64 _,.int .i64 _,.str _]) ?_
       refine Qp (Qc rfl (c79 a)) ?_
       refine Qp Qai (Qns (Qp Qmi (Qp Qcne (Qnn (Qif (fun hc6=>?_) fun hc6=>?_)))))
       ·
        refine Qsr (Qp Qmi (Qp Qai (Qnn (Qrt (blkR (thenR (thenR (blkR (thenR ?_)))))))))
        refine Qr (.int .i64 _) ?_
        have he:valE a (((fieldsOf T e)[k]?).getD fi0)=vcheckS a:=by unfold valE;rw [if_pos hc6]
        exact congrArg (AV.int .i64) (by unfold validE;rw [ifF hn1,ifF hc3,ifF hc4,hR.2,hstep,he,if_pos hc6])
       ·
        refine Qst (AW.seq ?_)
        refine AW.draw mixed (fun _=>True) trivial (by kernel_rfl) ?_
        refine Qn 0 rfl (Qf [_]) (Qn 1 rfl Qls (Qn 2 rfl Qmi ?_))
        refine Qn 3 rfl (P_indexAddr (c:=[.int .i64 _,.int .i64 _,.str _]) tok rfl rfl rfl rfl rfl rfl (by omega) (map_at ha)) ?_
        refine Qn 4 rfl Qf5 (Qn 5 rfl Qli (Qn 6 rfl Qms (Qn 7 rfl Qmi ?_)))
        refine Qn 8 rfl (P_indexAddr (c:=[.str _,.int .i64 _]) tok rfl rfl rfl rfl rfl rfl (by omega) (map_at hfk)) ?_
        refine Qn 9 rfl (Qf [.int .i64 _]) (Qn 10 rfl Qli (Qn 11 rfl Qcne ?_))
        refine Canon.done _ _ (by kernel_rfl) ?_
        refine thenN (Qif (fun hc7=>?_) fun hc7=>?_)
        ·
         refine Qsr (Qp Qai (Qnn (AW.ret (blkR (thenR (thenR (blkR (thenR ?_))))))))
         refine Qr (.int .i64 _) ?_
         have he:valE a (((fieldsOf T e)[k]?).getD fi0)=9:=by unfold valE;rw [ifF hc6,if_pos hc7]
         exact congrArg (AV.int .i64) (by unfold validE;rw [ifF hn1,ifF hc3,ifF hc4,hR.2,hstep,he];rfl)
        ·
         refine AW.skip (blkN (thenN (AW.region (Qp Qmi (Qp Qad (Qp Qai (Qnn ?_)))))))
         refine ⟨k+1,?_,?_,GS.weaken ⟨rfl,rfl,rfl,trivial⟩ (.refl _)⟩
         · exact ⟨hlt,by rw [hR.2,hstep,if_neg];unfold valE;rw [ifF hc6,ifF hc7];decide⟩
         · omega
      ·
       have hd:=get_end hc5
       refine AW.exit ?_
       refine thenE (thenE (blkHit (thenN (Qsr (Qp Qai (Qnn (AW.ret ?_)))))))
       refine Qr (.int .i64 _) ?_
       exact congrArg (AV.int .i64) (by unfold validE;rw [ifF hn1,ifF hc3,ifF hc4,hR.2,hd,vals_end2])
theorem r_EvCheck (T:List Sc)(hl:T.length≤1048576)(hs:∀s∈T,scOK s)(e:Ev):APure Tryz.prog 70 [.sl 2 (T.map cSc),.agg (cEv e)] (.int .i64 (evCheckE T e)):=by
  refine APure.body (n:=14) tok Tryz.func70 rfl rfl rfl fun H=>?_
  refine AW.seq (AW.region (Qp (Qbx [.int .i64 _,.int .i64 _,.int .i64 _,.int .i64 _,_]) (Qp Qai (AOL.nil (thenN (AW.seq (AW.seq (AW.region (Qp Qms ?_)))))))))
  refine Qp (Qc rfl (c59 T hl hs)) ?_
  refine Qp Qai (AOL.nil (thenN (AW.seq (AW.region (Qp Qmi (Qp Qcne (AOL.nil (thenN (Qif (fun hc1=>?_) fun hc1=>?_)))))))))
  · skip
    refine AW.seq (AW.region (Qp Qmi (Qp Qai (AOL.nil (thenN (Qrt ?_))))))
    refine Qr (.int .i64 _) ?_
    try simp only [str0,Bool.and_true] at *
    first
      | (simp only [resOf,evCheckE];(first | rw [if_pos hc1] | skip);first | done | rfl)
      | (try simp only [Bool.not_eq_true',Bool.not_eq_false'] at *
         first
         | (simp only [resOf,evCheckE, *,Bool.false_eq_true,↓reduceIte,Bool.true_or,Bool.or_true,Bool.false_or,Bool.or_false,Bool.true_and,Bool.and_true,Bool.false_and,Bool.and_false,Bool.not_true,Bool.not_false];done)
         | (simp [resOf,evCheckE, *];done)
         | (simp_all [resOf,evCheckE];done))
      | skip
  · skip
    refine Qst (AW.seq (AW.region (Qp Qms (Qp (Qlg [.int .i64 _,.int .i64 _,.int .i64 _,.int .i64 _,_]) ?_))))
    refine Qp (Qc rfl (r_Valid T hs e)) ?_
    refine Qp Qai (AOL.nil (thenN (AW.ret ?_)))
    refine Qr (.int .i64 _) ?_
    try simp only [str0,Bool.and_true] at *
    first
      | (simp only [resOf,evCheckE];(first | rw [if_neg (Bool.eq_false_iff.mp hc1)] | skip);first | done | rfl)
      | (try simp only [Bool.not_eq_true',Bool.not_eq_false'] at *
         first
         | (simp only [resOf,evCheckE, *,Bool.false_eq_true,↓reduceIte,Bool.true_or,Bool.or_true,Bool.false_or,Bool.or_false,Bool.true_and,Bool.and_true,Bool.false_and,Bool.and_false,Bool.not_true,Bool.not_false];done)
         | (simp [resOf,evCheckE, *];done)
         | (simp_all [resOf,evCheckE];done))
      | skip
theorem r_Suits (T:List Sc)(hl:T.length≤1048576)(hs:∀s∈T,scOK s)(V:List Va)(hvl:V.length≤1048576)(l:List Ev)(hel:l.length≤1048576):APure Tryz.prog 32 [.sl 2 (T.map cSc),.sl 2 (V.map cVa),.sl 5 (l.map cEv)] (.bool (suitsS T V l)):=by
 refine APure.body (n:=45) tok Tryz.func32 rfl rfl rfl fun H=>?_
 refine Qsr (Qp Qab (Qnn (AW.seq (Qsr (Qp Qai (Qnn (AW.block ?_)))))))
 refine AW.loopS (fun (k:Nat)=>(⟨[(0,.sl 2 (T.map cSc)),(1,.sl 2 (V.map cVa)),(2,.sl 5 (l.map cEv)),(7,.int .i64 (k:Int))],H,45⟩:St)) (fun (k:Nat)=>k≤l.length∧((l.zip V).take k).any (unsuitB T)=false) (fun (k:Nat)=>l.length-k) (0) ?_ (GS.weaken ⟨rfl,rfl,rfl,rfl,trivial⟩ (.refl _)) ?_
 · exact ⟨Nat.zero_le _,by simp⟩
 ·
  rintro k hR
  refine AW.seq (Qsr (Qp Qmi (Qp Qms ?_)))
  refine Qp (P_len_sl (n:=l.length) tok rfl rfl rfl (by simp)) ?_
  refine Qp Qclt (Qp Qmb (Qg [] Qw Qmi (Qg [] Qw Qms ?_)))
  refine AOL.g (y:=.int .i64 _) _ [(14,_)] rfl (EntL.all ⟨Ent.self _ _,trivial⟩) (fun hG=>P_len_sl (n:=V.length) tok rfl rfl rfl (by simp)) rfl ?_
  refine AOL.g (y:=.bool _) _ [(13,_),(15,_)] rfl (EntL.all ⟨Ent.self _ _,Ent.self _ _,trivial⟩) (fun hG=>P_lss rfl rfl) rfl ?_
  refine Qp Qpa (Qnn (Qif (fun hc1=>?_) fun hc1=>?_))
  ·
   rw [Bool.and_eq_true] at hc1
   obtain ⟨a,ha⟩:=get_lt hc1.1
   have hlt:=get_lt' ha
   have hm:=List.mem_of_getElem? ha
   obtain ⟨w,hw⟩:=get_lt hc1.2
   have hltw:=get_lt' hw
   have hzw:=zip_get ha hw
   refine Qst (AW.seq (AW.block (AW.seq ?_)))
   refine AW.draw mixed (fun _=>True) trivial (by kernel_rfl) ?_
   refine Qn 0 rfl Qms (Qn 1 rfl Qms (Qn 2 rfl Qmi ?_))
   refine Qn 3 rfl (P_indexAddr (c:=[.int .i64 _,.int .i64 _,.int .i64 _,.int .i64 _,_]) tok rfl rfl rfl rfl rfl rfl (by omega) (map_at ha)) ?_
   refine Qn 4 rfl (Qlg [.int .i64 _,.int .i64 _,.int .i64 _,.int .i64 _,_]) ?_
   refine Qn 5 rfl (Qc rfl (r_EvCheck T hl hs a)) ?_
   refine Qn 6 rfl Qcne (Qn 7 rfl Qmb (Qo 8 rfl [] Qw Qms (Qo 9 rfl [] Qw Qmi ?_)))
   refine Canon.pure _ _ 10 _ _ rfl (by kernel_rfl) (by kernel_rfl) rfl (.opt _ (.ptr _) [(28,_),(29,_)] rfl (EntL.all ⟨Ent.self _ _,Ent.self _ _,trivial⟩) (fun hG=>P_indexAddr (c:=[.int .i64 _,.int .i64 _,.int .i64 _,.int .i64 _,_]) tok rfl rfl rfl rfl rfl rfl (by omega) (map_at ha)) rfl) ?_
   refine Qo 11 rfl [(30,_)] Qw (Qf [.int .i64 _,.int .i64 _,_]) (Qo 12 rfl [(31,_)] Qw Qli (Qo 13 rfl [] Qw Qms (Qo 14 rfl [] Qw Qmi ?_)))
   refine Canon.pure _ _ 15 _ _ rfl (by kernel_rfl) (by kernel_rfl) rfl (.opt _ (.ptr _) [(33,_),(34,_)] rfl (EntL.all ⟨Ent.self _ _,Ent.self _ _,trivial⟩) (fun hG=>P_indexAddr (c:=[.str _,.int .i64 _]) tok rfl rfl rfl rfl rfl rfl (by omega) (map_at hw)) rfl) ?_
   refine Qo 16 rfl [(35,_)] Qw (Qf [.int .i64 _]) (Qo 17 rfl [(36,_)] Qw Qli ?_)
   refine Canon.pure _ _ 18 _ _ rfl (by kernel_rfl) (by kernel_rfl) rfl (.opt _ (.bool _) [(32,_),(37,_)] rfl (EntL.all ⟨Ent.self _ _,Ent.self _ _,trivial⟩) (fun hG=>P_neq rfl rfl) rfl) ?_
   refine Qn 19 rfl Qpo ?_
   refine Canon.done _ _ (by kernel_rfl) ?_
   refine thenN (Qif (fun hc2=>?_) fun hc2=>?_)
   ·
    refine Qsr (Qp Qab (Qnn (AW.ret (blkR (thenR (thenR (blkR (thenR ?_))))))))
    refine Qr (.bool _) ?_
    exact Eq.trans rfl (congrArg (fun q:Bool=>AV.bool q) ((by unfold suitsS;rw [if_pos (any_hit hzw hc2)]:suitsS T V l=false))).symm
   ·
    refine AW.skip (blkN (thenN (AW.region (Qp Qmi (Qp Qad (Qp Qai (Qnn ?_)))))))
    refine ⟨k+1,?_,?_,GS.weaken ⟨rfl,rfl,rfl,rfl,trivial⟩ (.refl _)⟩
    · exact ⟨hlt,any_snoc hR.2 hzw hc2⟩
    · omega
  ·
   have hte:=zip_end hc1
   have hall:=hR.2
   rw [hte] at hall
   refine AW.exit ?_
   refine thenE (thenE (blkHit (thenN (Qsr (Qp Qms ?_)))))
   refine Qp (P_len_sl (n:=l.length) tok rfl rfl rfl (by simp)) ?_
   refine Qp Qms ?_
   refine Qp (P_len_sl (n:=V.length) tok rfl rfl rfl (by simp)) ?_
   refine Qp Qceq (Qp Qab (Qnn (AW.ret ?_)))
   refine Qr (.bool _) ?_
   exact Eq.trans rfl (congrArg (fun q:Bool=>AV.bool q) ((by unfold suitsS;rw [ifF hall]:suitsS T V l=_))).symm

set_option maxHeartbeats 1600000
set_option maxRecDepth 20000

theorem l_reads (e:Ex)(hs:sizeN e≤1048576):APure Tryz.prog 37 [.agg (cE e)] (.int .i64 (readsN e:Nat)):=by
 revert hs
 induction e using Ex.ind
 rename_i e ih
 intro hs
 have hrs:=reads_size e
 have hre:=readsN_eq e
 have hargl:=args_le e hs
 refine APure.body (n:=29) tok Tryz.func37 rfl rfl rfl fun H=>?_
 refine Qsr (Qp Qbe (Qp Qai (Qns (Qp Qai (Qnn ?_)))))
 refine AW.cut (fun (c:Nat)=>(⟨[(1,.ptr (cE e)),(3,.int .i64 (c:Int))],H,29⟩:St)) (fun (c:Nat)=>c=(if e.op==1||e.op==2 then 1 else 0)) ?_ ?_
 ·
  refine Qsr (Qp Qf0 (Qp Qli (Qp Qceq (Qp Qmb (Qg [] Qw Qf0 (Qg [(10,_)] Qw Qli (Qg [(11,_)] Qw Qceq (Qp Qpo (Qnn (Qif (fun hc1=>?_) fun hc1=>?_))))))))))
  ·
   refine AW.region (Qp Qmi (Qp Qad (Qp Qai (Qnn ?_))))
   refine ⟨1,?_,GS.weaken ⟨rfl,rfl,trivial⟩ (.refl _)⟩
   rw [if_pos hc1]
  ·
   refine Qst ?_
   refine ⟨0,?_,GS.weaken ⟨rfl,rfl,trivial⟩ (.refl _)⟩
   rw [ifF hc1]
 ·
  rintro c hC
  refine AW.seq (Qsr (Qp Qf1 (Qp Qls ?_)))
  refine Qp (P_len_sl (n:=e.args.length) tok rfl rfl rfl (by simp)) ?_
  refine Qp Qmi (Qnn (AW.block ?_))
  refine AW.loopS (fun (p:Nat×Nat)=>(⟨[(3,.int .i64 (p.2:Int)),(17,.sl 8 (e.args.map encE)),(18,.int .i64 e.args.length),(19,.int .i64 (p.1:Int))],H,29⟩:St)) (fun (p:Nat×Nat)=>p.1≤e.args.length∧p.2=c+((e.args.take p.1).map readsN).sum) (fun (p:Nat×Nat)=>e.args.length-p.1) ((0,c)) ?_ (GS.weaken ⟨rfl,rfl,rfl,rfl,trivial⟩ (.refl _)) ?_
  · exact ⟨Nat.zero_le _,by simp⟩
  ·
   rintro p hR
   refine Qsr (Qp Qclt (Qnn (AW.seq (Qif (fun hc2=>?_) fun hc2=>?_))))
   ·
    obtain ⟨a,ha⟩:=get_lt hc2
    have hlt:=get_lt' ha
    have hm:=List.mem_of_getElem? ha
    have hsa:=reads_size a
    have hsz:=size_arg hm
    have hst:=sum_take_le ha hR.2 hC hre
    refine Qst (AW.seq (AW.block (Qsr ?_)))
    refine Qp (P_indexAddr (c:=[.int .i64 _,_,.int .i64 _,.int .i64 _,.int .i64 _,.int .i64 _,.int .i64 _,.str _]) tok rfl rfl rfl rfl rfl rfl (by omega) (encE_at ha)) ?_
    refine Qp Qle ?_
    refine Qe (E_alloc (l:=[.int .i64 0,.sl 8 [],.int .i64 0,.int .i64 0,.int .i64 0,.int .i64 0,.int .i64 0,.str []]) (by kernel_rfl)) ?_
    rintro _ _ ⟨b5,rfl,rfl⟩
    refine Qe (E_store (k:=0) (v:=.agg _) (cs':=[.int .i64 _,_,.int .i64 _,.int .i64 _,.int .i64 _,.int .i64 _,.int .i64 _,.str _]) (H2:=_::_) tok rfl rfl rfl rfl (rfl) rfl rfl rfl rfl) ?_
    rintro _ _ ⟨rfl,rfl⟩
    refine AOL.ghost (GS.freeze (t:=5) 0 rfl rfl) ?_
    refine Qnn (AW.region (Qp Qmi (Qp Qle ?_)))
    refine Qp (Qc rfl (ih a hm (by have:=size_arg hm;omega))) ?_
    refine Qp Qad (Qp Qai (AOL.nil (blkN (thenN (AW.region (Qp Qad (Qp Qmi (Qnn ?_))))))))
    refine ⟨(p.1+1,p.2+readsN a),?_,?_,GS.weaken ⟨rfl,rfl,rfl,rfl,trivial⟩ (.refl _)⟩
    · exact ⟨hlt,by simp only;rw [take_get ha,hR.2];simp;omega⟩
    · simp only;omega
   ·
    have hte:=take_end hc2
    have hall:=hR.2
    rw [hte] at hall
    refine AW.exit ?_
    refine thenE (thenE (blkHit (thenN (Qsr (Qp Qmi (Qp Qai (Qnn (AW.ret ?_))))))))
    refine Qr (.int .i64 _) ?_
    exact congrArg (fun n:Nat=>AV.int .i64 (n:Int)) (by rw [hall,hC,hre])


section
variable {T:List Sc} {V:List Va} {l:List Ev} {e:Ex}
/-- what the scene gives -/
structure SceneOK (T:List Sc) (V:List Va) (l:List Ev) (e:Ex):Prop where
 kc:KC T V e
 kind:kindR T V e=1
 suits:Suits T V (bindS l)
/-- the truth that the law's loops find -/
def litU (l:List Ev)(y:Lit):Bool:=TruthS ⟨bindS l,-1,ev0⟩ y.cond != y.neg
end
set_option maxHeartbeats 1600000
set_option maxRecDepth 20000

theorem r_Bind (l:List Ev)(hel:l.length≤1048576):APure Tryz.prog 26 [.sl 5 (l.map cEv)] (.agg (cEnv (bindS l))):=by
 refine APure.body (n:=22) tok Tryz.func26 rfl rfl rfl fun H=>?_
 refine Qsr ?_
 refine Qe (E_alloc (l:=[.sl 1 []]) (by kernel_rfl)) ?_
 rintro _ _ ⟨b2,rfl,rfl⟩
 refine Qns ?_
 refine Qe (E_alloc (l:=[.val (.slice none 0 0)]) (by kernel_rfl)) ?_
 rintro _ _ ⟨b3,rfl,rfl⟩
 refine AOL.ghost (GS.cellRow 0 0 58 1 rfl rfl rfl rfl) ?_
 refine Qnn (AW.seq (Qsr (Qp Qai (Qnn (AW.block ?_)))))
 refine AW.loopS (fun (p:Nat×List (List AV)×Value)=>(⟨[(0,.sl 5 (l.map cEv)),(2,.val (.pointer (some ⟨b2,0,none⟩))),(3,.val (.pointer (some ⟨b3,0,none⟩))),(4,.int .i64 (p.1:Int))],.row p.2.2 p.2.1.length 58 1 :: .box b3 47 [.row p.2.2 1 p.2.1] :: .box b2 47 [.sl 1 []]::H,22⟩:St)) (fun (p:Nat×List (List AV)×Value)=>p.1≤l.length∧p.2.1=((l.take p.1).map fun e=>[e]).map cEvs) (fun (p:Nat×List (List AV)×Value)=>l.length-p.1) ((0,[],.slice none 0 0)) ?_ (GS.weaken ⟨rfl,rfl,rfl,rfl,trivial⟩ (.refl _)) ?_
 · exact ⟨Nat.zero_le _,rfl⟩
 ·
  rintro p hR
  refine AW.seq (Qsr (Qp Qmi (Qp Qms ?_)))
  refine Qp (P_len_sl (n:=l.length) tok rfl rfl rfl (by simp)) ?_
  refine Qp Qclt (Qnn (Qif (fun hc1=>?_) fun hc1=>?_))
  ·
   obtain ⟨a,ha⟩:=get_lt hc1
   have hlt:=get_lt' ha
   have hm:=List.mem_of_getElem? ha
   have hsc:∀c∈p.2.1,scalars c=true:=by rw [hR.2];exact sc_map fun _=>rfl
   refine Qst (AW.seq (AW.block ?_))
   refine AW.draw mixed (fun H'=>_∈H') (List.mem_of_getElem? (i:=1) rfl) (by kernel_rfl) ?_
   refine Qn 0 rfl Qfv ?_
   refine Qn 1 rfl (OpP.mem (fun k=>P_load_box (k:=k) (c:=.row _ _ _) tok rfl rfl rfl rfl) (fun _ h=>h)) ?_
   refine Qn 2 rfl Qms (Qn 3 rfl Qmi ?_)
   refine Qn 4 rfl (P_indexAddr (c:=[.int .i64 _,.int .i64 _,.int .i64 _,.int .i64 _,_]) tok rfl rfl rfl rfl rfl rfl (by omega) (map_at ha)) ?_
   refine Qn 5 rfl (Qlg [.int .i64 _,.int .i64 _,.int .i64 _,.int .i64 _,_]) ?_
   refine Qn 6 rfl (P_buildSlice (es:=[[.int .i64 _,.int .i64 _,.int .i64 _,.int .i64 _,_]]) tok rfl rfl rfl rfl rfl rfl rfl rfl rfl) ?_
   refine Qn 7 rfl (P_buildSlice (es:=[[_]]) tok rfl rfl rfl rfl rfl rfl rfl rfl rfl) ?_
   refine Canon.eff _ _ 8 _ _ rfl (by kernel_rfl) rfl rfl (E_append (k:=0) tok rfl rfl rfl rfl rfl rfl rfl rfl (sc_one rfl) (hsc) (by simp [hR.2];omega) (by simp [hR.2,maxLen];omega)) (by rintro _ _ ⟨v19,rfl,rfl⟩;simp) ?_
   rintro _ _ ⟨v19,rfl,rfl⟩
   refine Qn 9 rfl Qfv ?_
   refine Canon.last _ _ 10 _ _ rfl (by kernel_rfl) rfl rfl (E_store (k:=1) (v:=.row _ _ _) (cs':=[_]) (H2:=_::_::_::_) tok rfl rfl rfl rfl (rfl) rfl rfl rfl rfl) (by kernel_rfl) ?_
   rintro _ _ ⟨rfl,rfl⟩
   refine blkN (thenN (AW.region (Qp Qmi (Qp Qad (Qp Qai (Qnn ?_))))))
   refine ⟨(p.1+1,p.2.1 ++ [cEvs [a]],v19),?_,?_,GS.weaken ⟨rfl,rfl,rfl,rfl,trivial⟩ (.refl _)⟩
   · exact ⟨hlt,by simp only;rw [take_get ha,hR.2];simp⟩
   · simp only;omega
  ·
   have hte:=take_end hc1
   obtain ⟨k,es,rv⟩:=p
   simp only at hR hte
   obtain rfl:es=(bindS l).map cEvs:=by rw [hR.2,hte];rfl
   refine AW.exit ?_
   refine thenE (thenE (blkHit (thenN (Qsr ?_))))
   refine AOL.ghost (GS.cell 1 0 rfl rfl rfl rfl unrow_cell) ?_
   refine AOL.pk (P_load_box_agg (k:=1) (l:=[_]) tok rfl rfl rfl rfl rfl) rfl rfl ?_
   refine Qe (E_store (k:=2) (v:=.agg _) (cs':=[_]) (H2:=_::_::_::_) tok rfl rfl rfl rfl (rfl) rfl rfl rfl rfl) ?_
   rintro _ _ ⟨rfl,rfl⟩
   refine Qnn (AW.ret ?_)
   refine ⟨.inr rfl,[.agg [_]],.cons (.box _ _ _ 2 _ _ _ _ rfl rfl rfl rfl rfl rfl) <| .nil,.cons _ (.cons _ (.cons _ (.refl _))),?_⟩
   rfl

set_option maxHeartbeats 25600000
set_option maxRecDepth 20000

set_option maxRecDepth 100000
theorem c_clauses:APure Tryz.prog 13 [.sl 2 (exT.map cSc),.sl 2 (exV.map cVa),.agg (cE clE)] (.tuple [.sl 1 (clL.map cCl),.int .i64 0]):=by
 have h:=d_Clauses exT (by decide) ex_sc exV (by decide) clE (ex_size _ (by decide))
 rw [ex_cl] at h
 exact h
theorem c_zone:APure Tryz.prog 43 [.sl 2 (exT.map cSc),.sl 2 (exV.map cVa),.sl 9 ([⟨lessE,true⟩,⟨two 7 (priE 0) (priE 1),false⟩].map cLit)] (.tuple [.agg (cZn znE),.sl 8 ([priE 0,priE 1].map encE),.int .i64 0]):=by
 have h:=d_Zone exT (by decide) ex_sc exV (by decide) [⟨lessE,true⟩,⟨two 7 (priE 0) (priE 1),false⟩] (by decide) (fun c hc=>ex_sizes2 _ (List.mem_cons_self ..) c hc)
 rw [ex_zn] at h
 exact h
theorem c_same:APure Tryz.prog 15 [.sl 1 (clL.map cCl),.sl 1 (clL.map cCl)] (.bool true):=by
 have h:=r_SameClauses clL clL (by decide) (by decide) ex_sizes2
 rw [ex_same] at h
 exact h
theorem c_sameZ:APure Tryz.prog 44 [.agg (cZn znE),.agg (cZn znE)] (.bool true):=r_SameZ znE (by decide)
theorem c_sameA:APure Tryz.prog 45 [.sl 8 ([priE 0,priE 1].map encE),.sl 8 ([priE 0,priE 1].map cE)] (.bool true):=by
 have h:=r_SameAll [priE 0,priE 1] (by decide) (ex_sizes _ (by decide))
 exact h
theorem c_imp1:APure Tryz.prog 24 [.sl 2 (exT.map cSc),.sl 2 (exV.map cVa),.agg (cE lessE),.agg (cE (two 7 (priE 0) (numE 4)))] (.tuple [.int .i64 1,.int .i64 0]):=by
 have h:=d_Implies exT (by decide) ex_sc exV (by decide) lessE (two 7 (priE 0) (numE 4)) (ex_size _ (by decide)) (ex_size _ (by decide))
 rw [imp_1] at h
 exact h
theorem c_imp2:APure Tryz.prog 24 [.sl 2 (exT.map cSc),.sl 2 (exV.map cVa),.agg (cE (two 7 (priE 0) (numE 4))),.agg (cE lessE)] (.tuple [.int .i64 2,.int .i64 0]):=by
 have h:=d_Implies exT (by decide) ex_sc exV (by decide) (two 7 (priE 0) (numE 4)) lessE (ex_size _ (by decide)) (ex_size _ (by decide))
 rw [imp_2] at h
 exact h
theorem l_awake  : APure Tryz.prog 10 [] (.bool true):=by
 refine APure.body (n:=179) tok Tryz.func10 rfl rfl rfl fun H=>?_
 refine Qsr (Qp Qab (Qns ?_))
 refine Qp (Qc rfl (l_example)) ?_
 refine Qe (E_alloc (l:=[.sl 2 [],.sl 2 []]) (by kernel_rfl)) ?_
 rintro _ _ ⟨b1,rfl,rfl⟩
 refine Qe (E_store (k:=0) (v:=.agg _) (cs':=[_,_]) (H2:=_::_) tok rfl rfl rfl rfl (rfl) rfl rfl rfl rfl) ?_
 rintro _ _ ⟨rfl,rfl⟩
 refine AOL.ghost (GS.freeze (t:=1) 0 rfl rfl) ?_
 refine Qns ?_
 refine Qp (Qc rfl (l_price _)) ?_
 refine Qp (Qc rfl (l_number _)) ?_
 refine Qp (Qc rfl (l_two _ _ _)) ?_
 refine Qe (E_alloc (l:=[.int .i64 0,.sl 8 [],.int .i64 0,.int .i64 0,.int .i64 0,.int .i64 0,.int .i64 0,.str []]) (by kernel_rfl)) ?_
 rintro _ _ ⟨b2,rfl,rfl⟩
 refine Qe (E_store (k:=0) (v:=.agg _) (cs':=[.int .i64 _,_,.int .i64 _,.int .i64 _,.int .i64 _,.int .i64 _,.int .i64 _,.str _]) (H2:=_::_) tok rfl rfl rfl rfl (rfl) rfl rfl rfl rfl) ?_
 rintro _ _ ⟨rfl,rfl⟩
 refine AOL.ghost (GS.freeze (t:=2) 0 rfl rfl) ?_
 refine Qnn (AW.seq ?_)
 refine AW.draw mixed (fun _=>True) trivial (by kernel_rfl) ?_
 refine Qn 0 rfl (Qf [_,_]) (Qn 1 rfl Qls (Qn 2 rfl (Qf [_]) (Qn 3 rfl Qls (Qn 4 rfl Qle ?_))))
 refine Qn 5 rfl (Qc rfl (l_price _)) ?_
 refine Qn 6 rfl (Qc rfl (l_price _)) ?_
 refine Qn 7 rfl (Qc rfl (l_two _ _ _)) ?_
 refine Qn 8 rfl (Qc rfl (l_two _ _ _)) ?_
 refine Qn 9 rfl (Qc rfl (l_not _)) ?_
 refine Qn 10 rfl (Qc rfl (c_clauses)) ?_
 refine Qn 11 rfl Qmu (Qn 12 rfl Qxs (Qn 13 rfl Qxi (Qn 14 rfl Qas (Qn 15 rfl Qai ?_))))
 refine Canon.done _ _ (by kernel_rfl) ?_
 refine thenN (Qsr (Qp Qle (Qp (Qbd [.int .i64 _,_,.int .i64 _,.int .i64 _,.int .i64 _,.int .i64 _,.int .i64 _,.str _,.bool _]) ?_)))
 refine Qe (E_alloc (l:=[.int .i64 0,.sl 8 [],.int .i64 0,.int .i64 0,.int .i64 0,.int .i64 0,.int .i64 0,.str [],.bool false]) (by kernel_rfl)) ?_
 rintro _ _ ⟨b5,rfl,rfl⟩
 refine Qe (E_store (k:=0) (v:=.agg _) (cs':=[.int .i64 _,_,.int .i64 _,.int .i64 _,.int .i64 _,.int .i64 _,.int .i64 _,.str _,.bool _]) (H2:=_::_) tok rfl rfl rfl rfl (rfl) rfl rfl rfl rfl) ?_
 rintro _ _ ⟨rfl,rfl⟩
 refine AOL.ghost (GS.freeze (t:=5) 0 rfl rfl) ?_
 refine Qnn (AW.seq (AW.seq ?_))
 refine AW.draw mixed (fun _=>True) trivial (by kernel_rfl) ?_
 refine Qn 0 rfl Qmi (Qn 1 rfl Qcne (Qn 2 rfl Qmb (Qo 3 rfl [] Qw Qms (Qo 4 rfl [] Qw (Qlg [.int .i64 _,_,.int .i64 _,.int .i64 _,.int .i64 _,.int .i64 _,.int .i64 _,.str _,.bool _]) ?_))))
 refine Qo 5 rfl [] Qw (Qc rfl (l_price _)) ?_
 refine Qo 6 rfl [] Qw (Qc rfl (l_price _)) ?_
 refine Canon.pure _ _ 7 _ _ rfl (by kernel_rfl) (by kernel_rfl) rfl (.opt _ (.agg _) [(43,_),(44,_)] rfl (EntL.all ⟨Ent.self _ _,Ent.self _ _,trivial⟩) (fun hG=>P_callf (by kernel_rfl) rfl rfl (l_two _ _ _)) rfl) ?_
 refine Qo 8 rfl [(45,_)] Qw (Qbd [.int .i64 _,_,.int .i64 _,.int .i64 _,.int .i64 _,.int .i64 _,.int .i64 _,.str _,.bool _]) ?_
 refine Canon.pure _ _ 9 _ _ rfl (by kernel_rfl) (by kernel_rfl) rfl (.opt _ (.sl _ _) [(42,_),(46,_)] rfl (EntL.all ⟨Ent.self _ _,Ent.self _ _,trivial⟩) (fun hG=>P_buildSlice (es:=[[.int .i64 _,_,.int .i64 _,.int .i64 _,.int .i64 _,.int .i64 _,.int .i64 _,.str _,.bool _],[.int .i64 _,_,.int .i64 _,.int .i64 _,.int .i64 _,.int .i64 _,.int .i64 _,.str _,.bool _]]) tok rfl rfl rfl rfl rfl rfl rfl rfl rfl) rfl) ?_
 refine Qo 10 rfl [] Qw (Qlg [.int .i64 _,_,.int .i64 _,.int .i64 _,.int .i64 _,.int .i64 _,.int .i64 _,.str _,.bool _]) ?_
 refine Qo 11 rfl [] Qw (Qc rfl (l_price _)) ?_
 refine Qo 12 rfl [] Qw (Qc rfl (l_price _)) ?_
 refine Canon.pure _ _ 13 _ _ rfl (by kernel_rfl) (by kernel_rfl) rfl (.opt _ (.agg _) [(49,_),(50,_)] rfl (EntL.all ⟨Ent.self _ _,Ent.self _ _,trivial⟩) (fun hG=>P_callf (by kernel_rfl) rfl rfl (l_two _ _ _)) rfl) ?_
 refine Qo 14 rfl [(51,_)] Qw (Qbd [.int .i64 _,_,.int .i64 _,.int .i64 _,.int .i64 _,.int .i64 _,.int .i64 _,.str _,.bool _]) ?_
 refine Canon.pure _ _ 15 _ _ rfl (by kernel_rfl) (by kernel_rfl) rfl (.opt _ (.sl _ _) [(48,_),(52,_)] rfl (EntL.all ⟨Ent.self _ _,Ent.self _ _,trivial⟩) (fun hG=>P_buildSlice (es:=[[.int .i64 _,_,.int .i64 _,.int .i64 _,.int .i64 _,.int .i64 _,.int .i64 _,.str _,.bool _],[.int .i64 _,_,.int .i64 _,.int .i64 _,.int .i64 _,.int .i64 _,.int .i64 _,.str _,.bool _]]) tok rfl rfl rfl rfl rfl rfl rfl rfl rfl) rfl) ?_
 refine Canon.pure _ _ 16 _ _ rfl (by kernel_rfl) (by kernel_rfl) rfl (.opt _ (.sl _ _) [(47,_),(53,_)] rfl (EntL.all ⟨Ent.self _ _,Ent.self _ _,trivial⟩) (fun hG=>P_buildSlice (es:=[[_],[_]]) tok rfl rfl rfl rfl rfl rfl rfl rfl rfl) rfl) ?_
 refine Canon.pure _ _ 17 _ _ rfl (by kernel_rfl) (by kernel_rfl) rfl (.opt _ (.bool _) [(41,_),(54,_)] rfl (EntL.all ⟨Ent.self _ _,Ent.self _ _,trivial⟩) (fun hG=>P_callf (by kernel_rfl) rfl rfl (c_same)) rfl) ?_
 refine Qo 18 rfl [(55,_)] Qw Qnt (Qn 19 rfl Qpo ?_)
 refine Canon.done _ _ (by kernel_rfl) ?_
 refine thenN (Qif (fun hc1=>?_) fun hc1=>?_)
 ·
  cases hc1
 ·
  refine Qst (AW.seq ?_)
  refine AW.draw mixed (fun _=>True) trivial (by kernel_rfl) ?_
  refine Qn 0 rfl (Qf [_,_]) (Qn 1 rfl Qls (Qn 2 rfl (Qf [_]) (Qn 3 rfl Qls (Qn 4 rfl Qms ?_))))
  refine Qn 5 rfl (P_indexAddr (c:=[_]) tok rfl rfl rfl rfl rfl rfl (by decide) (rfl)) ?_
  refine Qn 6 rfl Qls ?_
  refine Qn 7 rfl (Qc rfl (c_zone)) ?_
  refine Qn 8 rfl Qmu ?_
  refine Qn 9 rfl (P_extract (v:=.agg [.int .i64 _,_]) rfl rfl) ?_
  refine Qn 10 rfl Qxs (Qn 11 rfl Qxi ?_)
  refine Canon.eff _ _ 12 _ _ rfl (by kernel_rfl) rfl rfl (E_alloc (l:=[.int .i64 0,.sl 3 []]) (by kernel_rfl)) (fun _ _ _=>trivial) ?_
  rintro _ _ ⟨b6,rfl,rfl⟩
  refine Canon.eff _ _ 13 _ _ rfl (by kernel_rfl) rfl rfl (E_store (k:=0) (v:=.agg _) (cs':=[.int .i64 _,_]) (H2:=_::_) tok rfl rfl rfl rfl (rfl) rfl rfl rfl rfl) (fun _ _ _=>trivial) ?_
  rintro _ _ ⟨rfl,rfl⟩
  refine Qn 14 rfl Qas (Qn 15 rfl Qai ?_)
  refine Canon.done _ _ (by kernel_rfl) ?_
  refine thenN ?_
  refine AW.ghost (GS.freeze (t:=6) 0 rfl rfl) ?_
  refine Qsr (Qp (Qbd [.int .i64 _,.int .i64 _,.int .i64 _]) (Qp (Qbd [.int .i64 _,.int .i64 _,.int .i64 _]) (Qp (Qbd [.int .i64 _,.int .i64 _,.int .i64 _]) (Qp (Qbd [.int .i64 _,.int .i64 _,.int .i64 _]) (Qp (Qbd [.int .i64 _,.int .i64 _,.int .i64 _]) (Qp (Qbd [.int .i64 _,.int .i64 _,.int .i64 _]) ?_))))))
  refine Qp (P_buildSlice (es:=[[.int .i64 _,.int .i64 _,.int .i64 _],[.int .i64 _,.int .i64 _,.int .i64 _],[.int .i64 _,.int .i64 _,.int .i64 _],[.int .i64 _,.int .i64 _,.int .i64 _],[.int .i64 _,.int .i64 _,.int .i64 _],[.int .i64 _,.int .i64 _,.int .i64 _]]) tok rfl rfl rfl rfl rfl rfl rfl rfl rfl) ?_
  refine Qp (Qbd [.int .i64 _,_]) ?_
  refine Qe (E_alloc (l:=[.int .i64 0,.sl 3 []]) (by kernel_rfl)) ?_
  rintro _ _ ⟨b9,rfl,rfl⟩
  refine Qe (E_store (k:=0) (v:=.agg _) (cs':=[.int .i64 _,_]) (H2:=_::_) tok rfl rfl rfl rfl (rfl) rfl rfl rfl rfl) ?_
  rintro _ _ ⟨rfl,rfl⟩
  refine AOL.ghost (GS.freeze (t:=9) 0 rfl rfl) ?_
  refine Qnn (AW.seq (Qsr (Qp Qmi (Qp Qcne (Qp Qmb (Qg [] Qw (Qlg [.int .i64 _,_]) (Qg [] Qw (Qlg [.int .i64 _,_]) ?_)))))))
  refine AOL.g (y:=.bool _) _ [(81,_),(82,_)] rfl (EntL.all ⟨Ent.self _ _,Ent.self _ _,trivial⟩) (fun hG=>P_callf (by kernel_rfl) rfl rfl (c_sameZ)) rfl ?_
  refine Qg [(83,_)] Qw Qnt (Qp Qpo (Qp Qmb (Qg [] Qw Qms ?_)))
  refine Qg [] Qw (Qc rfl (l_price _)) ?_
  refine Qg [] Qw (Qc rfl (l_price _)) ?_
  refine AOL.g (y:=.sl _ _) _ [(88,_),(89,_)] rfl (EntL.all ⟨Ent.self _ _,Ent.self _ _,trivial⟩) (fun hG=>P_buildSlice (es:=[[.int .i64 _,_,.int .i64 _,.int .i64 _,.int .i64 _,.int .i64 _,.int .i64 _,.str _],[.int .i64 _,_,.int .i64 _,.int .i64 _,.int .i64 _,.int .i64 _,.int .i64 _,.str _]]) tok rfl rfl rfl rfl rfl rfl rfl rfl rfl) rfl ?_
  refine AOL.g (y:=.bool _) _ [(87,_),(90,_)] rfl (EntL.all ⟨Ent.self _ _,Ent.self _ _,trivial⟩) (fun hG=>P_callf (by kernel_rfl) rfl rfl (c_sameA)) rfl ?_
  refine Qg [(91,_)] Qw Qnt (Qp Qpo (Qnn (Qif (fun hc2=>?_) fun hc2=>?_)))
  ·
   cases hc2
  ·
   refine Qst (Qsr ?_)
   refine Qp (Qc rfl (l_price _)) ?_
   refine Qp (Qc rfl (l_price _)) ?_
   refine Qp (Qc rfl (l_two _ _ _)) ?_
   refine Qe (E_alloc (l:=[.int .i64 0,.sl 8 [],.int .i64 0,.int .i64 0,.int .i64 0,.int .i64 0,.int .i64 0,.str []]) (by kernel_rfl)) ?_
   rintro _ _ ⟨b10,rfl,rfl⟩
   refine Qe (E_store (k:=0) (v:=.agg _) (cs':=[.int .i64 _,_,.int .i64 _,.int .i64 _,.int .i64 _,.int .i64 _,.int .i64 _,.str _]) (H2:=_::_) tok rfl rfl rfl rfl (rfl) rfl rfl rfl rfl) ?_
   rintro _ _ ⟨rfl,rfl⟩
   refine AOL.ghost (GS.freeze (t:=10) 0 rfl rfl) ?_
   refine Qns ?_
   refine Qp (P_assign (v:=.fn _ _ _) rfl) ?_
   refine Qns (Qp (Qbd [.int .i64 _,.int .i64 _,.str _]) (Qp (Qbd [.int .i64 _,_,.int .i64 _,.int .i64 _,.int .i64 _,.int .i64 _,.int .i64 _,.str _]) ?_))
   refine Qe (E_alloc (l:=[.int .i64 0,.sl 8 [],.int .i64 0,.int .i64 0,.int .i64 0,.int .i64 0,.int .i64 0,.str []]) (by kernel_rfl)) ?_
   rintro _ _ ⟨b12,rfl,rfl⟩
   refine Qe (E_store (k:=0) (v:=.agg _) (cs':=[.int .i64 _,_,.int .i64 _,.int .i64 _,.int .i64 _,.int .i64 _,.int .i64 _,.str _]) (H2:=_::_) tok rfl rfl rfl rfl (rfl) rfl rfl rfl rfl) ?_
   rintro _ _ ⟨rfl,rfl⟩
   refine AOL.ghost (GS.freeze (t:=12) 0 rfl rfl) ?_
   refine Qns (Qp (Qbd [.int .i64 _,_,.int .i64 _,.int .i64 _,.int .i64 _,.int .i64 _,.int .i64 _,.str _]) ?_)
   refine Qp (Qc rfl (l_number _)) ?_
   refine Qp (Qc rfl (l_two 9 ⟨3,[],0,0,0,v0⟩ (numE 2))) ?_
   refine Qe (E_alloc (l:=[.int .i64 0,.sl 8 [],.int .i64 0,.int .i64 0,.int .i64 0,.int .i64 0,.int .i64 0,.str []]) (by kernel_rfl)) ?_
   rintro _ _ ⟨b13,rfl,rfl⟩
   refine Qe (E_store (k:=0) (v:=.agg _) (cs':=[.int .i64 _,_,.int .i64 _,.int .i64 _,.int .i64 _,.int .i64 _,.int .i64 _,.str _]) (H2:=_::_) tok rfl rfl rfl rfl (rfl) rfl rfl rfl rfl) ?_
   rintro _ _ ⟨rfl,rfl⟩
   refine AOL.ghost (GS.freeze (t:=13) 0 rfl rfl) ?_
   refine Qnn (AW.seq ?_)
   refine AW.draw mixed (fun _=>True) trivial (by kernel_rfl) ?_
   refine Qn 0 rfl (Qf [_,_]) (Qn 1 rfl Qls (Qn 2 rfl (Qf [_]) (Qn 3 rfl Qls (Qn 4 rfl Qle ?_))))
   refine Qn 5 rfl (Qc rfl (l_price _)) ?_
   refine Qn 6 rfl (Qc rfl (l_number _)) ?_
   refine Qn 7 rfl (Qc rfl (l_two _ _ _)) ?_
   refine Qn 8 rfl (Qc rfl (c_imp1)) ?_
   refine Qn 9 rfl Qmu (Qn 10 rfl Qxi (Qn 11 rfl Qxi (Qn 12 rfl Qai (Qn 13 rfl Qai ?_))))
   refine Canon.done _ _ (by kernel_rfl) ?_
   refine thenN (AW.seq ?_)
   refine AW.draw mixed (fun _=>True) trivial (by kernel_rfl) ?_
   refine Qn 0 rfl (Qf [_,_]) (Qn 1 rfl Qls (Qn 2 rfl (Qf [_]) (Qn 3 rfl Qls ?_)))
   refine Qn 4 rfl (Qc rfl (l_price _)) ?_
   refine Qn 5 rfl (Qc rfl (l_number _)) ?_
   refine Qn 6 rfl (Qc rfl (l_two _ _ _)) ?_
   refine Qn 7 rfl Qle ?_
   refine Qn 8 rfl (Qc rfl (c_imp2)) ?_
   refine Qn 9 rfl Qmu (Qn 10 rfl Qxi (Qn 11 rfl Qxi (Qn 12 rfl Qai (Qn 13 rfl Qai ?_))))
   refine Canon.done _ _ (by kernel_rfl) ?_
   refine thenN (AW.seq ?_)
   refine AW.draw mixed (fun _=>True) trivial (by kernel_rfl) ?_
   refine Qn 0 rfl Qle ?_
   refine Qn 1 rfl (P_move (v:=.fn _ _ _) rfl) ?_
   refine Qn 2 rfl (P_call (by kernel_rfl) rfl rfl rfl (l_down 1)) ?_
   refine Qn 3 rfl (P_buildSlice (es:=[[.int .i64 _,_,.int .i64 _,.int .i64 _,.int .i64 _,.int .i64 _,.int .i64 _,.str _],[.int .i64 _,_,.int .i64 _,.int .i64 _,.int .i64 _,.int .i64 _,.int .i64 _,.str _]]) tok rfl rfl rfl rfl rfl rfl rfl rfl rfl) ?_
   refine Qn 4 rfl (Qc rfl (l_verdictC 2 [upE,downE 1] (by decide) (ex_sizes _ (by decide)) ver_1)) ?_
   refine Qn 5 rfl Qmb (Qo 6 rfl [] Qw Qle ?_)
   refine Canon.pure _ _ 7 _ _ rfl (by kernel_rfl) (by kernel_rfl) rfl (.opt _ (.fn _ _ _) [] rfl (EntL.all trivial) (fun hG=>P_move (v:=.fn _ _ _) rfl) rfl) ?_
   refine Canon.pure _ _ 8 _ _ rfl (by kernel_rfl) (by kernel_rfl) rfl (.opt _ (.agg _) [(133,_)] rfl (EntL.all ⟨Ent.self _ _,trivial⟩) (fun hG=>P_call (by kernel_rfl) rfl rfl rfl (l_down 2)) rfl) ?_
   refine Canon.pure _ _ 9 _ _ rfl (by kernel_rfl) (by kernel_rfl) rfl (.opt _ (.sl _ _) [(132,_),(134,_)] rfl (EntL.all ⟨Ent.self _ _,Ent.self _ _,trivial⟩) (fun hG=>P_buildSlice (es:=[[.int .i64 _,_,.int .i64 _,.int .i64 _,.int .i64 _,.int .i64 _,.int .i64 _,.str _],[.int .i64 _,_,.int .i64 _,.int .i64 _,.int .i64 _,.int .i64 _,.int .i64 _,.str _]]) tok rfl rfl rfl rfl rfl rfl rfl rfl rfl) rfl) ?_
   refine Qo 10 rfl [(135,_)] Qw (Qc rfl (l_verdictC 1 [upE,downE 2] (by decide) (ex_sizes _ (by decide)) ver_2)) ?_
   refine Qn 11 rfl Qpa (Qn 12 rfl Qmb ?_)
   refine Qo 13 rfl [] Qw (Qc rfl (l_symbol _)) ?_
   refine Qo 14 rfl [] Qw Qle ?_
   refine Canon.pure _ _ 15 _ _ rfl (by kernel_rfl) (by kernel_rfl) rfl (.opt _ (.agg _) [(139,_),(140,_)] rfl (EntL.all ⟨Ent.self _ _,Ent.self _ _,trivial⟩) (fun hG=>P_callf (by kernel_rfl) rfl rfl (l_two 9 (symE 0) textE)) rfl) ?_
   refine Qo 16 rfl [] Qw (Qc rfl (l_symbol _)) ?_
   refine Qo 17 rfl [] Qw (Qc rfl (l_symbol _)) ?_
   refine Canon.pure _ _ 18 _ _ rfl (by kernel_rfl) (by kernel_rfl) rfl (.opt _ (.agg _) [(142,_),(143,_)] rfl (EntL.all ⟨Ent.self _ _,Ent.self _ _,trivial⟩) (fun hG=>P_callf (by kernel_rfl) rfl rfl (l_two 9 (symE 1) (symE 0))) rfl) ?_
   refine Qo 19 rfl [] Qw (Qc rfl (l_symbol _)) ?_
   refine Qo 20 rfl [] Qw Qle ?_
   refine Canon.pure _ _ 21 _ _ rfl (by kernel_rfl) (by kernel_rfl) rfl (.opt _ (.agg _) [(145,_),(146,_)] rfl (EntL.all ⟨Ent.self _ _,Ent.self _ _,trivial⟩) (fun hG=>P_callf (by kernel_rfl) rfl rfl (l_two 9 (symE 1) textE)) rfl) ?_
   refine Qo 22 rfl [(147,_)] Qw (Qc rfl (l_not (two 9 (symE 1) textE))) ?_
   refine Canon.pure _ _ 23 _ _ rfl (by kernel_rfl) (by kernel_rfl) rfl (.opt _ (.sl _ _) [(141,_),(144,_),(148,_)] rfl (EntL.all ⟨Ent.self _ _,Ent.self _ _,Ent.self _ _,trivial⟩) (fun hG=>P_buildSlice (es:=[[.int .i64 _,_,.int .i64 _,.int .i64 _,.int .i64 _,.int .i64 _,.int .i64 _,.str _],[.int .i64 _,_,.int .i64 _,.int .i64 _,.int .i64 _,.int .i64 _,.int .i64 _,.str _],[.int .i64 _,_,.int .i64 _,.int .i64 _,.int .i64 _,.int .i64 _,.int .i64 _,.str _]]) tok rfl rfl rfl rfl rfl rfl rfl rfl rfl) rfl) ?_
   refine Qo 24 rfl [(149,_)] Qw (Qc rfl (l_verdictC 2 [two 9 (symE 0) textE,two 9 (symE 1) (symE 0),notE (two 9 (symE 1) textE)] (by decide) (ex_sizes _ (by decide)) ver_3)) ?_
   refine Qn 25 rfl Qpa (Qn 26 rfl Qmb (Qo 27 rfl [] Qw Qle ?_))
   refine Canon.pure _ _ 28 _ _ rfl (by kernel_rfl) (by kernel_rfl) rfl (.opt _ (.sl _ _) [(153,_)] rfl (EntL.all ⟨Ent.self _ _,trivial⟩) (fun hG=>P_buildSlice (es:=[[.int .i64 _,_,.int .i64 _,.int .i64 _,.int .i64 _,.int .i64 _,.int .i64 _,.str _]]) tok rfl rfl rfl rfl rfl rfl rfl rfl rfl) rfl) ?_
   refine Qo 29 rfl [(154,_)] Qw (Qc rfl (l_verdictC 0 [countE] (by decide) (ex_sizes _ (by decide)) ver_4)) ?_
   refine Qn 30 rfl Qpa (Qn 31 rfl Qmb (Qo 32 rfl [] Qw Qle ?_))
   refine Qo 33 rfl [] Qw (Qc rfl (l_price _)) ?_
   refine Qo 34 rfl [] Qw (Qc rfl (l_price _)) ?_
   refine Canon.pure _ _ 35 _ _ rfl (by kernel_rfl) (by kernel_rfl) rfl (.opt _ (.agg _) [(159,_),(160,_)] rfl (EntL.all ⟨Ent.self _ _,Ent.self _ _,trivial⟩) (fun hG=>P_callf (by kernel_rfl) rfl rfl (l_two _ _ _)) rfl) ?_
   refine Canon.pure _ _ 36 _ _ rfl (by kernel_rfl) (by kernel_rfl) rfl (.opt _ (.sl _ _) [(158,_),(161,_)] rfl (EntL.all ⟨Ent.self _ _,Ent.self _ _,trivial⟩) (fun hG=>P_buildSlice (es:=[[.int .i64 _,_,.int .i64 _,.int .i64 _,.int .i64 _,.int .i64 _,.int .i64 _,.str _],[.int .i64 _,_,.int .i64 _,.int .i64 _,.int .i64 _,.int .i64 _,.int .i64 _,.str _]]) tok rfl rfl rfl rfl rfl rfl rfl rfl rfl) rfl) ?_
   refine Qo 37 rfl [(162,_)] Qw (Qc rfl (l_verdictC 2 [countE,two 7 (priE 0) (priE 0)] (by decide) (ex_sizes _ (by decide)) ver_5)) ?_
   refine Qn 38 rfl Qpa (Qn 39 rfl Qmb (Qo 40 rfl [] Qw Qmi (Qo 41 rfl [] Qw Qmi ?_)))
   refine Canon.pure _ _ 42 _ _ rfl (by kernel_rfl) (by kernel_rfl) rfl (.opt _ (.int .i64 _) [(166,_),(167,_)] rfl (EntL.all ⟨Ent.self _ _,Ent.self _ _,trivial⟩) (fun hG=>P_add rfl rfl rfl (by constructor <;> omega)) rfl) ?_
   refine Qo 43 rfl [(168,_)] Qw Qceq (Qn 44 rfl Qpa (Qn 45 rfl Qmb (Qo 46 rfl [] Qw Qmi (Qo 47 rfl [(172,_)] Qw Qceq (Qn 48 rfl Qpa (Qn 49 rfl Qmb (Qo 50 rfl [] Qw Qmi (Qo 51 rfl [(176,_)] Qw Qceq (Qn 52 rfl Qpa ?_)))))))))
   refine Qn 53 rfl Qab ?_
   refine Canon.done _ _ (by kernel_rfl) ?_
   refine thenN (AW.ret ?_)
   refine Qr (.bool _) ?_
   rfl


set_option maxRecDepth 100000
theorem okL_sum:∀(l:List (Ex×Int)),((okL l).1.map sizeN).sum≤(l.map fun p=>sizeN p.1).sum
  | []=>Nat.le_refl _
  | p::r=>by
    rw [okL]
    split
    · simp
    · have:=okL_sum r;simp only [List.map_cons,List.sum_cons];omega
theorem okL_some:∀{l:List (Ex×Int)} {p},(okL l).2=some p→p∈l
  | [],_,h=>by cases h
  | q::r,p,h=>by
    rw [okL] at h
    split at h
    · cases h;exact List.mem_cons_self ..
    · exact List.mem_cons_of_mem _ (okL_some h)
theorem sum_le {α:Type}{f g:α→Nat}:∀{l:List α},(∀x∈l,f x≤g x)→(l.map f).sum≤(l.map g).sum
  | [],_=>Nat.le_refl _
  | a::r,h=>by
    have h1:=h a (List.mem_cons_self ..)
    have h2:=sum_le (l:=r) fun x hx=>h x (List.mem_cons_of_mem _ hx)
    simp only [List.map_cons,List.sum_cons];omega
theorem mem_sum {α:Type}{f:α→Nat}:∀{l:List α} {x:α},x∈l→f x≤(l.map f).sum
  | a::r,x,h=>by
    rcases List.mem_cons.1 h with rfl | h
    · simp only [List.map_cons,List.sum_cons];omega
    · have:=mem_sum (f:=f) h;simp only [List.map_cons,List.sum_cons];omega
theorem known_size (vars:List (List Ev))(e:Ex):sizeN (knownE vars e).1≤sizeN e:=by
  induction e using Ex.ind with
  | h e ih=>
    have hs:sizeN e=1+(e.args.map sizeN).sum:=by rw [sizeN_eq]
    have hk:((e.args.map (knownE vars)).map fun p=>sizeN p.1).sum≤(e.args.map sizeN).sum:=by rw [List.map_map];exact sum_le fun x hx=>ih x hx
    rw [knownE_eq,knownN]
    split
    · split
      · exact Nat.le_refl _
      · show sizeN (constE _)≤_
        rw [sizeN_eq];simp [constE];omega
    · cases h:(okL (e.args.map (knownE vars))).2 with
      | some p=>
        obtain ⟨x,hx,rfl⟩:=List.mem_map.1 (okL_some h)
        have:=ih x hx
        have:=mem_sum (f:=sizeN) hx
        simp only;omega
      | none=>
        have:=okL_sum (e.args.map (knownE vars))
        simp only;rw [sizeN_eq];simp only;omega
theorem Known_size (vars:List (List Ev))(e:Ex)(h:sizeN e≤1048576):sizeN (KnownS vars e).1≤1048576:=by
 unfold KnownS
 split
 · exact (show sizeN ex0≤1048576 by decide)
 ·
  split
  · exact (show sizeN ex0≤1048576 by decide)
  · exact Nat.le_trans (known_size vars e) h
theorem one_size {e:Ex}(h:sizeN e≤1048576):∀x∈[e],sizeN x≤1048576:=fun x hx=>by rw [List.mem_singleton.1 hx];exact h
theorem l_fewC (T:List Sc)(hl:T.length≤1048576)(hst:∀s∈T,scOK s)(V:List Va)(hvl:V.length≤1048576)(es:List Ex)(hel:es.length≤1048576)(hes:∀e∈es,sizeN e≤1048576):APure Tryz.prog 9 [.agg (cScene T V),.sl 8 (es.map cE)] (.bool (fewP T V es)):=by
 have h:=l_few T hl hst V hvl es hel hes
 rw [show es.map encE=es.map cE from List.map_congr_left fun e _=>encE_eq e] at h
 exact h

set_option maxHeartbeats 6400000
set_option maxRecDepth 20000

theorem l_ConditionFills (T:List Sc)(hl:T.length≤1048576)(hst:∀s∈T,scOK s)(V:List Va)(hvl:V.length≤1048576)(l:List Ev)(hel:l.length≤1048576)(hev:∀v∈l,v.values.length≤1048576)(e:Ex)(hs:sizeN e≤1048576):APure Tryz.prog 8 [.agg (cScene T V),.sl 5 (l.map cEv),.agg (cE e)] (.bool true):=by
 refine APure.body (n:=149) tok Tryz.func8 rfl rfl rfl fun H=>?_
 refine Qsr (Qp (Qbx [_,_]) (Qp Qbe (Qp Qab (Qnn (AW.seq (Qsr (Qp (Qlg [_,_]) (Qp Qle ?_))))))))
 refine Qp (P_buildSlice (es:=[[.int .i64 _,_,.int .i64 _,.int .i64 _,.int .i64 _,.int .i64 _,.int .i64 _,.str _]]) tok rfl rfl rfl rfl rfl rfl rfl rfl rfl) ?_
 refine Qp (Qc rfl (l_fewC T hl hst V hvl [e] (show (1:Nat)≤_ by decide) (one_size hs))) ?_
 refine Qp Qnt (Qp Qmb (Qg [] Qw Qms ?_))
 refine Qg [(28,_)] Qw (Qc rfl (r_FewAll l)) ?_
 refine Qg [(29,_)] Qw Qnt (Qp Qpo (Qp Qmb (Qg [] Qw (Qf [_,_]) (Qg [(33,_)] Qw Qls ?_))))
 refine Qg [(34,_)] Qw (Qc rfl (c59 T hl hst)) ?_
 refine Qg [(35,_)] Qw Qcne (Qp Qpo (Qp Qmb (Qg [] Qw (Qf [_,_]) (Qg [(39,_)] Qw Qls (Qg [] Qw (Qf [_]) (Qg [(41,_)] Qw Qls (Qg [] Qw Qms ?_)))))))
 refine AOL.g (y:=.bool _) _ [(40,_),(42,_),(43,_)] rfl (EntL.all ⟨Ent.self _ _,Ent.self _ _,Ent.self _ _,trivial⟩) (fun hG=>P_callf (by kernel_rfl) rfl rfl (r_Suits T hl hst V hvl l hel)) rfl ?_
 refine Qg [(44,_)] Qw Qnt (Qp Qpo (Qnn (Qif (fun hc1=>?_) fun hc1=>?_)))
 ·
  refine Qsr ?_
  refine Qp (Qc rfl (l_awake)) ?_
  refine Qp Qab (Qnn (Qrt ?_))
  refine Qr (.bool _) ?_
  rfl
 ·
  refine Qst (AW.seq (Qsr (Qp (Qf [_,_]) (Qp Qls (Qp (Qf [_]) (Qp Qls (Qp Qle ?_)))))))
  refine Qp (Qc rfl (c32 T hl hst V hvl e hs)) ?_
  refine Qp Qmu (Qp Qxi (Qp Qxi (Qp Qai (Qp Qai (Qns (Qp Qmi (Qp Qcne (Qnn (Qif (fun hc2=>?_) fun hc2=>?_)))))))))
  ·
   refine Qsr ?_
   refine Qp (Qc rfl (l_awake)) ?_
   refine Qp Qab (Qnn (Qrt ?_))
   refine Qr (.bool _) ?_
   rfl
  ·
   have hok:=fills_ok hc1 hc2
   refine Qst (Qsr (Qp Qms ?_))
   refine Qp (Qc rfl (r_Bind l hel)) ?_
   refine Qe (E_alloc (l:=[.sl 1 []]) (by kernel_rfl)) ?_
   rintro _ _ ⟨b9,rfl,rfl⟩
   refine Qe (E_store (k:=0) (v:=.agg _) (cs':=[_]) (H2:=_::_) tok rfl rfl rfl rfl (rfl) rfl rfl rfl rfl) ?_
   rintro _ _ ⟨rfl,rfl⟩
   refine AOL.ghost (GS.freeze (t:=9) 0 rfl rfl) ?_
   refine Qns (Qp (Qlg [_]) ?_)
   refine Qe (E_alloc (l:=[.sl 1 []]) (by kernel_rfl)) ?_
   rintro _ _ ⟨b10,rfl,rfl⟩
   refine Qe (E_store (k:=0) (v:=.agg _) (cs':=[_]) (H2:=_::_) tok rfl rfl rfl rfl (rfl) rfl rfl rfl rfl) ?_
   rintro _ _ ⟨rfl,rfl⟩
   refine Qnn (AW.seq (Qsr (Qp (Qf [_]) (Qp Qls ?_))))
   refine Qp (P_len_sl (n:=l.length) tok rfl rfl rfl (by simp [bindS])) ?_
   refine Qp Qmi (Qnn (AW.block ?_))
   refine AW.loopS (fun (q:Nat×List (List Ev))=>(⟨[(3,.ptr (cScene T V)),(5,.ptr (cE e)),(9,.ptr (cEnv (bindS l))),(10,.val (.pointer (some ⟨b10,0,none⟩))),(65,.int .i64 l.length),(66,.int .i64 (q.1:Int))],.box b10 47 [.sl 1 (q.2.map cEvs)]::H,149⟩:St)) (fun (q:Nat×List (List Ev))=>q.1≤l.length∧q.2=halfS (bindS l) q.1∧q.2.length=l.length) (fun (q:Nat×List (List Ev))=>l.length-q.1) ((0,bindS l)) ?_ (GS.weaken ⟨rfl,rfl,rfl,rfl,rfl,rfl,trivial⟩ (.refl _)) ?_
   · exact ⟨Nat.zero_le _,rfl,by simp [bindS]⟩
   ·
    rintro q hR
    refine Qsr (Qp Qclt (Qnn (AW.seq (Qif (fun hc3=>?_) fun hc3=>?_))))
    ·
     have hlt:q.1<l.length:=by have:=of_decide_eq_true hc3;omega
     have hqp:q.1<q.2.length:=by omega
     have hqne:q.2.map cEvs≠[]:=by intro h;have:=congrArg List.length h;simp at this;rw [this] at hqp;simp at hqp
     refine Qst (AW.seq (AW.block (Qsr (Qp Qmi (Qp Qai (Qns (Qp Qmi ?_)))))))
     refine Qp (P_rem rfl rfl (by omega)) ?_
     refine Qp Qceq (Qnn (Qif (fun hc4=>?_) fun hc4=>?_))
     ·
      refine Qsr ?_
      refine Qe (E_bufLit (z:=1) tok rfl rfl rfl rfl rfl) ?_
      rintro _ _ ⟨v72,rfl,rfl⟩
      refine Qp Qfv ?_
      refine AOL.pk (P_load_box (k:=1) (c:=.sl _ _) tok rfl rfl rfl rfl) rfl rfl ?_
      refine Qe (OpE.bufs (E_appendBufs (k:=0) (es:=[]) (es2:=q.2.map cEvs) tok rfl rfl rfl rfl rfl rfl rfl rfl (sc_map fun _=>rfl) hqne (by simp;omega) (by simp [maxLen];omega))) ?_
      rintro _ _ ⟨⟨v75,rfl,rfl⟩,hbs⟩
      have hu2:=hbs v75 _ _ _ (List.mem_of_getElem? (i:=0) rfl)
      refine Qp Qfv ?_
      refine Qe (E_store (k:=1) (v:=.val _) (cs':=[_]) (H2:=_::_::_) tok rfl rfl rfl rfl ((by simp [cellsA,scalars,scalar,hu2])) rfl rfl rfl rfl) ?_
      rintro _ _ ⟨rfl,rfl⟩
      refine Qnn ?_
      refine AW.unbuf (v:=v75) (es:=q.2.map cEvs) (E:=58) (z:=1) 0 rfl hqne fun bb cap J hub hcap hcm hJ hz=>?_
      subst hub
      refine AW.region (Qp Qfv ?_)
      refine AOL.pk (P_load_box (k:=1) (c:=.val _) tok rfl rfl rfl rfl) rfl rfl ?_
      refine Qp Qmi ?_
      refine Qp (P_indexAddr_val tok rfl rfl rfl rfl rfl (by omega) (by simp;omega) (rfl)) ?_
      refine Qe (E_store (k:=0) (v:=.val _) (cs':=_) (H2:=_::_::_) tok rfl rfl rfl rfl rfl rfl (fl_le hqp) (rfl) rfl) ?_
      rintro _ _ ⟨rfl,rfl⟩
      refine AOL.ghost (GS.cell (H2:=_::_::_) 0 q.1 (c:=.val (.slice none 0 0)) (c':=.sl 5 []) rfl (fl_at _ hqp) (fl_set _ hqp) rfl nil_cell) ?_
      refine AOL.ghost (GS.rebuf (H2:=_::_::_) 0 ((q.2.set q.1 []).map cEvs) J (m:=(q.2.map cEvs).length) (by simp) rfl rfl (by simpa using hcap) hcm (by simpa using hJ) (fl_one _) rfl) ?_
      refine AOL.ghost (GS.freezeBufCell (H2:=_::_) 0 0 0 rfl rfl rfl rfl rfl) ?_
      refine AOL.nil (blkN (thenN (AW.region (Qp Qad (Qp Qmi (Qnn ?_))))))
      refine ⟨(q.1+1,q.2.set q.1 []),?_,?_,GS.weaken ⟨rfl,rfl,rfl,rfl,rfl,rfl,trivial⟩ (.refl _)⟩
      · exact ⟨hlt,by simp only;rw [half_odd hc4,hR.2.1],by simp;exact hR.2.2⟩
      · simp only;omega
     ·
      refine AW.skip (blkN (thenN (AW.region (Qp Qad (Qp Qmi (Qnn ?_))))))
      refine ⟨(q.1+1,q.2),?_,?_,GS.weaken ⟨rfl,rfl,rfl,rfl,rfl,rfl,trivial⟩ (.refl _)⟩
      · exact ⟨hlt,by simp only;rw [half_even hc4,hR.2.1],hR.2.2⟩
      · simp only;omega
    ·
     obtain ⟨k,L⟩:=q
     simp only at hR
     have hL:=hR.2.1
     subst hL
     have hkl:(halfS (bindS l) k).length≤1048576:=by rw [half_len];simp [bindS];exact hel
     have hkx:=half_mem (P:=fun x=>x.length≤1048576) (by simp) (bind_len l) k
     have hky:=half_mem (P:=fun x=>∀v∈x,v.values.length≤1048576) (by simp) (bind_vals hev) k
     have hfh:=hok.half k
     have hfa:=hok.all
     refine AW.exit ?_
     refine thenE (thenE (blkHit (thenN (Qsr (Qp Qle ?_)))))
     refine AOL.pk (P_load_box_agg (k:=0) (l:=[_]) tok rfl rfl rfl rfl rfl) rfl rfl ?_
     refine Qp (Qc rfl (d_Known _ hkl hkx hky e hs)) ?_
     refine Qp Qmu ?_
     refine Qp (P_extract (v:=.agg [.int .i64 _,_,.int .i64 _,.int .i64 _,.int .i64 _,.int .i64 _,.int .i64 _,.str _]) rfl rfl) ?_
     refine Qp Qxi ?_
     refine Qe (E_alloc (l:=[.int .i64 0,.sl 8 [],.int .i64 0,.int .i64 0,.int .i64 0,.int .i64 0,.int .i64 0,.str []]) (by kernel_rfl)) ?_
     rintro _ _ ⟨b12,rfl,rfl⟩
     refine Qe (E_store (k:=0) (v:=.agg _) (cs':=[.int .i64 _,_,.int .i64 _,.int .i64 _,.int .i64 _,.int .i64 _,.int .i64 _,.str _]) (H2:=_::_::_) tok rfl rfl rfl rfl (rfl) rfl rfl rfl rfl) ?_
     rintro _ _ ⟨rfl,rfl⟩
     refine Qp Qai ?_
     refine AOL.ghost (GS.freeze (t:=12) 0 rfl rfl) ?_
     refine Qns (Qp Qle (Qp (Qlg [_]) ?_))
     refine Qp (Qc rfl (d_Known (bindS l) (by simp [bindS];exact hel) (bind_len l) (bind_vals hev) e hs)) ?_
     refine Qp Qmu ?_
     refine Qp (P_extract (v:=.agg [.int .i64 _,_,.int .i64 _,.int .i64 _,.int .i64 _,.int .i64 _,.int .i64 _,.str _]) rfl rfl) ?_
     refine Qp Qxi ?_
     refine Qe (E_alloc (l:=[.int .i64 0,.sl 8 [],.int .i64 0,.int .i64 0,.int .i64 0,.int .i64 0,.int .i64 0,.str []]) (by kernel_rfl)) ?_
     rintro _ _ ⟨b14,rfl,rfl⟩
     refine Qe (E_store (k:=0) (v:=.agg _) (cs':=[.int .i64 _,_,.int .i64 _,.int .i64 _,.int .i64 _,.int .i64 _,.int .i64 _,.str _]) (H2:=_::_::_) tok rfl rfl rfl rfl (rfl) rfl rfl rfl rfl) ?_
     rintro _ _ ⟨rfl,rfl⟩
     refine Qp Qai ?_
     refine AOL.ghost (GS.freeze (t:=14) 0 rfl rfl) ?_
     refine Qnn (AW.seq (Qsr (Qp Qmi (Qp Qcne (Qp Qmb (Qg [] Qw Qmi (Qg [(97,_)] Qw Qcne (Qp Qpo (Qnn (Qif (fun hc5=>?_) fun hc5=>?_))))))))))
     ·
      exact absurd hc5 (by rw [hfh.1,hfa.1];decide)
     ·
      refine Qst (Qsr (Qp Qle (Qp (Qlg [_]) (Qp (Qbd [.int .i64 _,.int .i64 _,.int .i64 _,.int .i64 _,_]) ?_))))
      refine Qp (Qc rfl (c14 (bindS l) (-1) ev0 (bind_len l) e hs)) ?_
      refine Qp Qmu ?_
      refine Qp (P_extract (v:=.agg [.int .i64 _,.int .i64 _,.str _]) rfl rfl) ?_
      refine Qp Qxi ?_
      refine Qe (E_alloc (l:=[.int .i64 0,.int .i64 0,.str []]) (by kernel_rfl)) ?_
      rintro _ _ ⟨b16,rfl,rfl⟩
      refine Qe (E_store (k:=0) (v:=.agg _) (cs':=[.int .i64 _,.int .i64 _,.str _]) (H2:=_::_::_) tok rfl rfl rfl rfl (rfl) rfl rfl rfl rfl) ?_
      rintro _ _ ⟨rfl,rfl⟩
      refine Qp Qai ?_
      refine AOL.ghost (GS.freeze (t:=16) 0 rfl rfl) ?_
      refine Qns (Qp Qle (Qp (Qlg [_]) (Qp (Qbd [.int .i64 _,.int .i64 _,.int .i64 _,.int .i64 _,_]) ?_)))
      refine Qp (Qc rfl (c14 (bindS l) (-1) ev0 (bind_len l) _ (Known_size _ e hs))) ?_
      refine Qp Qmu ?_
      refine Qp (P_extract (v:=.agg [.int .i64 _,.int .i64 _,.str _]) rfl rfl) ?_
      refine Qp Qxi ?_
      refine Qe (E_alloc (l:=[.int .i64 0,.int .i64 0,.str []]) (by kernel_rfl)) ?_
      rintro _ _ ⟨b18,rfl,rfl⟩
      refine Qe (E_store (k:=0) (v:=.agg _) (cs':=[.int .i64 _,.int .i64 _,.str _]) (H2:=_::_::_) tok rfl rfl rfl rfl (rfl) rfl rfl rfl rfl) ?_
      rintro _ _ ⟨rfl,rfl⟩
      refine Qp Qai ?_
      refine AOL.ghost (GS.freeze (t:=18) 0 rfl rfl) ?_
      refine Qns (Qp Qle (Qp (Qlg [_]) (Qp (Qbd [.int .i64 _,.int .i64 _,.int .i64 _,.int .i64 _,_]) ?_)))
      refine Qp (Qc rfl (c14 (bindS l) (-1) ev0 (bind_len l) _ (Known_size _ e hs))) ?_
      refine Qp Qmu ?_
      refine Qp (P_extract (v:=.agg [.int .i64 _,.int .i64 _,.str _]) rfl rfl) ?_
      refine Qp Qxi ?_
      refine Qe (E_alloc (l:=[.int .i64 0,.int .i64 0,.str []]) (by kernel_rfl)) ?_
      rintro _ _ ⟨b20,rfl,rfl⟩
      refine Qe (E_store (k:=0) (v:=.agg _) (cs':=[.int .i64 _,.int .i64 _,.str _]) (H2:=_::_::_) tok rfl rfl rfl rfl (rfl) rfl rfl rfl rfl) ?_
      rintro _ _ ⟨rfl,rfl⟩
      refine Qp Qai ?_
      refine AOL.ghost (GS.freeze (t:=20) 0 rfl rfl) ?_
      refine Qnn (AW.seq (Qsr (Qp Qmi (Qp Qmi (Qp Qcne (Qp Qmb (Qg [] Qw Qmi (Qg [] Qw Qmi ?_))))))))
      refine AOL.g (y:=.bool _) _ [(125,_),(126,_)] rfl (EntL.all ⟨Ent.self _ _,Ent.self _ _,trivial⟩) (fun hG=>P_neq rfl rfl) rfl ?_
      refine Qp Qpo (Qp Qmb (Qg [] Qw (Qlg [.int .i64 _,.int .i64 _,.str _]) (Qg [] Qw (Qlg [.int .i64 _,.int .i64 _,.str _]) ?_)))
      refine AOL.g (y:=.bool _) _ [(130,_),(131,_)] rfl (EntL.all ⟨Ent.self _ _,Ent.self _ _,trivial⟩) (fun hG=>P_neq_agg tok rfl rfl rfl rfl rfl) rfl ?_
      refine Qp Qpo (Qp Qmb (Qg [] Qw (Qlg [.int .i64 _,.int .i64 _,.str _]) (Qg [] Qw (Qlg [.int .i64 _,.int .i64 _,.str _]) ?_)))
      refine AOL.g (y:=.bool _) _ [(135,_),(136,_)] rfl (EntL.all ⟨Ent.self _ _,Ent.self _ _,trivial⟩) (fun hG=>P_neq_agg tok rfl rfl rfl rfl rfl) rfl ?_
      refine Qp Qpo (Qnn (Qif (fun hc6=>?_) fun hc6=>?_))
      ·
       exact absurd hc6 (by rw [hfh.2,hfa.2.1];simp)
      ·
       refine Qst (Qsr (Qp Qmi (Qp Qceq (Qp Qmb (Qg [] Qw Qle ?_)))))
       refine Qg [(142,_)] Qw (Qc rfl (l_reads _ (Known_size _ e hs))) ?_
       refine Qg [(143,_)] Qw Qceq (Qp Qpa (Qp Qmb ?_))
       refine Qg [] Qw (Qc rfl (l_awake)) ?_
       refine Qp Qpa (Qp Qab (Qnn (AW.ret ?_)))
       refine ⟨.inr rfl,[.bool _],.cons (.tmp _ _ rfl) <| .nil,.cons _ (.refl _),?_⟩
       exact congrArg AV.bool (by rw [hok.val,hfa.2.2];rfl)

open Go Go.Aw Go.ChangeShapes Go.WideShapes Go.ChangeAt Go.RowKit
set_option maxRecDepth 100000

theorem laid:laidOutB Tryz.prog=true:=by kernel_rfl
theorem own:ownKnob Tryz.prog.godebug=none:=by kernel_rfl
def pow10L:List Int:=[1,10,100,1000,10000,100000,1000000,10000000,100000000,1000000000,10000000000,100000000000,1000000000000,10000000000000,100000000000000,1000000000000000,10000000000000000,100000000000000000,1000000000000000000,10000000000000000000]
theorem pow_of {W : World} (h : laidMet Tryz.prog Rows.conditionKnowsRow.laid W) : Lib.TabIs Tryz.prog W "internal/strconv.uint64pow10" .u64 pow10L := by
 obtain ⟨ps,⟨_,_,_,_,_,_,_,_,_,_,⟨_,_,_,_,_,_,_,_,_,_,⟨g',t',cs,fuel,p,q,hg',ht',hvar,hd,_,_⟩,_⟩,_⟩,_⟩:=h
 obtain rfl := Option.some.inj ((show Tryz.prog.globalNamed "internal/strconv.uint64pow10" = some 0 by kernel_rfl).symm.trans hg')
 obtain rfl:=Option.some.inj ((show (Tryz.prog.globals[0]?).map (·.type)=some 266 by kernel_rfl).symm.trans ht')
 have:=Lib.cells_of_tab (k:=.u64) (zs:=pow10L) (n:=20) (e:=254) (by kernel_rfl) (by kernel_rfl) (by kernel_rfl) (by kernel_rfl) hd
 unfold Lib.TabIs
 rw [hvar,←this]
theorem pow_heap {W : World} (h : Lib.TabIs Tryz.prog W "internal/strconv.uint64pow10" .u64 pow10L) : ∃ T fr, W.heap[0]? = some (.cells (pow10L.map fun z => Value.int .u64 z).toArray T fr) := by
 have e : Tryz.prog.globalNamed "internal/strconv.uint64pow10" = some 0 := by kernel_rfl
 unfold Lib.TabIs World.var? at h
 rw [e] at h
 have hk:∀(X:Array Value) (o:Option Obj),(match o with | some (Obj.cells cs _ _)=>some cs | _=>none)=some X→∃T fr,o=some (Obj.cells X T fr):=by
  intro X o h
  match o,h with
  | some (Obj.cells cs T fr),h=>exact ⟨T,fr,by rw [Option.some.inj h]⟩
 exact hk _ _ h
theorem globOK {W:World}(h:laidMet Tryz.prog Rows.conditionKnowsRow.laid W)(hS:W.ShapedOpen Tryz.prog):GlobOK g0 W:=by
  have ht:=pow_of h
  refine ⟨fun p hp=>?_,fun p hp=>?_⟩
  · obtain rfl:=List.mem_singleton.1 hp
    refine ⟨pow10Cells,rfl,?_⟩
    have hcell : ∀ j, W.cell? ⟨0, j, none⟩ = (pow10L.map fun z => Value.int .u64 z).toArray[j]? := fun j => World.var?_cell (show Tryz.prog.globalNamed "internal/strconv.uint64pow10" = some 0 by kernel_rfl) ht j
    have hs:pow10Cells=pow10L.map fun z=>AV.int .u64 z:=rfl
    rw [hs]
    refine .ptr 0 0 _ (fun j=>Value.int .u64 (pow10L.getD j 0)) (fun j x hj=>?_) (fun j x hj=>?_)
    · rw [List.getElem?_map] at hj
      cases hq:pow10L[j]? with
      | none=>rw [hq] at hj;cases hj
      | some y=>
        refine ⟨trivial,?_⟩
        rw [Nat.zero_add,hcell j]
        simp [hq,List.getD_eq_getElem?_getD]
    · rw [List.getElem?_map] at hj
      cases hq:pow10L[j]? with
      | none=>rw [hq] at hj;cases hj
      | some y=>
        rw [hq] at hj
        simp only [Option.map_some,Option.some.injEq] at hj
        subst hj
        have e:pow10L.getD j 0=y:=by rw [List.getD_eq_getElem?_getD,hq];rfl
        rw [e]
        exact .int _ _
  · obtain rfl:=List.mem_singleton.1 hp
    exact ⟨rfl,pow_heap ht⟩
/-- A world for the witness: the settled one, with the tables as the program's text lays them. -/
def setTab (k:IntKind)(l:List Int):Obj→Obj
 | .cells _ t frozen=>.cells (l.map fun z=>Value.int k z).toArray t frozen
 | o=>o
def ofTab (d:DataW Unit):List Int:=match d with
 | .agg l=>l.map fun | .lit (.int _ n)=>n | _=>0
 | _=>[]
noncomputable def laidWorld (os:Os):World:=
 { World.holding Tryz.prog os ⟨#[],#[],[]⟩ with heap:=(((World.holding Tryz.prog os ⟨#[],#[],[]⟩).heap.modify 0 (setTab .u64 pow10L)).modify 1 (setTab .u8 (ofTab Rows.laid_math_bits_deBruijn32tab))).modify 2 (setTab .u8 (ofTab Rows.laid_math_bits_deBruijn64tab)) }
end Go.Proofs.YtkddpedfbicbeaaGreatDoor

namespace Go.Aw
open Go
section
variable {H:Type} {enc:TypeId×Value→H} {P:Program} {w:World} {sp:Nat→Bool} {hd:Bool} {B:DataW H→Nat} {BA:List (DataW H)→Nat}
end
end Go.Aw
