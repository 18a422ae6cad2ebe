/-
  Several texts in one: Y17, Y18, Y15, Y16, Y19, G11. No condition.
-/
import Derived.Test.YtkddpedfbicbeaaGreatDoorK01
import Derived.Test.YtkddpedfbicbeaaGreatDoorK14
import Derived.Test.YtkddpedfbicbeaaGreatDoorK21
import Derived.KernelRfl
import Derived.Test.YtkddpedfbicbeaaGreatDoorAx
import Derived.Test.YtkddpedfbicbeaaGreatDoorCards
import Derived.Test.YtkddpedfbicbeaaGreatDoorTie
import Derived.Deep.DeepHandedRow
import Derived.Lib.LaidTab
set_option linter.unusedVariables false
set_option linter.unusedSimpArgs false
namespace Go.Proofs.YtkddpedfbicbeaaGreatDoor
open Go Go.Aw
set_option maxHeartbeats 1600000
set_option maxRecDepth 20000

theorem r_few1 (l:List Vl):APure Tryz.prog 112 [.sl 3 (l.map cV)] (.bool (few1 l)):=by
 refine APure.body (n:=24) tok Tryz.func112 rfl rfl rfl fun H=>?_
 refine Qsr (Qp Qab (Qnn (AW.seq (Qsr (Qp Qai (Qnn (AW.block ?_)))))))
 refine AW.loopS (fun (k:Nat)=>(⟨[(0,.sl 3 (l.map cV)),(3,.int .i64 (k:Int))],H,24⟩:St)) (fun (k:Nat)=>k≤40∧(l.take k).any (fun v=>decide (128<v.text.length))=false) (fun (k:Nat)=>40-k) (0) ?_ (GS.weaken ⟨rfl,rfl,trivial⟩ (.refl _)) ?_
 · exact ⟨Nat.zero_le _,by simp⟩
 ·
  rintro k hR
  refine AW.seq (Qsr (Qp Qmi (Qp Qms ?_)))
  refine Qp (P_len_sl (n:=l.length) tok rfl rfl rfl (by simp)) ?_
  refine Qp Qclt (Qp Qmb (Qg [] Qw Qmi (Qg [(9,_)] Qw Qclt (Qp Qpa (Qnn (Qif (fun hc1=>?_) fun hc1=>?_))))))
  ·
   rw [Bool.and_eq_true] at hc1
   have hk40:k<40:=by have:=of_decide_eq_true hc1.2;omega
   obtain ⟨a,ha⟩:=get_lt hc1.1
   have hlt:=get_lt' ha
   have hm:=List.mem_of_getElem? ha
   refine Qst (AW.seq (AW.block (Qsr (Qp Qms (Qp Qmi ?_)))))
   refine Qp (P_indexAddr (c:=[.int .i64 _,.int .i64 _,.str _]) tok rfl rfl rfl rfl rfl rfl (by omega) (map_at ha)) ?_
   refine Qp Qf7 (Qp Qlt ?_)
   refine Qp (P_len_str (n:=a.text.length) tok rfl rfl rfl (rfl)) ?_
   refine Qp Qcgt (Qnn (Qif (fun hc2=>?_) fun hc2=>?_))
   ·
    refine Qsr (Qp Qab (Qnn (AW.ret (blkR (thenR (thenR (blkR (thenR ?_))))))))
    refine Qr (.bool _) ?_
    exact congrArg AV.bool (few1_hit ha hk40 hc2).symm
   ·
    refine AW.skip (blkN (thenN (AW.region (Qp Qmi (Qp Qad (Qp Qai (Qnn ?_)))))))
    refine ⟨k+1,?_,?_,GS.weaken ⟨rfl,rfl,trivial⟩ (.refl _)⟩
    · exact ⟨hk40,few1_step ha hR.2 hc2⟩
    · omega
  ·
   refine AW.exit ?_
   refine thenE (thenE (blkHit (thenN (Qsr (Qp Qms ?_)))))
   refine Qp (P_len_sl (n:=l.length) tok rfl rfl rfl (by simp)) ?_
   refine Qp Qclt (Qp Qab (Qnn (AW.ret ?_)))
   refine Qr (.bool _) ?_
   exact congrArg AV.bool (few1_end hc1 hR.1 hR.2).symm
theorem r_FewE (e:Ev):APure Tryz.prog 71 [.agg (cEv e)] (.bool (few1 e.values)):=by
 refine APure.body (n:=6) tok Tryz.func71 rfl rfl rfl fun H=>?_
 refine Qsr (Qp (Qbx [.int .i64 _,.int .i64 _,.int .i64 _,.int .i64 _,_]) (Qp Qab (Qns (Qp (Qf [_]) (Qp Qls ?_)))))
 refine Qp (Qc rfl (r_few1 e.values)) ?_
 refine Qp Qab (Qnn (AW.ret ?_))
 refine Qr (.bool _) ?_
 rfl
theorem r_FewAll (l:List Ev):APure Tryz.prog 33 [.sl 5 (l.map cEv)] (.bool (fewL l)):=by
 refine APure.body (n:=23) tok Tryz.func33 rfl rfl rfl fun H=>?_
 refine Qsr (Qp Qab (Qnn (AW.seq (Qsr (Qp Qai (Qnn (AW.block ?_)))))))
 refine AW.loopS (fun (k:Nat)=>(⟨[(0,.sl 5 (l.map cEv)),(3,.int .i64 (k:Int))],H,23⟩:St)) (fun (k:Nat)=>k≤20∧(l.take k).any (fun e=>!few1 e.values)=false) (fun (k:Nat)=>20-k) (0) ?_ (GS.weaken ⟨rfl,rfl,trivial⟩ (.refl _)) ?_
 · exact ⟨Nat.zero_le _,by simp⟩
 ·
  rintro k hR
  refine AW.seq (Qsr (Qp Qmi (Qp Qms ?_)))
  refine Qp (P_len_sl (n:=l.length) tok rfl rfl rfl (by simp)) ?_
  refine Qp Qclt (Qp Qmb (Qg [] Qw Qmi (Qg [(9,_)] Qw Qclt (Qp Qpa (Qnn (Qif (fun hc1=>?_) fun hc1=>?_))))))
  ·
   rw [Bool.and_eq_true] at hc1
   have hk20:k<20:=by have:=of_decide_eq_true hc1.2;omega
   obtain ⟨a,ha⟩:=get_lt hc1.1
   have hlt:=get_lt' ha
   have hm:=List.mem_of_getElem? ha
   refine Qst (AW.seq (AW.block (Qsr (Qp Qms (Qp Qmi ?_)))))
   refine Qp (P_indexAddr (c:=[.int .i64 _,.int .i64 _,.int .i64 _,.int .i64 _,_]) tok rfl rfl rfl rfl rfl rfl (by omega) (map_at ha)) ?_
   refine Qp (Qlg [.int .i64 _,.int .i64 _,.int .i64 _,.int .i64 _,_]) ?_
   refine Qp (Qc rfl (r_FewE a)) ?_
   refine Qp Qnt (Qnn (Qif (fun hc2=>?_) fun hc2=>?_))
   ·
    refine Qsr (Qp Qab (Qnn (AW.ret (blkR (thenR (thenR (blkR (thenR ?_))))))))
    refine Qr (.bool _) ?_
    exact congrArg AV.bool (fewL_hit ha hk20 hc2).symm
   ·
    refine AW.skip (blkN (thenN (AW.region (Qp Qmi (Qp Qad (Qp Qai (Qnn ?_)))))))
    refine ⟨k+1,?_,?_,GS.weaken ⟨rfl,rfl,trivial⟩ (.refl _)⟩
    · exact ⟨hk20,by rw [any_take _ ha,hR.2,hc2];rfl⟩
    · omega
  ·
   refine AW.exit ?_
   refine thenE (thenE (blkHit (thenN (Qsr (Qp Qms ?_)))))
   refine Qp (P_len_sl (n:=l.length) tok rfl rfl rfl (by simp)) ?_
   refine Qp Qclq (Qp Qab (Qnn (AW.ret ?_)))
   refine Qr (.bool _) ?_
   exact congrArg AV.bool (fewL_end hc1 hR.1 hR.2).symm
theorem r_Valid (T:List Sc)(hs:∀s∈T,scOK s)(e:Ev):APure Tryz.prog 111 [.sl 2 (T.map cSc),.agg (cEv e)] (.int .i64 (validE T e)):=by
 refine APure.body (n:=83) tok Tryz.func111 rfl rfl rfl fun H=>?_
 refine Qsr (Qp (Qbx [.int .i64 _,.int .i64 _,.int .i64 _,.int .i64 _,_]) (Qp Qai (Qnn (AW.seq (Qsr (Qp (Qf [.int .i64 _,.int .i64 _,.int .i64 _,.int .i64 _,_]) (Qp Qli (Qp Qclt (Qp Qmb ?_)))))))))
 refine Qg [] Qw (Qf [.int .i64 _,.int .i64 _,.int .i64 _,.int .i64 _,_]) (Qg [(12,_)] Qw Qli (Qg [(13,_)] Qw Qcgq (Qp Qpo (Qnn (Qif (fun hc1=>?_) fun hc1=>?_)))))
 ·
  refine Qsr (Qp Qai (Qnn (Qrt ?_)))
  refine Qr (.int .i64 _) ?_
  have h0:numbersE e=32:=by unfold numbersE;rw [if_pos hc1]
  exact congrArg (AV.int .i64) (by unfold validE;rw [h0];rfl)
 ·
  have hn0:(numbersE e != 0)=false∨(decide (e.seq<0)||decide (1099511627776<e.seq)||decide (e.time<0)||decide (1099511627776<e.time))=true:=by
     unfold numbersE;rw [ifF hc1];cases (decide (e.seq<0)||decide (1099511627776<e.seq)||decide (e.time<0)||decide (1099511627776<e.time)) <;> simp
  refine Qst (AW.seq (Qsr (Qp (Qf [.int .i64 _,.int .i64 _,.int .i64 _,_]) (Qp Qli (Qp Qclt (Qp Qmb (Qg [] Qw (Qf [.int .i64 _,.int .i64 _,.int .i64 _,_]) (Qg [(20,_)] Qw Qli (Qg [(21,_)] Qw Qcgt ?_)))))))))
  refine Qp Qpo (Qp Qmb (Qg [] Qw (Qf [.int .i64 _,_]) (Qg [(25,_)] Qw Qli (Qg [(26,_)] Qw Qclt (Qp Qpo (Qp Qmb (Qg [] Qw (Qf [.int .i64 _,_]) (Qg [(30,_)] Qw Qli (Qg [(31,_)] Qw Qcgt ?_)))))))))
  refine Qp Qpo (Qnn (Qif (fun hc2=>?_) fun hc2=>?_))
  ·
   refine Qsr (Qp Qai (Qnn (Qrt ?_)))
   refine Qr (.int .i64 _) ?_
   have h0:numbersE e=2:=by unfold numbersE;rw [ifF hc1,if_pos hc2]
   exact congrArg (AV.int .i64) (by unfold validE;rw [h0];rfl)
  ·
   have hn1:(numbersE e != 0)=false:=hn0.resolve_right (by rw [hc2];decide)
   refine Qst (AW.seq (Qsr (Qp (Qf [.int .i64 _,.int .i64 _,_]) (Qp Qli (Qp Qclt (Qp Qmb (Qg [] Qw (Qf [.int .i64 _,.int .i64 _,_]) (Qg [(38,_)] Qw Qli (Qg [] Qw Qms ?_)))))))))
   refine AOL.g (y:=.int .i64 _) _ [(40,_)] rfl (EntL.all ⟨Ent.self _ _,trivial⟩) (fun hG=>P_len_sl (n:=T.length) tok rfl rfl rfl (by simp)) rfl ?_
   refine AOL.g (y:=.bool _) _ [(39,_),(41,_)] rfl (EntL.all ⟨Ent.self _ _,Ent.self _ _,trivial⟩) (fun hG=>P_geq rfl rfl) rfl ?_
   refine Qp Qpo (Qnn (Qif (fun hc3=>?_) fun hc3=>?_))
   ·
    refine Qsr (Qp Qai (Qnn (Qrt ?_)))
    refine Qr (.int .i64 _) ?_
    exact congrArg (AV.int .i64) (by unfold validE;rw [ifF hn1,if_pos hc3])
   ·
    have hty:=ty_in hc3
    have hsc:T[e.type.toNat]? = some ((T[e.type.toNat]?).getD sc0):=get_def sc0 hty.2
    refine Qst (Qsr (Qp Qms (Qp (Qf [.int .i64 _,.int .i64 _,_]) (Qp Qli ?_))))
    refine Qp (P_indexAddr (c:=[.str _,_]) tok rfl rfl rfl rfl rfl rfl (hty.1) (map_at hsc)) ?_
    refine Qp (Qf [_]) (Qp Qls (Qp Qas (Qnn (AW.seq (Qsr (Qp (Qf [_]) (Qp Qls ?_)))))))
    refine Qp (P_len_sl (n:=e.values.length) tok rfl rfl rfl (by simp)) ?_
    refine Qp Qms ?_
    refine Qp (P_len_sl (n:=(fieldsOf T e).length) tok rfl rfl rfl (by simp [fieldsOf])) ?_
    refine Qp Qcne (Qnn (Qif (fun hc4=>?_) fun hc4=>?_))
    ·
     refine Qsr (Qp Qai (Qnn (Qrt ?_)))
     refine Qr (.int .i64 _) ?_
     exact congrArg (AV.int .i64) (by unfold validE;rw [ifF hn1,ifF hc3,if_pos hc4])
    ·
     have hfl:=len_eq hc4
     have hfb:(fieldsOf T e).length≤1048576:=(hs _ (List.mem_of_getElem? hsc)).2.1
     refine Qst (AW.seq (Qsr (Qp Qai (Qnn (AW.block ?_)))))
     refine AW.loopS (fun (k:Nat)=>(⟨[(3,.ptr (cEv e)),(5,.sl 2 ((fieldsOf T e).map cFi)),(6,.int .i64 (k:Int))],H,83⟩:St)) (fun (k:Nat)=>k≤e.values.length∧valsS e.values (fieldsOf T e)=valsS (e.values.drop k) ((fieldsOf T e).drop k)) (fun (k:Nat)=>e.values.length-k) (0) ?_ (GS.weaken ⟨rfl,rfl,rfl,trivial⟩ (.refl _)) ?_
     · exact ⟨Nat.zero_le _,rfl⟩
     ·
      rintro k hR
      refine AW.seq (Qsr (Qp Qmi (Qp Qms ?_)))
      refine Qp (P_len_sl (n:=(fieldsOf T e).length) tok rfl rfl rfl (by simp)) ?_
      refine Qp Qclt (Qnn (Qif (fun hc5=>?_) fun hc5=>?_))
      ·
       have hk5:k<(fieldsOf T e).length:=by have:=of_decide_eq_true hc5;omega
       obtain ⟨a,ha⟩:=get_lt (l:=e.values) (k:=k) (by simp;omega)
       have hlt:=get_lt' ha
       have hm:=List.mem_of_getElem? ha
       have hfk:(fieldsOf T e)[k]? = some (((fieldsOf T e)[k]?).getD fi0):=get_def fi0 (by omega)
       have hstep:=vals_drop ha hfk
       refine Qst (AW.seq (AW.block (AW.seq (Qsr (Qp (Qf [_]) (Qp Qls (Qp Qmi ?_)))))))
       refine Qp (P_indexAddr (c:=[.int .i64 _,.int .i64 _,.str _]) tok rfl rfl rfl rfl rfl rfl (by omega) (map_at ha)) ?_
       refine Qp (Qlg [.int .i64 _,.int .i64 _,.str _]) ?_
       refine Qp (Qc rfl (c79 a)) ?_
       refine Qp Qai (Qns (Qp Qmi (Qp Qcne (Qnn (Qif (fun hc6=>?_) fun hc6=>?_)))))
       ·
        refine Qsr (Qp Qmi (Qp Qai (Qnn (Qrt (blkR (thenR (thenR (blkR (thenR ?_)))))))))
        refine Qr (.int .i64 _) ?_
        have he:valE a (((fieldsOf T e)[k]?).getD fi0)=vcheckS a:=by unfold valE;rw [if_pos hc6]
        exact congrArg (AV.int .i64) (by unfold validE;rw [ifF hn1,ifF hc3,ifF hc4,hR.2,hstep,he,if_pos hc6])
       ·
        refine Qst (AW.seq ?_)
        refine AW.draw mixed (fun _=>True) trivial (by kernel_rfl) ?_
        refine Qn 0 rfl (Qf [_]) (Qn 1 rfl Qls (Qn 2 rfl Qmi ?_))
        refine Qn 3 rfl (P_indexAddr (c:=[.int .i64 _,.int .i64 _,.str _]) tok rfl rfl rfl rfl rfl rfl (by omega) (map_at ha)) ?_
        refine Qn 4 rfl Qf5 (Qn 5 rfl Qli (Qn 6 rfl Qms (Qn 7 rfl Qmi ?_)))
        refine Qn 8 rfl (P_indexAddr (c:=[.str _,.int .i64 _]) tok rfl rfl rfl rfl rfl rfl (by omega) (map_at hfk)) ?_
        refine Qn 9 rfl (Qf [.int .i64 _]) (Qn 10 rfl Qli (Qn 11 rfl Qcne ?_))
        refine Canon.done _ _ (by kernel_rfl) ?_
        refine thenN (Qif (fun hc7=>?_) fun hc7=>?_)
        ·
         refine Qsr (Qp Qai (Qnn (AW.ret (blkR (thenR (thenR (blkR (thenR ?_))))))))
         refine Qr (.int .i64 _) ?_
         have he:valE a (((fieldsOf T e)[k]?).getD fi0)=9:=by unfold valE;rw [ifF hc6,if_pos hc7]
         exact congrArg (AV.int .i64) (by unfold validE;rw [ifF hn1,ifF hc3,ifF hc4,hR.2,hstep,he];rfl)
        ·
         refine AW.skip (blkN (thenN (AW.region (Qp Qmi (Qp Qad (Qp Qai (Qnn ?_)))))))
         refine ⟨k+1,?_,?_,GS.weaken ⟨rfl,rfl,rfl,trivial⟩ (.refl _)⟩
         · exact ⟨hlt,by rw [hR.2,hstep,if_neg];unfold valE;rw [ifF hc6,ifF hc7];decide⟩
         · omega
      ·
       have hd:=get_end hc5
       refine AW.exit ?_
       refine thenE (thenE (blkHit (thenN (Qsr (Qp Qai (Qnn (AW.ret ?_)))))))
       refine Qr (.int .i64 _) ?_
       exact congrArg (AV.int .i64) (by unfold validE;rw [ifF hn1,ifF hc3,ifF hc4,hR.2,hd,vals_end2])
theorem r_EvCheck (T:List Sc)(hl:T.length≤1048576)(hs:∀s∈T,scOK s)(e:Ev):APure Tryz.prog 70 [.sl 2 (T.map cSc),.agg (cEv e)] (.int .i64 (evCheckE T e)):=by
  refine APure.body (n:=14) tok Tryz.func70 rfl rfl rfl fun H=>?_
  refine AW.seq (AW.region (Qp (Qbx [.int .i64 _,.int .i64 _,.int .i64 _,.int .i64 _,_]) (Qp Qai (AOL.nil (thenN (AW.seq (AW.seq (AW.region (Qp Qms ?_)))))))))
  refine Qp (Qc rfl (c59 T hl hs)) ?_
  refine Qp Qai (AOL.nil (thenN (AW.seq (AW.region (Qp Qmi (Qp Qcne (AOL.nil (thenN (Qif (fun hc1=>?_) fun hc1=>?_)))))))))
  · skip
    refine AW.seq (AW.region (Qp Qmi (Qp Qai (AOL.nil (thenN (Qrt ?_))))))
    refine Qr (.int .i64 _) ?_
    try simp only [str0,Bool.and_true] at *
    first
      | (simp only [resOf,evCheckE];(first | rw [if_pos hc1] | skip);first | done | rfl)
      | (try simp only [Bool.not_eq_true',Bool.not_eq_false'] at *
         first
         | (simp only [resOf,evCheckE, *,Bool.false_eq_true,↓reduceIte,Bool.true_or,Bool.or_true,Bool.false_or,Bool.or_false,Bool.true_and,Bool.and_true,Bool.false_and,Bool.and_false,Bool.not_true,Bool.not_false];done)
         | (simp [resOf,evCheckE, *];done)
         | (simp_all [resOf,evCheckE];done))
      | skip
  · skip
    refine Qst (AW.seq (AW.region (Qp Qms (Qp (Qlg [.int .i64 _,.int .i64 _,.int .i64 _,.int .i64 _,_]) ?_))))
    refine Qp (Qc rfl (r_Valid T hs e)) ?_
    refine Qp Qai (AOL.nil (thenN (AW.ret ?_)))
    refine Qr (.int .i64 _) ?_
    try simp only [str0,Bool.and_true] at *
    first
      | (simp only [resOf,evCheckE];(first | rw [if_neg (Bool.eq_false_iff.mp hc1)] | skip);first | done | rfl)
      | (try simp only [Bool.not_eq_true',Bool.not_eq_false'] at *
         first
         | (simp only [resOf,evCheckE, *,Bool.false_eq_true,↓reduceIte,Bool.true_or,Bool.or_true,Bool.false_or,Bool.or_false,Bool.true_and,Bool.and_true,Bool.false_and,Bool.and_false,Bool.not_true,Bool.not_false];done)
         | (simp [resOf,evCheckE, *];done)
         | (simp_all [resOf,evCheckE];done))
      | skip
theorem r_Suits (T:List Sc)(hl:T.length≤1048576)(hs:∀s∈T,scOK s)(V:List Va)(hvl:V.length≤1048576)(l:List Ev)(hel:l.length≤1048576):APure Tryz.prog 32 [.sl 2 (T.map cSc),.sl 2 (V.map cVa),.sl 5 (l.map cEv)] (.bool (suitsS T V l)):=by
 refine APure.body (n:=45) tok Tryz.func32 rfl rfl rfl fun H=>?_
 refine Qsr (Qp Qab (Qnn (AW.seq (Qsr (Qp Qai (Qnn (AW.block ?_)))))))
 refine AW.loopS (fun (k:Nat)=>(⟨[(0,.sl 2 (T.map cSc)),(1,.sl 2 (V.map cVa)),(2,.sl 5 (l.map cEv)),(7,.int .i64 (k:Int))],H,45⟩:St)) (fun (k:Nat)=>k≤l.length∧((l.zip V).take k).any (unsuitB T)=false) (fun (k:Nat)=>l.length-k) (0) ?_ (GS.weaken ⟨rfl,rfl,rfl,rfl,trivial⟩ (.refl _)) ?_
 · exact ⟨Nat.zero_le _,by simp⟩
 ·
  rintro k hR
  refine AW.seq (Qsr (Qp Qmi (Qp Qms ?_)))
  refine Qp (P_len_sl (n:=l.length) tok rfl rfl rfl (by simp)) ?_
  refine Qp Qclt (Qp Qmb (Qg [] Qw Qmi (Qg [] Qw Qms ?_)))
  refine AOL.g (y:=.int .i64 _) _ [(14,_)] rfl (EntL.all ⟨Ent.self _ _,trivial⟩) (fun hG=>P_len_sl (n:=V.length) tok rfl rfl rfl (by simp)) rfl ?_
  refine AOL.g (y:=.bool _) _ [(13,_),(15,_)] rfl (EntL.all ⟨Ent.self _ _,Ent.self _ _,trivial⟩) (fun hG=>P_lss rfl rfl) rfl ?_
  refine Qp Qpa (Qnn (Qif (fun hc1=>?_) fun hc1=>?_))
  ·
   rw [Bool.and_eq_true] at hc1
   obtain ⟨a,ha⟩:=get_lt hc1.1
   have hlt:=get_lt' ha
   have hm:=List.mem_of_getElem? ha
   obtain ⟨w,hw⟩:=get_lt hc1.2
   have hltw:=get_lt' hw
   have hzw:=zip_get ha hw
   refine Qst (AW.seq (AW.block (AW.seq ?_)))
   refine AW.draw mixed (fun _=>True) trivial (by kernel_rfl) ?_
   refine Qn 0 rfl Qms (Qn 1 rfl Qms (Qn 2 rfl Qmi ?_))
   refine Qn 3 rfl (P_indexAddr (c:=[.int .i64 _,.int .i64 _,.int .i64 _,.int .i64 _,_]) tok rfl rfl rfl rfl rfl rfl (by omega) (map_at ha)) ?_
   refine Qn 4 rfl (Qlg [.int .i64 _,.int .i64 _,.int .i64 _,.int .i64 _,_]) ?_
   refine Qn 5 rfl (Qc rfl (r_EvCheck T hl hs a)) ?_
   refine Qn 6 rfl Qcne (Qn 7 rfl Qmb (Qo 8 rfl [] Qw Qms (Qo 9 rfl [] Qw Qmi ?_)))
   refine Canon.pure _ _ 10 _ _ rfl (by kernel_rfl) (by kernel_rfl) rfl (.opt _ (.ptr _) [(28,_),(29,_)] rfl (EntL.all ⟨Ent.self _ _,Ent.self _ _,trivial⟩) (fun hG=>P_indexAddr (c:=[.int .i64 _,.int .i64 _,.int .i64 _,.int .i64 _,_]) tok rfl rfl rfl rfl rfl rfl (by omega) (map_at ha)) rfl) ?_
   refine Qo 11 rfl [(30,_)] Qw (Qf [.int .i64 _,.int .i64 _,_]) (Qo 12 rfl [(31,_)] Qw Qli (Qo 13 rfl [] Qw Qms (Qo 14 rfl [] Qw Qmi ?_)))
   refine Canon.pure _ _ 15 _ _ rfl (by kernel_rfl) (by kernel_rfl) rfl (.opt _ (.ptr _) [(33,_),(34,_)] rfl (EntL.all ⟨Ent.self _ _,Ent.self _ _,trivial⟩) (fun hG=>P_indexAddr (c:=[.str _,.int .i64 _]) tok rfl rfl rfl rfl rfl rfl (by omega) (map_at hw)) rfl) ?_
   refine Qo 16 rfl [(35,_)] Qw (Qf [.int .i64 _]) (Qo 17 rfl [(36,_)] Qw Qli ?_)
   refine Canon.pure _ _ 18 _ _ rfl (by kernel_rfl) (by kernel_rfl) rfl (.opt _ (.bool _) [(32,_),(37,_)] rfl (EntL.all ⟨Ent.self _ _,Ent.self _ _,trivial⟩) (fun hG=>P_neq rfl rfl) rfl) ?_
   refine Qn 19 rfl Qpo ?_
   refine Canon.done _ _ (by kernel_rfl) ?_
   refine thenN (Qif (fun hc2=>?_) fun hc2=>?_)
   ·
    refine Qsr (Qp Qab (Qnn (AW.ret (blkR (thenR (thenR (blkR (thenR ?_))))))))
    refine Qr (.bool _) ?_
    exact Eq.trans rfl (congrArg (fun q:Bool=>AV.bool q) ((by unfold suitsS;rw [if_pos (any_hit hzw hc2)]:suitsS T V l=false))).symm
   ·
    refine AW.skip (blkN (thenN (AW.region (Qp Qmi (Qp Qad (Qp Qai (Qnn ?_)))))))
    refine ⟨k+1,?_,?_,GS.weaken ⟨rfl,rfl,rfl,rfl,trivial⟩ (.refl _)⟩
    · exact ⟨hlt,any_snoc hR.2 hzw hc2⟩
    · omega
  ·
   have hte:=zip_end hc1
   have hall:=hR.2
   rw [hte] at hall
   refine AW.exit ?_
   refine thenE (thenE (blkHit (thenN (Qsr (Qp Qms ?_)))))
   refine Qp (P_len_sl (n:=l.length) tok rfl rfl rfl (by simp)) ?_
   refine Qp Qms ?_
   refine Qp (P_len_sl (n:=V.length) tok rfl rfl rfl (by simp)) ?_
   refine Qp Qceq (Qp Qab (Qnn (AW.ret ?_)))
   refine Qr (.bool _) ?_
   exact Eq.trans rfl (congrArg (fun q:Bool=>AV.bool q) ((by unfold suitsS;rw [ifF hall]:suitsS T V l=_))).symm

set_option maxHeartbeats 1600000
set_option maxRecDepth 20000

theorem r_Bind (l:List Ev)(hel:l.length≤1048576):APure Tryz.prog 26 [.sl 5 (l.map cEv)] (.agg (cEnv (bindS l))):=by
 refine APure.body (n:=22) tok Tryz.func26 rfl rfl rfl fun H=>?_
 refine Qsr ?_
 refine Qe (E_alloc (l:=[.sl 1 []]) (by kernel_rfl)) ?_
 rintro _ _ ⟨b2,rfl,rfl⟩
 refine Qns ?_
 refine Qe (E_alloc (l:=[.val (.slice none 0 0)]) (by kernel_rfl)) ?_
 rintro _ _ ⟨b3,rfl,rfl⟩
 refine AOL.ghost (GS.cellRow 0 0 58 1 rfl rfl rfl rfl) ?_
 refine Qnn (AW.seq (Qsr (Qp Qai (Qnn (AW.block ?_)))))
 refine AW.loopS (fun (p:Nat×List (List AV)×Value)=>(⟨[(0,.sl 5 (l.map cEv)),(2,.val (.pointer (some ⟨b2,0,none⟩))),(3,.val (.pointer (some ⟨b3,0,none⟩))),(4,.int .i64 (p.1:Int))],.row p.2.2 p.2.1.length 58 1 :: .box b3 47 [.row p.2.2 1 p.2.1] :: .box b2 47 [.sl 1 []]::H,22⟩:St)) (fun (p:Nat×List (List AV)×Value)=>p.1≤l.length∧p.2.1=((l.take p.1).map fun e=>[e]).map cEvs) (fun (p:Nat×List (List AV)×Value)=>l.length-p.1) ((0,[],.slice none 0 0)) ?_ (GS.weaken ⟨rfl,rfl,rfl,rfl,trivial⟩ (.refl _)) ?_
 · exact ⟨Nat.zero_le _,rfl⟩
 ·
  rintro p hR
  refine AW.seq (Qsr (Qp Qmi (Qp Qms ?_)))
  refine Qp (P_len_sl (n:=l.length) tok rfl rfl rfl (by simp)) ?_
  refine Qp Qclt (Qnn (Qif (fun hc1=>?_) fun hc1=>?_))
  ·
   obtain ⟨a,ha⟩:=get_lt hc1
   have hlt:=get_lt' ha
   have hm:=List.mem_of_getElem? ha
   have hsc:∀c∈p.2.1,scalars c=true:=by rw [hR.2];exact sc_map fun _=>rfl
   refine Qst (AW.seq (AW.block ?_))
   refine AW.draw mixed (fun H'=>_∈H') (List.mem_of_getElem? (i:=1) rfl) (by kernel_rfl) ?_
   refine Qn 0 rfl Qfv ?_
   refine Qn 1 rfl (OpP.mem (fun k=>P_load_box (k:=k) (c:=.row _ _ _) tok rfl rfl rfl rfl) (fun _ h=>h)) ?_
   refine Qn 2 rfl Qms (Qn 3 rfl Qmi ?_)
   refine Qn 4 rfl (P_indexAddr (c:=[.int .i64 _,.int .i64 _,.int .i64 _,.int .i64 _,_]) tok rfl rfl rfl rfl rfl rfl (by omega) (map_at ha)) ?_
   refine Qn 5 rfl (Qlg [.int .i64 _,.int .i64 _,.int .i64 _,.int .i64 _,_]) ?_
   refine Qn 6 rfl (P_buildSlice (es:=[[.int .i64 _,.int .i64 _,.int .i64 _,.int .i64 _,_]]) tok rfl rfl rfl rfl rfl rfl rfl rfl rfl) ?_
   refine Qn 7 rfl (P_buildSlice (es:=[[_]]) tok rfl rfl rfl rfl rfl rfl rfl rfl rfl) ?_
   refine Canon.eff _ _ 8 _ _ rfl (by kernel_rfl) rfl rfl (E_append (k:=0) tok rfl rfl rfl rfl rfl rfl rfl rfl (sc_one rfl) (hsc) (by simp [hR.2];omega) (by simp [hR.2,maxLen];omega)) (by rintro _ _ ⟨v19,rfl,rfl⟩;simp) ?_
   rintro _ _ ⟨v19,rfl,rfl⟩
   refine Qn 9 rfl Qfv ?_
   refine Canon.last _ _ 10 _ _ rfl (by kernel_rfl) rfl rfl (E_store (k:=1) (v:=.row _ _ _) (cs':=[_]) (H2:=_::_::_::_) tok rfl rfl rfl rfl (rfl) rfl rfl rfl rfl) (by kernel_rfl) ?_
   rintro _ _ ⟨rfl,rfl⟩
   refine blkN (thenN (AW.region (Qp Qmi (Qp Qad (Qp Qai (Qnn ?_))))))
   refine ⟨(p.1+1,p.2.1 ++ [cEvs [a]],v19),?_,?_,GS.weaken ⟨rfl,rfl,rfl,rfl,trivial⟩ (.refl _)⟩
   · exact ⟨hlt,by simp only;rw [take_get ha,hR.2];simp⟩
   · simp only;omega
  ·
   have hte:=take_end hc1
   obtain ⟨k,es,rv⟩:=p
   simp only at hR hte
   obtain rfl:es=(bindS l).map cEvs:=by rw [hR.2,hte];rfl
   refine AW.exit ?_
   refine thenE (thenE (blkHit (thenN (Qsr ?_))))
   refine AOL.ghost (GS.cell 1 0 rfl rfl rfl rfl unrow_cell) ?_
   refine AOL.pk (P_load_box_agg (k:=1) (l:=[_]) tok rfl rfl rfl rfl rfl) rfl rfl ?_
   refine Qe (E_store (k:=2) (v:=.agg _) (cs':=[_]) (H2:=_::_::_::_) tok rfl rfl rfl rfl (rfl) rfl rfl rfl rfl) ?_
   rintro _ _ ⟨rfl,rfl⟩
   refine Qnn (AW.ret ?_)
   refine ⟨.inr rfl,[.agg [_]],.cons (.box _ _ _ 2 _ _ _ _ rfl rfl rfl rfl rfl rfl) <| .nil,.cons _ (.cons _ (.cons _ (.refl _))),?_⟩
   rfl

set_option maxHeartbeats 25600000
set_option maxRecDepth 20000

set_option maxRecDepth 100000
theorem c_clauses:APure Tryz.prog 13 [.sl 2 (exT.map cSc),.sl 2 (exV.map cVa),.agg (cE clE)] (.tuple [.sl 1 (clL.map cCl),.int .i64 0]):=by
 have h:=d_Clauses exT (by decide) ex_sc exV (by decide) clE (ex_size _ (by decide))
 rw [ex_cl] at h
 exact h
theorem c_zone:APure Tryz.prog 43 [.sl 2 (exT.map cSc),.sl 2 (exV.map cVa),.sl 9 ([⟨lessE,true⟩,⟨two 7 (priE 0) (priE 1),false⟩].map cLit)] (.tuple [.agg (cZn znE),.sl 8 ([priE 0,priE 1].map encE),.int .i64 0]):=by
 have h:=d_Zone exT (by decide) ex_sc exV (by decide) [⟨lessE,true⟩,⟨two 7 (priE 0) (priE 1),false⟩] (by decide) (fun c hc=>ex_sizes2 _ (List.mem_cons_self ..) c hc)
 rw [ex_zn] at h
 exact h
theorem c_same:APure Tryz.prog 15 [.sl 1 (clL.map cCl),.sl 1 (clL.map cCl)] (.bool true):=by
 have h:=r_SameClauses clL clL (by decide) (by decide) ex_sizes2
 rw [ex_same] at h
 exact h
theorem c_sameZ:APure Tryz.prog 44 [.agg (cZn znE),.agg (cZn znE)] (.bool true):=r_SameZ znE (by decide)
theorem c_sameA:APure Tryz.prog 45 [.sl 8 ([priE 0,priE 1].map encE),.sl 8 ([priE 0,priE 1].map cE)] (.bool true):=by
 have h:=r_SameAll [priE 0,priE 1] (by decide) (ex_sizes _ (by decide))
 exact h
theorem c_imp1:APure Tryz.prog 24 [.sl 2 (exT.map cSc),.sl 2 (exV.map cVa),.agg (cE lessE),.agg (cE (two 7 (priE 0) (numE 4)))] (.tuple [.int .i64 1,.int .i64 0]):=by
 have h:=d_Implies exT (by decide) ex_sc exV (by decide) lessE (two 7 (priE 0) (numE 4)) (ex_size _ (by decide)) (ex_size _ (by decide))
 rw [imp_1] at h
 exact h
theorem c_imp2:APure Tryz.prog 24 [.sl 2 (exT.map cSc),.sl 2 (exV.map cVa),.agg (cE (two 7 (priE 0) (numE 4))),.agg (cE lessE)] (.tuple [.int .i64 2,.int .i64 0]):=by
 have h:=d_Implies exT (by decide) ex_sc exV (by decide) (two 7 (priE 0) (numE 4)) lessE (ex_size _ (by decide)) (ex_size _ (by decide))
 rw [imp_2] at h
 exact h
theorem l_awake  : APure Tryz.prog 10 [] (.bool true):=by
 refine APure.body (n:=179) tok Tryz.func10 rfl rfl rfl fun H=>?_
 refine Qsr (Qp Qab (Qns ?_))
 refine Qp (Qc rfl (l_example)) ?_
 refine Qe (E_alloc (l:=[.sl 2 [],.sl 2 []]) (by kernel_rfl)) ?_
 rintro _ _ ⟨b1,rfl,rfl⟩
 refine Qe (E_store (k:=0) (v:=.agg _) (cs':=[_,_]) (H2:=_::_) tok rfl rfl rfl rfl (rfl) rfl rfl rfl rfl) ?_
 rintro _ _ ⟨rfl,rfl⟩
 refine AOL.ghost (GS.freeze (t:=1) 0 rfl rfl) ?_
 refine Qns ?_
 refine Qp (Qc rfl (l_price _)) ?_
 refine Qp (Qc rfl (l_number _)) ?_
 refine Qp (Qc rfl (l_two _ _ _)) ?_
 refine Qe (E_alloc (l:=[.int .i64 0,.sl 8 [],.int .i64 0,.int .i64 0,.int .i64 0,.int .i64 0,.int .i64 0,.str []]) (by kernel_rfl)) ?_
 rintro _ _ ⟨b2,rfl,rfl⟩
 refine Qe (E_store (k:=0) (v:=.agg _) (cs':=[.int .i64 _,_,.int .i64 _,.int .i64 _,.int .i64 _,.int .i64 _,.int .i64 _,.str _]) (H2:=_::_) tok rfl rfl rfl rfl (rfl) rfl rfl rfl rfl) ?_
 rintro _ _ ⟨rfl,rfl⟩
 refine AOL.ghost (GS.freeze (t:=2) 0 rfl rfl) ?_
 refine Qnn (AW.seq ?_)
 refine AW.draw mixed (fun _=>True) trivial (by kernel_rfl) ?_
 refine Qn 0 rfl (Qf [_,_]) (Qn 1 rfl Qls (Qn 2 rfl (Qf [_]) (Qn 3 rfl Qls (Qn 4 rfl Qle ?_))))
 refine Qn 5 rfl (Qc rfl (l_price _)) ?_
 refine Qn 6 rfl (Qc rfl (l_price _)) ?_
 refine Qn 7 rfl (Qc rfl (l_two _ _ _)) ?_
 refine Qn 8 rfl (Qc rfl (l_two _ _ _)) ?_
 refine Qn 9 rfl (Qc rfl (l_not _)) ?_
 refine Qn 10 rfl (Qc rfl (c_clauses)) ?_
 refine Qn 11 rfl Qmu (Qn 12 rfl Qxs (Qn 13 rfl Qxi (Qn 14 rfl Qas (Qn 15 rfl Qai ?_))))
 refine Canon.done _ _ (by kernel_rfl) ?_
 refine thenN (Qsr (Qp Qle (Qp (Qbd [.int .i64 _,_,.int .i64 _,.int .i64 _,.int .i64 _,.int .i64 _,.int .i64 _,.str _,.bool _]) ?_)))
 refine Qe (E_alloc (l:=[.int .i64 0,.sl 8 [],.int .i64 0,.int .i64 0,.int .i64 0,.int .i64 0,.int .i64 0,.str [],.bool false]) (by kernel_rfl)) ?_
 rintro _ _ ⟨b5,rfl,rfl⟩
 refine Qe (E_store (k:=0) (v:=.agg _) (cs':=[.int .i64 _,_,.int .i64 _,.int .i64 _,.int .i64 _,.int .i64 _,.int .i64 _,.str _,.bool _]) (H2:=_::_) tok rfl rfl rfl rfl (rfl) rfl rfl rfl rfl) ?_
 rintro _ _ ⟨rfl,rfl⟩
 refine AOL.ghost (GS.freeze (t:=5) 0 rfl rfl) ?_
 refine Qnn (AW.seq (AW.seq ?_))
 refine AW.draw mixed (fun _=>True) trivial (by kernel_rfl) ?_
 refine Qn 0 rfl Qmi (Qn 1 rfl Qcne (Qn 2 rfl Qmb (Qo 3 rfl [] Qw Qms (Qo 4 rfl [] Qw (Qlg [.int .i64 _,_,.int .i64 _,.int .i64 _,.int .i64 _,.int .i64 _,.int .i64 _,.str _,.bool _]) ?_))))
 refine Qo 5 rfl [] Qw (Qc rfl (l_price _)) ?_
 refine Qo 6 rfl [] Qw (Qc rfl (l_price _)) ?_
 refine Canon.pure _ _ 7 _ _ rfl (by kernel_rfl) (by kernel_rfl) rfl (.opt _ (.agg _) [(43,_),(44,_)] rfl (EntL.all ⟨Ent.self _ _,Ent.self _ _,trivial⟩) (fun hG=>P_callf (by kernel_rfl) rfl rfl (l_two _ _ _)) rfl) ?_
 refine Qo 8 rfl [(45,_)] Qw (Qbd [.int .i64 _,_,.int .i64 _,.int .i64 _,.int .i64 _,.int .i64 _,.int .i64 _,.str _,.bool _]) ?_
 refine Canon.pure _ _ 9 _ _ rfl (by kernel_rfl) (by kernel_rfl) rfl (.opt _ (.sl _ _) [(42,_),(46,_)] rfl (EntL.all ⟨Ent.self _ _,Ent.self _ _,trivial⟩) (fun hG=>P_buildSlice (es:=[[.int .i64 _,_,.int .i64 _,.int .i64 _,.int .i64 _,.int .i64 _,.int .i64 _,.str _,.bool _],[.int .i64 _,_,.int .i64 _,.int .i64 _,.int .i64 _,.int .i64 _,.int .i64 _,.str _,.bool _]]) tok rfl rfl rfl rfl rfl rfl rfl rfl rfl) rfl) ?_
 refine Qo 10 rfl [] Qw (Qlg [.int .i64 _,_,.int .i64 _,.int .i64 _,.int .i64 _,.int .i64 _,.int .i64 _,.str _,.bool _]) ?_
 refine Qo 11 rfl [] Qw (Qc rfl (l_price _)) ?_
 refine Qo 12 rfl [] Qw (Qc rfl (l_price _)) ?_
 refine Canon.pure _ _ 13 _ _ rfl (by kernel_rfl) (by kernel_rfl) rfl (.opt _ (.agg _) [(49,_),(50,_)] rfl (EntL.all ⟨Ent.self _ _,Ent.self _ _,trivial⟩) (fun hG=>P_callf (by kernel_rfl) rfl rfl (l_two _ _ _)) rfl) ?_
 refine Qo 14 rfl [(51,_)] Qw (Qbd [.int .i64 _,_,.int .i64 _,.int .i64 _,.int .i64 _,.int .i64 _,.int .i64 _,.str _,.bool _]) ?_
 refine Canon.pure _ _ 15 _ _ rfl (by kernel_rfl) (by kernel_rfl) rfl (.opt _ (.sl _ _) [(48,_),(52,_)] rfl (EntL.all ⟨Ent.self _ _,Ent.self _ _,trivial⟩) (fun hG=>P_buildSlice (es:=[[.int .i64 _,_,.int .i64 _,.int .i64 _,.int .i64 _,.int .i64 _,.int .i64 _,.str _,.bool _],[.int .i64 _,_,.int .i64 _,.int .i64 _,.int .i64 _,.int .i64 _,.int .i64 _,.str _,.bool _]]) tok rfl rfl rfl rfl rfl rfl rfl rfl rfl) rfl) ?_
 refine Canon.pure _ _ 16 _ _ rfl (by kernel_rfl) (by kernel_rfl) rfl (.opt _ (.sl _ _) [(47,_),(53,_)] rfl (EntL.all ⟨Ent.self _ _,Ent.self _ _,trivial⟩) (fun hG=>P_buildSlice (es:=[[_],[_]]) tok rfl rfl rfl rfl rfl rfl rfl rfl rfl) rfl) ?_
 refine Canon.pure _ _ 17 _ _ rfl (by kernel_rfl) (by kernel_rfl) rfl (.opt _ (.bool _) [(41,_),(54,_)] rfl (EntL.all ⟨Ent.self _ _,Ent.self _ _,trivial⟩) (fun hG=>P_callf (by kernel_rfl) rfl rfl (c_same)) rfl) ?_
 refine Qo 18 rfl [(55,_)] Qw Qnt (Qn 19 rfl Qpo ?_)
 refine Canon.done _ _ (by kernel_rfl) ?_
 refine thenN (Qif (fun hc1=>?_) fun hc1=>?_)
 ·
  cases hc1
 ·
  refine Qst (AW.seq ?_)
  refine AW.draw mixed (fun _=>True) trivial (by kernel_rfl) ?_
  refine Qn 0 rfl (Qf [_,_]) (Qn 1 rfl Qls (Qn 2 rfl (Qf [_]) (Qn 3 rfl Qls (Qn 4 rfl Qms ?_))))
  refine Qn 5 rfl (P_indexAddr (c:=[_]) tok rfl rfl rfl rfl rfl rfl (by decide) (rfl)) ?_
  refine Qn 6 rfl Qls ?_
  refine Qn 7 rfl (Qc rfl (c_zone)) ?_
  refine Qn 8 rfl Qmu ?_
  refine Qn 9 rfl (P_extract (v:=.agg [.int .i64 _,_]) rfl rfl) ?_
  refine Qn 10 rfl Qxs (Qn 11 rfl Qxi ?_)
  refine Canon.eff _ _ 12 _ _ rfl (by kernel_rfl) rfl rfl (E_alloc (l:=[.int .i64 0,.sl 3 []]) (by kernel_rfl)) (fun _ _ _=>trivial) ?_
  rintro _ _ ⟨b6,rfl,rfl⟩
  refine Canon.eff _ _ 13 _ _ rfl (by kernel_rfl) rfl rfl (E_store (k:=0) (v:=.agg _) (cs':=[.int .i64 _,_]) (H2:=_::_) tok rfl rfl rfl rfl (rfl) rfl rfl rfl rfl) (fun _ _ _=>trivial) ?_
  rintro _ _ ⟨rfl,rfl⟩
  refine Qn 14 rfl Qas (Qn 15 rfl Qai ?_)
  refine Canon.done _ _ (by kernel_rfl) ?_
  refine thenN ?_
  refine AW.ghost (GS.freeze (t:=6) 0 rfl rfl) ?_
  refine Qsr (Qp (Qbd [.int .i64 _,.int .i64 _,.int .i64 _]) (Qp (Qbd [.int .i64 _,.int .i64 _,.int .i64 _]) (Qp (Qbd [.int .i64 _,.int .i64 _,.int .i64 _]) (Qp (Qbd [.int .i64 _,.int .i64 _,.int .i64 _]) (Qp (Qbd [.int .i64 _,.int .i64 _,.int .i64 _]) (Qp (Qbd [.int .i64 _,.int .i64 _,.int .i64 _]) ?_))))))
  refine Qp (P_buildSlice (es:=[[.int .i64 _,.int .i64 _,.int .i64 _],[.int .i64 _,.int .i64 _,.int .i64 _],[.int .i64 _,.int .i64 _,.int .i64 _],[.int .i64 _,.int .i64 _,.int .i64 _],[.int .i64 _,.int .i64 _,.int .i64 _],[.int .i64 _,.int .i64 _,.int .i64 _]]) tok rfl rfl rfl rfl rfl rfl rfl rfl rfl) ?_
  refine Qp (Qbd [.int .i64 _,_]) ?_
  refine Qe (E_alloc (l:=[.int .i64 0,.sl 3 []]) (by kernel_rfl)) ?_
  rintro _ _ ⟨b9,rfl,rfl⟩
  refine Qe (E_store (k:=0) (v:=.agg _) (cs':=[.int .i64 _,_]) (H2:=_::_) tok rfl rfl rfl rfl (rfl) rfl rfl rfl rfl) ?_
  rintro _ _ ⟨rfl,rfl⟩
  refine AOL.ghost (GS.freeze (t:=9) 0 rfl rfl) ?_
  refine Qnn (AW.seq (Qsr (Qp Qmi (Qp Qcne (Qp Qmb (Qg [] Qw (Qlg [.int .i64 _,_]) (Qg [] Qw (Qlg [.int .i64 _,_]) ?_)))))))
  refine AOL.g (y:=.bool _) _ [(81,_),(82,_)] rfl (EntL.all ⟨Ent.self _ _,Ent.self _ _,trivial⟩) (fun hG=>P_callf (by kernel_rfl) rfl rfl (c_sameZ)) rfl ?_
  refine Qg [(83,_)] Qw Qnt (Qp Qpo (Qp Qmb (Qg [] Qw Qms ?_)))
  refine Qg [] Qw (Qc rfl (l_price _)) ?_
  refine Qg [] Qw (Qc rfl (l_price _)) ?_
  refine AOL.g (y:=.sl _ _) _ [(88,_),(89,_)] rfl (EntL.all ⟨Ent.self _ _,Ent.self _ _,trivial⟩) (fun hG=>P_buildSlice (es:=[[.int .i64 _,_,.int .i64 _,.int .i64 _,.int .i64 _,.int .i64 _,.int .i64 _,.str _],[.int .i64 _,_,.int .i64 _,.int .i64 _,.int .i64 _,.int .i64 _,.int .i64 _,.str _]]) tok rfl rfl rfl rfl rfl rfl rfl rfl rfl) rfl ?_
  refine AOL.g (y:=.bool _) _ [(87,_),(90,_)] rfl (EntL.all ⟨Ent.self _ _,Ent.self _ _,trivial⟩) (fun hG=>P_callf (by kernel_rfl) rfl rfl (c_sameA)) rfl ?_
  refine Qg [(91,_)] Qw Qnt (Qp Qpo (Qnn (Qif (fun hc2=>?_) fun hc2=>?_)))
  ·
   cases hc2
  ·
   refine Qst (Qsr ?_)
   refine Qp (Qc rfl (l_price _)) ?_
   refine Qp (Qc rfl (l_price _)) ?_
   refine Qp (Qc rfl (l_two _ _ _)) ?_
   refine Qe (E_alloc (l:=[.int .i64 0,.sl 8 [],.int .i64 0,.int .i64 0,.int .i64 0,.int .i64 0,.int .i64 0,.str []]) (by kernel_rfl)) ?_
   rintro _ _ ⟨b10,rfl,rfl⟩
   refine Qe (E_store (k:=0) (v:=.agg _) (cs':=[.int .i64 _,_,.int .i64 _,.int .i64 _,.int .i64 _,.int .i64 _,.int .i64 _,.str _]) (H2:=_::_) tok rfl rfl rfl rfl (rfl) rfl rfl rfl rfl) ?_
   rintro _ _ ⟨rfl,rfl⟩
   refine AOL.ghost (GS.freeze (t:=10) 0 rfl rfl) ?_
   refine Qns ?_
   refine Qp (P_assign (v:=.fn _ _ _) rfl) ?_
   refine Qns (Qp (Qbd [.int .i64 _,.int .i64 _,.str _]) (Qp (Qbd [.int .i64 _,_,.int .i64 _,.int .i64 _,.int .i64 _,.int .i64 _,.int .i64 _,.str _]) ?_))
   refine Qe (E_alloc (l:=[.int .i64 0,.sl 8 [],.int .i64 0,.int .i64 0,.int .i64 0,.int .i64 0,.int .i64 0,.str []]) (by kernel_rfl)) ?_
   rintro _ _ ⟨b12,rfl,rfl⟩
   refine Qe (E_store (k:=0) (v:=.agg _) (cs':=[.int .i64 _,_,.int .i64 _,.int .i64 _,.int .i64 _,.int .i64 _,.int .i64 _,.str _]) (H2:=_::_) tok rfl rfl rfl rfl (rfl) rfl rfl rfl rfl) ?_
   rintro _ _ ⟨rfl,rfl⟩
   refine AOL.ghost (GS.freeze (t:=12) 0 rfl rfl) ?_
   refine Qns (Qp (Qbd [.int .i64 _,_,.int .i64 _,.int .i64 _,.int .i64 _,.int .i64 _,.int .i64 _,.str _]) ?_)
   refine Qp (Qc rfl (l_number _)) ?_
   refine Qp (Qc rfl (l_two 9 ⟨3,[],0,0,0,v0⟩ (numE 2))) ?_
   refine Qe (E_alloc (l:=[.int .i64 0,.sl 8 [],.int .i64 0,.int .i64 0,.int .i64 0,.int .i64 0,.int .i64 0,.str []]) (by kernel_rfl)) ?_
   rintro _ _ ⟨b13,rfl,rfl⟩
   refine Qe (E_store (k:=0) (v:=.agg _) (cs':=[.int .i64 _,_,.int .i64 _,.int .i64 _,.int .i64 _,.int .i64 _,.int .i64 _,.str _]) (H2:=_::_) tok rfl rfl rfl rfl (rfl) rfl rfl rfl rfl) ?_
   rintro _ _ ⟨rfl,rfl⟩
   refine AOL.ghost (GS.freeze (t:=13) 0 rfl rfl) ?_
   refine Qnn (AW.seq ?_)
   refine AW.draw mixed (fun _=>True) trivial (by kernel_rfl) ?_
   refine Qn 0 rfl (Qf [_,_]) (Qn 1 rfl Qls (Qn 2 rfl (Qf [_]) (Qn 3 rfl Qls (Qn 4 rfl Qle ?_))))
   refine Qn 5 rfl (Qc rfl (l_price _)) ?_
   refine Qn 6 rfl (Qc rfl (l_number _)) ?_
   refine Qn 7 rfl (Qc rfl (l_two _ _ _)) ?_
   refine Qn 8 rfl (Qc rfl (c_imp1)) ?_
   refine Qn 9 rfl Qmu (Qn 10 rfl Qxi (Qn 11 rfl Qxi (Qn 12 rfl Qai (Qn 13 rfl Qai ?_))))
   refine Canon.done _ _ (by kernel_rfl) ?_
   refine thenN (AW.seq ?_)
   refine AW.draw mixed (fun _=>True) trivial (by kernel_rfl) ?_
   refine Qn 0 rfl (Qf [_,_]) (Qn 1 rfl Qls (Qn 2 rfl (Qf [_]) (Qn 3 rfl Qls ?_)))
   refine Qn 4 rfl (Qc rfl (l_price _)) ?_
   refine Qn 5 rfl (Qc rfl (l_number _)) ?_
   refine Qn 6 rfl (Qc rfl (l_two _ _ _)) ?_
   refine Qn 7 rfl Qle ?_
   refine Qn 8 rfl (Qc rfl (c_imp2)) ?_
   refine Qn 9 rfl Qmu (Qn 10 rfl Qxi (Qn 11 rfl Qxi (Qn 12 rfl Qai (Qn 13 rfl Qai ?_))))
   refine Canon.done _ _ (by kernel_rfl) ?_
   refine thenN (AW.seq ?_)
   refine AW.draw mixed (fun _=>True) trivial (by kernel_rfl) ?_
   refine Qn 0 rfl Qle ?_
   refine Qn 1 rfl (P_move (v:=.fn _ _ _) rfl) ?_
   refine Qn 2 rfl (P_call (by kernel_rfl) rfl rfl rfl (l_down 1)) ?_
   refine Qn 3 rfl (P_buildSlice (es:=[[.int .i64 _,_,.int .i64 _,.int .i64 _,.int .i64 _,.int .i64 _,.int .i64 _,.str _],[.int .i64 _,_,.int .i64 _,.int .i64 _,.int .i64 _,.int .i64 _,.int .i64 _,.str _]]) tok rfl rfl rfl rfl rfl rfl rfl rfl rfl) ?_
   refine Qn 4 rfl (Qc rfl (l_verdictC 2 [upE,downE 1] (by decide) (ex_sizes _ (by decide)) ver_1)) ?_
   refine Qn 5 rfl Qmb (Qo 6 rfl [] Qw Qle ?_)
   refine Canon.pure _ _ 7 _ _ rfl (by kernel_rfl) (by kernel_rfl) rfl (.opt _ (.fn _ _ _) [] rfl (EntL.all trivial) (fun hG=>P_move (v:=.fn _ _ _) rfl) rfl) ?_
   refine Canon.pure _ _ 8 _ _ rfl (by kernel_rfl) (by kernel_rfl) rfl (.opt _ (.agg _) [(133,_)] rfl (EntL.all ⟨Ent.self _ _,trivial⟩) (fun hG=>P_call (by kernel_rfl) rfl rfl rfl (l_down 2)) rfl) ?_
   refine Canon.pure _ _ 9 _ _ rfl (by kernel_rfl) (by kernel_rfl) rfl (.opt _ (.sl _ _) [(132,_),(134,_)] rfl (EntL.all ⟨Ent.self _ _,Ent.self _ _,trivial⟩) (fun hG=>P_buildSlice (es:=[[.int .i64 _,_,.int .i64 _,.int .i64 _,.int .i64 _,.int .i64 _,.int .i64 _,.str _],[.int .i64 _,_,.int .i64 _,.int .i64 _,.int .i64 _,.int .i64 _,.int .i64 _,.str _]]) tok rfl rfl rfl rfl rfl rfl rfl rfl rfl) rfl) ?_
   refine Qo 10 rfl [(135,_)] Qw (Qc rfl (l_verdictC 1 [upE,downE 2] (by decide) (ex_sizes _ (by decide)) ver_2)) ?_
   refine Qn 11 rfl Qpa (Qn 12 rfl Qmb ?_)
   refine Qo 13 rfl [] Qw (Qc rfl (l_symbol _)) ?_
   refine Qo 14 rfl [] Qw Qle ?_
   refine Canon.pure _ _ 15 _ _ rfl (by kernel_rfl) (by kernel_rfl) rfl (.opt _ (.agg _) [(139,_),(140,_)] rfl (EntL.all ⟨Ent.self _ _,Ent.self _ _,trivial⟩) (fun hG=>P_callf (by kernel_rfl) rfl rfl (l_two 9 (symE 0) textE)) rfl) ?_
   refine Qo 16 rfl [] Qw (Qc rfl (l_symbol _)) ?_
   refine Qo 17 rfl [] Qw (Qc rfl (l_symbol _)) ?_
   refine Canon.pure _ _ 18 _ _ rfl (by kernel_rfl) (by kernel_rfl) rfl (.opt _ (.agg _) [(142,_),(143,_)] rfl (EntL.all ⟨Ent.self _ _,Ent.self _ _,trivial⟩) (fun hG=>P_callf (by kernel_rfl) rfl rfl (l_two 9 (symE 1) (symE 0))) rfl) ?_
   refine Qo 19 rfl [] Qw (Qc rfl (l_symbol _)) ?_
   refine Qo 20 rfl [] Qw Qle ?_
   refine Canon.pure _ _ 21 _ _ rfl (by kernel_rfl) (by kernel_rfl) rfl (.opt _ (.agg _) [(145,_),(146,_)] rfl (EntL.all ⟨Ent.self _ _,Ent.self _ _,trivial⟩) (fun hG=>P_callf (by kernel_rfl) rfl rfl (l_two 9 (symE 1) textE)) rfl) ?_
   refine Qo 22 rfl [(147,_)] Qw (Qc rfl (l_not (two 9 (symE 1) textE))) ?_
   refine Canon.pure _ _ 23 _ _ rfl (by kernel_rfl) (by kernel_rfl) rfl (.opt _ (.sl _ _) [(141,_),(144,_),(148,_)] rfl (EntL.all ⟨Ent.self _ _,Ent.self _ _,Ent.self _ _,trivial⟩) (fun hG=>P_buildSlice (es:=[[.int .i64 _,_,.int .i64 _,.int .i64 _,.int .i64 _,.int .i64 _,.int .i64 _,.str _],[.int .i64 _,_,.int .i64 _,.int .i64 _,.int .i64 _,.int .i64 _,.int .i64 _,.str _],[.int .i64 _,_,.int .i64 _,.int .i64 _,.int .i64 _,.int .i64 _,.int .i64 _,.str _]]) tok rfl rfl rfl rfl rfl rfl rfl rfl rfl) rfl) ?_
   refine Qo 24 rfl [(149,_)] Qw (Qc rfl (l_verdictC 2 [two 9 (symE 0) textE,two 9 (symE 1) (symE 0),notE (two 9 (symE 1) textE)] (by decide) (ex_sizes _ (by decide)) ver_3)) ?_
   refine Qn 25 rfl Qpa (Qn 26 rfl Qmb (Qo 27 rfl [] Qw Qle ?_))
   refine Canon.pure _ _ 28 _ _ rfl (by kernel_rfl) (by kernel_rfl) rfl (.opt _ (.sl _ _) [(153,_)] rfl (EntL.all ⟨Ent.self _ _,trivial⟩) (fun hG=>P_buildSlice (es:=[[.int .i64 _,_,.int .i64 _,.int .i64 _,.int .i64 _,.int .i64 _,.int .i64 _,.str _]]) tok rfl rfl rfl rfl rfl rfl rfl rfl rfl) rfl) ?_
   refine Qo 29 rfl [(154,_)] Qw (Qc rfl (l_verdictC 0 [countE] (by decide) (ex_sizes _ (by decide)) ver_4)) ?_
   refine Qn 30 rfl Qpa (Qn 31 rfl Qmb (Qo 32 rfl [] Qw Qle ?_))
   refine Qo 33 rfl [] Qw (Qc rfl (l_price _)) ?_
   refine Qo 34 rfl [] Qw (Qc rfl (l_price _)) ?_
   refine Canon.pure _ _ 35 _ _ rfl (by kernel_rfl) (by kernel_rfl) rfl (.opt _ (.agg _) [(159,_),(160,_)] rfl (EntL.all ⟨Ent.self _ _,Ent.self _ _,trivial⟩) (fun hG=>P_callf (by kernel_rfl) rfl rfl (l_two _ _ _)) rfl) ?_
   refine Canon.pure _ _ 36 _ _ rfl (by kernel_rfl) (by kernel_rfl) rfl (.opt _ (.sl _ _) [(158,_),(161,_)] rfl (EntL.all ⟨Ent.self _ _,Ent.self _ _,trivial⟩) (fun hG=>P_buildSlice (es:=[[.int .i64 _,_,.int .i64 _,.int .i64 _,.int .i64 _,.int .i64 _,.int .i64 _,.str _],[.int .i64 _,_,.int .i64 _,.int .i64 _,.int .i64 _,.int .i64 _,.int .i64 _,.str _]]) tok rfl rfl rfl rfl rfl rfl rfl rfl rfl) rfl) ?_
   refine Qo 37 rfl [(162,_)] Qw (Qc rfl (l_verdictC 2 [countE,two 7 (priE 0) (priE 0)] (by decide) (ex_sizes _ (by decide)) ver_5)) ?_
   refine Qn 38 rfl Qpa (Qn 39 rfl Qmb (Qo 40 rfl [] Qw Qmi (Qo 41 rfl [] Qw Qmi ?_)))
   refine Canon.pure _ _ 42 _ _ rfl (by kernel_rfl) (by kernel_rfl) rfl (.opt _ (.int .i64 _) [(166,_),(167,_)] rfl (EntL.all ⟨Ent.self _ _,Ent.self _ _,trivial⟩) (fun hG=>P_add rfl rfl rfl (by constructor <;> omega)) rfl) ?_
   refine Qo 43 rfl [(168,_)] Qw Qceq (Qn 44 rfl Qpa (Qn 45 rfl Qmb (Qo 46 rfl [] Qw Qmi (Qo 47 rfl [(172,_)] Qw Qceq (Qn 48 rfl Qpa (Qn 49 rfl Qmb (Qo 50 rfl [] Qw Qmi (Qo 51 rfl [(176,_)] Qw Qceq (Qn 52 rfl Qpa ?_)))))))))
   refine Qn 53 rfl Qab ?_
   refine Canon.done _ _ (by kernel_rfl) ?_
   refine thenN (AW.ret ?_)
   refine Qr (.bool _) ?_
   rfl


set_option maxRecDepth 100000
theorem Negate_size (e:Ex):sizeN (NegateS e).1≤1048576:=by
 unfold NegateS
 split
 · exact (show sizeN ex0≤1048576 by decide)
 ·
  rename_i h1
  split
  · exact (show sizeN ex0≤1048576 by decide)
  ·
   rename_i h2
   exact Nat.le_trans (check_size (Bool.eq_false_iff.2 h2)) (by decide)
theorem Clauses_size (T:List Sc)(V:List Va)(e:Ex):(ClausesS T V e).1.length≤1048576∧(∀c∈(ClausesS T V e).1,c.length≤1048576)∧∀c∈(ClausesS T V e).1,∀x∈c,sizeN x.cond≤1048576:=by
  have h0:∀n:Int,(([]:List (List Lit)),n).1.length≤1048576∧(∀c∈(([]:List (List Lit)),n).1,c.length≤1048576)∧∀c∈(([]:List (List Lit)),n).1,∀x∈c,sizeN x.cond≤1048576:=fun n=>⟨by simp,by simp,by simp⟩
  cases h1:(condE T V e != 0) with
  | true=>rw [Clauses_1 h1];exact h0 _
  | false=>
    cases h2:(!(normS T V e true).2) with
    | true=>rw [Clauses_2 h1 h2];exact h0 _
    | false=>
      rw [Clauses_3 h1 h2]
      have hk:=(condE_kc h1).1
      have hn:=norm_ok e hk.kok true
      have hl:=norm_lits e hk.kok true
      have hz:=kc_size hk
      exact ⟨Nat.le_trans hn.len (by omega),fun c hc=>Nat.le_trans (hn.lits c hc) (by omega),fun c hc x hx=>Nat.le_trans (hl c hc x hx).2 (by omega)⟩
theorem one_size {e:Ex}(h:sizeN e≤1048576):∀x∈[e],sizeN x≤1048576:=fun x hx=>by rw [List.mem_singleton.1 hx];exact h
theorem l_fewC (T:List Sc)(hl:T.length≤1048576)(hst:∀s∈T,scOK s)(V:List Va)(hvl:V.length≤1048576)(es:List Ex)(hel:es.length≤1048576)(hes:∀e∈es,sizeN e≤1048576):APure Tryz.prog 9 [.agg (cScene T V),.sl 8 (es.map cE)] (.bool (fewP T V es)):=by
 have h:=l_few T hl hst V hvl es hel hes
 rw [show es.map encE=es.map cE from List.map_congr_left fun e _=>encE_eq e] at h
 exact h
set_option maxHeartbeats 6400000
set_option maxRecDepth 20000

theorem l_scene (T:List Sc)(hl:T.length≤1048576)(hst:∀s∈T,scOK s)(V:List Va)(hvl:V.length≤1048576)(l:List Ev)(hel:l.length≤1048576)(e:Ex)(hs:sizeN e≤1048576):APure Tryz.prog 23 [.agg (cScene T V),.sl 5 (l.map cEv),.agg (cE e)] (.bool (sceneS T V l e)):=by
 refine APure.body (n:=38) tok Tryz.func23 rfl rfl rfl fun H=>?_
 refine Qsr (Qp (Qbx [_,_]) (Qp Qbe (Qp Qab (Qns (Qp (Qlg [_,_]) (Qp Qle ?_))))))
 refine Qp (P_buildSlice (es:=[[.int .i64 _,_,.int .i64 _,.int .i64 _,.int .i64 _,.int .i64 _,.int .i64 _,.str _]]) tok rfl rfl rfl rfl rfl rfl rfl rfl rfl) ?_
 refine Qp (Qc rfl (l_fewC T hl hst V hvl [e] (show (1:Nat)≤_ by decide) (one_size hs))) ?_
 refine Qp Qmb (Qg [] Qw Qms ?_)
 refine Qg [(12,_)] Qw (Qc rfl (r_FewAll l)) ?_
 refine Qp Qpa (Qp Qmb (Qg [] Qw (Qf [_,_]) (Qg [(16,_)] Qw Qls ?_)))
 refine Qg [(17,_)] Qw (Qc rfl (c59 T hl hst)) ?_
 refine Qg [(18,_)] Qw Qceq (Qp Qpa (Qp Qmb (Qg [] Qw (Qf [_,_]) (Qg [(22,_)] Qw Qls (Qg [] Qw (Qf [_]) (Qg [(24,_)] Qw Qls (Qg [] Qw Qms ?_)))))))
 refine AOL.g (y:=.bool _) _ [(23,_),(25,_),(26,_)] rfl (EntL.all ⟨Ent.self _ _,Ent.self _ _,Ent.self _ _,trivial⟩) (fun hG=>P_callf (by kernel_rfl) rfl rfl (r_Suits T hl hst V hvl l hel)) rfl ?_
 refine Qp Qpa (Qp Qmb (Qg [] Qw (Qf [_,_]) (Qg [(30,_)] Qw Qls (Qg [] Qw (Qf [_]) (Qg [(32,_)] Qw Qls (Qg [] Qw Qle ?_))))))
 refine AOL.g (y:=.int .i64 _) _ [(31,_),(33,_),(34,_)] rfl (EntL.all ⟨Ent.self _ _,Ent.self _ _,Ent.self _ _,trivial⟩) (fun hG=>P_callf (by kernel_rfl) rfl rfl (r_Condition T hl hst V hvl e hs)) rfl ?_
 refine Qg [(35,_)] Qw Qceq (Qp Qpa (Qp Qab (Qnn (AW.ret ?_))))
 refine Qr (.bool _) ?_
 rfl
theorem l_ConditionSplits (T:List Sc)(hl:T.length≤1048576)(hst:∀s∈T,scOK s)(V:List Va)(hvl:V.length≤1048576)(l:List Ev)(hel:l.length≤1048576)(e:Ex)(hs:sizeN e≤1048576):APure Tryz.prog 6 [.agg (cScene T V),.sl 5 (l.map cEv),.agg (cE e)] (.bool true):=by
 refine APure.body (n:=121) tok Tryz.func6 rfl rfl rfl fun H=>?_
 refine Qsr (Qp (Qbx [_,_]) (Qp Qbe (Qp Qab (Qnn (AW.seq (Qsr (Qp (Qlg [_,_]) (Qp Qms (Qp Qle ?_)))))))))
 refine Qp (Qc rfl (l_scene T hl hst V hvl l hel e hs)) ?_
 refine Qp Qnt (Qnn (Qif (fun hc1=>?_) fun hc1=>?_))
 ·
  refine Qsr ?_
  refine Qp (Qc rfl (l_awake)) ?_
  refine Qp Qab (Qnn (Qrt ?_))
  refine Qr (.bool _) ?_
  rfl
 ·
  have hok:=scene_ok (by simpa using hc1)
  have hcz:=Clauses_size T V e
  refine Qst (Qsr (Qp Qms ?_))
  refine Qp (Qc rfl (r_Bind l hel)) ?_
  refine Qe (E_alloc (l:=[.sl 1 []]) (by kernel_rfl)) ?_
  rintro _ _ ⟨b7,rfl,rfl⟩
  refine Qe (E_store (k:=0) (v:=.agg _) (cs':=[_]) (H2:=_::_) tok rfl rfl rfl rfl (rfl) rfl rfl rfl rfl) ?_
  rintro _ _ ⟨rfl,rfl⟩
  refine AOL.ghost (GS.freeze (t:=7) 0 rfl rfl) ?_
  refine Qns (Qp Qle (Qp (Qlg [_]) (Qp (Qbd [.int .i64 _,.int .i64 _,.int .i64 _,.int .i64 _,_]) ?_)))
  refine Qp (Qc rfl (c16 (bindS l) (-1) ev0 (bind_len l) e hs)) ?_
  refine Qp Qab (Qns (Qp Qle ?_))
  refine Qp (Qc rfl (d_Negate e hs)) ?_
  refine Qp Qmu ?_
  refine Qp (P_extract (v:=.agg [.int .i64 _,_,.int .i64 _,.int .i64 _,.int .i64 _,.int .i64 _,.int .i64 _,.str _]) rfl rfl) ?_
  refine Qp Qxi ?_
  refine Qe (E_alloc (l:=[.int .i64 0,.sl 8 [],.int .i64 0,.int .i64 0,.int .i64 0,.int .i64 0,.int .i64 0,.str []]) (by kernel_rfl)) ?_
  rintro _ _ ⟨b9,rfl,rfl⟩
  refine Qe (E_store (k:=0) (v:=.agg _) (cs':=[.int .i64 _,_,.int .i64 _,.int .i64 _,.int .i64 _,.int .i64 _,.int .i64 _,.str _]) (H2:=_::_) tok rfl rfl rfl rfl (rfl) rfl rfl rfl rfl) ?_
  rintro _ _ ⟨rfl,rfl⟩
  refine Qp Qai ?_
  refine AOL.ghost (GS.freeze (t:=9) 0 rfl rfl) ?_
  refine Qnn (AW.seq (Qsr (Qp Qmi (Qp Qceq (Qp Qmb (Qg [] Qw Qle (Qg [] Qw (Qlg [_]) (Qg [] Qw (Qbd [.int .i64 _,.int .i64 _,.int .i64 _,.int .i64 _,_]) ?_))))))))
  refine AOL.g (y:=.bool _) _ [(39,_),(40,_),(41,_)] rfl (EntL.all ⟨Ent.self _ _,Ent.self _ _,Ent.self _ _,trivial⟩) (fun hG=>P_callf (by kernel_rfl) rfl rfl (c16 (bindS l) (-1) ev0 (bind_len l) _ (Negate_size e))) rfl ?_
  refine Qg [] Qw Qmb ?_
  refine AOL.g (y:=.bool _) _ [(42,_),(43,_)] rfl (EntL.all ⟨Ent.self _ _,Ent.self _ _,trivial⟩) (fun hG=>P_eql_bool tok rfl rfl rfl rfl) rfl ?_
  refine Qp Qpa (Qnn (Qif (fun hc2=>?_) fun hc2=>?_))
  ·
   exact absurd hc2 (by rw [hok.negB];decide)
  ·
   refine Qst (Qsr (Qp (Qf [_,_]) (Qp Qls (Qp (Qf [_]) (Qp Qls (Qp Qle ?_))))))
   refine Qp (Qc rfl (d_Clauses T hl hst V hvl e hs)) ?_
   refine Qp Qmu (Qp Qxs (Qp Qxi (Qp Qas (Qp Qai (Qnn (AW.seq (Qsr (Qp Qmi (Qp Qcne ?_)))))))))
   refine Qnn (Qif (fun hc3=>?_) fun hc3=>?_)
   ·
    refine Qsr (Qp Qmi (Qp Qceq (Qp Qmb (Qg [] Qw Qmi (Qg [(60,_)] Qw Qceq (Qg [(61,_)] Qw Qmb (Qg [] Qw Qmi (Qg [(63,_)] Qw Qceq (Qg [(62,_),(64,_)] Qw Qpo ?_)))))))))
    refine Qg [(65,_)] Qw Qmb (Qg [] Qw Qmi (Qg [(67,_)] Qw Qceq (Qg [(66,_),(68,_)] Qw Qpo (Qp Qpa (Qp Qmb ?_)))))
    refine Qg [] Qw (Qc rfl (l_awake)) ?_
    refine Qp Qpa (Qp Qab (Qnn (Qrt ?_)))
    refine Qr (.bool _) ?_
    have h17:=hok.clE.resolve_left (by simpa using hc3)
    exact congrArg AV.bool (by rw [h17,hok.negC];rfl)
   ·
    refine Qst (Qsr (Qp Qab (Qnn (AW.seq (Qsr (Qp Qms ?_))))))
    refine Qp (P_len_sl (n:=(ClausesS T V e).1.length) tok rfl rfl rfl (by simp)) ?_
    refine Qp Qmi (Qnn (AW.block ?_))
    refine AW.loopS (fun (p:Nat×Bool)=>(⟨[(7,.ptr (cEnv (bindS l))),(8,.bool (TruthS ⟨bindS l,-1,ev0⟩ e)),(10,.int .i64 (NegateS e).2),(13,.bool p.2),(74,.sl 1 ((ClausesS T V e).1.map cCl)),(75,.int .i64 (ClausesS T V e).1.length),(76,.int .i64 (p.1:Int))],H,121⟩:St)) (fun (p:Nat×Bool)=>p.1≤(ClausesS T V e).1.length∧p.2=((ClausesS T V e).1.take p.1).any fun c=>c.all (litU l)) (fun (p:Nat×Bool)=>(ClausesS T V e).1.length-p.1) ((0,false)) ?_ (GS.weaken ⟨rfl,rfl,rfl,rfl,rfl,rfl,rfl,trivial⟩ (.refl _)) ?_
    · exact ⟨Nat.zero_le _,rfl⟩
    ·
     rintro p hR
     have hcl0:=hcz.1
     refine Qsr (Qp Qclt (Qnn (AW.seq (Qif (fun hc4=>?_) fun hc4=>?_))))
     ·
      obtain ⟨c,hc⟩:=get_lt hc4
      have hlt:=get_lt' hc
      have hcm:=List.mem_of_getElem? hc
      have hcl:=hcz.2.1 c hcm
      refine Qst (AW.seq (AW.block (Qsr ?_)))
      refine Qp (P_indexAddr (c:=[_]) tok rfl rfl rfl rfl rfl rfl (by omega) (map_at hc)) ?_
      refine Qp Qls (Qp Qas (Qns (Qp Qab (Qnn (AW.seq (Qsr (Qp Qms ?_)))))))
      refine Qp (P_len_sl (n:=c.length) tok rfl rfl rfl (by simp)) ?_
      refine Qp Qmi (Qnn (AW.block ?_))
      refine AW.loopS (fun (q:Nat×Bool)=>(⟨[(7,.ptr (cEnv (bindS l))),(8,.bool (TruthS ⟨bindS l,-1,ev0⟩ e)),(10,.int .i64 (NegateS e).2),(13,.bool p.2),(16,.bool q.2),(74,.sl 1 ((ClausesS T V e).1.map cCl)),(75,.int .i64 (ClausesS T V e).1.length),(76,.int .i64 (p.1:Int)),(80,.sl 9 (c.map cLit)),(81,.int .i64 c.length),(82,.int .i64 (q.1:Int))],H,121⟩:St)) (fun (q:Nat×Bool)=>q.1≤c.length∧q.2=(c.take q.1).all (litU l)) (fun (q:Nat×Bool)=>c.length-q.1) ((0,true)) ?_ (GS.weaken ⟨rfl,rfl,rfl,rfl,rfl,rfl,rfl,rfl,rfl,rfl,rfl,trivial⟩ (.refl _)) ?_
      · exact ⟨Nat.zero_le _,rfl⟩
      ·
       rintro q hQ
       refine Qsr (Qp Qclt (Qnn (AW.seq (Qif (fun hc5=>?_) fun hc5=>?_))))
       ·
        obtain ⟨y,hy⟩:=get_lt hc5
        have hlty:=get_lt' hy
        have hsy:=hcz.2.2 c hcm y (List.mem_of_getElem? hy)
        refine Qst (AW.seq (AW.block (Qsr ?_)))
        refine Qp (P_indexAddr (c:=[.int .i64 _,_,.int .i64 _,.int .i64 _,.int .i64 _,.int .i64 _,.int .i64 _,.str _,.bool _]) tok rfl rfl rfl rfl rfl rfl (by omega) (map_at hy)) ?_
        refine Qp (Qlg [.int .i64 _,_,.int .i64 _,.int .i64 _,.int .i64 _,.int .i64 _,.int .i64 _,.str _,.bool _]) ?_
        refine Qe (E_alloc (l:=[.int .i64 0,.sl 8 [],.int .i64 0,.int .i64 0,.int .i64 0,.int .i64 0,.int .i64 0,.str [],.bool false]) (by kernel_rfl)) ?_
        rintro _ _ ⟨b18,rfl,rfl⟩
        refine Qe (E_store (k:=0) (v:=.agg _) (cs':=[.int .i64 _,_,.int .i64 _,.int .i64 _,.int .i64 _,.int .i64 _,.int .i64 _,.str _,.bool _]) (H2:=_::_) tok rfl rfl rfl rfl (rfl) rfl rfl rfl rfl) ?_
        rintro _ _ ⟨rfl,rfl⟩
        refine AOL.ghost (GS.freeze (t:=18) 0 rfl rfl) ?_
        refine Qnn ?_
        refine AW.draw mixed (fun _=>True) trivial (by kernel_rfl) ?_
        refine Qn 0 rfl Qmb (Qn 1 rfl Qmb (Qo 2 rfl [] Qw (Qf [.int .i64 _,_,.int .i64 _,.int .i64 _,.int .i64 _,.int .i64 _,.int .i64 _,.str _,.bool _]) (Qo 3 rfl [(88,_)] Qw Qle (Qo 4 rfl [] Qw (Qlg [_]) (Qo 5 rfl [] Qw (Qbd [.int .i64 _,.int .i64 _,.int .i64 _,.int .i64 _,_]) ?_)))))
        refine Canon.pure _ _ 6 _ _ rfl (by kernel_rfl) (by kernel_rfl) rfl (.opt _ (.bool _) [(89,_),(90,_),(91,_)] rfl (EntL.all ⟨Ent.self _ _,Ent.self _ _,Ent.self _ _,trivial⟩) (fun hG=>P_callf (by kernel_rfl) rfl rfl (c16 (bindS l) (-1) ev0 (bind_len l) y.cond hsy)) rfl) ?_
        refine Qo 7 rfl [] Qw (Qf [.bool _]) (Qo 8 rfl [(93,_)] Qw Qlb ?_)
        refine Canon.pure _ _ 9 _ _ rfl (by kernel_rfl) (by kernel_rfl) rfl (.opt _ (.bool _) [(92,_),(94,_)] rfl (EntL.all ⟨Ent.self _ _,Ent.self _ _,trivial⟩) (fun hG=>P_neq_bool tok rfl rfl rfl rfl) rfl) ?_
        refine Qn 10 rfl Qpa (Qn 11 rfl Qab ?_)
        refine Canon.done _ _ (by kernel_rfl) ?_
        refine blkN (thenN (AW.region (Qp Qad (Qp Qmi (Qnn ?_)))))
        refine ⟨(q.1+1,q.2&&litU l y),?_,?_,GS.weaken ⟨rfl,rfl,rfl,rfl,rfl,rfl,rfl,rfl,rfl,rfl,rfl,trivial⟩ (.refl _)⟩
        · exact ⟨hlty,by simp only;rw [all_take1 _ hy,hQ.2]⟩
        · simp only;omega
       ·
        have hte:=take_end hc5
        have hall:=hQ.2
        rw [hte] at hall
        refine AW.exit ?_
        refine thenE (thenE (blkHit (thenN (AW.region (Qp Qmb (Qp Qmb (Qg [] Qw Qmb (Qp Qpo (Qp Qab ?_)))))))))
        refine AOL.nil (blkN (thenN (AW.region (Qp Qad (Qp Qmi (Qnn ?_))))))
        refine ⟨(p.1+1,p.2||q.2),?_,?_,GS.weaken ⟨rfl,rfl,rfl,rfl,rfl,rfl,rfl,trivial⟩ (.refl _)⟩
        · exact ⟨hlt,by simp only;rw [any_take1 _ hc,hR.2,hall]⟩
        · simp only;omega
     ·
      have hte:=take_end hc4
      have hall:=hR.2
      rw [hte] at hall
      refine AW.exit ?_
      refine thenE (thenE (blkHit (thenN (Qsr (Qp Qmb (Qp Qmb ?_))))))
      refine Qp (P_eql_bool tok rfl rfl rfl rfl) ?_
      refine Qp Qmb (Qg [] Qw Qmi (Qg [(107,_)] Qw Qceq (Qg [(108,_)] Qw Qmb (Qg [] Qw Qmi (Qg [(110,_)] Qw Qceq (Qg [(109,_),(111,_)] Qw Qpo (Qg [(112,_)] Qw Qmb (Qg [] Qw Qmi (Qg [(114,_)] Qw Qceq ?_)))))))))
      refine Qg [(113,_),(115,_)] Qw Qpo (Qp Qpa (Qp Qmb ?_))
      refine Qg [] Qw (Qc rfl (l_awake)) ?_
      refine Qp Qpa (Qp Qab (Qnn (AW.ret ?_)))
      refine Qr (.bool _) ?_
      exact congrArg AV.bool (by rw [hall,hok.all (by simpa using hc3),hok.negC];simp)

open Go Go.Aw Go.ChangeShapes Go.WideShapes Go.ChangeAt Go.RowKit
set_option maxRecDepth 100000

theorem laid:laidOutB Tryz.prog=true:=by kernel_rfl
theorem own:ownKnob Tryz.prog.godebug=none:=by kernel_rfl
def pow10L:List Int:=[1,10,100,1000,10000,100000,1000000,10000000,100000000,1000000000,10000000000,100000000000,1000000000000,10000000000000,100000000000000,1000000000000000,10000000000000000,100000000000000000,1000000000000000000,10000000000000000000]
theorem pow_of {W : World} (h : laidMet Tryz.prog Rows.conditionKnowsRow.laid W) : Lib.TabIs Tryz.prog W "internal/strconv.uint64pow10" .u64 pow10L := by
 obtain ⟨ps,⟨_,_,_,_,_,_,_,_,_,_,⟨_,_,_,_,_,_,_,_,_,_,⟨g',t',cs,fuel,p,q,hg',ht',hvar,hd,_,_⟩,_⟩,_⟩,_⟩:=h
 obtain rfl := Option.some.inj ((show Tryz.prog.globalNamed "internal/strconv.uint64pow10" = some 0 by kernel_rfl).symm.trans hg')
 obtain rfl:=Option.some.inj ((show (Tryz.prog.globals[0]?).map (·.type)=some 266 by kernel_rfl).symm.trans ht')
 have:=Lib.cells_of_tab (k:=.u64) (zs:=pow10L) (n:=20) (e:=254) (by kernel_rfl) (by kernel_rfl) (by kernel_rfl) (by kernel_rfl) hd
 unfold Lib.TabIs
 rw [hvar,←this]
theorem pow_heap {W : World} (h : Lib.TabIs Tryz.prog W "internal/strconv.uint64pow10" .u64 pow10L) : ∃ T fr, W.heap[0]? = some (.cells (pow10L.map fun z => Value.int .u64 z).toArray T fr) := by
 have e : Tryz.prog.globalNamed "internal/strconv.uint64pow10" = some 0 := by kernel_rfl
 unfold Lib.TabIs World.var? at h
 rw [e] at h
 have hk:∀(X:Array Value) (o:Option Obj),(match o with | some (Obj.cells cs _ _)=>some cs | _=>none)=some X→∃T fr,o=some (Obj.cells X T fr):=by
  intro X o h
  match o,h with
  | some (Obj.cells cs T fr),h=>exact ⟨T,fr,by rw [Option.some.inj h]⟩
 exact hk _ _ h
theorem globOK {W:World}(h:laidMet Tryz.prog Rows.conditionKnowsRow.laid W)(hS:W.ShapedOpen Tryz.prog):GlobOK g0 W:=by
  have ht:=pow_of h
  refine ⟨fun p hp=>?_,fun p hp=>?_⟩
  · obtain rfl:=List.mem_singleton.1 hp
    refine ⟨pow10Cells,rfl,?_⟩
    have hcell : ∀ j, W.cell? ⟨0, j, none⟩ = (pow10L.map fun z => Value.int .u64 z).toArray[j]? := fun j => World.var?_cell (show Tryz.prog.globalNamed "internal/strconv.uint64pow10" = some 0 by kernel_rfl) ht j
    have hs:pow10Cells=pow10L.map fun z=>AV.int .u64 z:=rfl
    rw [hs]
    refine .ptr 0 0 _ (fun j=>Value.int .u64 (pow10L.getD j 0)) (fun j x hj=>?_) (fun j x hj=>?_)
    · rw [List.getElem?_map] at hj
      cases hq:pow10L[j]? with
      | none=>rw [hq] at hj;cases hj
      | some y=>
        refine ⟨trivial,?_⟩
        rw [Nat.zero_add,hcell j]
        simp [hq,List.getD_eq_getElem?_getD]
    · rw [List.getElem?_map] at hj
      cases hq:pow10L[j]? with
      | none=>rw [hq] at hj;cases hj
      | some y=>
        rw [hq] at hj
        simp only [Option.map_some,Option.some.injEq] at hj
        subst hj
        have e:pow10L.getD j 0=y:=by rw [List.getD_eq_getElem?_getD,hq];rfl
        rw [e]
        exact .int _ _
  · obtain rfl:=List.mem_singleton.1 hp
    exact ⟨rfl,pow_heap ht⟩
/-- A world for the witness: the settled one, with the tables as the program's text lays them. -/
def setTab (k:IntKind)(l:List Int):Obj→Obj
 | .cells _ t frozen=>.cells (l.map fun z=>Value.int k z).toArray t frozen
 | o=>o
def ofTab (d:DataW Unit):List Int:=match d with
 | .agg l=>l.map fun | .lit (.int _ n)=>n | _=>0
 | _=>[]
noncomputable def laidWorld (os:Os):World:=
 { World.holding Tryz.prog os ⟨#[],#[],[]⟩ with heap:=(((World.holding Tryz.prog os ⟨#[],#[],[]⟩).heap.modify 0 (setTab .u64 pow10L)).modify 1 (setTab .u8 (ofTab Rows.laid_math_bits_deBruijn32tab))).modify 2 (setTab .u8 (ofTab Rows.laid_math_bits_deBruijn64tab)) }
end Go.Proofs.YtkddpedfbicbeaaGreatDoor
