/-
  Several texts in one: W6, W8, W9, W10. No condition.
-/
import Derived.Test.YtjedflcpjlgokaaGreatDoorAz
import Derived.Test.YtjedflcpjlgokaaGreatDoorK07
import Derived.KernelRfl
import Derived.Test.YtjedflcpjlgokaaGreatDoorK02
import Derived.Test.YtjedflcpjlgokaaGreatDoorW4
set_option linter.unusedVariables false
set_option linter.unusedSimpArgs false
namespace Go.Proofs.YtjedflcpjlgokaaGreatDoor
open Go Go.Aw
set_option maxHeartbeats 400000
set_option maxRecDepth 20000

theorem c98 (op:Int):A1 Tryz.prog 145 [.int .i64 op] (.int .i64 (Fh op)):=by
  refine A1.body (n:=13) Aj Tryz.func145 rfl rfl rfl fun H=>?_
  refine AW.seq (AW.region (Qp Aq (AOL.nil (Ad (AW.seq (AW.seq (AW.region (Qp Az (AOL.nil ?_)))))))))
  refine Ad (AW.block ?_)
  refine AW.cut (fun (_:Unit)=>(⟨[(0,.int .i64 op),(3,.int .i64 op),(4,.bool (op==5||op==6||op==7||op==8))],H,13⟩:St)) (fun (_:Unit)=>True) ?_ ?_
  · skip
    refine AW.seq (AW.region (Qp Ba (Qp Bb (AOL.nil (Ad (A4 (fun hc1=>?_) fun hc1=>?_))))))
    · skip
      refine Bx ?_
      refine ⟨(),?_,GS.weaken ⟨rfl,rfl,congrArg AV.bool (by simp [Mp, *]),trivial⟩ (.refl _)⟩
      trivial
    · skip
      refine AW.seq (AW.region (Qp Ba (Qp Bb (AOL.nil (Ad (A4 (fun hc2=>?_) fun hc2=>?_))))))
      · skip
        refine Bx ?_
        refine ⟨(),?_,GS.weaken ⟨rfl,rfl,congrArg AV.bool (by simp [Mp, *]),trivial⟩ (.refl _)⟩
        trivial
      · skip
        refine AW.seq (AW.region (Qp Ba (Qp Bb (AOL.nil (Ad (A4 (fun hc3=>?_) fun hc3=>?_))))))
        · skip
          refine Bx ?_
          refine ⟨(),?_,GS.weaken ⟨rfl,rfl,congrArg AV.bool (by simp [Mp, *]),trivial⟩ (.refl _)⟩
          trivial
        · skip
          refine AW.region (Qp Ba (Qp Bb (AOL.nil (Ad ?_))))
          refine ⟨(),?_,GS.weaken ⟨rfl,rfl,congrArg AV.bool (by simp [Mp, *]),trivial⟩ (.refl _)⟩
          trivial
  · rintro _ _
    refine A4 (fun hc4=>?_) fun hc4=>?_
    · skip
      refine AW.seq (AW.region (Qp Aq (AOL.nil (Ad (AW.ret (A6 (Ai ?_)))))))
      refine Qr (Iq _) ?_
      try simp only [D0,Bool.and_true] at *
      first
        | (simp only [Ae,Fh];(first | rw [if_pos hc4] | skip);first | done | rfl)
        | (try simp only [Bool.not_eq_true',Bool.not_eq_false'] at *
           first
           | (simp only [Ae,Fh, *,Bool.false_eq_true,↓reduceIte,Bool.true_or,Bool.or_true,Bool.false_or,Bool.or_false,Bool.true_and,Bool.and_true,Bool.false_and,Bool.and_false,Bool.not_true,Bool.not_false];done)
           | (simp [Ae,Fh, *];done)
           | (simp_all [Ae,Fh];done))
        | skip
    · skip
      refine AW.cut (fun (_:Unit)=>(⟨[(0,.int .i64 op),(3,.int .i64 op),(9,.bool (op==10||op==11||op==12))],H,13⟩:St)) (fun (_:Unit)=>True) ?_ ?_
      · skip
        refine AW.seq (AW.region (Qp Ba (Qp Bb (AOL.nil (Ad (A4 (fun hc5=>?_) fun hc5=>?_))))))
        · skip
          refine Bx ?_
          refine ⟨(),?_,GS.weaken ⟨rfl,rfl,congrArg AV.bool (by simp [Mp, *]),trivial⟩ (.refl _)⟩
          trivial
        · skip
          refine AW.seq (AW.region (Qp Ba (Qp Bb (AOL.nil (Ad (A4 (fun hc6=>?_) fun hc6=>?_))))))
          · skip
            refine Bx ?_
            refine ⟨(),?_,GS.weaken ⟨rfl,rfl,congrArg AV.bool (by simp [Mp, *]),trivial⟩ (.refl _)⟩
            trivial
          · skip
            refine AW.region (Qp Ba (Qp Bb (AOL.nil (Ad ?_))))
            refine ⟨(),?_,GS.weaken ⟨rfl,rfl,congrArg AV.bool (by simp [Mp, *]),trivial⟩ (.refl _)⟩
            trivial
      · rintro _ _
        refine A4 (fun hc7=>?_) fun hc7=>?_
        · skip
          refine AW.seq (AW.region (Qp Aq (AOL.nil (Ad (AW.ret (A6 (Ai ?_)))))))
          refine Qr (Iq _) ?_
          try simp only [D0,Bool.and_true] at *
          first
            | (simp only [Ae,Fh];(first | rw [iN hc4] | skip);(first | rw [if_pos hc7] | skip);first | done | rfl)
            | (try simp only [Bool.not_eq_true',Bool.not_eq_false'] at *
               first
               | (simp only [Ae,Fh, *,Bool.false_eq_true,↓reduceIte,Bool.true_or,Bool.or_true,Bool.false_or,Bool.or_false,Bool.true_and,Bool.and_true,Bool.false_and,Bool.and_false,Bool.not_true,Bool.not_false];done)
               | (simp [Ae,Fh, *];done)
               | (simp_all [Ae,Fh];done))
            | skip
        · skip
          refine AW.skip (Bn (Ad (AW.seq (AW.region (Qp Aq (AOL.nil (Ad (AW.ret ?_))))))))
          refine Qr (Iq _) ?_
          try simp only [D0,Bool.and_true] at *
          first
            | (simp only [Ae,Fh];(first | rw [iN hc4] | skip);(first | rw [iN hc7] | skip);first | done | rfl)
            | (try simp only [Bool.not_eq_true',Bool.not_eq_false'] at *
               first
               | (simp only [Ae,Fh, *,Bool.false_eq_true,↓reduceIte,Bool.true_or,Bool.or_true,Bool.false_or,Bool.or_false,Bool.true_and,Bool.and_true,Bool.false_and,Bool.and_false,Bool.not_true,Bool.not_false];done)
               | (simp [Ae,Fh, *];done)
               | (simp_all [Ae,Fh];done))
            | skip
theorem c73 (op:Int)(ks:List Int):A1 Tryz.prog 119 [.int .i64 op,.sl 1 (ks.map fun k=>[.int .i64 k])] (.int .i64 (Du op ks)):=by
 refine A1.body (n:=39) Aj Tryz.func119 rfl rfl rfl fun H=>?_
 refine Ah (Qp Aq (Ag (AW.seq (Ah (Qp Aq (Ag (AW.block ?_)))))))
 refine AW.sllen 1 rfl fun hlen=>?_
 simp only [List.length_map,maxLen] at hlen
 refine AW.Aa3 (fun (p:Nat)=>(⟨[(0,.int .i64 op),(1,.sl 1 (ks.map fun k=>[.int .i64 k])),(5,.int .i64 (p:Int))],H,39⟩:St)) (fun (p:Nat)=>p≤ks.length∧Du op ks=At (fun k=>if Mp op k (ks.headD 0) then 0 else 9) (ks.drop p)) (fun (p:Nat)=>ks.length-p) (0) ?_ (GS.weaken ⟨rfl,rfl,rfl,trivial⟩ (.refl _)) ?_
 · exact ⟨Nat.zero_le _,rfl⟩
 ·
  rintro p hR
  refine AW.seq (Ah (Qp Az (Qp Dm ?_)))
  refine Qp (Al (n:=ks.length) Aj rfl rfl rfl (by simp)) ?_
  refine Qp Co (Ag (A4 (fun hc1=>?_) fun hc1=>?_))
  ·
   obtain ⟨a,ha⟩:=B5 hc1
   have hlt:=Bh ha
   have hm:=List.mem_of_getElem? ha
   obtain ⟨a0,ha0⟩:∃a0,ks[0]? = some a0:=⟨_,List.getElem?_eq_getElem (by omega)⟩
   have hhd:ks.headD 0=a0:=by cases ks <;> simp_all
   refine Bx (AW.seq (AW.block (Ah (Qp Az ?_))))
   refine Qp (Qc rfl (c98 op)) ?_
   refine Qp Aq (Ag (AW.seq ?_))
   refine AW.draw mixed (fun _=>True) trivial (by kernel_rfl) ?_
   refine Qn 0 rfl Az (Qn 1 rfl Mq (Qn 2 rfl Bt (Qo 3 rfl [] Qw Dm (Qo 4 rfl [] Qw Az ?_))))
   refine Iu.pure _ _ 5 _ _ rfl (by kernel_rfl) (by kernel_rfl) rfl (.opt _ (.ptr _) [(18,_),(19,_)] rfl (nI.all ⟨Ent.Aa1 _ _,Ent.Aa1 _ _,trivial⟩) (fun hG=>Af (c:=[Iq _]) Aj rfl rfl rfl rfl rfl rfl (by omega) (B1 (f:=fun k=>[AV.int .i64 k]) ha)) rfl) ?_
   refine Qo 6 rfl [(20,_)] Qw B2 (Qo 7 rfl [] Qw Az ?_)
   refine Iu.pure _ _ 8 _ _ rfl (by kernel_rfl) (by kernel_rfl) rfl (.opt _ (.bool _) [(21,_),(22,_)] rfl (nI.all ⟨Ent.Aa1 _ _,Ent.Aa1 _ _,trivial⟩) (fun hG=>Yc rfl rfl) rfl) ?_
   refine Qn 9 rfl G1 (Qn 10 rfl Bt (Qo 11 rfl [] Qw Az (Qo 12 rfl [(26,_)] Qw Ba (Qo 13 rfl [(27,_)] Qw Bt (Qo 14 rfl [] Qw Dm (Qo 15 rfl [] Qw Az ?_))))))
   refine Iu.pure _ _ 16 _ _ rfl (by kernel_rfl) (by kernel_rfl) rfl (.opt _ (.ptr _) [(29,_),(30,_)] rfl (nI.all ⟨Ent.Aa1 _ _,Ent.Aa1 _ _,trivial⟩) (fun hG=>Af (c:=[Iq _]) Aj rfl rfl rfl rfl rfl rfl (by omega) (B1 (f:=fun k=>[AV.int .i64 k]) ha)) rfl) ?_
   refine Qo 17 rfl [(31,_)] Qw B2 (Qo 18 rfl [] Qw Dm ?_)
   refine Iu.pure _ _ 19 _ _ rfl (by kernel_rfl) (by kernel_rfl) rfl (.opt _ (.ptr _) [(33,_)] rfl (nI.all ⟨Ent.Aa1 _ _,trivial⟩) (fun hG=>Af (c:=[Iq _]) Aj rfl rfl rfl rfl rfl rfl (by omega) (B1 (f:=fun k=>[AV.int .i64 k]) ha0)) rfl) ?_
   refine Qo 20 rfl [(34,_)] Qw B2 ?_
   refine Iu.pure _ _ 21 _ _ rfl (by kernel_rfl) (by kernel_rfl) rfl (.opt _ (.bool _) [(32,_),(35,_)] rfl (nI.all ⟨Ent.Aa1 _ _,Ent.Aa1 _ _,trivial⟩) (fun hG=>Yc rfl rfl) rfl) ?_
   refine Qo 22 rfl [(28,_),(36,_)] Qw G1 (Qn 23 rfl Ew ?_)
   refine Iu.done _ _ (by kernel_rfl) ?_
   refine Ad (A4 (fun hc2=>?_) fun hc2=>?_)
   ·
    rw [Xe] at hc2
    have hok:Mp op a a0=false:=by simpa using hc2
    refine Ah (Qp Aq (Ag (AW.ret (A6 (Ai (Ai (A6 (Ai ?_))))))))
    refine Qr (Iq _) ?_
    simp only [Ae,AV.int.injEq,true_and]
    rw [hR.2,Bi ha,At,hhd];simp [hok]
   ·
    rw [Xe] at hc2
    have hok:Mp op a a0=true:=by simpa using hc2
    refine AW.skip (Bn (Ad (AW.region (Qp Az (Qp Fb (Qp Aq (Ag ?_)))))))
    refine ⟨p+1,?_,?_,GS.weaken ⟨rfl,rfl,rfl,trivial⟩ (.refl _)⟩
    · exact ⟨hlt,by rw [hR.2,Bi ha,At,hhd];simp [hok]⟩
    · first | omega | (simp only;omega)
  ·
   have hd:=Dq hc1
   refine AW.exit ?_
   refine A2 (A2 (Bo (Ad (Ah (Qp Aq (Ag (AW.ret ?_)))))))
   refine Qr (Iq _) ?_
   simp only [Ae,AV.int.injEq,true_and]
   rw [hR.2,hd];rfl



theorem Sf {e:Ex}(h:Bp e=0):Ci e=0:=by
 unfold Bp at h
 split at h
 · cases h
 split at h
 · cases h
 exact h

end Go.Proofs.YtjedflcpjlgokaaGreatDoor
