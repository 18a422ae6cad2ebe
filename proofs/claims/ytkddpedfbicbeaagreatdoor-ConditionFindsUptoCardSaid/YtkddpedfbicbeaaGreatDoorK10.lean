/-
  Several texts in one: W3, W5. No condition.
-/
import Derived.Test.YtkddpedfbicbeaaGreatDoorAz
import Derived.Test.YtkddpedfbicbeaaGreatDoorW2
import Derived.Test.YtkddpedfbicbeaaGreatDoorK02
import Derived.KernelRfl
set_option linter.unusedVariables false
set_option linter.unusedSimpArgs false
namespace Go.Proofs.YtkddpedfbicbeaaGreatDoor
open Go Go.Aw
set_option maxHeartbeats 400000
set_option maxRecDepth 20000

theorem c120 (a:Ac)(o:Vl):Av Tryz.prog 185 [.agg (Xz a),.agg (cV o)] (.tuple [.agg (cV (Do a o).1),.int .i64 (Do a o).2]):=by
  refine Av.body (n:=41) Ai Tryz.func185 rfl rfl rfl fun H=>?_
  refine AW.seq (AW.region (Qp (F5 [Iq _,Iq _,Iq _,Iq _,.str _]) (Qp (F5 [Iq _,Iq _,.str _]) ?_)))
  refine Qe (Al (l:=[.int .i64 0,.int .i64 0,.str []]) (by kernel_rfl)) ?_
  rintro _ _ ⟨b4,rfl,rfl⟩
  refine Qp At (AOL.nil (Ae (AW.seq (AW.seq (AW.region (Qp (Ck [Iq _,Iq _,Iq _,Iq _,.str _]) ?_))))))
  refine Qp (Qc rfl (c126 a)) ?_
  refine Qp At (AOL.nil (Ae (AW.seq (AW.region (Qp A0 (Qp Cr (AOL.nil (Ae (A3 (fun hc1=>?_) fun hc1=>?_)))))))))
  · skip
    refine AW.seq (AW.region (Qp (Ep [Iq _,Iq _,.str _]) (Qp A0 ?_)))
    refine Cm 0 [Iq _,Iq _,.str _] (_::_) ?_
    refine Qp At (AOL.nil (Ae (Dr ?_)))
    refine ⟨.inr rfl,[.agg [Iq _,Iq _,.str _],Iq _],.cons (.box _ _ _ 0 _ _ _ _ rfl rfl rfl rfl rfl rfl) <| .cons (.tmp _ _ rfl) <| .nil,.cons _ (.refl _),?_⟩
    try simp only [Cx,Bool.and_true] at *
    first
      | (simp only [Ad,Do,cV,v0];(first | rw [if_pos hc1] | skip);first | done | rfl)
      | (try simp only [Bool.not_eq_true',Bool.not_eq_false'] at *
         first
         | (simp only [Ad,Do,cV,v0, *,Bool.false_eq_true,↓reduceIte,Bool.true_or,Bool.or_true,Bool.false_or,Bool.or_false,Bool.true_and,Bool.and_true,Bool.false_and,Bool.and_false,Bool.not_true,Bool.not_false];done)
         | (simp [Ad,Do,cV,v0, *];done)
         | (simp_all [Ad,Do,cV,v0];done))
      | skip
  · skip
    refine Bx (AW.seq (AW.seq (AW.region (Qp Q2 (Qp Bs (Qp (Ck [Iq _,Iq _,.str _]) ?_))))))
    refine Qp (Qc rfl (c115 a.kind o)) ?_
    refine Qp At (AOL.nil (Ae (AW.seq (AW.region (Qp A0 (Qp Cr (AOL.nil (Ae (A3 (fun hc2=>?_) fun hc2=>?_)))))))))
    · skip
      refine AW.seq (AW.region (Qp (Ep [Iq _,Iq _,.str _]) (Qp A0 ?_)))
      refine Cm 0 [Iq _,Iq _,.str _] (_::_) ?_
      refine Qp At (AOL.nil (Ae (Dr ?_)))
      refine ⟨.inr rfl,[.agg [Iq _,Iq _,.str _],Iq _],.cons (.box _ _ _ 0 _ _ _ _ rfl rfl rfl rfl rfl rfl) <| .cons (.tmp _ _ rfl) <| .nil,.cons _ (.refl _),?_⟩
      try simp only [Cx,Bool.and_true] at *
      first
        | (simp only [Ad,Do,cV,v0];(first | rw [iN hc1] | skip);(first | rw [if_pos hc2] | skip);first | done | rfl)
        | (try simp only [Bool.not_eq_true',Bool.not_eq_false'] at *
           first
           | (simp only [Ad,Do,cV,v0, *,Bool.false_eq_true,↓reduceIte,Bool.true_or,Bool.or_true,Bool.false_or,Bool.or_false,Bool.true_and,Bool.and_true,Bool.false_and,Bool.and_false,Bool.not_true,Bool.not_false];done)
           | (simp [Ad,Do,cV,v0, *];done)
           | (simp_all [Ad,Do,cV,v0];done))
        | skip
    · skip
      refine Bx (AW.seq (AW.block (AW.seq (AW.region (Qp Q2 (Qp Bs (Qp A5 (Qp Be (AOL.nil ?_)))))))))
      refine Ae (A3 (fun hc3=>?_) fun hc3=>?_)
      · skip
        refine AW.seq (AW.region (Qp R1 (Qp Bs (Qp (Ep [Iq _,Iq _,.str _]) ?_))))
        refine Cm 0 [Iq _,Iq _,.str _] (_::_) ?_
        refine Qp At (AOL.nil (Ae (AW.ret (Ba (Aj ?_)))))
        refine ⟨.inr rfl,[.agg [Iq _,Iq _,.str _],Iq _],.cons (.box _ _ _ 0 _ _ _ _ rfl rfl rfl rfl rfl rfl) <| .cons (.tmp _ _ rfl) <| .nil,.cons _ (.refl _),?_⟩
        try simp only [Cx,Bool.and_true] at *
        first
          | (simp only [Ad,Do,cV,v0];(first | rw [iN hc1] | skip);(first | rw [iN hc2] | skip);(first | rw [if_pos hc3] | skip);first | done | rfl)
          | (try simp only [Bool.not_eq_true',Bool.not_eq_false'] at *
             first
             | (simp only [Ad,Do,cV,v0, *,Bool.false_eq_true,↓reduceIte,Bool.true_or,Bool.or_true,Bool.false_or,Bool.or_false,Bool.true_and,Bool.and_true,Bool.false_and,Bool.and_false,Bool.not_true,Bool.not_false];done)
             | (simp [Ad,Do,cV,v0, *];done)
             | (simp_all [Ad,Do,cV,v0];done))
          | skip
      · skip
        refine AW.seq (AW.region (Qp R1 (Qp Bs (Qp A5 (Qp Bp (Qg [] Qw Q2 (Qg [(34,_)] Qw Bs (Qg [(35,_)] Qw Cr (Qp E1 ?_)))))))))
        refine Qp Be (AOL.nil (Ae (A3 (fun hc4=>?_) fun hc4=>?_)))
        · skip
          refine AW.seq (AW.region (Qp (Ck [Iq _,Iq _,.str _]) ?_))
          refine Cm 0 [Iq _,Iq _,.str _] (_::_) ?_
          refine Qp At (AOL.nil (Ae (AW.ret (Ba (Aj ?_)))))
          refine ⟨.inr rfl,[.agg [Iq _,Iq _,.str _],Iq _],.cons (.box _ _ _ 0 _ _ _ _ rfl rfl rfl rfl rfl rfl) <| .cons (.tmp _ _ rfl) <| .nil,.cons _ (.refl _),?_⟩
          try simp only [Cx,Bool.and_true] at *
          first
            | (simp only [Ad,Do,cV,v0];(first | rw [iN hc1] | skip);(first | rw [iN hc2] | skip);(first | rw [iN hc3] | skip);(first | rw [if_pos hc4] | skip);first | done | rfl)
            | (try simp only [Bool.not_eq_true',Bool.not_eq_false'] at *
               first
               | (simp only [Ad,Do,cV,v0, *,Bool.false_eq_true,↓reduceIte,Bool.true_or,Bool.or_true,Bool.false_or,Bool.or_false,Bool.true_and,Bool.and_true,Bool.false_and,Bool.and_false,Bool.not_true,Bool.not_false];done)
               | (simp [Ad,Do,cV,v0, *];done)
               | (simp_all [Ad,Do,cV,v0];done))
            | skip
        · skip
          refine AW.skip (Bq (Ae (AW.seq (AW.region (Qp Jp (Qp (Ck [Iq _,Iq _,.str _]) ?_))))))
          refine Cm 0 [Iq _,Iq _,.str _] (_::_) ?_
          refine Qp At (AOL.nil (Ae (AW.ret ?_)))
          refine ⟨.inr rfl,[.agg [Iq _,Iq _,.str _],Iq _],.cons (.box _ _ _ 0 _ _ _ _ rfl rfl rfl rfl rfl rfl) <| .cons (.tmp _ _ rfl) <| .nil,.cons _ (.refl _),?_⟩
          try simp only [Cx,Bool.and_true] at *
          first
            | (simp only [Ad,Do,cV,v0];(first | rw [iN hc1] | skip);(first | rw [iN hc2] | skip);(first | rw [iN hc3] | skip);(first | rw [iN hc4] | skip);first | done | rfl)
            | (try simp only [Bool.not_eq_true',Bool.not_eq_false'] at *
               first
               | (simp only [Ad,Do,cV,v0, *,Bool.false_eq_true,↓reduceIte,Bool.true_or,Bool.or_true,Bool.false_or,Bool.or_false,Bool.true_and,Bool.and_true,Bool.false_and,Bool.and_false,Bool.not_true,Bool.not_false];done)
               | (simp [Ad,Do,cV,v0, *];done)
               | (simp_all [Ad,Do,cV,v0];done))
            | skip
theorem c117 (k:Int)(a:Ac)(v:Vl)(h:Dp a.kind=true):Av Tryz.prog 182 [.agg (Xz a),.agg (cV v),.ptr [.int .i64 k]] (.agg (Xz (Js k a v))):=by
 refine Av.body (n:=13) Ai Tryz.func182 rfl rfl rfl fun H=>?_
 refine Ah (Qp (F5 [Iq _,Iq _,Iq _,Iq _,.str _]) (Qp (F5 [Iq _,Iq _,.str _]) ?_))
 refine Qe (Al (l:=[.int .i64 0,.int .i64 0,.int .i64 0,.int .i64 0,.str []]) (by kernel_rfl)) ?_
 rintro _ _ ⟨b5,rfl,rfl⟩
 refine Ag (AW.seq ?_)
 refine AW.draw mixed (fun _=>True) trivial (by kernel_rfl) ?_
 refine Qn 0 rfl (Ck [Iq _,Iq _,Iq _,Iq _,.str _]) (Qn 1 rfl Bs (Qn 2 rfl Bs (Qn 3 rfl (Ck [Iq _,Iq _,.str _]) ?_)))
 refine Qn 4 rfl (Qc rfl (c119 k v)) ?_
 refine Qn 5 rfl (Ep [Iq _,Iq _,Iq _,Iq _,.str _]) ?_
 refine Qn 6 rfl (Qc rfl (c118 a ⟨k,1,E3 k v⟩ h)) ?_
 refine Jv.eff _ _ 7 _ _ rfl (by kernel_rfl) rfl rfl (C6 (k:=0) (v:=.agg _) (cs':=[Iq _,Iq _,Iq _,Iq _,.str _]) (H2:=_::_) Ai rfl rfl rfl rfl (rfl) rfl rfl rfl rfl) (fun _ _ _=>trivial) ?_
 rintro _ _ ⟨rfl,rfl⟩
 refine Jv.done _ _ (by kernel_rfl) ?_
 refine Ae (AW.ret ?_)
 refine ⟨.inr rfl,[.agg [Iq _,Iq _,Iq _,Iq _,.str _]],.cons (.box _ _ _ 0 _ _ _ _ rfl rfl rfl rfl rfl rfl) <| .nil,.cons _ (.refl _),?_⟩
 rfl
theorem c116 (k:Int)(hk:Dp k=true)(a:Ac)(l:List Vl)(h:Dp a.kind=true):Av Tryz.prog 181 [.agg (Xz a),.sl 3 (l.map cV),.fn (.func 182) [] [.ptr [.int .i64 k]]] (.agg (Xz (l.foldl (Js k) a))):=by
 refine Av.body (n:=21) Ai Tryz.func181 rfl rfl rfl fun H=>?_
 refine Ah ?_
 refine Qe (U7 (v:=.agg _) (cs:=[Iq _,Iq _,Iq _,Iq _,.str _]) rfl rfl (rfl)) ?_
 rintro _ _ ⟨b3,rfl,rfl⟩
 refine Qe (Al (l:=[.int .i64 0,.int .i64 0,.int .i64 0,.int .i64 0,.str []]) (by kernel_rfl)) ?_
 rintro _ _ ⟨b6,rfl,rfl⟩
 refine Ag (AW.seq (Ah (Qp C4 ?_)))
 refine Qp (Ak (n:=l.length) Ai rfl rfl rfl (by simp)) ?_
 refine Qp A0 (Ag (AW.block ?_))
 refine AW.sllen 9 rfl fun hlen=>?_
 simp only [List.length_map,maxLen] at hlen
 refine AW.Aae (fun (p:Nat×Ac)=>(⟨[(2,.fn (.func 182) [] [.ptr [.int .i64 k]]),(9,.sl 3 (l.map cV)),(10,.int .i64 l.length),(11,.int .i64 (p.1:Int)),(3,.val (.pointer (some ⟨b3,0,none⟩))),(6,.val (.pointer (some ⟨b6,0,none⟩)))],.box b6 239 [.int .i64 0,.int .i64 0,.int .i64 0,.int .i64 0,.str []] :: .box b3 239 (Xz p.2)::H,21⟩:St)) (fun (p:Nat×Ac)=>p.1≤l.length∧l.foldl (Js k) a=(l.drop p.1).foldl (Js k) p.2∧Dp p.2.kind=true) (fun (p:Nat×Ac)=>l.length-p.1) ((0,a)) ?_ (GS.weaken ⟨rfl,rfl,rfl,rfl,rfl,rfl,trivial⟩ (.refl _)) ?_
 · exact ⟨Nat.zero_le _,by simp,h⟩
 ·
  rintro p hR
  refine Ah (Qp Cj (Ag (AW.seq (A3 (fun hc1=>?_) fun hc1=>?_))))
  ·
   obtain ⟨v,hv⟩:=B2 hc1
   have hlt:=A9 hv
   refine Bx (AW.seq (AW.block (Ah ?_)))
   refine Qp (Af (c:=[Iq _,Iq _,.str _]) Ai rfl rfl rfl rfl rfl rfl (by omega) (Bh hv)) ?_
   refine Qp (Ck [Iq _,Iq _,.str _]) ?_
   refine Qe (Al (l:=[.int .i64 0,.int .i64 0,.str []]) (by kernel_rfl)) ?_
   rintro _ _ ⟨b8,rfl,rfl⟩
   refine Cm 0 [Iq _,Iq _,.str _] (_::_::_::_) ?_
   refine AOL.ghost (GS.Aad (t:=8) 0 rfl rfl) ?_
   refine Ag (AW.region ?_)
   refine Qp (Bj (v:=.fn _ _ _) rfl) ?_
   refine AOL.Aai (Bz (k:=1) (l:=[Iq _,Iq _,Iq _,Iq _,.str _]) Ai rfl rfl rfl rfl rfl) rfl rfl ?_
   refine Qp (Ck [Iq _,Iq _,.str _]) ?_
   refine Qp (Dz (by kernel_rfl) rfl rfl rfl (c117 k p.2 v hR.2.2)) ?_
   refine Cm 1 [Iq _,Iq _,Iq _,Iq _,.str _] (_::_::_) ?_
   refine AOL.nil (Bq (Ae (AW.region (Qp Fv (Qp A0 (Ag ?_))))))
   refine ⟨(p.1+1,Js k p.2 v),?_,?_,GS.weaken ⟨rfl,rfl,rfl,rfl,rfl,rfl,trivial⟩ (.refl _)⟩
   · exact ⟨A9 hv,by rw [hR.2.1,A8 hv];rfl,sQ k _ v hR.2.2 hk⟩
   · have:=A9 hv;first | omega | (simp only;omega)
  ·
   have hd:=Dh hc1
   refine AW.exit ?_
   refine A6 (A6 (Bv (Ae (Ah ?_))))
   refine AOL.Aai (Bz (k:=1) (l:=[Iq _,Iq _,Iq _,Iq _,.str _]) Ai rfl rfl rfl rfl rfl) rfl rfl ?_
   refine Cm 0 [Iq _,Iq _,Iq _,Iq _,.str _] (_::_::_) ?_
   refine Ag (AW.ret ?_)
   refine ⟨.inr rfl,[.agg [Iq _,Iq _,Iq _,Iq _,.str _]],.cons (.box _ _ _ 0 _ _ _ _ rfl rfl rfl rfl rfl rfl) <| .nil,.cons _ (.cons _ (.refl _)),?_⟩
   show AV.agg (Xz _)=_
   rw [hR.2.1,hd];rfl
theorem c106 (k:Int)(l:List Vl)(o:Vl):Av Tryz.prog 170 [.int .i64 k,.sl 3 (l.map cV),.agg (cV o)] (.tuple [.agg (cV (eD k l o).1),.int .i64 (eD k l o).2]):=by
  refine Av.body (n:=46) Ai Tryz.func170 rfl rfl rfl fun H=>?_
  refine AW.seq (AW.region ?_)
  refine Qp (Z3 (v:=Iq _) (cs:=[Iq _]) rfl rfl rfl) ?_
  refine Qp (F5 [Iq _,Iq _,.str _]) ?_
  refine Qe (Al (l:=[.int .i64 0,.int .i64 0,.str []]) (by kernel_rfl)) ?_
  rintro _ _ ⟨b6,rfl,rfl⟩
  refine Qp At (AOL.nil (Ae (AW.seq (AW.block (AW.seq (AW.region (Qp Bs ?_)))))))
  refine Qp (Qc rfl (c114 k)) ?_
  refine Qp Ge (Qp Be (AOL.nil (Ae (A3 (fun hc1=>?_) fun hc1=>?_))))
  · skip
    refine AW.seq (AW.region (Qp (Ep [Iq _,Iq _,.str _]) ?_))
    refine Cm 0 [Iq _,Iq _,.str _] (_::_) ?_
    refine Qp At (AOL.nil (Ae (AW.ret (Ba (Aj ?_)))))
    refine ⟨.inr rfl,[.agg [Iq _,Iq _,.str _],Iq _],.cons (.box _ _ _ 0 _ _ _ _ rfl rfl rfl rfl rfl rfl) <| .cons (.tmp _ _ rfl) <| .nil,.cons _ (.refl _),?_⟩
    try simp only [Cx,Bool.and_true] at *
    first
      | (simp only [Ad,eD,cV,v0];(first | rw [if_pos hc1] | skip);first | done | rfl)
      | (try simp only [Bool.not_eq_true',Bool.not_eq_false'] at *
         first
         | (simp only [Ad,eD,cV,v0, *,Bool.false_eq_true,↓reduceIte,Bool.true_or,Bool.or_true,Bool.false_or,Bool.or_false,Bool.true_and,Bool.and_true,Bool.false_and,Bool.and_false,Bool.not_true,Bool.not_false];done)
         | (simp [Ad,eD,cV,v0, *];done)
         | (simp_all [Ad,eD,cV,v0];done))
      | skip
  · skip
    have hkn:Dp k=true:=by simpa using hc1
    refine AW.seq (AW.region (Qp C4 ?_))
    refine Qp (Ak (n:=l.length) Ai rfl rfl rfl (by simp)) ?_
    refine Qp Hg (Qp Be (AOL.nil (Ae (A3 (fun hc2=>?_) fun hc2=>?_))))
    · skip
      refine AW.seq (AW.region (Qp (Ep [Iq _,Iq _,.str _]) ?_))
      refine Cm 0 [Iq _,Iq _,.str _] (_::_) ?_
      refine Qp At (AOL.nil (Ae (AW.ret (Ba (Aj ?_)))))
      refine ⟨.inr rfl,[.agg [Iq _,Iq _,.str _],Iq _],.cons (.box _ _ _ 0 _ _ _ _ rfl rfl rfl rfl rfl rfl) <| .cons (.tmp _ _ rfl) <| .nil,.cons _ (.refl _),?_⟩
      try simp only [Cx,Bool.and_true] at *
      first
        | (simp only [Ad,eD,cV,v0];(first | rw [iN hc1] | skip);(first | rw [if_pos hc2] | skip);first | done | rfl)
        | (try simp only [Bool.not_eq_true',Bool.not_eq_false'] at *
           first
           | (simp only [Ad,eD,cV,v0, *,Bool.false_eq_true,↓reduceIte,Bool.true_or,Bool.or_true,Bool.false_or,Bool.or_false,Bool.true_and,Bool.and_true,Bool.false_and,Bool.and_false,Bool.not_true,Bool.not_false];done)
           | (simp [Ad,eD,cV,v0, *];done)
           | (simp_all [Ad,eD,cV,v0];done))
        | skip
    · skip
      refine AW.skip (Bq (Ae (AW.seq (AW.seq (AW.region (Qp C4 ?_))))))
      refine Qp (Ak (n:=l.length) Ai rfl rfl rfl (by simp)) ?_
      refine Qp A0 (AOL.nil (Ae (AW.block ?_)))
      have hlen:(l.length:Int)≤4096:=by simpa using hc2
      refine AW.Aae (fun (p:Nat)=>(⟨[(1,.sl 3 (l.map cV)),(3,.ptr [.int .i64 k]),(5,.ptr (cV o)),(22,.sl 3 (l.map cV)),(23,.int .i64 l.length),(24,.int .i64 (p:Int)),(6,.val (.pointer (some ⟨b6,0,none⟩)))],.box b6 28 [.int .i64 0,.int .i64 0,.str []]::H,46⟩:St)) (fun (p:Nat)=>p≤l.length∧Aq (Dl k) l=Aq (Dl k) (l.drop p)) (fun (p:Nat)=>l.length-p) (0) ?_ (GS.weaken ⟨rfl,rfl,rfl,rfl,rfl,rfl,rfl,trivial⟩ (.refl _)) ?_
      · exact ⟨Nat.zero_le _,by simp⟩
      · rintro p hR
        refine AW.seq (AW.region (Qp Cj (AOL.nil (Ae (AW.seq (A3 (fun hc3=>?_) fun hc3=>?_))))))
        · skip
          obtain ⟨v,hv⟩:=B2 hc3
          have hlt:=A9 hv
          refine Bx (AW.seq (AW.block (AW.seq (AW.region ?_))))
          refine Qp (Af (c:=[Iq _,Iq _,.str _]) Ai rfl rfl rfl rfl rfl rfl (by omega) (Bh hv)) ?_
          refine Qp (Ck [Iq _,Iq _,.str _]) ?_
          refine Qe (Al (l:=[.int .i64 0,.int .i64 0,.str []]) (by kernel_rfl)) ?_
          rintro _ _ ⟨b9,rfl,rfl⟩
          refine Cm 0 [Iq _,Iq _,.str _] (_::_::_) ?_
          refine AOL.ghost (GS.Aad (t:=9) 0 rfl rfl) ?_
          refine AOL.nil (Ae (AW.seq (AW.region (Qp Bs (Qp (Ck [Iq _,Iq _,.str _]) ?_)))))
          refine Qp (Qc rfl (c115 k v)) ?_
          refine Qp At (AOL.nil (Ae (AW.seq (AW.region (Qp A0 (Qp Cr (AOL.nil (Ae (A3 (fun hc4=>?_) fun hc4=>?_)))))))))
          · skip
            have hf:Aq (Dl k) l=Dl k v:=by rw [hR.2,A8 hv,Aq,if_pos hc4]
            refine AW.seq (AW.region (Qp (Ep [Iq _,Iq _,.str _]) (Qp A0 ?_)))
            refine Cm 0 [Iq _,Iq _,.str _] (_::_) ?_
            refine Qp At (AOL.nil (Ae (AW.ret (Ba (Aj (Aj (Ba (Aj ?_))))))))
            refine ⟨.inr rfl,[.agg [Iq _,Iq _,.str _],Iq _],.cons (.box _ _ _ 0 _ _ _ _ rfl rfl rfl rfl rfl rfl) <| .cons (.tmp _ _ rfl) <| .nil,.cons _ (.refl _),?_⟩
            simp only [Bool.not_eq_false'] at hc1
            have hc2':decide (4096<(l.length:Int))=false:=by simpa using hc2
            simp only [Ad,eD,hf,hc1,hc2',hkn, *,Bool.false_eq_true,↓reduceIte,Bool.not_true]
            first | rfl | simp [aD,cV,v0]
          · skip
            refine AW.skip (Bq (Ae (AW.region (Qp Fv (Qp A0 (AOL.nil (Ae ?_)))))))
            refine ⟨p+1,?_,?_,GS.weaken ⟨rfl,rfl,rfl,rfl,rfl,rfl,rfl,trivial⟩ (.refl _)⟩
            · exact ⟨A9 hv,by rw [hR.2,A8 hv,Aq,if_neg (by simpa using hc4)]⟩
            · have:=A9 hv;first | omega | (simp only;omega)
        · skip
          have hd:=Dh hc3
          have hf:Aq (Dl k) l=0:=by rw [hR.2,hd];rfl
          refine AW.exit ?_
          refine A6 (A6 (Bv (Ae (AW.seq (AW.region (Qp Bs (Qp (Ep [Iq _,Iq _,Iq _,Iq _,.str _]) (Qp C4 ?_))))))))
          refine Qp (Bc (l:=[]) (l':=[.ptr _]) rfl rfl) ?_
          refine Qp (Qc rfl (c116 k hkn ⟨k,0,v0⟩ l hkn)) ?_
          refine Qe (Al (l:=[.int .i64 0,.int .i64 0,.int .i64 0,.int .i64 0,.str []]) (by kernel_rfl)) ?_
          rintro _ _ ⟨b11,rfl,rfl⟩
          refine Cm 0 [Iq _,Iq _,Iq _,Iq _,.str _] (_::_::_) ?_
          refine AOL.ghost (GS.Aad (t:=11) 0 rfl rfl) ?_
          refine AOL.nil (Ae (AW.seq (AW.region (Qp (Ck [Iq _,Iq _,Iq _,Iq _,.str _]) (Qp (Ck [Iq _,Iq _,.str _]) ?_)))))
          refine Qp (Qc rfl (c120 (l.foldl (Js k) ⟨k,0,v0⟩) o)) ?_
          refine Qp (Cb (v:=.agg [Iq _,Iq _,.str _]) rfl rfl) ?_
          refine Qp Jn ?_
          refine Cm 0 [Iq _,Iq _,.str _] (_::_) ?_
          refine Qp At (AOL.nil (Ae (AW.ret ?_)))
          refine ⟨.inr rfl,[.agg [Iq _,Iq _,.str _],Iq _],.cons (.box _ _ _ 0 _ _ _ _ rfl rfl rfl rfl rfl rfl) <| .cons (.tmp _ _ rfl) <| .nil,.cons _ (.refl _),?_⟩
          simp only [Bool.not_eq_false'] at hc1
          have hc2':decide (4096<(l.length:Int))=false:=by simpa using hc2
          simp only [Ad,eD,hf,hc1,hc2',hkn, *,Bool.false_eq_true,↓reduceIte,Bool.not_true]
          first | rfl | simp [aD,cV,v0]
set_option maxHeartbeats 400000
set_option maxRecDepth 20000

theorem c91 (x:Evr)(v:Int):Av Tryz.prog 152 [.agg (cX x),.int .i64 v] (.sl 5 ((Bt x.vars v).map Ph)):=by
 refine Av.body (n:=21) Ai Tryz.func152 rfl rfl rfl fun H=>?_
 refine Ah (Qp (F5 [_,Iq _,Iq _,Iq _,Iq _,Iq _,_,_]) ?_)
 refine Qp (B0 (z:=5) rfl) ?_
 refine Ag (AW.seq (Ah (Qp A0 (Qp Cj (Qp Bp (Qg [] Qw A0 (Qg [] Qw (Qf [_,Iq _,Iq _,Iq _,Iq _,Iq _,_,_]) (Qg [(9,_)] Qw (Qf [_,Iq _,Iq _,Iq _,Iq _,Iq _,_,_]) (Qg [(10,_)] Qw Dk ?_)))))))))
 refine AOL.Aaf (y:=Iq _) _ [(11,_)] rfl (rX.all ⟨Ent.Aac _ _,trivial⟩) (fun hG=>Ak (n:=x.vars.length) Ai rfl rfl rfl (by simp)) rfl ?_
 refine AOL.Aaf (y:=.bool _) _ [(8,_),(12,_)] rfl (rX.all ⟨Ent.Aac _ _,Ent.Aac _ _,trivial⟩) (fun hG=>Ut rfl rfl) rfl ?_
 refine Qp E2 (Ag (A3 (fun hc1=>?_) fun hc1=>?_))
 ·
  refine Ah ?_
  refine Qp (B0 (z:=5) rfl) ?_
  refine Ag (Dr ?_)
  refine Qr (.sl _ _) ?_
  simp only [Ad,Bt]
  rw [if_pos hc1];rfl
 ·
  have hv:0≤v∧v<(x.vars.length:Int):=by simp at hc1;omega
  obtain ⟨l,hl⟩:=Hz hv.1 hv.2
  refine Bx (Ah (Qp (Qf [_,Iq _,Iq _,Iq _,Iq _,Iq _,_,_]) (Qp (Qf [_,Iq _,Iq _,Iq _,Iq _,Iq _,_,_]) (Qp Dk (Qp A0 ?_)))))
  refine Qp (Af (c:=[_]) Ai rfl rfl rfl rfl rfl rfl (hv.1) (Bh hl)) ?_
  refine Qp Dk (Qp Wj (Ag (AW.ret ?_)))
  refine Qr (.sl _ _) ?_
  simp only [Ad,Bt]
  rw [if_neg (by simpa using hc1),hl];rfl
theorem c93 (e:Ev)(k:Int)(hk:0≤k):Av Tryz.prog 154 [.agg (Ph e),.int .i64 k] (.tuple [.agg (cV (Dq e k).1),.int .i64 (Dq e k).2]):=by
 refine Av.body (n:=17) Ai Tryz.func154 rfl rfl rfl fun H=>?_
 refine Ah (Qp (F5 [Iq _,Iq _,Iq _,Iq _,_]) ?_)
 refine Qe (Al (l:=[.int .i64 0,.int .i64 0,.str []]) (by kernel_rfl)) ?_
 rintro _ _ ⟨b4,rfl,rfl⟩
 refine Qp At (Ag (AW.seq (Ah (Qp A0 (Qp (Qf [_]) (Qp Dk ?_))))))
 refine Qp (Ak (n:=e.values.length) Ai rfl rfl rfl (by simp)) ?_
 refine Qp N9 (Ag (A3 (fun hc1=>?_) fun hc1=>?_))
 ·
  refine Ah (Qp (Ep [Iq _,Iq _,.str _]) ?_)
  refine Cm 0 [Iq _,Iq _,.str _] (_::_) ?_
  refine Qp At (Ag (Dr ?_))
  refine ⟨.inr rfl,[.agg [Iq _,Iq _,.str _],Iq _],.cons (.box _ _ _ 0 _ _ _ _ rfl rfl rfl rfl rfl rfl) <| .cons (.tmp _ _ rfl) <| .nil,.cons _ (.refl _),?_⟩
  simp only [Ad,Dq]
  rw [if_pos hc1];rfl
 ·
  obtain ⟨v,hv⟩:=Hz (l:=e.values) hk (by simp at hc1;omega)
  refine Bx (Ah (Qp (Qf [_]) (Qp Dk (Qp A0 ?_))))
  refine Qp (Af (c:=[Iq _,Iq _,.str _]) Ai rfl rfl rfl rfl rfl rfl (hk) (Bh hv)) ?_
  refine Qp (Ck [Iq _,Iq _,.str _]) ?_
  refine Cm 0 [Iq _,Iq _,.str _] (_::_) ?_
  refine Qp At (Ag (AW.ret ?_))
  refine ⟨.inr rfl,[.agg [Iq _,Iq _,.str _],Iq _],.cons (.box _ _ _ 0 _ _ _ _ rfl rfl rfl rfl rfl rfl) <| .cons (.tmp _ _ rfl) <| .nil,.cons _ (.refl _),?_⟩
  simp only [Ad,Dq]
  rw [if_neg (by simpa using hc1),hv];rfl
theorem c92 (x:Evr)(hx:x.ok)(e:Ex)(hk:0≤e.field):Av Tryz.prog 153 [.agg (cX x),.agg (cE e)] (.tuple [.agg (cV (Pk x e).1),.int .i64 (Pk x e).2]):=by
 refine Av.body (n:=44) Ai Tryz.func153 rfl rfl rfl fun H=>?_
 refine Ah (Qp (F5 [_,Iq _,Iq _,Iq _,Iq _,Iq _,_,_]) (Qp K8 ?_))
 refine Qe (Al (l:=[.int .i64 0,.int .i64 0,.str []]) (by kernel_rfl)) ?_
 rintro _ _ ⟨b4,rfl,rfl⟩
 refine Qp At (Df (Qp N8 ?_))
 refine AOL.ghost (GS.row (t:=6) 28 3 rfl) ?_
 refine Ag (AW.seq (Ah (Qp (Ck [_,Iq _,Iq _,Iq _,Iq _,Iq _,_,_]) (Qp Xo (Qp Bs ?_)))))
 refine Qp (Qc rfl (c91 x e.var)) ?_
 refine Qp (Ak (n:=(Bt x.vars e.var).length) Ai rfl rfl rfl (by simp)) ?_
 refine Qp A0 (Ag (AW.block ?_))
 have hlen:=bF hx e.var
 refine AW.Aae (fun (p:Nat×List (List AV)×Value)=>(⟨[(2,.ptr (cX x)),(3,.ptr (cE e)),(4,.val (.pointer (some ⟨b4,0,none⟩))),(6,.row p.2.2 3 p.2.1),(14,.sl 5 ((Bt x.vars e.var).map Ph)),(15,.int .i64 (Bt x.vars e.var).length),(16,.int .i64 (p.1:Int))],.row p.2.2 p.2.1.length 28 3 :: .box b4 28 [.int .i64 0,.int .i64 0,.str []]::H,44⟩:St)) (fun (p:Nat×List (List AV)×Value)=>p.1≤(Bt x.vars e.var).length∧Aq (fun v=>(Dq v e.field).2) (Bt x.vars e.var)=Aq (fun v=>(Dq v e.field).2) ((Bt x.vars e.var).drop p.1)∧p.2.1=(((Bt x.vars e.var).take p.1).map fun v=>(Dq v e.field).1).map cV) (fun (p:Nat×List (List AV)×Value)=>(Bt x.vars e.var).length-p.1) ((0,[],.slice none 0 0)) ?_ (GS.weaken ⟨rfl,rfl,rfl,rfl,rfl,rfl,rfl,trivial⟩ (.refl _)) ?_
 · exact ⟨Nat.zero_le _,by simp,by simp⟩
 ·
  rintro p hR
  have hsc:∀c∈p.2.1,Bf c=true:=by rw [hR.2.2];exact Fm fun _=>rfl
  refine Ah (Qp Cj (Ag (AW.seq (A3 (fun hc1=>?_) fun hc1=>?_))))
  ·
   obtain ⟨a,ha⟩:=B2 hc1
   have hlt:=A9 ha
   have hm:=List.mem_of_getElem? ha
   refine Bx (AW.seq (AW.block (Ah ?_)))
   refine Qp (Af (c:=[Iq _,Iq _,Iq _,Iq _,_]) Ai rfl rfl rfl rfl rfl rfl (by omega) (Bh ha)) ?_
   refine Qp (Ck [Iq _,Iq _,Iq _,Iq _,_]) ?_
   refine Qe (Al (l:=[.int .i64 0,.int .i64 0,.int .i64 0,.int .i64 0,.sl 3 []]) (by kernel_rfl)) ?_
   rintro _ _ ⟨b8,rfl,rfl⟩
   refine Cm 0 [Iq _,Iq _,Iq _,Iq _,_] (_::_::_::_) ?_
   refine AOL.ghost (GS.Aad (t:=8) 0 rfl rfl) ?_
   refine Df (Qp (Ck [Iq _,Iq _,Iq _,Iq _,_]) (Qp Q2 (Qp Bs ?_)))
   refine Qp (Qc rfl (c93 a e.field hk)) ?_
   refine Qp Mv ?_
   refine Qp (Cb (v:=.agg [Iq _,Iq _,.str _]) rfl rfl) ?_
   refine Qp Jn ?_
   refine Qe (Al (l:=[.int .i64 0,.int .i64 0,.str []]) (by kernel_rfl)) ?_
   rintro _ _ ⟨b9,rfl,rfl⟩
   refine Cm 0 [Iq _,Iq _,.str _] (_::_::_::_) ?_
   refine Qp At ?_
   refine AOL.ghost (GS.Aad (t:=9) 0 rfl rfl) ?_
   refine Ag (AW.seq (Ah (Qp A0 (Qp Cr (Ag (A3 (fun hc2=>?_) fun hc2=>?_))))))
   ·
    refine Ah (Qp (Ep [Iq _,Iq _,.str _]) (Qp A0 ?_))
    refine Cm 1 [Iq _,Iq _,.str _] (_::_::_) ?_
    refine Qp At (Ag (Dr (Ba (Aj (Aj (Ba (Aj ?_)))))))
    refine ⟨.inr rfl,[.agg [Iq _,Iq _,.str _],Iq _],.cons (.box _ _ _ 1 _ _ _ _ rfl rfl rfl rfl rfl rfl) <| .cons (.tmp _ _ rfl) <| .nil,.cons _ (.cons _ (.refl _)),?_⟩
    have hf:Aq (fun v=>(Dq v e.field).2) (Bt x.vars e.var)=(Dq a e.field).2:=by rw [hR.2.1,A8 ha,Aq,if_pos hc2]
    simp only [Ad,Pk,hf,hc2,↓reduceIte];rfl
   ·
    refine Bx (AW.region ?_)
    refine Qp (Bj (v:=.row _ _ _) rfl) ?_
    refine Qp (Ck [Iq _,Iq _,.str _]) ?_
    refine Qp (Az (es:=[[Iq _,Iq _,.str _]]) Ai rfl rfl rfl rfl rfl rfl rfl rfl rfl) ?_
    refine Qe (Dm (k:=0) Ai rfl rfl rfl rfl rfl rfl rfl rfl (Hd rfl) (hsc) (by simp [hR.2.2];omega) (by simp [hR.2.2,maxLen];omega)) ?_
    rintro _ _ ⟨v34,rfl,rfl⟩
    refine Qp (C2 (v:=.row _ _ _) rfl) ?_
    refine AOL.nil (Bq (Ae (AW.region (Qp Fv (Qp A0 (Ag ?_))))))
    refine ⟨(p.1+1,p.2.1 ++ [cV (Dq a e.field).1],v34),?_,?_,GS.weaken ⟨rfl,rfl,rfl,rfl,rfl,rfl,rfl,trivial⟩ (.refl _)⟩
    · simp only;exact ⟨hlt,by rw [hR.2.1,A8 ha,Aq,if_neg (by simpa using hc2)],by rw [Cq ha,hR.2.2];simp⟩
    · first | omega | (simp only;omega)
  ·
   have hte:=C3 hc1
   have hd:=Dh hc1
   have hf:Aq (fun v=>(Dq v e.field).2) (Bt x.vars e.var)=0:=by rw [hR.2.1,hd];rfl
   obtain ⟨k,es,rv⟩:=p
   simp only at hR hte
   obtain rfl:es=((Bt x.vars e.var).map fun v=>(Dq v e.field).1).map cV:=by rw [hR.2.2,hte]
   refine AW.exit ?_
   refine A6 (A6 (Bv (Ae (Ah (Qp R1 (Qp Bs ?_))))))
   refine AOL.ghost (GS.unrow 6 rfl) ?_
   refine Qp C4 (Qp Jp (Qp (Ck [Iq _,Iq _,.str _]) ?_))
   refine Qp (Qc rfl (c106 e.kind ((Bt x.vars e.var).map fun v=>(Dq v e.field).1) e.val)) ?_
   refine Qp (Cb (v:=.agg [Iq _,Iq _,.str _]) rfl rfl) ?_
   refine Qp Jn ?_
   refine Cm 1 [Iq _,Iq _,.str _] (_::_::_) ?_
   refine Qp At (Ag (AW.ret ?_))
   refine ⟨.inr rfl,[.agg [Iq _,Iq _,.str _],Iq _],.cons (.box _ _ _ 1 _ _ _ _ rfl rfl rfl rfl rfl rfl) <| .cons (.tmp _ _ rfl) <| .nil,.cons _ (.cons _ (.refl _)),?_⟩
   simp only [Ad,Pk,hf];rfl
theorem c71 (op:Int)(ks:List Int):Av Tryz.prog 127 [.int .i64 op,.sl 1 (ks.map fun k=>[.int .i64 k])] (.int .i64 (Di op ks)):=by
 refine Av.body (n:=38) Ai Tryz.func127 rfl rfl rfl fun H=>?_
 refine Ah (Qp At (Ag (AW.seq (Ah (Qp C4 ?_)))))
 refine Qp (Ak (n:=ks.length) Ai rfl rfl rfl (by simp)) ?_
 refine Qp A0 (Ag (AW.block ?_))
 refine AW.sllen 8 rfl fun hlen=>?_
 simp only [List.length_map,maxLen] at hlen
 refine AW.Aae (fun (p:Nat)=>(⟨[(0,.int .i64 op),(1,.sl 1 (ks.map fun k=>[.int .i64 k])),(8,.sl 1 (ks.map fun k=>[.int .i64 k])),(9,.int .i64 ks.length),(10,.int .i64 (p:Int))],H,38⟩:St)) (fun (p:Nat)=>p≤ks.length∧Di op ks=Aq (fun k=>if Mo op k (ks.headD 0) then 0 else 9) (ks.drop p)) (fun (p:Nat)=>ks.length-p) (0) ?_ (GS.weaken ⟨rfl,rfl,rfl,rfl,rfl,trivial⟩ (.refl _)) ?_
 · exact ⟨Nat.zero_le _,rfl⟩
 ·
  rintro p hR
  refine Ah (Qp Cj (Ag (AW.seq (A3 (fun hc1=>?_) fun hc1=>?_))))
  ·
   obtain ⟨a,ha⟩:=B2 hc1
   have hlt:=A9 ha
   have hm:=List.mem_of_getElem? ha
   obtain ⟨a0,ha0⟩:∃a0,ks[0]? = some a0:=⟨_,List.getElem?_eq_getElem (by omega)⟩
   have hhd:ks.headD 0=a0:=by cases ks <;> simp_all
   refine Bx (AW.seq (AW.block (Ah ?_)))
   refine Qp (Af (c:=[Iq _]) Ai rfl rfl rfl rfl rfl rfl (by omega) (Bh (f:=fun k=>[AV.int .i64 k]) ha)) ?_
   refine Qp Bs (Qp At (Df (Qp Be (Ag ?_))))
   refine AW.cut (fun (_:Unit)=>(⟨[(0,.int .i64 op),(1,.sl 1 (ks.map fun k=>[.int .i64 k])),(8,.sl 1 (ks.map fun k=>[.int .i64 k])),(9,.int .i64 ks.length),(10,.int .i64 (p:Int)),(7,.bool (Mo op a a0))],H,38⟩:St)) (fun (_:Unit)=>True) ?_ ?_
   ·
    refine Ah (Qp A0 (Ag (AW.block ?_)))
    refine AW.cut (fun (_:Unit)=>(⟨[(0,.int .i64 op),(1,.sl 1 (ks.map fun k=>[.int .i64 k])),(6,.int .i64 a),(7,.bool true),(8,.sl 1 (ks.map fun k=>[.int .i64 k])),(9,.int .i64 ks.length),(10,.int .i64 (p:Int)),(14,.int .i64 op),(15,.bool (op==5||op==6||op==7||op==8))],H,38⟩:St)) (fun (_:Unit)=>True) ?_ ?_
    ·
     refine Ah (Qp A5 (Qp Be (Ag (A3 (fun hc2=>?_) fun hc2=>?_))))
     ·
      refine Bx ?_
      refine ⟨(),?_,GS.weaken ⟨rfl,rfl,rfl,rfl,rfl,rfl,rfl,rfl,congrArg AV.bool (by simp [Mo, *]),trivial⟩ (.refl _)⟩
      trivial
     ·
      refine Ah (Qp A5 (Qp Be (Ag (A3 (fun hc3=>?_) fun hc3=>?_))))
      ·
       refine Bx ?_
       refine ⟨(),?_,GS.weaken ⟨rfl,rfl,rfl,rfl,rfl,rfl,rfl,rfl,congrArg AV.bool (by simp [Mo, *]),trivial⟩ (.refl _)⟩
       trivial
      ·
       refine Ah (Qp A5 (Qp Be (Ag (A3 (fun hc4=>?_) fun hc4=>?_))))
       ·
        refine Bx ?_
        refine ⟨(),?_,GS.weaken ⟨rfl,rfl,rfl,rfl,rfl,rfl,rfl,rfl,congrArg AV.bool (by simp [Mo, *]),trivial⟩ (.refl _)⟩
        trivial
       ·
        refine AW.region (Qp A5 (Qp Be (Ag ?_)))
        refine ⟨(),?_,GS.weaken ⟨rfl,rfl,rfl,rfl,rfl,rfl,rfl,rfl,congrArg AV.bool (by simp [Mo, *]),trivial⟩ (.refl _)⟩
        trivial
    ·
     rintro _ _
     refine A3 (fun hc5=>?_) fun hc5=>?_
     ·
      refine AW.region (Qp A0 (Qp A5 (Qp Be (AOL.nil (Bq (Ae ?_))))))
      refine ⟨(),?_,GS.weaken ⟨rfl,rfl,rfl,rfl,rfl,congrArg AV.bool (by simp [Mo, *]),trivial⟩ (.refl _)⟩
      trivial
     ·
      refine AW.cut (fun (_:Unit)=>(⟨[(0,.int .i64 op),(1,.sl 1 (ks.map fun k=>[.int .i64 k])),(6,.int .i64 a),(7,.bool true),(8,.sl 1 (ks.map fun k=>[.int .i64 k])),(9,.int .i64 ks.length),(10,.int .i64 (p:Int)),(14,.int .i64 op),(22,.bool (op==10||op==11||op==12))],H,38⟩:St)) (fun (_:Unit)=>True) ?_ ?_
      ·
       refine Ah (Qp A5 (Qp Be (Ag (A3 (fun hc6=>?_) fun hc6=>?_))))
       ·
        refine Bx ?_
        refine ⟨(),?_,GS.weaken ⟨rfl,rfl,rfl,rfl,rfl,rfl,rfl,rfl,congrArg AV.bool (by simp [Mo, *]),trivial⟩ (.refl _)⟩
        trivial
       ·
        refine Ah (Qp A5 (Qp Be (Ag (A3 (fun hc7=>?_) fun hc7=>?_))))
        ·
         refine Bx ?_
         refine ⟨(),?_,GS.weaken ⟨rfl,rfl,rfl,rfl,rfl,rfl,rfl,rfl,congrArg AV.bool (by simp [Mo, *]),trivial⟩ (.refl _)⟩
         trivial
        ·
         refine AW.region (Qp A5 (Qp Be (Ag ?_)))
         refine ⟨(),?_,GS.weaken ⟨rfl,rfl,rfl,rfl,rfl,rfl,rfl,rfl,congrArg AV.bool (by simp [Mo, *]),trivial⟩ (.refl _)⟩
         trivial
      ·
       rintro _ _
       refine A3 (fun hc8=>?_) fun hc8=>?_
       ·
        refine AW.region (Qp A0 (Qp A5 (Qp Be (AOL.nil (Bq (Ae ?_))))))
        refine ⟨(),?_,GS.weaken ⟨rfl,rfl,rfl,rfl,rfl,congrArg AV.bool (by simp [Mo, *]),trivial⟩ (.refl _)⟩
        trivial
       ·
        refine Ah (Qp A5 (Qp Be (Ag (A3 (fun hc9=>?_) fun hc9=>?_))))
        ·
         refine AW.region (Qp A0 (Qp C4 ?_))
         refine Qp (Af (c:=[Iq _]) Ai rfl rfl rfl rfl rfl rfl (by omega) (Bh (f:=fun k=>[AV.int .i64 k]) ha0)) ?_
         refine Qp Bs (Qp A5 (Qp Be (AOL.nil (Bq (Ae ?_)))))
         refine ⟨(),?_,GS.weaken ⟨rfl,rfl,rfl,rfl,rfl,congrArg AV.bool (by simp [Mo, *]),trivial⟩ (.refl _)⟩
         trivial
        ·
         refine AW.skip (Bq (Ae ?_))
         refine ⟨(),?_,GS.weaken ⟨rfl,rfl,rfl,rfl,rfl,congrArg AV.bool (by simp [Mo, *]),trivial⟩ (.refl _)⟩
         trivial
   ·
    rintro _ _
    refine Ah (Qp Bp (Qp Ge (Ag (A3 (fun hc10=>?_) fun hc10=>?_))))
    ·
     have hok:Mo op a a0=false:=by simpa using hc10
     refine Ah (Qp At (Ag (AW.ret (Ba (Aj (Aj (Ba (Aj ?_))))))))
     refine Qr (Iq _) ?_
     simp only [Ad,AV.int.injEq,true_and]
     rw [hR.2,A8 ha,Aq,hhd];simp [hok]
    ·
     have hok:Mo op a a0=true:=by simpa using hc10
     refine AW.skip (Bq (Ae (AW.region (Qp Fv (Qp A0 (Ag ?_))))))
     refine ⟨p+1,?_,?_,GS.weaken ⟨rfl,rfl,rfl,rfl,rfl,trivial⟩ (.refl _)⟩
     · exact ⟨hlt,by rw [hR.2,A8 ha,Aq,hhd];simp [hok]⟩
     · first | omega | (simp only;omega)
  ·
   have hd:=Dh hc1
   refine AW.exit ?_
   refine A6 (A6 (Bv (Ae (Ah (Qp At (Ag (AW.ret ?_)))))))
   refine Qr (Iq _) ?_
   simp only [Ad,AV.int.injEq,true_and]
   rw [hR.2,hd];rfl

end Go.Proofs.YtkddpedfbicbeaaGreatDoor
