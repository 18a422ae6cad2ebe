/-
  Several texts in one: W3, W5. No condition.
-/
import Derived.Test.YtkddpedfbicbeaaGreatDoorAz
import Derived.Test.YtkddpedfbicbeaaGreatDoorW2
import Derived.Test.YtkddpedfbicbeaaGreatDoorK02
import Derived.KernelRfl
set_option linter.unusedVariables false
set_option linter.unusedSimpArgs false
namespace Go.Proofs.YtkddpedfbicbeaaGreatDoor
open Go Go.Aw
set_option maxHeartbeats 400000
set_option maxRecDepth 20000

theorem c120 (a:Ac)(o:Vl):Ar Tryz.prog 185 [.agg (Wp a),.agg (cV o)] (.tuple [.agg (cV (Dm a o).1),.int .i64 (Dm a o).2]):=by
  refine Ar.body (n:=41) Ai Tryz.func185 rfl rfl rfl fun H=>?_
  refine AW.seq (AW.region (Qp (Fx [Iq _,Iq _,Iq _,Iq _,.str _]) (Qp (Fx [Iq _,Iq _,.str _]) ?_)))
  refine Qe (Aj (l:=[.int .i64 0,.int .i64 0,.str []]) (by kernel_rfl)) ?_
  rintro _ _ ⟨b4,rfl,rfl⟩
  refine Qp Ap (AOL.nil (Ae (AW.seq (AW.seq (AW.region (Qp (Cd [Iq _,Iq _,Iq _,Iq _,.str _]) ?_))))))
  refine Qp (Qc rfl (c126 a)) ?_
  refine Qp Ap (AOL.nil (Ae (AW.seq (AW.region (Qp Az (Qp Ci (AOL.nil (Ae (A2 (fun hc1=>?_) fun hc1=>?_)))))))))
  · skip
    refine AW.seq (AW.region (Qp (El [Iq _,Iq _,.str _]) (Qp Az ?_)))
    refine Cq 0 [Iq _,Iq _,.str _] (_::_) ?_
    refine Qp Ap (AOL.nil (Ae (Dq ?_)))
    refine ⟨.inr rfl,[.agg [Iq _,Iq _,.str _],Iq _],.cons (.box _ _ _ 0 _ _ _ _ rfl rfl rfl rfl rfl rfl) <| .cons (.tmp _ _ rfl) <| .nil,.cons _ (.refl _),?_⟩
    try simp only [Cx,Bool.and_true] at *
    first
      | (simp only [Ad,Dm,cV,v0];(first | rw [if_pos hc1] | skip);first | done | rfl)
      | (try simp only [Bool.not_eq_true',Bool.not_eq_false'] at *
         first
         | (simp only [Ad,Dm,cV,v0, *,Bool.false_eq_true,↓reduceIte,Bool.true_or,Bool.or_true,Bool.false_or,Bool.or_false,Bool.true_and,Bool.and_true,Bool.false_and,Bool.and_false,Bool.not_true,Bool.not_false];done)
         | (simp [Ad,Dm,cV,v0, *];done)
         | (simp_all [Ad,Dm,cV,v0];done))
      | skip
  · skip
    refine Bv (AW.seq (AW.seq (AW.region (Qp Qv (Qp Br (Qp (Cd [Iq _,Iq _,.str _]) ?_))))))
    refine Qp (Qc rfl (c115 a.kind o)) ?_
    refine Qp Ap (AOL.nil (Ae (AW.seq (AW.region (Qp Az (Qp Ci (AOL.nil (Ae (A2 (fun hc2=>?_) fun hc2=>?_)))))))))
    · skip
      refine AW.seq (AW.region (Qp (El [Iq _,Iq _,.str _]) (Qp Az ?_)))
      refine Cq 0 [Iq _,Iq _,.str _] (_::_) ?_
      refine Qp Ap (AOL.nil (Ae (Dq ?_)))
      refine ⟨.inr rfl,[.agg [Iq _,Iq _,.str _],Iq _],.cons (.box _ _ _ 0 _ _ _ _ rfl rfl rfl rfl rfl rfl) <| .cons (.tmp _ _ rfl) <| .nil,.cons _ (.refl _),?_⟩
      try simp only [Cx,Bool.and_true] at *
      first
        | (simp only [Ad,Dm,cV,v0];(first | rw [iN hc1] | skip);(first | rw [if_pos hc2] | skip);first | done | rfl)
        | (try simp only [Bool.not_eq_true',Bool.not_eq_false'] at *
           first
           | (simp only [Ad,Dm,cV,v0, *,Bool.false_eq_true,↓reduceIte,Bool.true_or,Bool.or_true,Bool.false_or,Bool.or_false,Bool.true_and,Bool.and_true,Bool.false_and,Bool.and_false,Bool.not_true,Bool.not_false];done)
           | (simp [Ad,Dm,cV,v0, *];done)
           | (simp_all [Ad,Dm,cV,v0];done))
        | skip
    · skip
      refine Bv (AW.seq (AW.block (AW.seq (AW.region (Qp Qv (Qp Br (Qp A6 (Qp Bc (AOL.nil ?_)))))))))
      refine Ae (A2 (fun hc3=>?_) fun hc3=>?_)
      · skip
        refine AW.seq (AW.region (Qp R6 (Qp Br (Qp (El [Iq _,Iq _,.str _]) ?_))))
        refine Cq 0 [Iq _,Iq _,.str _] (_::_) ?_
        refine Qp Ap (AOL.nil (Ae (AW.ret (A9 (Al ?_)))))
        refine ⟨.inr rfl,[.agg [Iq _,Iq _,.str _],Iq _],.cons (.box _ _ _ 0 _ _ _ _ rfl rfl rfl rfl rfl rfl) <| .cons (.tmp _ _ rfl) <| .nil,.cons _ (.refl _),?_⟩
        try simp only [Cx,Bool.and_true] at *
        first
          | (simp only [Ad,Dm,cV,v0];(first | rw [iN hc1] | skip);(first | rw [iN hc2] | skip);(first | rw [if_pos hc3] | skip);first | done | rfl)
          | (try simp only [Bool.not_eq_true',Bool.not_eq_false'] at *
             first
             | (simp only [Ad,Dm,cV,v0, *,Bool.false_eq_true,↓reduceIte,Bool.true_or,Bool.or_true,Bool.false_or,Bool.or_false,Bool.true_and,Bool.and_true,Bool.false_and,Bool.and_false,Bool.not_true,Bool.not_false];done)
             | (simp [Ad,Dm,cV,v0, *];done)
             | (simp_all [Ad,Dm,cV,v0];done))
          | skip
      · skip
        refine AW.seq (AW.region (Qp R6 (Qp Br (Qp A6 (Qp Bm (Qg [] Qw Qv (Qg [(34,_)] Qw Br (Qg [(35,_)] Qw Ci (Qp Em ?_)))))))))
        refine Qp Bc (AOL.nil (Ae (A2 (fun hc4=>?_) fun hc4=>?_)))
        · skip
          refine AW.seq (AW.region (Qp (Cd [Iq _,Iq _,.str _]) ?_))
          refine Cq 0 [Iq _,Iq _,.str _] (_::_) ?_
          refine Qp Ap (AOL.nil (Ae (AW.ret (A9 (Al ?_)))))
          refine ⟨.inr rfl,[.agg [Iq _,Iq _,.str _],Iq _],.cons (.box _ _ _ 0 _ _ _ _ rfl rfl rfl rfl rfl rfl) <| .cons (.tmp _ _ rfl) <| .nil,.cons _ (.refl _),?_⟩
          try simp only [Cx,Bool.and_true] at *
          first
            | (simp only [Ad,Dm,cV,v0];(first | rw [iN hc1] | skip);(first | rw [iN hc2] | skip);(first | rw [iN hc3] | skip);(first | rw [if_pos hc4] | skip);first | done | rfl)
            | (try simp only [Bool.not_eq_true',Bool.not_eq_false'] at *
               first
               | (simp only [Ad,Dm,cV,v0, *,Bool.false_eq_true,↓reduceIte,Bool.true_or,Bool.or_true,Bool.false_or,Bool.or_false,Bool.true_and,Bool.and_true,Bool.false_and,Bool.and_false,Bool.not_true,Bool.not_false];done)
               | (simp [Ad,Dm,cV,v0, *];done)
               | (simp_all [Ad,Dm,cV,v0];done))
            | skip
        · skip
          refine AW.skip (Bp (Ae (AW.seq (AW.region (Qp J2 (Qp (Cd [Iq _,Iq _,.str _]) ?_))))))
          refine Cq 0 [Iq _,Iq _,.str _] (_::_) ?_
          refine Qp Ap (AOL.nil (Ae (AW.ret ?_)))
          refine ⟨.inr rfl,[.agg [Iq _,Iq _,.str _],Iq _],.cons (.box _ _ _ 0 _ _ _ _ rfl rfl rfl rfl rfl rfl) <| .cons (.tmp _ _ rfl) <| .nil,.cons _ (.refl _),?_⟩
          try simp only [Cx,Bool.and_true] at *
          first
            | (simp only [Ad,Dm,cV,v0];(first | rw [iN hc1] | skip);(first | rw [iN hc2] | skip);(first | rw [iN hc3] | skip);(first | rw [iN hc4] | skip);first | done | rfl)
            | (try simp only [Bool.not_eq_true',Bool.not_eq_false'] at *
               first
               | (simp only [Ad,Dm,cV,v0, *,Bool.false_eq_true,↓reduceIte,Bool.true_or,Bool.or_true,Bool.false_or,Bool.or_false,Bool.true_and,Bool.and_true,Bool.false_and,Bool.and_false,Bool.not_true,Bool.not_false];done)
               | (simp [Ad,Dm,cV,v0, *];done)
               | (simp_all [Ad,Dm,cV,v0];done))
            | skip
theorem c117 (k:Int)(a:Ac)(v:Vl)(h:Dn a.kind=true):Ar Tryz.prog 182 [.agg (Wp a),.agg (cV v),.ptr [.int .i64 k]] (.agg (Wp (Jp k a v))):=by
 refine Ar.body (n:=13) Ai Tryz.func182 rfl rfl rfl fun H=>?_
 refine Ah (Qp (Fx [Iq _,Iq _,Iq _,Iq _,.str _]) (Qp (Fx [Iq _,Iq _,.str _]) ?_))
 refine Qe (Aj (l:=[.int .i64 0,.int .i64 0,.int .i64 0,.int .i64 0,.str []]) (by kernel_rfl)) ?_
 rintro _ _ ⟨b5,rfl,rfl⟩
 refine Ag (AW.seq ?_)
 refine AW.draw mixed (fun _=>True) trivial (by kernel_rfl) ?_
 refine Qn 0 rfl (Cd [Iq _,Iq _,Iq _,Iq _,.str _]) (Qn 1 rfl Br (Qn 2 rfl Br (Qn 3 rfl (Cd [Iq _,Iq _,.str _]) ?_)))
 refine Qn 4 rfl (Qc rfl (c119 k v)) ?_
 refine Qn 5 rfl (El [Iq _,Iq _,Iq _,Iq _,.str _]) ?_
 refine Qn 6 rfl (Qc rfl (c118 a ⟨k,1,Ez k v⟩ h)) ?_
 refine Js.eff _ _ 7 _ _ rfl (by kernel_rfl) rfl rfl (C6 (k:=0) (v:=.agg _) (cs':=[Iq _,Iq _,Iq _,Iq _,.str _]) (H2:=_::_) Ai rfl rfl rfl rfl (rfl) rfl rfl rfl rfl) (fun _ _ _=>trivial) ?_
 rintro _ _ ⟨rfl,rfl⟩
 refine Js.done _ _ (by kernel_rfl) ?_
 refine Ae (AW.ret ?_)
 refine ⟨.inr rfl,[.agg [Iq _,Iq _,Iq _,Iq _,.str _]],.cons (.box _ _ _ 0 _ _ _ _ rfl rfl rfl rfl rfl rfl) <| .nil,.cons _ (.refl _),?_⟩
 rfl
theorem c116 (k:Int)(hk:Dn k=true)(a:Ac)(l:List Vl)(h:Dn a.kind=true):Ar Tryz.prog 181 [.agg (Wp a),.sl 3 (l.map cV),.fn (.func 182) [] [.ptr [.int .i64 k]]] (.agg (Wp (l.foldl (Jp k) a))):=by
 refine Ar.body (n:=21) Ai Tryz.func181 rfl rfl rfl fun H=>?_
 refine Ah ?_
 refine Qe (Uw (v:=.agg _) (cs:=[Iq _,Iq _,Iq _,Iq _,.str _]) rfl rfl (rfl)) ?_
 rintro _ _ ⟨b3,rfl,rfl⟩
 refine Qe (Aj (l:=[.int .i64 0,.int .i64 0,.int .i64 0,.int .i64 0,.str []]) (by kernel_rfl)) ?_
 rintro _ _ ⟨b6,rfl,rfl⟩
 refine Ag (AW.seq (Ah (Qp C5 ?_)))
 refine Qp (Ak (n:=l.length) Ai rfl rfl rfl (by simp)) ?_
 refine Qp Az (Ag (AW.block ?_))
 refine AW.sllen 9 rfl fun hlen=>?_
 simp only [List.length_map,maxLen] at hlen
 refine AW.Aau (fun (p:Nat×Ac)=>(⟨[(2,.fn (.func 182) [] [.ptr [.int .i64 k]]),(9,.sl 3 (l.map cV)),(10,.int .i64 l.length),(11,.int .i64 (p.1:Int)),(3,.val (.pointer (some ⟨b3,0,none⟩))),(6,.val (.pointer (some ⟨b6,0,none⟩)))],.box b6 239 [.int .i64 0,.int .i64 0,.int .i64 0,.int .i64 0,.str []] :: .box b3 239 (Wp p.2)::H,21⟩:St)) (fun (p:Nat×Ac)=>p.1≤l.length∧l.foldl (Jp k) a=(l.drop p.1).foldl (Jp k) p.2∧Dn p.2.kind=true) (fun (p:Nat×Ac)=>l.length-p.1) ((0,a)) ?_ (GS.weaken ⟨rfl,rfl,rfl,rfl,rfl,rfl,trivial⟩ (.refl _)) ?_
 · exact ⟨Nat.zero_le _,by simp,h⟩
 ·
  rintro p hR
  refine Ah (Qp Cf (Ag (AW.seq (A2 (fun hc1=>?_) fun hc1=>?_))))
  ·
   obtain ⟨v,hv⟩:=B1 hc1
   have hlt:=A8 hv
   refine Bv (AW.seq (AW.block (Ah ?_)))
   refine Qp (Af (c:=[Iq _,Iq _,.str _]) Ai rfl rfl rfl rfl rfl rfl (by omega) (Bg hv)) ?_
   refine Qp (Cd [Iq _,Iq _,.str _]) ?_
   refine Qe (Aj (l:=[.int .i64 0,.int .i64 0,.str []]) (by kernel_rfl)) ?_
   rintro _ _ ⟨b8,rfl,rfl⟩
   refine Cq 0 [Iq _,Iq _,.str _] (_::_::_::_) ?_
   refine AOL.ghost (GS.Aat (t:=8) 0 rfl rfl) ?_
   refine Ag (AW.region ?_)
   refine Qp (Bk (v:=.fn _ _ _) rfl) ?_
   refine AOL.Aay (By (k:=1) (l:=[Iq _,Iq _,Iq _,Iq _,.str _]) Ai rfl rfl rfl rfl rfl) rfl rfl ?_
   refine Qp (Cd [Iq _,Iq _,.str _]) ?_
   refine Qp (D4 (by kernel_rfl) rfl rfl rfl (c117 k p.2 v hR.2.2)) ?_
   refine Cq 1 [Iq _,Iq _,Iq _,Iq _,.str _] (_::_::_) ?_
   refine AOL.nil (Bp (Ae (AW.region (Qp Fu (Qp Az (Ag ?_))))))
   refine ⟨(p.1+1,Jp k p.2 v),?_,?_,GS.weaken ⟨rfl,rfl,rfl,rfl,rfl,rfl,trivial⟩ (.refl _)⟩
   · exact ⟨A8 hv,by rw [hR.2.1,A5 hv];rfl,qT k _ v hR.2.2 hk⟩
   · have:=A8 hv;first | omega | (simp only;omega)
  ·
   have hd:=Df hc1
   refine AW.exit ?_
   refine A3 (A3 (Bq (Ae (Ah ?_))))
   refine AOL.Aay (By (k:=1) (l:=[Iq _,Iq _,Iq _,Iq _,.str _]) Ai rfl rfl rfl rfl rfl) rfl rfl ?_
   refine Cq 0 [Iq _,Iq _,Iq _,Iq _,.str _] (_::_::_) ?_
   refine Ag (AW.ret ?_)
   refine ⟨.inr rfl,[.agg [Iq _,Iq _,Iq _,Iq _,.str _]],.cons (.box _ _ _ 0 _ _ _ _ rfl rfl rfl rfl rfl rfl) <| .nil,.cons _ (.cons _ (.refl _)),?_⟩
   show AV.agg (Wp _)=_
   rw [hR.2.1,hd];rfl
theorem c106 (k:Int)(l:List Vl)(o:Vl):Ar Tryz.prog 170 [.int .i64 k,.sl 3 (l.map cV),.agg (cV o)] (.tuple [.agg (cV (eC k l o).1),.int .i64 (eC k l o).2]):=by
  refine Ar.body (n:=46) Ai Tryz.func170 rfl rfl rfl fun H=>?_
  refine AW.seq (AW.region ?_)
  refine Qp (aO (v:=Iq _) (cs:=[Iq _]) rfl rfl rfl) ?_
  refine Qp (Fx [Iq _,Iq _,.str _]) ?_
  refine Qe (Aj (l:=[.int .i64 0,.int .i64 0,.str []]) (by kernel_rfl)) ?_
  rintro _ _ ⟨b6,rfl,rfl⟩
  refine Qp Ap (AOL.nil (Ae (AW.seq (AW.block (AW.seq (AW.region (Qp Br ?_)))))))
  refine Qp (Qc rfl (c114 k)) ?_
  refine Qp Ge (Qp Bc (AOL.nil (Ae (A2 (fun hc1=>?_) fun hc1=>?_))))
  · skip
    refine AW.seq (AW.region (Qp (El [Iq _,Iq _,.str _]) ?_))
    refine Cq 0 [Iq _,Iq _,.str _] (_::_) ?_
    refine Qp Ap (AOL.nil (Ae (AW.ret (A9 (Al ?_)))))
    refine ⟨.inr rfl,[.agg [Iq _,Iq _,.str _],Iq _],.cons (.box _ _ _ 0 _ _ _ _ rfl rfl rfl rfl rfl rfl) <| .cons (.tmp _ _ rfl) <| .nil,.cons _ (.refl _),?_⟩
    try simp only [Cx,Bool.and_true] at *
    first
      | (simp only [Ad,eC,cV,v0];(first | rw [if_pos hc1] | skip);first | done | rfl)
      | (try simp only [Bool.not_eq_true',Bool.not_eq_false'] at *
         first
         | (simp only [Ad,eC,cV,v0, *,Bool.false_eq_true,↓reduceIte,Bool.true_or,Bool.or_true,Bool.false_or,Bool.or_false,Bool.true_and,Bool.and_true,Bool.false_and,Bool.and_false,Bool.not_true,Bool.not_false];done)
         | (simp [Ad,eC,cV,v0, *];done)
         | (simp_all [Ad,eC,cV,v0];done))
      | skip
  · skip
    have hkn:Dn k=true:=by simpa using hc1
    refine AW.seq (AW.region (Qp C5 ?_))
    refine Qp (Ak (n:=l.length) Ai rfl rfl rfl (by simp)) ?_
    refine Qp Hb (Qp Bc (AOL.nil (Ae (A2 (fun hc2=>?_) fun hc2=>?_))))
    · skip
      refine AW.seq (AW.region (Qp (El [Iq _,Iq _,.str _]) ?_))
      refine Cq 0 [Iq _,Iq _,.str _] (_::_) ?_
      refine Qp Ap (AOL.nil (Ae (AW.ret (A9 (Al ?_)))))
      refine ⟨.inr rfl,[.agg [Iq _,Iq _,.str _],Iq _],.cons (.box _ _ _ 0 _ _ _ _ rfl rfl rfl rfl rfl rfl) <| .cons (.tmp _ _ rfl) <| .nil,.cons _ (.refl _),?_⟩
      try simp only [Cx,Bool.and_true] at *
      first
        | (simp only [Ad,eC,cV,v0];(first | rw [iN hc1] | skip);(first | rw [if_pos hc2] | skip);first | done | rfl)
        | (try simp only [Bool.not_eq_true',Bool.not_eq_false'] at *
           first
           | (simp only [Ad,eC,cV,v0, *,Bool.false_eq_true,↓reduceIte,Bool.true_or,Bool.or_true,Bool.false_or,Bool.or_false,Bool.true_and,Bool.and_true,Bool.false_and,Bool.and_false,Bool.not_true,Bool.not_false];done)
           | (simp [Ad,eC,cV,v0, *];done)
           | (simp_all [Ad,eC,cV,v0];done))
        | skip
    · skip
      refine AW.skip (Bp (Ae (AW.seq (AW.seq (AW.region (Qp C5 ?_))))))
      refine Qp (Ak (n:=l.length) Ai rfl rfl rfl (by simp)) ?_
      refine Qp Az (AOL.nil (Ae (AW.block ?_)))
      have hlen:(l.length:Int)≤4096:=by simpa using hc2
      refine AW.Aau (fun (p:Nat)=>(⟨[(1,.sl 3 (l.map cV)),(3,.ptr [.int .i64 k]),(5,.ptr (cV o)),(22,.sl 3 (l.map cV)),(23,.int .i64 l.length),(24,.int .i64 (p:Int)),(6,.val (.pointer (some ⟨b6,0,none⟩)))],.box b6 28 [.int .i64 0,.int .i64 0,.str []]::H,46⟩:St)) (fun (p:Nat)=>p≤l.length∧Aq (Dk k) l=Aq (Dk k) (l.drop p)) (fun (p:Nat)=>l.length-p) (0) ?_ (GS.weaken ⟨rfl,rfl,rfl,rfl,rfl,rfl,rfl,trivial⟩ (.refl _)) ?_
      · exact ⟨Nat.zero_le _,by simp⟩
      · rintro p hR
        refine AW.seq (AW.region (Qp Cf (AOL.nil (Ae (AW.seq (A2 (fun hc3=>?_) fun hc3=>?_))))))
        · skip
          obtain ⟨v,hv⟩:=B1 hc3
          have hlt:=A8 hv
          refine Bv (AW.seq (AW.block (AW.seq (AW.region ?_))))
          refine Qp (Af (c:=[Iq _,Iq _,.str _]) Ai rfl rfl rfl rfl rfl rfl (by omega) (Bg hv)) ?_
          refine Qp (Cd [Iq _,Iq _,.str _]) ?_
          refine Qe (Aj (l:=[.int .i64 0,.int .i64 0,.str []]) (by kernel_rfl)) ?_
          rintro _ _ ⟨b9,rfl,rfl⟩
          refine Cq 0 [Iq _,Iq _,.str _] (_::_::_) ?_
          refine AOL.ghost (GS.Aat (t:=9) 0 rfl rfl) ?_
          refine AOL.nil (Ae (AW.seq (AW.region (Qp Br (Qp (Cd [Iq _,Iq _,.str _]) ?_)))))
          refine Qp (Qc rfl (c115 k v)) ?_
          refine Qp Ap (AOL.nil (Ae (AW.seq (AW.region (Qp Az (Qp Ci (AOL.nil (Ae (A2 (fun hc4=>?_) fun hc4=>?_)))))))))
          · skip
            have hf:Aq (Dk k) l=Dk k v:=by rw [hR.2,A5 hv,Aq,if_pos hc4]
            refine AW.seq (AW.region (Qp (El [Iq _,Iq _,.str _]) (Qp Az ?_)))
            refine Cq 0 [Iq _,Iq _,.str _] (_::_) ?_
            refine Qp Ap (AOL.nil (Ae (AW.ret (A9 (Al (Al (A9 (Al ?_))))))))
            refine ⟨.inr rfl,[.agg [Iq _,Iq _,.str _],Iq _],.cons (.box _ _ _ 0 _ _ _ _ rfl rfl rfl rfl rfl rfl) <| .cons (.tmp _ _ rfl) <| .nil,.cons _ (.refl _),?_⟩
            simp only [Bool.not_eq_false'] at hc1
            have hc2':decide (4096<(l.length:Int))=false:=by simpa using hc2
            simp only [Ad,eC,hf,hc1,hc2',hkn, *,Bool.false_eq_true,↓reduceIte,Bool.not_true]
            first | rfl | simp [Z8,cV,v0]
          · skip
            refine AW.skip (Bp (Ae (AW.region (Qp Fu (Qp Az (AOL.nil (Ae ?_)))))))
            refine ⟨p+1,?_,?_,GS.weaken ⟨rfl,rfl,rfl,rfl,rfl,rfl,rfl,trivial⟩ (.refl _)⟩
            · exact ⟨A8 hv,by rw [hR.2,A5 hv,Aq,if_neg (by simpa using hc4)]⟩
            · have:=A8 hv;first | omega | (simp only;omega)
        · skip
          have hd:=Df hc3
          have hf:Aq (Dk k) l=0:=by rw [hR.2,hd];rfl
          refine AW.exit ?_
          refine A3 (A3 (Bq (Ae (AW.seq (AW.region (Qp Br (Qp (El [Iq _,Iq _,Iq _,Iq _,.str _]) (Qp C5 ?_))))))))
          refine Qp (Be (l:=[]) (l':=[.ptr _]) rfl rfl) ?_
          refine Qp (Qc rfl (c116 k hkn ⟨k,0,v0⟩ l hkn)) ?_
          refine Qe (Aj (l:=[.int .i64 0,.int .i64 0,.int .i64 0,.int .i64 0,.str []]) (by kernel_rfl)) ?_
          rintro _ _ ⟨b11,rfl,rfl⟩
          refine Cq 0 [Iq _,Iq _,Iq _,Iq _,.str _] (_::_::_) ?_
          refine AOL.ghost (GS.Aat (t:=11) 0 rfl rfl) ?_
          refine AOL.nil (Ae (AW.seq (AW.region (Qp (Cd [Iq _,Iq _,Iq _,Iq _,.str _]) (Qp (Cd [Iq _,Iq _,.str _]) ?_)))))
          refine Qp (Qc rfl (c120 (l.foldl (Jp k) ⟨k,0,v0⟩) o)) ?_
          refine Qp (Ch (v:=.agg [Iq _,Iq _,.str _]) rfl rfl) ?_
          refine Qp Ih ?_
          refine Cq 0 [Iq _,Iq _,.str _] (_::_) ?_
          refine Qp Ap (AOL.nil (Ae (AW.ret ?_)))
          refine ⟨.inr rfl,[.agg [Iq _,Iq _,.str _],Iq _],.cons (.box _ _ _ 0 _ _ _ _ rfl rfl rfl rfl rfl rfl) <| .cons (.tmp _ _ rfl) <| .nil,.cons _ (.refl _),?_⟩
          simp only [Bool.not_eq_false'] at hc1
          have hc2':decide (4096<(l.length:Int))=false:=by simpa using hc2
          simp only [Ad,eC,hf,hc1,hc2',hkn, *,Bool.false_eq_true,↓reduceIte,Bool.not_true]
          first | rfl | simp [Z8,cV,v0]
set_option maxHeartbeats 400000
set_option maxRecDepth 20000

theorem c91 (x:Evr)(v:Int):Ar Tryz.prog 152 [.agg (cX x),.int .i64 v] (.sl 5 ((Bu x.vars v).map Pm)):=by
 refine Ar.body (n:=21) Ai Tryz.func152 rfl rfl rfl fun H=>?_
 refine Ah (Qp (Fx [_,Iq _,Iq _,Iq _,Iq _,Iq _,_,_]) ?_)
 refine Qp (Bz (z:=5) rfl) ?_
 refine Ag (AW.seq (Ah (Qp Az (Qp Cf (Qp Bm (Qg [] Qw Az (Qg [] Qw (Qf [_,Iq _,Iq _,Iq _,Iq _,Iq _,_,_]) (Qg [(9,_)] Qw (Qf [_,Iq _,Iq _,Iq _,Iq _,Iq _,_,_]) (Qg [(10,_)] Qw Dg ?_)))))))))
 refine AOL.Aav (y:=Iq _) _ [(11,_)] rfl (sB.all ⟨tO.self _ _,trivial⟩) (fun hG=>Ak (n:=x.vars.length) Ai rfl rfl rfl (by simp)) rfl ?_
 refine AOL.Aav (y:=.bool _) _ [(8,_),(12,_)] rfl (sB.all ⟨tO.self _ _,tO.self _ _,trivial⟩) (fun hG=>U1 rfl rfl) rfl ?_
 refine Qp Ek (Ag (A2 (fun hc1=>?_) fun hc1=>?_))
 ·
  refine Ah ?_
  refine Qp (Bz (z:=5) rfl) ?_
  refine Ag (Dq ?_)
  refine Qr (.sl _ _) ?_
  simp only [Ad,Bu]
  rw [if_pos hc1];rfl
 ·
  have hv:0≤v∧v<(x.vars.length:Int):=by simp at hc1;omega
  obtain ⟨l,hl⟩:=Hq hv.1 hv.2
  refine Bv (Ah (Qp (Qf [_,Iq _,Iq _,Iq _,Iq _,Iq _,_,_]) (Qp (Qf [_,Iq _,Iq _,Iq _,Iq _,Iq _,_,_]) (Qp Dg (Qp Az ?_)))))
  refine Qp (Af (c:=[_]) Ai rfl rfl rfl rfl rfl rfl (hv.1) (Bg hl)) ?_
  refine Qp Dg (Qp Xa (Ag (AW.ret ?_)))
  refine Qr (.sl _ _) ?_
  simp only [Ad,Bu]
  rw [if_neg (by simpa using hc1),hl];rfl
theorem c93 (e:Ev)(k:Int)(hk:0≤k):Ar Tryz.prog 154 [.agg (Pm e),.int .i64 k] (.tuple [.agg (cV (Do e k).1),.int .i64 (Do e k).2]):=by
 refine Ar.body (n:=17) Ai Tryz.func154 rfl rfl rfl fun H=>?_
 refine Ah (Qp (Fx [Iq _,Iq _,Iq _,Iq _,_]) ?_)
 refine Qe (Aj (l:=[.int .i64 0,.int .i64 0,.str []]) (by kernel_rfl)) ?_
 rintro _ _ ⟨b4,rfl,rfl⟩
 refine Qp Ap (Ag (AW.seq (Ah (Qp Az (Qp (Qf [_]) (Qp Dg ?_))))))
 refine Qp (Ak (n:=e.values.length) Ai rfl rfl rfl (by simp)) ?_
 refine Qp Ob (Ag (A2 (fun hc1=>?_) fun hc1=>?_))
 ·
  refine Ah (Qp (El [Iq _,Iq _,.str _]) ?_)
  refine Cq 0 [Iq _,Iq _,.str _] (_::_) ?_
  refine Qp Ap (Ag (Dq ?_))
  refine ⟨.inr rfl,[.agg [Iq _,Iq _,.str _],Iq _],.cons (.box _ _ _ 0 _ _ _ _ rfl rfl rfl rfl rfl rfl) <| .cons (.tmp _ _ rfl) <| .nil,.cons _ (.refl _),?_⟩
  simp only [Ad,Do]
  rw [if_pos hc1];rfl
 ·
  obtain ⟨v,hv⟩:=Hq (l:=e.values) hk (by simp at hc1;omega)
  refine Bv (Ah (Qp (Qf [_]) (Qp Dg (Qp Az ?_))))
  refine Qp (Af (c:=[Iq _,Iq _,.str _]) Ai rfl rfl rfl rfl rfl rfl (hk) (Bg hv)) ?_
  refine Qp (Cd [Iq _,Iq _,.str _]) ?_
  refine Cq 0 [Iq _,Iq _,.str _] (_::_) ?_
  refine Qp Ap (Ag (AW.ret ?_))
  refine ⟨.inr rfl,[.agg [Iq _,Iq _,.str _],Iq _],.cons (.box _ _ _ 0 _ _ _ _ rfl rfl rfl rfl rfl rfl) <| .cons (.tmp _ _ rfl) <| .nil,.cons _ (.refl _),?_⟩
  simp only [Ad,Do]
  rw [if_neg (by simpa using hc1),hv];rfl
theorem c92 (x:Evr)(hx:x.ok)(e:Ex)(hk:0≤e.field):Ar Tryz.prog 153 [.agg (cX x),.agg (cE e)] (.tuple [.agg (cV (O8 x e).1),.int .i64 (O8 x e).2]):=by
 refine Ar.body (n:=44) Ai Tryz.func153 rfl rfl rfl fun H=>?_
 refine Ah (Qp (Fx [_,Iq _,Iq _,Iq _,Iq _,Iq _,_,_]) (Qp K3 ?_))
 refine Qe (Aj (l:=[.int .i64 0,.int .i64 0,.str []]) (by kernel_rfl)) ?_
 rintro _ _ ⟨b4,rfl,rfl⟩
 refine Qp Ap (Db (Qp Oc ?_))
 refine AOL.ghost (GS.row (t:=6) 28 3 rfl) ?_
 refine Ag (AW.seq (Ah (Qp (Cd [_,Iq _,Iq _,Iq _,Iq _,Iq _,_,_]) (Qp Ym (Qp Br ?_)))))
 refine Qp (Qc rfl (c91 x e.var)) ?_
 refine Qp (Ak (n:=(Bu x.vars e.var).length) Ai rfl rfl rfl (by simp)) ?_
 refine Qp Az (Ag (AW.block ?_))
 have hlen:=Zx hx e.var
 refine AW.Aau (fun (p:Nat×List (List AV)×Value)=>(⟨[(2,.ptr (cX x)),(3,.ptr (cE e)),(4,.val (.pointer (some ⟨b4,0,none⟩))),(6,.row p.2.2 3 p.2.1),(14,.sl 5 ((Bu x.vars e.var).map Pm)),(15,.int .i64 (Bu x.vars e.var).length),(16,.int .i64 (p.1:Int))],.row p.2.2 p.2.1.length 28 3 :: .box b4 28 [.int .i64 0,.int .i64 0,.str []]::H,44⟩:St)) (fun (p:Nat×List (List AV)×Value)=>p.1≤(Bu x.vars e.var).length∧Aq (fun v=>(Do v e.field).2) (Bu x.vars e.var)=Aq (fun v=>(Do v e.field).2) ((Bu x.vars e.var).drop p.1)∧p.2.1=(((Bu x.vars e.var).take p.1).map fun v=>(Do v e.field).1).map cV) (fun (p:Nat×List (List AV)×Value)=>(Bu x.vars e.var).length-p.1) ((0,[],.slice none 0 0)) ?_ (GS.weaken ⟨rfl,rfl,rfl,rfl,rfl,rfl,rfl,trivial⟩ (.refl _)) ?_
 · exact ⟨Nat.zero_le _,by simp,by simp⟩
 ·
  rintro p hR
  have hsc:∀c∈p.2.1,Bf c=true:=by rw [hR.2.2];exact Ff fun _=>rfl
  refine Ah (Qp Cf (Ag (AW.seq (A2 (fun hc1=>?_) fun hc1=>?_))))
  ·
   obtain ⟨a,ha⟩:=B1 hc1
   have hlt:=A8 ha
   have hm:=List.mem_of_getElem? ha
   refine Bv (AW.seq (AW.block (Ah ?_)))
   refine Qp (Af (c:=[Iq _,Iq _,Iq _,Iq _,_]) Ai rfl rfl rfl rfl rfl rfl (by omega) (Bg ha)) ?_
   refine Qp (Cd [Iq _,Iq _,Iq _,Iq _,_]) ?_
   refine Qe (Aj (l:=[.int .i64 0,.int .i64 0,.int .i64 0,.int .i64 0,.sl 3 []]) (by kernel_rfl)) ?_
   rintro _ _ ⟨b8,rfl,rfl⟩
   refine Cq 0 [Iq _,Iq _,Iq _,Iq _,_] (_::_::_::_) ?_
   refine AOL.ghost (GS.Aat (t:=8) 0 rfl rfl) ?_
   refine Db (Qp (Cd [Iq _,Iq _,Iq _,Iq _,_]) (Qp Qv (Qp Br ?_)))
   refine Qp (Qc rfl (c93 a e.field hk)) ?_
   refine Qp Lv ?_
   refine Qp (Ch (v:=.agg [Iq _,Iq _,.str _]) rfl rfl) ?_
   refine Qp Ih ?_
   refine Qe (Aj (l:=[.int .i64 0,.int .i64 0,.str []]) (by kernel_rfl)) ?_
   rintro _ _ ⟨b9,rfl,rfl⟩
   refine Cq 0 [Iq _,Iq _,.str _] (_::_::_::_) ?_
   refine Qp Ap ?_
   refine AOL.ghost (GS.Aat (t:=9) 0 rfl rfl) ?_
   refine Ag (AW.seq (Ah (Qp Az (Qp Ci (Ag (A2 (fun hc2=>?_) fun hc2=>?_))))))
   ·
    refine Ah (Qp (El [Iq _,Iq _,.str _]) (Qp Az ?_))
    refine Cq 1 [Iq _,Iq _,.str _] (_::_::_) ?_
    refine Qp Ap (Ag (Dq (A9 (Al (Al (A9 (Al ?_)))))))
    refine ⟨.inr rfl,[.agg [Iq _,Iq _,.str _],Iq _],.cons (.box _ _ _ 1 _ _ _ _ rfl rfl rfl rfl rfl rfl) <| .cons (.tmp _ _ rfl) <| .nil,.cons _ (.cons _ (.refl _)),?_⟩
    have hf:Aq (fun v=>(Do v e.field).2) (Bu x.vars e.var)=(Do a e.field).2:=by rw [hR.2.1,A5 ha,Aq,if_pos hc2]
    simp only [Ad,O8,hf,hc2,↓reduceIte];rfl
   ·
    refine Bv (AW.region ?_)
    refine Qp (Bk (v:=.row _ _ _) rfl) ?_
    refine Qp (Cd [Iq _,Iq _,.str _]) ?_
    refine Qp (A0 (es:=[[Iq _,Iq _,.str _]]) Ai rfl rfl rfl rfl rfl rfl rfl rfl rfl) ?_
    refine Qe (Dj (k:=0) Ai rfl rfl rfl rfl rfl rfl rfl rfl (G2 rfl) (hsc) (by simp [hR.2.2];omega) (by simp [hR.2.2,maxLen];omega)) ?_
    rintro _ _ ⟨v34,rfl,rfl⟩
    refine Qp (C8 (v:=.row _ _ _) rfl) ?_
    refine AOL.nil (Bp (Ae (AW.region (Qp Fu (Qp Az (Ag ?_))))))
    refine ⟨(p.1+1,p.2.1 ++ [cV (Do a e.field).1],v34),?_,?_,GS.weaken ⟨rfl,rfl,rfl,rfl,rfl,rfl,rfl,trivial⟩ (.refl _)⟩
    · simp only;exact ⟨hlt,by rw [hR.2.1,A5 ha,Aq,if_neg (by simpa using hc2)],by rw [Cm ha,hR.2.2];simp⟩
    · first | omega | (simp only;omega)
  ·
   have hte:=Cv hc1
   have hd:=Df hc1
   have hf:Aq (fun v=>(Do v e.field).2) (Bu x.vars e.var)=0:=by rw [hR.2.1,hd];rfl
   obtain ⟨k,es,rv⟩:=p
   simp only at hR hte
   obtain rfl:es=((Bu x.vars e.var).map fun v=>(Do v e.field).1).map cV:=by rw [hR.2.2,hte]
   refine AW.exit ?_
   refine A3 (A3 (Bq (Ae (Ah (Qp R6 (Qp Br ?_))))))
   refine AOL.ghost (GS.unrow 6 rfl) ?_
   refine Qp C5 (Qp J2 (Qp (Cd [Iq _,Iq _,.str _]) ?_))
   refine Qp (Qc rfl (c106 e.kind ((Bu x.vars e.var).map fun v=>(Do v e.field).1) e.val)) ?_
   refine Qp (Ch (v:=.agg [Iq _,Iq _,.str _]) rfl rfl) ?_
   refine Qp Ih ?_
   refine Cq 1 [Iq _,Iq _,.str _] (_::_::_) ?_
   refine Qp Ap (Ag (AW.ret ?_))
   refine ⟨.inr rfl,[.agg [Iq _,Iq _,.str _],Iq _],.cons (.box _ _ _ 1 _ _ _ _ rfl rfl rfl rfl rfl rfl) <| .cons (.tmp _ _ rfl) <| .nil,.cons _ (.cons _ (.refl _)),?_⟩
   simp only [Ad,O8,hf];rfl
theorem c71 (op:Int)(ks:List Int):Ar Tryz.prog 127 [.int .i64 op,.sl 1 (ks.map fun k=>[.int .i64 k])] (.int .i64 (Dp op ks)):=by
 refine Ar.body (n:=38) Ai Tryz.func127 rfl rfl rfl fun H=>?_
 refine Ah (Qp Ap (Ag (AW.seq (Ah (Qp C5 ?_)))))
 refine Qp (Ak (n:=ks.length) Ai rfl rfl rfl (by simp)) ?_
 refine Qp Az (Ag (AW.block ?_))
 refine AW.sllen 8 rfl fun hlen=>?_
 simp only [List.length_map,maxLen] at hlen
 refine AW.Aau (fun (p:Nat)=>(⟨[(0,.int .i64 op),(1,.sl 1 (ks.map fun k=>[.int .i64 k])),(8,.sl 1 (ks.map fun k=>[.int .i64 k])),(9,.int .i64 ks.length),(10,.int .i64 (p:Int))],H,38⟩:St)) (fun (p:Nat)=>p≤ks.length∧Dp op ks=Aq (fun k=>if N6 op k (ks.headD 0) then 0 else 9) (ks.drop p)) (fun (p:Nat)=>ks.length-p) (0) ?_ (GS.weaken ⟨rfl,rfl,rfl,rfl,rfl,trivial⟩ (.refl _)) ?_
 · exact ⟨Nat.zero_le _,rfl⟩
 ·
  rintro p hR
  refine Ah (Qp Cf (Ag (AW.seq (A2 (fun hc1=>?_) fun hc1=>?_))))
  ·
   obtain ⟨a,ha⟩:=B1 hc1
   have hlt:=A8 ha
   have hm:=List.mem_of_getElem? ha
   obtain ⟨a0,ha0⟩:∃a0,ks[0]? = some a0:=⟨_,List.getElem?_eq_getElem (by omega)⟩
   have hhd:ks.headD 0=a0:=by cases ks <;> simp_all
   refine Bv (AW.seq (AW.block (Ah ?_)))
   refine Qp (Af (c:=[Iq _]) Ai rfl rfl rfl rfl rfl rfl (by omega) (Bg (f:=fun k=>[AV.int .i64 k]) ha)) ?_
   refine Qp Br (Qp Ap (Db (Qp Bc (Ag ?_))))
   refine AW.cut (fun (_:Unit)=>(⟨[(0,.int .i64 op),(1,.sl 1 (ks.map fun k=>[.int .i64 k])),(8,.sl 1 (ks.map fun k=>[.int .i64 k])),(9,.int .i64 ks.length),(10,.int .i64 (p:Int)),(7,.bool (N6 op a a0))],H,38⟩:St)) (fun (_:Unit)=>True) ?_ ?_
   ·
    refine Ah (Qp Az (Ag (AW.block ?_)))
    refine AW.cut (fun (_:Unit)=>(⟨[(0,.int .i64 op),(1,.sl 1 (ks.map fun k=>[.int .i64 k])),(6,.int .i64 a),(7,.bool true),(8,.sl 1 (ks.map fun k=>[.int .i64 k])),(9,.int .i64 ks.length),(10,.int .i64 (p:Int)),(14,.int .i64 op),(15,.bool (op==5||op==6||op==7||op==8))],H,38⟩:St)) (fun (_:Unit)=>True) ?_ ?_
    ·
     refine Ah (Qp A6 (Qp Bc (Ag (A2 (fun hc2=>?_) fun hc2=>?_))))
     ·
      refine Bv ?_
      refine ⟨(),?_,GS.weaken ⟨rfl,rfl,rfl,rfl,rfl,rfl,rfl,rfl,congrArg AV.bool (by simp [N6, *]),trivial⟩ (.refl _)⟩
      trivial
     ·
      refine Ah (Qp A6 (Qp Bc (Ag (A2 (fun hc3=>?_) fun hc3=>?_))))
      ·
       refine Bv ?_
       refine ⟨(),?_,GS.weaken ⟨rfl,rfl,rfl,rfl,rfl,rfl,rfl,rfl,congrArg AV.bool (by simp [N6, *]),trivial⟩ (.refl _)⟩
       trivial
      ·
       refine Ah (Qp A6 (Qp Bc (Ag (A2 (fun hc4=>?_) fun hc4=>?_))))
       ·
        refine Bv ?_
        refine ⟨(),?_,GS.weaken ⟨rfl,rfl,rfl,rfl,rfl,rfl,rfl,rfl,congrArg AV.bool (by simp [N6, *]),trivial⟩ (.refl _)⟩
        trivial
       ·
        refine AW.region (Qp A6 (Qp Bc (Ag ?_)))
        refine ⟨(),?_,GS.weaken ⟨rfl,rfl,rfl,rfl,rfl,rfl,rfl,rfl,congrArg AV.bool (by simp [N6, *]),trivial⟩ (.refl _)⟩
        trivial
    ·
     rintro _ _
     refine A2 (fun hc5=>?_) fun hc5=>?_
     ·
      refine AW.region (Qp Az (Qp A6 (Qp Bc (AOL.nil (Bp (Ae ?_))))))
      refine ⟨(),?_,GS.weaken ⟨rfl,rfl,rfl,rfl,rfl,congrArg AV.bool (by simp [N6, *]),trivial⟩ (.refl _)⟩
      trivial
     ·
      refine AW.cut (fun (_:Unit)=>(⟨[(0,.int .i64 op),(1,.sl 1 (ks.map fun k=>[.int .i64 k])),(6,.int .i64 a),(7,.bool true),(8,.sl 1 (ks.map fun k=>[.int .i64 k])),(9,.int .i64 ks.length),(10,.int .i64 (p:Int)),(14,.int .i64 op),(22,.bool (op==10||op==11||op==12))],H,38⟩:St)) (fun (_:Unit)=>True) ?_ ?_
      ·
       refine Ah (Qp A6 (Qp Bc (Ag (A2 (fun hc6=>?_) fun hc6=>?_))))
       ·
        refine Bv ?_
        refine ⟨(),?_,GS.weaken ⟨rfl,rfl,rfl,rfl,rfl,rfl,rfl,rfl,congrArg AV.bool (by simp [N6, *]),trivial⟩ (.refl _)⟩
        trivial
       ·
        refine Ah (Qp A6 (Qp Bc (Ag (A2 (fun hc7=>?_) fun hc7=>?_))))
        ·
         refine Bv ?_
         refine ⟨(),?_,GS.weaken ⟨rfl,rfl,rfl,rfl,rfl,rfl,rfl,rfl,congrArg AV.bool (by simp [N6, *]),trivial⟩ (.refl _)⟩
         trivial
        ·
         refine AW.region (Qp A6 (Qp Bc (Ag ?_)))
         refine ⟨(),?_,GS.weaken ⟨rfl,rfl,rfl,rfl,rfl,rfl,rfl,rfl,congrArg AV.bool (by simp [N6, *]),trivial⟩ (.refl _)⟩
         trivial
      ·
       rintro _ _
       refine A2 (fun hc8=>?_) fun hc8=>?_
       ·
        refine AW.region (Qp Az (Qp A6 (Qp Bc (AOL.nil (Bp (Ae ?_))))))
        refine ⟨(),?_,GS.weaken ⟨rfl,rfl,rfl,rfl,rfl,congrArg AV.bool (by simp [N6, *]),trivial⟩ (.refl _)⟩
        trivial
       ·
        refine Ah (Qp A6 (Qp Bc (Ag (A2 (fun hc9=>?_) fun hc9=>?_))))
        ·
         refine AW.region (Qp Az (Qp C5 ?_))
         refine Qp (Af (c:=[Iq _]) Ai rfl rfl rfl rfl rfl rfl (by omega) (Bg (f:=fun k=>[AV.int .i64 k]) ha0)) ?_
         refine Qp Br (Qp A6 (Qp Bc (AOL.nil (Bp (Ae ?_)))))
         refine ⟨(),?_,GS.weaken ⟨rfl,rfl,rfl,rfl,rfl,congrArg AV.bool (by simp [N6, *]),trivial⟩ (.refl _)⟩
         trivial
        ·
         refine AW.skip (Bp (Ae ?_))
         refine ⟨(),?_,GS.weaken ⟨rfl,rfl,rfl,rfl,rfl,congrArg AV.bool (by simp [N6, *]),trivial⟩ (.refl _)⟩
         trivial
   ·
    rintro _ _
    refine Ah (Qp Bm (Qp Ge (Ag (A2 (fun hc10=>?_) fun hc10=>?_))))
    ·
     have hok:N6 op a a0=false:=by simpa using hc10
     refine Ah (Qp Ap (Ag (AW.ret (A9 (Al (Al (A9 (Al ?_))))))))
     refine Qr (Iq _) ?_
     simp only [Ad,AV.int.injEq,true_and]
     rw [hR.2,A5 ha,Aq,hhd];simp [hok]
    ·
     have hok:N6 op a a0=true:=by simpa using hc10
     refine AW.skip (Bp (Ae (AW.region (Qp Fu (Qp Az (Ag ?_))))))
     refine ⟨p+1,?_,?_,GS.weaken ⟨rfl,rfl,rfl,rfl,rfl,trivial⟩ (.refl _)⟩
     · exact ⟨hlt,by rw [hR.2,A5 ha,Aq,hhd];simp [hok]⟩
     · first | omega | (simp only;omega)
  ·
   have hd:=Df hc1
   refine AW.exit ?_
   refine A3 (A3 (Bq (Ae (Ah (Qp Ap (Ag (AW.ret ?_)))))))
   refine Qr (Iq _) ?_
   simp only [Ad,AV.int.injEq,true_and]
   rw [hR.2,hd];rfl

end Go.Proofs.YtkddpedfbicbeaaGreatDoor
