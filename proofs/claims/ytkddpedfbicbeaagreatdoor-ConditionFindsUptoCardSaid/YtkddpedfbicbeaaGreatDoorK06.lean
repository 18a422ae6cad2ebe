/-
  Several texts in one: W3, W5, W6, W8. No condition.
-/
import Derived.Test.YtkddpedfbicbeaaGreatDoorK01
import Derived.Test.YtkddpedfbicbeaaGreatDoorK05
import Derived.KernelRfl
set_option linter.unusedVariables false
set_option linter.unusedSimpArgs false
namespace Go.Proofs.YtkddpedfbicbeaaGreatDoor
open Go Go.Aw
set_option maxHeartbeats 400000
set_option maxRecDepth 20000

theorem c120 (a:Ac)(o:Vl):Ax Tryz.prog 185 [.agg (Xf a),.agg (cV o)] (.tuple [.agg (cV (Dr a o).1),.int .i64 (Dr a o).2]):=by
  refine Ax.body (n:=41) Ai Tryz.func185 rfl rfl rfl fun H=>?_
  refine AW.seq (AW.region (Qp (F5 [Iq _,Iq _,Iq _,Iq _,.str _]) (Qp (F5 [Iq _,Iq _,.str _]) ?_)))
  refine Qe (Al (l:=[.int .i64 0,.int .i64 0,.str []]) (by kernel_rfl)) ?_
  rintro _ _ ⟨b4,rfl,rfl⟩
  refine Qp Av (AOL.nil (Ae (AW.seq (AW.seq (AW.region (Qp (Cm [Iq _,Iq _,Iq _,Iq _,.str _]) ?_))))))
  refine Qp (Qc rfl (c126 a)) ?_
  refine Qp Av (AOL.nil (Ae (AW.seq (AW.region (Qp A2 (Qp Ct (AOL.nil (Ae (A5 (fun hc1=>?_) fun hc1=>?_)))))))))
  · skip
    refine AW.seq (AW.region (Qp (Et [Iq _,Iq _,.str _]) (Qp A2 (Co 0 [Iq _,Iq _,.str _] (_::_) (Qp Av (AOL.nil (Ae (Du ?_))))))))
    refine ⟨.inr rfl,[.agg [Iq _,Iq _,.str _],Iq _],.cons (.box _ _ _ 0 _ _ _ _ rfl rfl rfl rfl rfl rfl) <| .cons (.tmp _ _ rfl) <| .nil,.cons _ (.refl _),?_⟩
    try simp only [Cy,Bool.and_true] at *
    first
      | (simp only [Ad,Dr,cV,v0];(first | rw [if_pos hc1] | skip);first | done | rfl)
      | (try simp only [Bool.not_eq_true',Bool.not_eq_false'] at *
         first
         | (simp only [Ad,Dr,cV,v0, *,Bool.false_eq_true,↓reduceIte,Bool.true_or,Bool.or_true,Bool.false_or,Bool.or_false,Bool.true_and,Bool.and_true,Bool.false_and,Bool.and_false,Bool.not_true,Bool.not_false];done)
         | (simp [Ad,Dr,cV,v0, *];done)
         | (simp_all [Ad,Dr,cV,v0];done))
      | skip
  · skip
    refine Bz (AW.seq (AW.seq (AW.region (Qp Qt (Qp Bt (Qp (Cm [Iq _,Iq _,.str _]) ?_))))))
    refine Qp (Qc rfl (c115 a.kind o)) ?_
    refine Qp Av (AOL.nil (Ae (AW.seq (AW.region (Qp A2 (Qp Ct (AOL.nil (Ae (A5 (fun hc2=>?_) fun hc2=>?_)))))))))
    · skip
      refine AW.seq (AW.region (Qp (Et [Iq _,Iq _,.str _]) (Qp A2 (Co 0 [Iq _,Iq _,.str _] (_::_) (Qp Av (AOL.nil (Ae (Du ?_))))))))
      refine ⟨.inr rfl,[.agg [Iq _,Iq _,.str _],Iq _],.cons (.box _ _ _ 0 _ _ _ _ rfl rfl rfl rfl rfl rfl) <| .cons (.tmp _ _ rfl) <| .nil,.cons _ (.refl _),?_⟩
      try simp only [Cy,Bool.and_true] at *
      first
        | (simp only [Ad,Dr,cV,v0];(first | rw [iN hc1] | skip);(first | rw [if_pos hc2] | skip);first | done | rfl)
        | (try simp only [Bool.not_eq_true',Bool.not_eq_false'] at *
           first
           | (simp only [Ad,Dr,cV,v0, *,Bool.false_eq_true,↓reduceIte,Bool.true_or,Bool.or_true,Bool.false_or,Bool.or_false,Bool.true_and,Bool.and_true,Bool.false_and,Bool.and_false,Bool.not_true,Bool.not_false];done)
           | (simp [Ad,Dr,cV,v0, *];done)
           | (simp_all [Ad,Dr,cV,v0];done))
        | skip
    · skip
      refine Bz (AW.seq (AW.block (AW.seq (AW.region (Qp Qt (Qp Bt (Qp A7 (Qp Bg (AOL.nil ?_)))))))))
      refine Ae (A5 (fun hc3=>?_) fun hc3=>?_)
      · skip
        refine AW.seq (AW.region (Qp R0 (Qp Bt (Qp (Et [Iq _,Iq _,.str _]) (Co 0 [Iq _,Iq _,.str _] (_::_) (Qp Av (AOL.nil (Ae (AW.ret ?_)))))))))
        refine Bc (Aj ?_)
        refine ⟨.inr rfl,[.agg [Iq _,Iq _,.str _],Iq _],.cons (.box _ _ _ 0 _ _ _ _ rfl rfl rfl rfl rfl rfl) <| .cons (.tmp _ _ rfl) <| .nil,.cons _ (.refl _),?_⟩
        try simp only [Cy,Bool.and_true] at *
        first
          | (simp only [Ad,Dr,cV,v0];(first | rw [iN hc1] | skip);(first | rw [iN hc2] | skip);(first | rw [if_pos hc3] | skip);first | done | rfl)
          | (try simp only [Bool.not_eq_true',Bool.not_eq_false'] at *
             first
             | (simp only [Ad,Dr,cV,v0, *,Bool.false_eq_true,↓reduceIte,Bool.true_or,Bool.or_true,Bool.false_or,Bool.or_false,Bool.true_and,Bool.and_true,Bool.false_and,Bool.and_false,Bool.not_true,Bool.not_false];done)
             | (simp [Ad,Dr,cV,v0, *];done)
             | (simp_all [Ad,Dr,cV,v0];done))
          | skip
      · skip
        refine AW.seq (AW.region (Qp R0 (Qp Bt (Qp A7 (Qp Br (Qg [] Qw Qt (Qg [(34,_)] Qw Bt (Qg [(35,_)] Qw Ct (Qp E3 ?_)))))))))
        refine Qp Bg (AOL.nil (Ae (A5 (fun hc4=>?_) fun hc4=>?_)))
        · skip
          refine AW.seq (AW.region (Qp (Cm [Iq _,Iq _,.str _]) (Co 0 [Iq _,Iq _,.str _] (_::_) (Qp Av (AOL.nil (Ae (AW.ret (Bc (Aj ?_)))))))))
          refine ⟨.inr rfl,[.agg [Iq _,Iq _,.str _],Iq _],.cons (.box _ _ _ 0 _ _ _ _ rfl rfl rfl rfl rfl rfl) <| .cons (.tmp _ _ rfl) <| .nil,.cons _ (.refl _),?_⟩
          try simp only [Cy,Bool.and_true] at *
          first
            | (simp only [Ad,Dr,cV,v0];(first | rw [iN hc1] | skip);(first | rw [iN hc2] | skip);(first | rw [iN hc3] | skip);(first | rw [if_pos hc4] | skip);first | done | rfl)
            | (try simp only [Bool.not_eq_true',Bool.not_eq_false'] at *
               first
               | (simp only [Ad,Dr,cV,v0, *,Bool.false_eq_true,↓reduceIte,Bool.true_or,Bool.or_true,Bool.false_or,Bool.or_false,Bool.true_and,Bool.and_true,Bool.false_and,Bool.and_false,Bool.not_true,Bool.not_false];done)
               | (simp [Ad,Dr,cV,v0, *];done)
               | (simp_all [Ad,Dr,cV,v0];done))
            | skip
        · skip
          refine AW.skip (Bs (Ae (AW.seq (AW.region (Qp Jr (Qp (Cm [Iq _,Iq _,.str _]) (Co 0 [Iq _,Iq _,.str _] (_::_) (Qp Av (AOL.nil ?_)))))))))
          refine Ae (AW.ret ?_)
          refine ⟨.inr rfl,[.agg [Iq _,Iq _,.str _],Iq _],.cons (.box _ _ _ 0 _ _ _ _ rfl rfl rfl rfl rfl rfl) <| .cons (.tmp _ _ rfl) <| .nil,.cons _ (.refl _),?_⟩
          try simp only [Cy,Bool.and_true] at *
          first
            | (simp only [Ad,Dr,cV,v0];(first | rw [iN hc1] | skip);(first | rw [iN hc2] | skip);(first | rw [iN hc3] | skip);(first | rw [iN hc4] | skip);first | done | rfl)
            | (try simp only [Bool.not_eq_true',Bool.not_eq_false'] at *
               first
               | (simp only [Ad,Dr,cV,v0, *,Bool.false_eq_true,↓reduceIte,Bool.true_or,Bool.or_true,Bool.false_or,Bool.or_false,Bool.true_and,Bool.and_true,Bool.false_and,Bool.and_false,Bool.not_true,Bool.not_false];done)
               | (simp [Ad,Dr,cV,v0, *];done)
               | (simp_all [Ad,Dr,cV,v0];done))
            | skip
theorem c117 (k:Int)(a:Ac)(v:Vl)(h:Dt a.kind=true):Ax Tryz.prog 182 [.agg (Xf a),.agg (cV v),.ptr [.int .i64 k]] (.agg (Xf (Ju k a v))):=by
 refine Ax.body (n:=13) Ai Tryz.func182 rfl rfl rfl fun H=>?_
 refine Ah (Qp (F5 [Iq _,Iq _,Iq _,Iq _,.str _]) (Qp (F5 [Iq _,Iq _,.str _]) ?_))
 refine Qe (Al (l:=[.int .i64 0,.int .i64 0,.int .i64 0,.int .i64 0,.str []]) (by kernel_rfl)) ?_
 rintro _ _ ⟨b5,rfl,rfl⟩
 refine Ag (AW.seq ?_)
 refine AW.draw mixed (fun _=>True) trivial (by kernel_rfl) ?_
 refine Qn 0 rfl (Cm [Iq _,Iq _,Iq _,Iq _,.str _]) (Qn 1 rfl Bt (Qn 2 rfl Bt (Qn 3 rfl (Cm [Iq _,Iq _,.str _]) ?_)))
 refine Qn 4 rfl (Qc rfl (c119 k v)) ?_
 refine Qn 5 rfl (Et [Iq _,Iq _,Iq _,Iq _,.str _]) ?_
 refine Qn 6 rfl (Qc rfl (c118 a ⟨k,1,E7 k v⟩ h)) ?_
 refine Jx.eff _ _ 7 _ _ rfl (by kernel_rfl) rfl rfl (C7 (k:=0) (v:=.agg _) (cs':=[Iq _,Iq _,Iq _,Iq _,.str _]) (H2:=_::_) Ai rfl rfl rfl rfl (rfl) rfl rfl rfl rfl) (fun _ _ _=>trivial) ?_
 rintro _ _ ⟨rfl,rfl⟩
 refine Jx.done _ _ (by kernel_rfl) ?_
 refine Ae (AW.ret ?_)
 refine ⟨.inr rfl,[.agg [Iq _,Iq _,Iq _,Iq _,.str _]],.cons (.box _ _ _ 0 _ _ _ _ rfl rfl rfl rfl rfl rfl) <| .nil,.cons _ (.refl _),?_⟩
 rfl
theorem c116 (k:Int)(hk:Dt k=true)(a:Ac)(l:List Vl)(h:Dt a.kind=true):Ax Tryz.prog 181 [.agg (Xf a),.sl 3 (l.map cV),.fn (.func 182) [] [.ptr [.int .i64 k]]] (.agg (Xf (l.foldl (Ju k) a))):=by
 refine Ax.body (n:=21) Ai Tryz.func181 rfl rfl rfl fun H=>?_
 refine Ah ?_
 refine Qe (Vb (v:=.agg _) (cs:=[Iq _,Iq _,Iq _,Iq _,.str _]) rfl rfl (rfl)) ?_
 rintro _ _ ⟨b3,rfl,rfl⟩
 refine Qe (Al (l:=[.int .i64 0,.int .i64 0,.int .i64 0,.int .i64 0,.str []]) (by kernel_rfl)) ?_
 rintro _ _ ⟨b6,rfl,rfl⟩
 refine Ag (AW.seq (Ah (Qp C6 ?_)))
 refine Qp (Ak (n:=l.length) Ai rfl rfl rfl (by simp)) ?_
 refine Qp A2 (Ag (AW.block ?_))
 refine AW.sllen 9 rfl fun hlen=>?_
 simp only [List.length_map,maxLen] at hlen
 refine AW.Aa5 (fun (p:Nat×Ac)=>(⟨[(2,.fn (.func 182) [] [.ptr [.int .i64 k]]),(9,.sl 3 (l.map cV)),(10,.int .i64 l.length),(11,.int .i64 (p.1:Int)),(3,.val (.pointer (some ⟨b3,0,none⟩))),(6,.val (.pointer (some ⟨b6,0,none⟩)))],.box b6 239 [.int .i64 0,.int .i64 0,.int .i64 0,.int .i64 0,.str []] :: .box b3 239 (Xf p.2)::H,21⟩:St)) (fun (p:Nat×Ac)=>p.1≤l.length∧l.foldl (Ju k) a=(l.drop p.1).foldl (Ju k) p.2∧Dt p.2.kind=true) (fun (p:Nat×Ac)=>l.length-p.1) ((0,a)) ?_ (GS.weaken ⟨rfl,rfl,rfl,rfl,rfl,rfl,trivial⟩ (.refl _)) ?_
 · exact ⟨Nat.zero_le _,by simp,h⟩
 ·
  rintro p hR
  refine Ah (Qp Cl (Ag (AW.seq (A5 (fun hc1=>?_) fun hc1=>?_))))
  ·
   obtain ⟨v,hv⟩:=B4 hc1
   have hlt:=Bb hv
   refine Bz (AW.seq (AW.block (Ah ?_)))
   refine Qp (Af (c:=[Iq _,Iq _,.str _]) Ai rfl rfl rfl rfl rfl rfl (by omega) (Bj hv)) ?_
   refine Qp (Cm [Iq _,Iq _,.str _]) ?_
   refine Qe (Al (l:=[.int .i64 0,.int .i64 0,.str []]) (by kernel_rfl)) ?_
   rintro _ _ ⟨b8,rfl,rfl⟩
   refine Co 0 [Iq _,Iq _,.str _] (_::_::_::_) ?_
   refine AOL.ghost (GS.Aa4 (t:=8) 0 rfl rfl) ?_
   refine Ag (AW.region ?_)
   refine Qp (Bl (v:=.fn _ _ _) rfl) ?_
   refine AOL.Aa9 (B1 (k:=1) (l:=[Iq _,Iq _,Iq _,Iq _,.str _]) Ai rfl rfl rfl rfl rfl) rfl rfl ?_
   refine Qp (Cm [Iq _,Iq _,.str _]) ?_
   refine Qp (D2 (by kernel_rfl) rfl rfl rfl (c117 k p.2 v hR.2.2)) ?_
   refine Co 1 [Iq _,Iq _,Iq _,Iq _,.str _] (_::_::_) (AOL.nil (Bs (Ae (AW.region (Qp Fx (Qp A2 (Ag ?_)))))))
   refine ⟨(p.1+1,Ju k p.2 v),?_,?_,GS.weaken ⟨rfl,rfl,rfl,rfl,rfl,rfl,trivial⟩ (.refl _)⟩
   · exact ⟨Bb hv,by rw [hR.2.1,Ba hv];rfl,qM k _ v hR.2.2 hk⟩
   · have:=Bb hv;first | omega | (simp only;omega)
  ·
   have hd:=Di hc1
   refine AW.exit ?_
   refine A8 (A8 (Bw (Ae (Ah ?_))))
   refine AOL.Aa9 (B1 (k:=1) (l:=[Iq _,Iq _,Iq _,Iq _,.str _]) Ai rfl rfl rfl rfl rfl) rfl rfl ?_
   refine Co 0 [Iq _,Iq _,Iq _,Iq _,.str _] (_::_::_) (Ag (AW.ret ?_))
   refine ⟨.inr rfl,[.agg [Iq _,Iq _,Iq _,Iq _,.str _]],.cons (.box _ _ _ 0 _ _ _ _ rfl rfl rfl rfl rfl rfl) <| .nil,.cons _ (.cons _ (.refl _)),?_⟩
   show AV.agg (Xf _)=_
   rw [hR.2.1,hd];rfl
theorem c106 (k:Int)(l:List Vl)(o:Vl):Ax Tryz.prog 170 [.int .i64 k,.sl 3 (l.map cV),.agg (cV o)] (.tuple [.agg (cV (eL k l o).1),.int .i64 (eL k l o).2]):=by
  refine Ax.body (n:=46) Ai Tryz.func170 rfl rfl rfl fun H=>?_
  refine AW.seq (AW.region ?_)
  refine Qp (bC (v:=Iq _) (cs:=[Iq _]) rfl rfl rfl) ?_
  refine Qp (F5 [Iq _,Iq _,.str _]) ?_
  refine Qe (Al (l:=[.int .i64 0,.int .i64 0,.str []]) (by kernel_rfl)) ?_
  rintro _ _ ⟨b6,rfl,rfl⟩
  refine Qp Av (AOL.nil (Ae (AW.seq (AW.block (AW.seq (AW.region (Qp Bt ?_)))))))
  refine Qp (Qc rfl (c114 k)) ?_
  refine Qp Gt (Qp Bg (AOL.nil (Ae (A5 (fun hc1=>?_) fun hc1=>?_))))
  · skip
    refine AW.seq (AW.region (Qp (Et [Iq _,Iq _,.str _]) (Co 0 [Iq _,Iq _,.str _] (_::_) (Qp Av (AOL.nil (Ae (AW.ret (Bc (Aj ?_)))))))))
    refine ⟨.inr rfl,[.agg [Iq _,Iq _,.str _],Iq _],.cons (.box _ _ _ 0 _ _ _ _ rfl rfl rfl rfl rfl rfl) <| .cons (.tmp _ _ rfl) <| .nil,.cons _ (.refl _),?_⟩
    try simp only [Cy,Bool.and_true] at *
    first
      | (simp only [Ad,eL,cV,v0];(first | rw [if_pos hc1] | skip);first | done | rfl)
      | (try simp only [Bool.not_eq_true',Bool.not_eq_false'] at *
         first
         | (simp only [Ad,eL,cV,v0, *,Bool.false_eq_true,↓reduceIte,Bool.true_or,Bool.or_true,Bool.false_or,Bool.or_false,Bool.true_and,Bool.and_true,Bool.false_and,Bool.and_false,Bool.not_true,Bool.not_false];done)
         | (simp [Ad,eL,cV,v0, *];done)
         | (simp_all [Ad,eL,cV,v0];done))
      | skip
  · skip
    have hkn:Dt k=true:=by simpa using hc1
    refine AW.seq (AW.region (Qp C6 ?_))
    refine Qp (Ak (n:=l.length) Ai rfl rfl rfl (by simp)) ?_
    refine Qp Hi (Qp Bg (AOL.nil (Ae (A5 (fun hc2=>?_) fun hc2=>?_))))
    · skip
      refine AW.seq (AW.region (Qp (Et [Iq _,Iq _,.str _]) (Co 0 [Iq _,Iq _,.str _] (_::_) (Qp Av (AOL.nil (Ae (AW.ret (Bc (Aj ?_)))))))))
      refine ⟨.inr rfl,[.agg [Iq _,Iq _,.str _],Iq _],.cons (.box _ _ _ 0 _ _ _ _ rfl rfl rfl rfl rfl rfl) <| .cons (.tmp _ _ rfl) <| .nil,.cons _ (.refl _),?_⟩
      try simp only [Cy,Bool.and_true] at *
      first
        | (simp only [Ad,eL,cV,v0];(first | rw [iN hc1] | skip);(first | rw [if_pos hc2] | skip);first | done | rfl)
        | (try simp only [Bool.not_eq_true',Bool.not_eq_false'] at *
           first
           | (simp only [Ad,eL,cV,v0, *,Bool.false_eq_true,↓reduceIte,Bool.true_or,Bool.or_true,Bool.false_or,Bool.or_false,Bool.true_and,Bool.and_true,Bool.false_and,Bool.and_false,Bool.not_true,Bool.not_false];done)
           | (simp [Ad,eL,cV,v0, *];done)
           | (simp_all [Ad,eL,cV,v0];done))
        | skip
    · skip
      refine AW.skip (Bs (Ae (AW.seq (AW.seq (AW.region (Qp C6 ?_))))))
      refine Qp (Ak (n:=l.length) Ai rfl rfl rfl (by simp)) ?_
      refine Qp A2 (AOL.nil (Ae (AW.block ?_)))
      have hlen:(l.length:Int)≤4096:=by simpa using hc2
      refine AW.Aa5 (fun (p:Nat)=>(⟨[(1,.sl 3 (l.map cV)),(3,.ptr [.int .i64 k]),(5,.ptr (cV o)),(22,.sl 3 (l.map cV)),(23,.int .i64 l.length),(24,.int .i64 (p:Int)),(6,.val (.pointer (some ⟨b6,0,none⟩)))],.box b6 28 [.int .i64 0,.int .i64 0,.str []]::H,46⟩:St)) (fun (p:Nat)=>p≤l.length∧Aq (Do k) l=Aq (Do k) (l.drop p)) (fun (p:Nat)=>l.length-p) (0) ?_ (GS.weaken ⟨rfl,rfl,rfl,rfl,rfl,rfl,rfl,trivial⟩ (.refl _)) ?_
      · exact ⟨Nat.zero_le _,by simp⟩
      · rintro p hR
        refine AW.seq (AW.region (Qp Cl (AOL.nil (Ae (AW.seq (A5 (fun hc3=>?_) fun hc3=>?_))))))
        · skip
          obtain ⟨v,hv⟩:=B4 hc3
          have hlt:=Bb hv
          refine Bz (AW.seq (AW.block (AW.seq (AW.region ?_))))
          refine Qp (Af (c:=[Iq _,Iq _,.str _]) Ai rfl rfl rfl rfl rfl rfl (by omega) (Bj hv)) ?_
          refine Qp (Cm [Iq _,Iq _,.str _]) ?_
          refine Qe (Al (l:=[.int .i64 0,.int .i64 0,.str []]) (by kernel_rfl)) ?_
          rintro _ _ ⟨b9,rfl,rfl⟩
          refine Co 0 [Iq _,Iq _,.str _] (_::_::_) ?_
          refine AOL.ghost (GS.Aa4 (t:=9) 0 rfl rfl) ?_
          refine AOL.nil (Ae (AW.seq (AW.region (Qp Bt (Qp (Cm [Iq _,Iq _,.str _]) ?_)))))
          refine Qp (Qc rfl (c115 k v)) ?_
          refine Qp Av (AOL.nil (Ae (AW.seq (AW.region (Qp A2 (Qp Ct (AOL.nil (Ae (A5 (fun hc4=>?_) fun hc4=>?_)))))))))
          · skip
            have hf:Aq (Do k) l=Do k v:=by rw [hR.2,Ba hv,Aq,if_pos hc4]
            refine AW.seq (AW.region (Qp (Et [Iq _,Iq _,.str _]) (Qp A2 (Co 0 [Iq _,Iq _,.str _] (_::_) (Qp Av (AOL.nil (Ae (AW.ret (Bc ?_)))))))))
            refine Aj (Aj (Bc (Aj ?_)))
            refine ⟨.inr rfl,[.agg [Iq _,Iq _,.str _],Iq _],.cons (.box _ _ _ 0 _ _ _ _ rfl rfl rfl rfl rfl rfl) <| .cons (.tmp _ _ rfl) <| .nil,.cons _ (.refl _),?_⟩
            simp only [Bool.not_eq_false'] at hc1
            have hc2':decide (4096<(l.length:Int))=false:=by simpa using hc2
            simp only [Ad,eL,hf,hc1,hc2',hkn, *,Bool.false_eq_true,↓reduceIte,Bool.not_true]
            first | rfl | simp [Zv,cV,v0]
          · skip
            refine AW.skip (Bs (Ae (AW.region (Qp Fx (Qp A2 (AOL.nil (Ae ?_)))))))
            refine ⟨p+1,?_,?_,GS.weaken ⟨rfl,rfl,rfl,rfl,rfl,rfl,rfl,trivial⟩ (.refl _)⟩
            · exact ⟨Bb hv,by rw [hR.2,Ba hv,Aq,if_neg (by simpa using hc4)]⟩
            · have:=Bb hv;first | omega | (simp only;omega)
        · skip
          have hd:=Di hc3
          have hf:Aq (Do k) l=0:=by rw [hR.2,hd];rfl
          refine AW.exit ?_
          refine A8 (A8 (Bw (Ae (AW.seq (AW.region (Qp Bt (Qp (Et [Iq _,Iq _,Iq _,Iq _,.str _]) (Qp C6 ?_))))))))
          refine Qp (Bf (l:=[]) (l':=[.ptr _]) rfl rfl) ?_
          refine Qp (Qc rfl (c116 k hkn ⟨k,0,v0⟩ l hkn)) ?_
          refine Qe (Al (l:=[.int .i64 0,.int .i64 0,.int .i64 0,.int .i64 0,.str []]) (by kernel_rfl)) ?_
          rintro _ _ ⟨b11,rfl,rfl⟩
          refine Co 0 [Iq _,Iq _,Iq _,Iq _,.str _] (_::_::_) ?_
          refine AOL.ghost (GS.Aa4 (t:=11) 0 rfl rfl) ?_
          refine AOL.nil (Ae (AW.seq (AW.region (Qp (Cm [Iq _,Iq _,Iq _,Iq _,.str _]) (Qp (Cm [Iq _,Iq _,.str _]) ?_)))))
          refine Qp (Qc rfl (c120 (l.foldl (Ju k) ⟨k,0,v0⟩) o)) ?_
          refine Qp (Cd (v:=.agg [Iq _,Iq _,.str _]) rfl rfl) ?_
          refine Qp Jq (Co 0 [Iq _,Iq _,.str _] (_::_) (Qp Av (AOL.nil (Ae (AW.ret ?_)))))
          refine ⟨.inr rfl,[.agg [Iq _,Iq _,.str _],Iq _],.cons (.box _ _ _ 0 _ _ _ _ rfl rfl rfl rfl rfl rfl) <| .cons (.tmp _ _ rfl) <| .nil,.cons _ (.refl _),?_⟩
          simp only [Bool.not_eq_false'] at hc1
          have hc2':decide (4096<(l.length:Int))=false:=by simpa using hc2
          simp only [Ad,eL,hf,hc1,hc2',hkn, *,Bool.false_eq_true,↓reduceIte,Bool.not_true]
          first | rfl | simp [Zv,cV,v0]
set_option maxHeartbeats 400000
set_option maxRecDepth 20000

theorem c91 (x:Evr)(v:Int):Ax Tryz.prog 152 [.agg (cX x),.int .i64 v] (.sl 5 ((Bv x.vars v).map Oo)):=by
 refine Ax.body (n:=21) Ai Tryz.func152 rfl rfl rfl fun H=>?_
 refine Ah (Qp (F5 [_,Iq _,Iq _,Iq _,Iq _,Iq _,_,_]) ?_)
 refine Qp (B2 (z:=5) rfl) ?_
 refine Ag (AW.seq (Ah (Qp A2 (Qp Cl (Qp Br (Qg [] Qw A2 (Qg [] Qw (Qf [_,Iq _,Iq _,Iq _,Iq _,Iq _,_,_]) (Qg [(9,_)] Qw (Qf [_,Iq _,Iq _,Iq _,Iq _,Iq _,_,_]) (Qg [(10,_)] Qw Dm ?_)))))))))
 refine AOL.Aa6 (y:=Iq _) _ [(11,_)] rfl (sF.all ⟨Ent.Aa3 _ _,trivial⟩) (fun hG=>Ak (n:=x.vars.length) Ai rfl rfl rfl (by simp)) rfl ?_
 refine AOL.Aa6 (y:=.bool _) _ [(8,_),(12,_)] rfl (sF.all ⟨Ent.Aa3 _ _,Ent.Aa3 _ _,trivial⟩) (fun hG=>Uo rfl rfl) rfl ?_
 refine Qp E5 (Ag (A5 (fun hc1=>?_) fun hc1=>?_))
 ·
  refine Ah ?_
  refine Qp (B2 (z:=5) rfl) ?_
  refine Ag (Du ?_)
  refine Qr (.sl _ _) ?_
  simp only [Ad,Bv]
  rw [if_pos hc1];rfl
 ·
  have hv:0≤v∧v<(x.vars.length:Int):=by simp at hc1;omega
  obtain ⟨l,hl⟩:=Hv hv.1 hv.2
  refine Bz (Ah (Qp (Qf [_,Iq _,Iq _,Iq _,Iq _,Iq _,_,_]) (Qp (Qf [_,Iq _,Iq _,Iq _,Iq _,Iq _,_,_]) (Qp Dm (Qp A2 ?_)))))
  refine Qp (Af (c:=[_]) Ai rfl rfl rfl rfl rfl rfl (hv.1) (Bj hl)) ?_
  refine Qp Dm (Qp Vy (Ag (AW.ret ?_)))
  refine Qr (.sl _ _) ?_
  simp only [Ad,Bv]
  rw [if_neg (by simpa using hc1),hl];rfl
theorem c93 (e:Ev)(k:Int)(hk:0≤k):Ax Tryz.prog 154 [.agg (Oo e),.int .i64 k] (.tuple [.agg (cV (Dq e k).1),.int .i64 (Dq e k).2]):=by
 refine Ax.body (n:=17) Ai Tryz.func154 rfl rfl rfl fun H=>?_
 refine Ah (Qp (F5 [Iq _,Iq _,Iq _,Iq _,_]) ?_)
 refine Qe (Al (l:=[.int .i64 0,.int .i64 0,.str []]) (by kernel_rfl)) ?_
 rintro _ _ ⟨b4,rfl,rfl⟩
 refine Qp Av (Ag (AW.seq (Ah (Qp A2 (Qp (Qf [_]) (Qp Dm ?_))))))
 refine Qp (Ak (n:=e.values.length) Ai rfl rfl rfl (by simp)) ?_
 refine Qp N7 (Ag (A5 (fun hc1=>?_) fun hc1=>?_))
 ·
  refine Ah (Qp (Et [Iq _,Iq _,.str _]) (Co 0 [Iq _,Iq _,.str _] (_::_) (Qp Av (Ag (Du ?_)))))
  refine ⟨.inr rfl,[.agg [Iq _,Iq _,.str _],Iq _],.cons (.box _ _ _ 0 _ _ _ _ rfl rfl rfl rfl rfl rfl) <| .cons (.tmp _ _ rfl) <| .nil,.cons _ (.refl _),?_⟩
  simp only [Ad,Dq]
  rw [if_pos hc1];rfl
 ·
  obtain ⟨v,hv⟩:=Hv (l:=e.values) hk (by simp at hc1;omega)
  refine Bz (Ah (Qp (Qf [_]) (Qp Dm (Qp A2 ?_))))
  refine Qp (Af (c:=[Iq _,Iq _,.str _]) Ai rfl rfl rfl rfl rfl rfl (hk) (Bj hv)) ?_
  refine Qp (Cm [Iq _,Iq _,.str _]) (Co 0 [Iq _,Iq _,.str _] (_::_) (Qp Av (Ag (AW.ret ?_))))
  refine ⟨.inr rfl,[.agg [Iq _,Iq _,.str _],Iq _],.cons (.box _ _ _ 0 _ _ _ _ rfl rfl rfl rfl rfl rfl) <| .cons (.tmp _ _ rfl) <| .nil,.cons _ (.refl _),?_⟩
  simp only [Ad,Dq]
  rw [if_neg (by simpa using hc1),hv];rfl
theorem c92 (x:Evr)(hx:x.ok)(e:Ex)(hk:0≤e.field):Ax Tryz.prog 153 [.agg (cX x),.agg (cE e)] (.tuple [.agg (cV (O3 x e).1),.int .i64 (O3 x e).2]):=by
 refine Ax.body (n:=44) Ai Tryz.func153 rfl rfl rfl fun H=>?_
 refine Ah (Qp (F5 [_,Iq _,Iq _,Iq _,Iq _,Iq _,_,_]) (Qp La ?_))
 refine Qe (Al (l:=[.int .i64 0,.int .i64 0,.str []]) (by kernel_rfl)) ?_
 rintro _ _ ⟨b4,rfl,rfl⟩
 refine Qp Av (Dh (Qp N8 ?_))
 refine AOL.ghost (GS.row (t:=6) 28 3 rfl) ?_
 refine Ag (AW.seq (Ah (Qp (Cm [_,Iq _,Iq _,Iq _,Iq _,Iq _,_,_]) (Qp Yy (Qp Bt ?_)))))
 refine Qp (Qc rfl (c91 x e.var)) ?_
 refine Qp (Ak (n:=(Bv x.vars e.var).length) Ai rfl rfl rfl (by simp)) ?_
 refine Qp A2 (Ag (AW.block ?_))
 have hlen:=aQ hx e.var
 refine AW.Aa5 (fun (p:Nat×List (List AV)×Value)=>(⟨[(2,.ptr (cX x)),(3,.ptr (cE e)),(4,.val (.pointer (some ⟨b4,0,none⟩))),(6,.row p.2.2 3 p.2.1),(14,.sl 5 ((Bv x.vars e.var).map Oo)),(15,.int .i64 (Bv x.vars e.var).length),(16,.int .i64 (p.1:Int))],.row p.2.2 p.2.1.length 28 3 :: .box b4 28 [.int .i64 0,.int .i64 0,.str []]::H,44⟩:St)) (fun (p:Nat×List (List AV)×Value)=>p.1≤(Bv x.vars e.var).length∧Aq (fun v=>(Dq v e.field).2) (Bv x.vars e.var)=Aq (fun v=>(Dq v e.field).2) ((Bv x.vars e.var).drop p.1)∧p.2.1=(((Bv x.vars e.var).take p.1).map fun v=>(Dq v e.field).1).map cV) (fun (p:Nat×List (List AV)×Value)=>(Bv x.vars e.var).length-p.1) ((0,[],.slice none 0 0)) ?_ (GS.weaken ⟨rfl,rfl,rfl,rfl,rfl,rfl,rfl,trivial⟩ (.refl _)) ?_
 · exact ⟨Nat.zero_le _,by simp,by simp⟩
 ·
  rintro p hR
  have hsc:∀c∈p.2.1,Bh c=true:=by rw [hR.2.2];exact Fo fun _=>rfl
  refine Ah (Qp Cl (Ag (AW.seq (A5 (fun hc1=>?_) fun hc1=>?_))))
  ·
   obtain ⟨a,ha⟩:=B4 hc1
   have hlt:=Bb ha
   have hm:=List.mem_of_getElem? ha
   refine Bz (AW.seq (AW.block (Ah ?_)))
   refine Qp (Af (c:=[Iq _,Iq _,Iq _,Iq _,_]) Ai rfl rfl rfl rfl rfl rfl (by omega) (Bj ha)) ?_
   refine Qp (Cm [Iq _,Iq _,Iq _,Iq _,_]) ?_
   refine Qe (Al (l:=[.int .i64 0,.int .i64 0,.int .i64 0,.int .i64 0,.sl 3 []]) (by kernel_rfl)) ?_
   rintro _ _ ⟨b8,rfl,rfl⟩
   refine Co 0 [Iq _,Iq _,Iq _,Iq _,_] (_::_::_::_) ?_
   refine AOL.ghost (GS.Aa4 (t:=8) 0 rfl rfl) ?_
   refine Dh (Qp (Cm [Iq _,Iq _,Iq _,Iq _,_]) (Qp Qt (Qp Bt ?_)))
   refine Qp (Qc rfl (c93 a e.field hk)) ?_
   refine Qp Mx ?_
   refine Qp (Cd (v:=.agg [Iq _,Iq _,.str _]) rfl rfl) ?_
   refine Qp Jq ?_
   refine Qe (Al (l:=[.int .i64 0,.int .i64 0,.str []]) (by kernel_rfl)) ?_
   rintro _ _ ⟨b9,rfl,rfl⟩
   refine Co 0 [Iq _,Iq _,.str _] (_::_::_::_) (Qp Av ?_)
   refine AOL.ghost (GS.Aa4 (t:=9) 0 rfl rfl) ?_
   refine Ag (AW.seq (Ah (Qp A2 (Qp Ct (Ag (A5 (fun hc2=>?_) fun hc2=>?_))))))
   ·
    refine Ah (Qp (Et [Iq _,Iq _,.str _]) (Qp A2 (Co 1 [Iq _,Iq _,.str _] (_::_::_) (Qp Av (Ag (Du (Bc (Aj (Aj ?_)))))))))
    refine Bc (Aj ?_)
    refine ⟨.inr rfl,[.agg [Iq _,Iq _,.str _],Iq _],.cons (.box _ _ _ 1 _ _ _ _ rfl rfl rfl rfl rfl rfl) <| .cons (.tmp _ _ rfl) <| .nil,.cons _ (.cons _ (.refl _)),?_⟩
    have hf:Aq (fun v=>(Dq v e.field).2) (Bv x.vars e.var)=(Dq a e.field).2:=by rw [hR.2.1,Ba ha,Aq,if_pos hc2]
    simp only [Ad,O3,hf,hc2,↓reduceIte];rfl
   ·
    refine Bz (AW.region ?_)
    refine Qp (Bl (v:=.row _ _ _) rfl) ?_
    refine Qp (Cm [Iq _,Iq _,.str _]) ?_
    refine Qp (A1 (es:=[[Iq _,Iq _,.str _]]) Ai rfl rfl rfl rfl rfl rfl rfl rfl rfl) ?_
    refine Qe (Dn (k:=0) Ai rfl rfl rfl rfl rfl rfl rfl rfl (Hg rfl) (hsc) (by simp [hR.2.2];omega) (by simp [hR.2.2,maxLen];omega)) ?_
    rintro _ _ ⟨v34,rfl,rfl⟩
    refine Qp (C3 (v:=.row _ _ _) rfl) ?_
    refine AOL.nil (Bs (Ae (AW.region (Qp Fx (Qp A2 (Ag ?_))))))
    refine ⟨(p.1+1,p.2.1 ++ [cV (Dq a e.field).1],v34),?_,?_,GS.weaken ⟨rfl,rfl,rfl,rfl,rfl,rfl,rfl,trivial⟩ (.refl _)⟩
    · simp only;exact ⟨hlt,by rw [hR.2.1,Ba ha,Aq,if_neg (by simpa using hc2)],by rw [Cu ha,hR.2.2];simp⟩
    · first | omega | (simp only;omega)
  ·
   have hte:=C5 hc1
   have hd:=Di hc1
   have hf:Aq (fun v=>(Dq v e.field).2) (Bv x.vars e.var)=0:=by rw [hR.2.1,hd];rfl
   obtain ⟨k,es,rv⟩:=p
   simp only at hR hte
   obtain rfl:es=((Bv x.vars e.var).map fun v=>(Dq v e.field).1).map cV:=by rw [hR.2.2,hte]
   refine AW.exit ?_
   refine A8 (A8 (Bw (Ae (Ah (Qp R0 (Qp Bt ?_))))))
   refine AOL.ghost (GS.unrow 6 rfl) ?_
   refine Qp C6 (Qp Jr (Qp (Cm [Iq _,Iq _,.str _]) ?_))
   refine Qp (Qc rfl (c106 e.kind ((Bv x.vars e.var).map fun v=>(Dq v e.field).1) e.val)) ?_
   refine Qp (Cd (v:=.agg [Iq _,Iq _,.str _]) rfl rfl) ?_
   refine Qp Jq (Co 1 [Iq _,Iq _,.str _] (_::_::_) (Qp Av (Ag (AW.ret ?_))))
   refine ⟨.inr rfl,[.agg [Iq _,Iq _,.str _],Iq _],.cons (.box _ _ _ 1 _ _ _ _ rfl rfl rfl rfl rfl rfl) <| .cons (.tmp _ _ rfl) <| .nil,.cons _ (.cons _ (.refl _)),?_⟩
   simp only [Ad,O3,hf];rfl
theorem c71 (op:Int)(ks:List Int):Ax Tryz.prog 127 [.int .i64 op,.sl 1 (ks.map fun k=>[.int .i64 k])] (.int .i64 (Dk op ks)):=by
 refine Ax.body (n:=38) Ai Tryz.func127 rfl rfl rfl fun H=>?_
 refine Ah (Qp Av (Ag (AW.seq (Ah (Qp C6 ?_)))))
 refine Qp (Ak (n:=ks.length) Ai rfl rfl rfl (by simp)) ?_
 refine Qp A2 (Ag (AW.block ?_))
 refine AW.sllen 8 rfl fun hlen=>?_
 simp only [List.length_map,maxLen] at hlen
 refine AW.Aa5 (fun (p:Nat)=>(⟨[(0,.int .i64 op),(1,.sl 1 (ks.map fun k=>[.int .i64 k])),(8,.sl 1 (ks.map fun k=>[.int .i64 k])),(9,.int .i64 ks.length),(10,.int .i64 (p:Int))],H,38⟩:St)) (fun (p:Nat)=>p≤ks.length∧Dk op ks=Aq (fun k=>if Mo op k (ks.headD 0) then 0 else 9) (ks.drop p)) (fun (p:Nat)=>ks.length-p) (0) ?_ (GS.weaken ⟨rfl,rfl,rfl,rfl,rfl,trivial⟩ (.refl _)) ?_
 · exact ⟨Nat.zero_le _,rfl⟩
 ·
  rintro p hR
  refine Ah (Qp Cl (Ag (AW.seq (A5 (fun hc1=>?_) fun hc1=>?_))))
  ·
   obtain ⟨a,ha⟩:=B4 hc1
   have hlt:=Bb ha
   have hm:=List.mem_of_getElem? ha
   obtain ⟨a0,ha0⟩:∃a0,ks[0]? = some a0:=⟨_,List.getElem?_eq_getElem (by omega)⟩
   have hhd:ks.headD 0=a0:=by cases ks <;> simp_all
   refine Bz (AW.seq (AW.block (Ah ?_)))
   refine Qp (Af (c:=[Iq _]) Ai rfl rfl rfl rfl rfl rfl (by omega) (Bj (f:=fun k=>[AV.int .i64 k]) ha)) ?_
   refine Qp Bt (Qp Av (Dh (Qp Bg (Ag ?_))))
   refine AW.cut (fun (_:Unit)=>(⟨[(0,.int .i64 op),(1,.sl 1 (ks.map fun k=>[.int .i64 k])),(8,.sl 1 (ks.map fun k=>[.int .i64 k])),(9,.int .i64 ks.length),(10,.int .i64 (p:Int)),(7,.bool (Mo op a a0))],H,38⟩:St)) (fun (_:Unit)=>True) ?_ ?_
   ·
    refine Ah (Qp A2 (Ag (AW.block ?_)))
    refine AW.cut (fun (_:Unit)=>(⟨[(0,.int .i64 op),(1,.sl 1 (ks.map fun k=>[.int .i64 k])),(6,.int .i64 a),(7,.bool true),(8,.sl 1 (ks.map fun k=>[.int .i64 k])),(9,.int .i64 ks.length),(10,.int .i64 (p:Int)),(14,.int .i64 op),(15,.bool (op==5||op==6||op==7||op==8))],H,38⟩:St)) (fun (_:Unit)=>True) ?_ ?_
    ·
     refine Ah (Qp A7 (Qp Bg (Ag (A5 (fun hc2=>?_) fun hc2=>?_))))
     ·
      refine Bz ?_
      refine ⟨(),?_,GS.weaken ⟨rfl,rfl,rfl,rfl,rfl,rfl,rfl,rfl,congrArg AV.bool (by simp [Mo, *]),trivial⟩ (.refl _)⟩
      trivial
     ·
      refine Ah (Qp A7 (Qp Bg (Ag (A5 (fun hc3=>?_) fun hc3=>?_))))
      ·
       refine Bz ?_
       refine ⟨(),?_,GS.weaken ⟨rfl,rfl,rfl,rfl,rfl,rfl,rfl,rfl,congrArg AV.bool (by simp [Mo, *]),trivial⟩ (.refl _)⟩
       trivial
      ·
       refine Ah (Qp A7 (Qp Bg (Ag (A5 (fun hc4=>?_) fun hc4=>?_))))
       ·
        refine Bz ?_
        refine ⟨(),?_,GS.weaken ⟨rfl,rfl,rfl,rfl,rfl,rfl,rfl,rfl,congrArg AV.bool (by simp [Mo, *]),trivial⟩ (.refl _)⟩
        trivial
       ·
        refine AW.region (Qp A7 (Qp Bg (Ag ?_)))
        refine ⟨(),?_,GS.weaken ⟨rfl,rfl,rfl,rfl,rfl,rfl,rfl,rfl,congrArg AV.bool (by simp [Mo, *]),trivial⟩ (.refl _)⟩
        trivial
    ·
     rintro _ _
     refine A5 (fun hc5=>?_) fun hc5=>?_
     ·
      refine AW.region (Qp A2 (Qp A7 (Qp Bg (AOL.nil (Bs (Ae ?_))))))
      refine ⟨(),?_,GS.weaken ⟨rfl,rfl,rfl,rfl,rfl,congrArg AV.bool (by simp [Mo, *]),trivial⟩ (.refl _)⟩
      trivial
     ·
      refine AW.cut (fun (_:Unit)=>(⟨[(0,.int .i64 op),(1,.sl 1 (ks.map fun k=>[.int .i64 k])),(6,.int .i64 a),(7,.bool true),(8,.sl 1 (ks.map fun k=>[.int .i64 k])),(9,.int .i64 ks.length),(10,.int .i64 (p:Int)),(14,.int .i64 op),(22,.bool (op==10||op==11||op==12))],H,38⟩:St)) (fun (_:Unit)=>True) ?_ ?_
      ·
       refine Ah (Qp A7 (Qp Bg (Ag (A5 (fun hc6=>?_) fun hc6=>?_))))
       ·
        refine Bz ?_
        refine ⟨(),?_,GS.weaken ⟨rfl,rfl,rfl,rfl,rfl,rfl,rfl,rfl,congrArg AV.bool (by simp [Mo, *]),trivial⟩ (.refl _)⟩
        trivial
       ·
        refine Ah (Qp A7 (Qp Bg (Ag (A5 (fun hc7=>?_) fun hc7=>?_))))
        ·
         refine Bz ?_
         refine ⟨(),?_,GS.weaken ⟨rfl,rfl,rfl,rfl,rfl,rfl,rfl,rfl,congrArg AV.bool (by simp [Mo, *]),trivial⟩ (.refl _)⟩
         trivial
        ·
         refine AW.region (Qp A7 (Qp Bg (Ag ?_)))
         refine ⟨(),?_,GS.weaken ⟨rfl,rfl,rfl,rfl,rfl,rfl,rfl,rfl,congrArg AV.bool (by simp [Mo, *]),trivial⟩ (.refl _)⟩
         trivial
      ·
       rintro _ _
       refine A5 (fun hc8=>?_) fun hc8=>?_
       ·
        refine AW.region (Qp A2 (Qp A7 (Qp Bg (AOL.nil (Bs (Ae ?_))))))
        refine ⟨(),?_,GS.weaken ⟨rfl,rfl,rfl,rfl,rfl,congrArg AV.bool (by simp [Mo, *]),trivial⟩ (.refl _)⟩
        trivial
       ·
        refine Ah (Qp A7 (Qp Bg (Ag (A5 (fun hc9=>?_) fun hc9=>?_))))
        ·
         refine AW.region (Qp A2 (Qp C6 ?_))
         refine Qp (Af (c:=[Iq _]) Ai rfl rfl rfl rfl rfl rfl (by omega) (Bj (f:=fun k=>[AV.int .i64 k]) ha0)) ?_
         refine Qp Bt (Qp A7 (Qp Bg (AOL.nil (Bs (Ae ?_)))))
         refine ⟨(),?_,GS.weaken ⟨rfl,rfl,rfl,rfl,rfl,congrArg AV.bool (by simp [Mo, *]),trivial⟩ (.refl _)⟩
         trivial
        ·
         refine AW.skip (Bs (Ae ?_))
         refine ⟨(),?_,GS.weaken ⟨rfl,rfl,rfl,rfl,rfl,congrArg AV.bool (by simp [Mo, *]),trivial⟩ (.refl _)⟩
         trivial
   ·
    rintro _ _
    refine Ah (Qp Br (Qp Gt (Ag (A5 (fun hc10=>?_) fun hc10=>?_))))
    ·
     have hok:Mo op a a0=false:=by simpa using hc10
     refine Ah (Qp Av (Ag (AW.ret (Bc (Aj (Aj (Bc (Aj ?_))))))))
     refine Qr (Iq _) ?_
     simp only [Ad,AV.int.injEq,true_and]
     rw [hR.2,Ba ha,Aq,hhd];simp [hok]
    ·
     have hok:Mo op a a0=true:=by simpa using hc10
     refine AW.skip (Bs (Ae (AW.region (Qp Fx (Qp A2 (Ag ?_))))))
     refine ⟨p+1,?_,?_,GS.weaken ⟨rfl,rfl,rfl,rfl,rfl,trivial⟩ (.refl _)⟩
     · exact ⟨hlt,by rw [hR.2,Ba ha,Aq,hhd];simp [hok]⟩
     · first | omega | (simp only;omega)
  ·
   have hd:=Di hc1
   refine AW.exit ?_
   refine A8 (A8 (Bw (Ae (Ah (Qp Av (Ag (AW.ret ?_)))))))
   refine Qr (Iq _) ?_
   simp only [Ad,AV.int.injEq,true_and]
   rw [hR.2,hd];rfl

set_option maxHeartbeats 400000
set_option maxRecDepth 20000

theorem c98 (op:Int):Ax Tryz.prog 151 [.int .i64 op] (.int .i64 (Gr op)):=by
  refine Ax.body (n:=13) Ai Tryz.func151 rfl rfl rfl fun H=>?_
  refine AW.seq (AW.region (Qp Av (AOL.nil (Ae (AW.seq (AW.seq (AW.region (Qp A2 (AOL.nil ?_)))))))))
  refine Ae (AW.block ?_)
  refine AW.cut (fun (_:Unit)=>(⟨[(0,.int .i64 op),(3,.int .i64 op),(4,.bool (op==5||op==6||op==7||op==8))],H,13⟩:St)) (fun (_:Unit)=>True) ?_ ?_
  · skip
    refine AW.seq (AW.region (Qp A7 (Qp Bg (AOL.nil (Ae (A5 (fun hc1=>?_) fun hc1=>?_))))))
    · skip
      refine Bz ?_
      refine ⟨(),?_,GS.weaken ⟨rfl,rfl,congrArg AV.bool (by simp [Mo, *]),trivial⟩ (.refl _)⟩
      trivial
    · skip
      refine AW.seq (AW.region (Qp A7 (Qp Bg (AOL.nil (Ae (A5 (fun hc2=>?_) fun hc2=>?_))))))
      · skip
        refine Bz ?_
        refine ⟨(),?_,GS.weaken ⟨rfl,rfl,congrArg AV.bool (by simp [Mo, *]),trivial⟩ (.refl _)⟩
        trivial
      · skip
        refine AW.seq (AW.region (Qp A7 (Qp Bg (AOL.nil (Ae (A5 (fun hc3=>?_) fun hc3=>?_))))))
        · skip
          refine Bz ?_
          refine ⟨(),?_,GS.weaken ⟨rfl,rfl,congrArg AV.bool (by simp [Mo, *]),trivial⟩ (.refl _)⟩
          trivial
        · skip
          refine AW.region (Qp A7 (Qp Bg (AOL.nil (Ae ?_))))
          refine ⟨(),?_,GS.weaken ⟨rfl,rfl,congrArg AV.bool (by simp [Mo, *]),trivial⟩ (.refl _)⟩
          trivial
  · rintro _ _
    refine A5 (fun hc4=>?_) fun hc4=>?_
    · skip
      refine AW.seq (AW.region (Qp Av (AOL.nil (Ae (AW.ret (Bc (Aj ?_)))))))
      refine Qr (Iq _) ?_
      try simp only [Cy,Bool.and_true] at *
      first
        | (simp only [Ad,Gr];(first | rw [if_pos hc4] | skip);first | done | rfl)
        | (try simp only [Bool.not_eq_true',Bool.not_eq_false'] at *
           first
           | (simp only [Ad,Gr, *,Bool.false_eq_true,↓reduceIte,Bool.true_or,Bool.or_true,Bool.false_or,Bool.or_false,Bool.true_and,Bool.and_true,Bool.false_and,Bool.and_false,Bool.not_true,Bool.not_false];done)
           | (simp [Ad,Gr, *];done)
           | (simp_all [Ad,Gr];done))
        | skip
    · skip
      refine AW.cut (fun (_:Unit)=>(⟨[(0,.int .i64 op),(3,.int .i64 op),(9,.bool (op==10||op==11||op==12))],H,13⟩:St)) (fun (_:Unit)=>True) ?_ ?_
      · skip
        refine AW.seq (AW.region (Qp A7 (Qp Bg (AOL.nil (Ae (A5 (fun hc5=>?_) fun hc5=>?_))))))
        · skip
          refine Bz ?_
          refine ⟨(),?_,GS.weaken ⟨rfl,rfl,congrArg AV.bool (by simp [Mo, *]),trivial⟩ (.refl _)⟩
          trivial
        · skip
          refine AW.seq (AW.region (Qp A7 (Qp Bg (AOL.nil (Ae (A5 (fun hc6=>?_) fun hc6=>?_))))))
          · skip
            refine Bz ?_
            refine ⟨(),?_,GS.weaken ⟨rfl,rfl,congrArg AV.bool (by simp [Mo, *]),trivial⟩ (.refl _)⟩
            trivial
          · skip
            refine AW.region (Qp A7 (Qp Bg (AOL.nil (Ae ?_))))
            refine ⟨(),?_,GS.weaken ⟨rfl,rfl,congrArg AV.bool (by simp [Mo, *]),trivial⟩ (.refl _)⟩
            trivial
      · rintro _ _
        refine A5 (fun hc7=>?_) fun hc7=>?_
        · skip
          refine AW.seq (AW.region (Qp Av (AOL.nil (Ae (AW.ret (Bc (Aj ?_)))))))
          refine Qr (Iq _) ?_
          try simp only [Cy,Bool.and_true] at *
          first
            | (simp only [Ad,Gr];(first | rw [iN hc4] | skip);(first | rw [if_pos hc7] | skip);first | done | rfl)
            | (try simp only [Bool.not_eq_true',Bool.not_eq_false'] at *
               first
               | (simp only [Ad,Gr, *,Bool.false_eq_true,↓reduceIte,Bool.true_or,Bool.or_true,Bool.false_or,Bool.or_false,Bool.true_and,Bool.and_true,Bool.false_and,Bool.and_false,Bool.not_true,Bool.not_false];done)
               | (simp [Ad,Gr, *];done)
               | (simp_all [Ad,Gr];done))
            | skip
        · skip
          refine AW.skip (Bs (Ae (AW.seq (AW.region (Qp Av (AOL.nil (Ae (AW.ret ?_))))))))
          refine Qr (Iq _) ?_
          try simp only [Cy,Bool.and_true] at *
          first
            | (simp only [Ad,Gr];(first | rw [iN hc4] | skip);(first | rw [iN hc7] | skip);first | done | rfl)
            | (try simp only [Bool.not_eq_true',Bool.not_eq_false'] at *
               first
               | (simp only [Ad,Gr, *,Bool.false_eq_true,↓reduceIte,Bool.true_or,Bool.or_true,Bool.false_or,Bool.or_false,Bool.true_and,Bool.and_true,Bool.false_and,Bool.and_false,Bool.not_true,Bool.not_false];done)
               | (simp [Ad,Gr, *];done)
               | (simp_all [Ad,Gr];done))
            | skip
theorem c73 (op:Int)(ks:List Int):Ax Tryz.prog 116 [.int .i64 op,.sl 1 (ks.map fun k=>[.int .i64 k])] (.int .i64 (Dk op ks)):=by
 refine Ax.body (n:=39) Ai Tryz.func116 rfl rfl rfl fun H=>?_
 refine Ah (Qp Av (Ag (AW.seq (Ah (Qp Av (Ag (AW.block ?_)))))))
 refine AW.sllen 1 rfl fun hlen=>?_
 simp only [List.length_map,maxLen] at hlen
 refine AW.Aa5 (fun (p:Nat)=>(⟨[(0,.int .i64 op),(1,.sl 1 (ks.map fun k=>[.int .i64 k])),(5,.int .i64 (p:Int))],H,39⟩:St)) (fun (p:Nat)=>p≤ks.length∧Dk op ks=Aq (fun k=>if Mo op k (ks.headD 0) then 0 else 9) (ks.drop p)) (fun (p:Nat)=>ks.length-p) (0) ?_ (GS.weaken ⟨rfl,rfl,rfl,trivial⟩ (.refl _)) ?_
 · exact ⟨Nat.zero_le _,rfl⟩
 ·
  rintro p hR
  refine AW.seq (Ah (Qp A2 (Qp C6 ?_)))
  refine Qp (Ak (n:=ks.length) Ai rfl rfl rfl (by simp)) ?_
  refine Qp Cl (Ag (A5 (fun hc1=>?_) fun hc1=>?_))
  ·
   obtain ⟨a,ha⟩:=B4 hc1
   have hlt:=Bb ha
   have hm:=List.mem_of_getElem? ha
   obtain ⟨a0,ha0⟩:∃a0,ks[0]? = some a0:=⟨_,List.getElem?_eq_getElem (by omega)⟩
   have hhd:ks.headD 0=a0:=by cases ks <;> simp_all
   refine Bz (AW.seq (AW.block (Ah (Qp A2 ?_))))
   refine Qp (Qc rfl (c98 op)) ?_
   refine Qp Av (Ag (AW.seq ?_))
   refine AW.draw mixed (fun _=>True) trivial (by kernel_rfl) ?_
   refine Qn 0 rfl A2 (Qn 1 rfl N7 (Qn 2 rfl Br (Qo 3 rfl [] Qw C6 (Qo 4 rfl [] Qw A2 ?_))))
   refine Jx.pure _ _ 5 _ _ rfl (by kernel_rfl) (by kernel_rfl) rfl (.opt _ (.ptr _) [(18,_),(19,_)] rfl (sF.all ⟨Ent.Aa3 _ _,Ent.Aa3 _ _,trivial⟩) (fun hG=>Af (c:=[Iq _]) Ai rfl rfl rfl rfl rfl rfl (by omega) (Bj (f:=fun k=>[AV.int .i64 k]) ha)) rfl) ?_
   refine Qo 6 rfl [(20,_)] Qw Bt (Qo 7 rfl [] Qw A2 ?_)
   refine Jx.pure _ _ 8 _ _ rfl (by kernel_rfl) (by kernel_rfl) rfl (.opt _ (.bool _) [(21,_),(22,_)] rfl (sF.all ⟨Ent.Aa3 _ _,Ent.Aa3 _ _,trivial⟩) (fun hG=>Ou rfl rfl) rfl) ?_
   refine Qn 9 rfl E3 (Qn 10 rfl Br (Qo 11 rfl [] Qw A2 (Qo 12 rfl [(26,_)] Qw A7 (Qo 13 rfl [(27,_)] Qw Br (Qo 14 rfl [] Qw C6 (Qo 15 rfl [] Qw A2 ?_))))))
   refine Jx.pure _ _ 16 _ _ rfl (by kernel_rfl) (by kernel_rfl) rfl (.opt _ (.ptr _) [(29,_),(30,_)] rfl (sF.all ⟨Ent.Aa3 _ _,Ent.Aa3 _ _,trivial⟩) (fun hG=>Af (c:=[Iq _]) Ai rfl rfl rfl rfl rfl rfl (by omega) (Bj (f:=fun k=>[AV.int .i64 k]) ha)) rfl) ?_
   refine Qo 17 rfl [(31,_)] Qw Bt (Qo 18 rfl [] Qw C6 ?_)
   refine Jx.pure _ _ 19 _ _ rfl (by kernel_rfl) (by kernel_rfl) rfl (.opt _ (.ptr _) [(33,_)] rfl (sF.all ⟨Ent.Aa3 _ _,trivial⟩) (fun hG=>Af (c:=[Iq _]) Ai rfl rfl rfl rfl rfl rfl (by omega) (Bj (f:=fun k=>[AV.int .i64 k]) ha0)) rfl) ?_
   refine Qo 20 rfl [(34,_)] Qw Bt ?_
   refine Jx.pure _ _ 21 _ _ rfl (by kernel_rfl) (by kernel_rfl) rfl (.opt _ (.bool _) [(32,_),(35,_)] rfl (sF.all ⟨Ent.Aa3 _ _,Ent.Aa3 _ _,trivial⟩) (fun hG=>Ou rfl rfl) rfl) ?_
   refine Qo 22 rfl [(28,_),(36,_)] Qw E3 (Qn 23 rfl E5 ?_)
   refine Jx.done _ _ (by kernel_rfl) ?_
   refine Ae (A5 (fun hc2=>?_) fun hc2=>?_)
   ·
    rw [bM] at hc2
    have hok:Mo op a a0=false:=by simpa using hc2
    refine Ah (Qp Av (Ag (AW.ret (Bc (Aj (Aj (Bc (Aj ?_))))))))
    refine Qr (Iq _) ?_
    simp only [Ad,AV.int.injEq,true_and]
    rw [hR.2,Ba ha,Aq,hhd];simp [hok]
   ·
    rw [bM] at hc2
    have hok:Mo op a a0=true:=by simpa using hc2
    refine AW.skip (Bs (Ae (AW.region (Qp A2 (Qp Fx (Qp Av (Ag ?_)))))))
    refine ⟨p+1,?_,?_,GS.weaken ⟨rfl,rfl,rfl,trivial⟩ (.refl _)⟩
    · exact ⟨hlt,by rw [hR.2,Ba ha,Aq,hhd];simp [hok]⟩
    · first | omega | (simp only;omega)
  ·
   have hd:=Di hc1
   refine AW.exit ?_
   refine A8 (A8 (Bw (Ae (Ah (Qp Av (Ag (AW.ret ?_)))))))
   refine Qr (Iq _) ?_
   simp only [Ad,AV.int.injEq,true_and]
   rw [hR.2,hd];rfl
theorem c65 (a b:Int):Ax Tryz.prog 121 [.int .i64 a,.int .i64 b] (.agg (cV (Gw 7 a b))):=by
 refine Ax.body (n:=9) Ai Tryz.func121 rfl rfl rfl fun H=>?_
 refine Ah ?_
 refine Qe (Al (l:=[.int .i64 0,.int .i64 0,.str []]) (by kernel_rfl)) ?_
 rintro _ _ ⟨b4,rfl,rfl⟩
 refine Dh (Qp A2 (Qp A2 (Qp Cl ?_)))
 refine Qp (Qc rfl (c42 _)) ?_
 refine Co 0 [Iq _,Iq _,.str _] (_::_) (Ag (AW.ret ?_))
 refine ⟨.inr rfl,[.agg [Iq _,Iq _,.str _]],.cons (.box _ _ _ 0 _ _ _ _ rfl rfl rfl rfl rfl rfl) <| .nil,.cons _ (.refl _),?_⟩
 rfl
theorem c66 (a b:Int):Ax Tryz.prog 122 [.int .i64 a,.int .i64 b] (.agg (cV (Gw 8 a b))):=by
 refine Ax.body (n:=9) Ai Tryz.func122 rfl rfl rfl fun H=>?_
 refine Ah ?_
 refine Qe (Al (l:=[.int .i64 0,.int .i64 0,.str []]) (by kernel_rfl)) ?_
 rintro _ _ ⟨b4,rfl,rfl⟩
 refine Dh (Qp A2 (Qp A2 (Qp Ng ?_)))
 refine Qp (Qc rfl (c42 _)) ?_
 refine Co 0 [Iq _,Iq _,.str _] (_::_) (Ag (AW.ret ?_))
 refine ⟨.inr rfl,[.agg [Iq _,Iq _,.str _]],.cons (.box _ _ _ 0 _ _ _ _ rfl rfl rfl rfl rfl rfl) <| .nil,.cons _ (.refl _),?_⟩
 rfl
theorem c67 (a b:Int):Ax Tryz.prog 123 [.int .i64 a,.int .i64 b] (.agg (cV (Gw 10 a b))):=by
 refine Ax.body (n:=12) Ai Tryz.func123 rfl rfl rfl fun H=>?_
 refine Ah ?_
 refine Qe (Al (l:=[.int .i64 0,.int .i64 0,.str []]) (by kernel_rfl)) ?_
 rintro _ _ ⟨b4,rfl,rfl⟩
 refine Dh (Qp A2 (Qp A7 (Qp Br (Qg [] Qw A2 (Qg [(8,_)] Qw A7 (Qp E3 ?_))))))
 refine Qp (Qc rfl (c42 _)) ?_
 refine Co 0 [Iq _,Iq _,.str _] (_::_) (Ag (AW.ret ?_))
 refine ⟨.inr rfl,[.agg [Iq _,Iq _,.str _]],.cons (.box _ _ _ 0 _ _ _ _ rfl rfl rfl rfl rfl rfl) <| .nil,.cons _ (.refl _),?_⟩
 rfl
theorem c68 (a b:Int):Ax Tryz.prog 124 [.int .i64 a,.int .i64 b] (.agg (cV (Gw 11 a b))):=by
 refine Ax.body (n:=12) Ai Tryz.func124 rfl rfl rfl fun H=>?_
 refine Ah ?_
 refine Qe (Al (l:=[.int .i64 0,.int .i64 0,.str []]) (by kernel_rfl)) ?_
 rintro _ _ ⟨b4,rfl,rfl⟩
 refine Dh (Qp A2 (Qp A7 (Qp Br (Qg [] Qw A2 (Qg [(8,_)] Qw A7 (Qp E5 ?_))))))
 refine Qp (Qc rfl (c42 _)) ?_
 refine Co 0 [Iq _,Iq _,.str _] (_::_) (Ag (AW.ret ?_))
 refine ⟨.inr rfl,[.agg [Iq _,Iq _,.str _]],.cons (.box _ _ _ 0 _ _ _ _ rfl rfl rfl rfl rfl rfl) <| .nil,.cons _ (.refl _),?_⟩
 rfl
theorem c69 (a b:Int):Ax Tryz.prog 125 [.int .i64 a,.int .i64 b] (.agg (cV (Gw 12 a b))):=by
 refine Ax.body (n:=8) Ai Tryz.func125 rfl rfl rfl fun H=>?_
 refine Ah ?_
 refine Qe (Al (l:=[.int .i64 0,.int .i64 0,.str []]) (by kernel_rfl)) ?_
 rintro _ _ ⟨b4,rfl,rfl⟩
 refine Dh (Qp A2 (Qp Ct ?_))
 refine Qp (Qc rfl (c42 _)) ?_
 refine Co 0 [Iq _,Iq _,.str _] (_::_) (Ag (AW.ret ?_))
 refine ⟨.inr rfl,[.agg [Iq _,Iq _,.str _]],.cons (.box _ _ _ 0 _ _ _ _ rfl rfl rfl rfl rfl rfl) <| .nil,.cons _ (.refl _),?_⟩
 rfl
theorem c62 (n:Int):Ax Tryz.prog 118 [.int .i64 n] (.agg (cV ⟨0,n,[]⟩)):=by
 refine Ax.body (n:=5) Ai Tryz.func118 rfl rfl rfl fun H=>?_
 refine Ah ?_
 refine Qe (Al (l:=[.int .i64 0,.int .i64 0,.str []]) (by kernel_rfl)) ?_
 rintro _ _ ⟨b2,rfl,rfl⟩
 refine Dh (Qp A2 (Qp (Et [Iq _,Iq _,.str _]) (Co 0 [Iq _,Iq _,.str _] (_::_) (Ag (AW.ret ?_)))))
 refine ⟨.inr rfl,[.agg [Iq _,Iq _,.str _]],.cons (.box _ _ _ 0 _ _ _ _ rfl rfl rfl rfl rfl rfl) <| .nil,.cons _ (.refl _),?_⟩
 rfl
theorem c63 (a b:Int):Ax Tryz.prog 119 [.int .i64 a,.int .i64 b,.ptr [.fn (.func 118) [] []]] (.agg (cV (Gw 5 a b))):=by
 refine Ax.body (n:=11) Ai Tryz.func119 rfl rfl rfl fun H=>?_
 refine Ah ?_
 refine Qe (Al (l:=[.int .i64 0,.int .i64 0,.str []]) (by kernel_rfl)) ?_
 rintro _ _ ⟨b5,rfl,rfl⟩
 refine Dh ?_
 refine Qp (Eh (c:=.fn _ _ _) Ai rfl rfl rfl) ?_
 refine Qp A2 (Qp A2 ?_)
 refine Qp (cY rfl rfl) ?_
 refine Qp (D2 (by kernel_rfl) rfl rfl rfl (c62 _)) ?_
 refine Co 0 [Iq _,Iq _,.str _] (_::_) (Ag (AW.ret ?_))
 refine ⟨.inr rfl,[.agg [Iq _,Iq _,.str _]],.cons (.box _ _ _ 0 _ _ _ _ rfl rfl rfl rfl rfl rfl) <| .nil,.cons _ (.refl _),?_⟩
 rfl
theorem c64 (a b:Int):Ax Tryz.prog 120 [.int .i64 a,.int .i64 b,.ptr [.fn (.func 118) [] []]] (.agg (cV (Gw 6 a b))):=by
 refine Ax.body (n:=11) Ai Tryz.func120 rfl rfl rfl fun H=>?_
 refine Ah ?_
 refine Qe (Al (l:=[.int .i64 0,.int .i64 0,.str []]) (by kernel_rfl)) ?_
 rintro _ _ ⟨b5,rfl,rfl⟩
 refine Dh ?_
 refine Qp (Eh (c:=.fn _ _ _) Ai rfl rfl rfl) ?_
 refine Qp A2 (Qp A2 ?_)
 refine Qp (uE rfl rfl) ?_
 refine Qp (D2 (by kernel_rfl) rfl rfl rfl (c62 _)) ?_
 refine Co 0 [Iq _,Iq _,.str _] (_::_) (Ag (AW.ret ?_))
 refine ⟨.inr rfl,[.agg [Iq _,Iq _,.str _]],.cons (.box _ _ _ 0 _ _ _ _ rfl rfl rfl rfl rfl rfl) <| .nil,.cons _ (.refl _),?_⟩
 rfl
theorem c39  : Ax Tryz.prog 76 [] (.mapv OPS):=by
 refine Ax.body (n:=6) Ai Tryz.func76 rfl rfl rfl fun H=>?_
 refine Ah (Qp N8 (Dh ?_))
 refine Qe (Al (l:=[.val .nilFunc]) (by kernel_rfl)) ?_
 rintro _ _ ⟨b1,rfl,rfl⟩
 refine Co 0 [_] (_::_) ?_
 refine AOL.ghost (GS.Aa4 (t:=1) 0 rfl rfl) ?_
 refine Dh ?_
 refine Qe (qT) ?_
 rintro _ _ ⟨b2,rfl,rfl⟩
 refine Qp (Bf (l:=[]) (l':=[.ptr _]) rfl rfl) ?_
 refine Qe (Lh (i:=0) (x:=.fn _ _ _) (H2:=_::_) Ai rfl rfl rfl rfl rfl rfl rfl rfl rfl rfl) ?_
 rintro _ _ ⟨rfl,rfl⟩
 refine Qp (Bf (l:=[]) (l':=[.ptr _]) rfl rfl) ?_
 refine Qe (Lh (i:=0) (x:=.fn _ _ _) (H2:=_::_) Ai rfl rfl rfl rfl rfl rfl rfl rfl rfl rfl) ?_
 rintro _ _ ⟨rfl,rfl⟩
 refine Qe (Lh (i:=0) (x:=.fn _ _ _) (H2:=_::_) Ai rfl rfl rfl rfl rfl rfl rfl rfl rfl rfl) ?_
 rintro _ _ ⟨rfl,rfl⟩
 refine Qe (Lh (i:=0) (x:=.fn _ _ _) (H2:=_::_) Ai rfl rfl rfl rfl rfl rfl rfl rfl rfl rfl) ?_
 rintro _ _ ⟨rfl,rfl⟩
 refine Qe (Lh (i:=0) (x:=.fn _ _ _) (H2:=_::_) Ai rfl rfl rfl rfl rfl rfl rfl rfl rfl rfl) ?_
 rintro _ _ ⟨rfl,rfl⟩
 refine Qe (Lh (i:=0) (x:=.fn _ _ _) (H2:=_::_) Ai rfl rfl rfl rfl rfl rfl rfl rfl rfl rfl) ?_
 rintro _ _ ⟨rfl,rfl⟩
 refine Qe (Lh (i:=0) (x:=.fn _ _ _) (H2:=_::_) Ai rfl rfl rfl rfl rfl rfl rfl rfl rfl rfl) ?_
 rintro _ _ ⟨rfl,rfl⟩
 refine AOL.ghost (GS.freezeMap (t:=2) 0 rfl rfl) ?_
 refine Qp (Bl (v:=.mapv _) rfl) ?_
 refine Qp (C3 (v:=.mapv _) rfl) ?_
 refine Ag (AW.ret ?_)
 refine Qr (.mapv _) ?_
 rfl

set_option maxHeartbeats 800000
set_option maxRecDepth 20000

theorem c70 (x:Evr)(hx:x.ok)(e:Ex)(hk:0≤e.field):Ax Tryz.prog 126 [.agg (cX x),.agg (cE e)] (.tuple [.agg (cV (Fc x e).1),.int .i64 (Fc x e).2]):=by
 refine Ax.body (n:=71) Ai Tryz.func126 rfl rfl rfl fun H=>?_
 refine Ah (Qp (F5 [_,Iq _,Iq _,Iq _,Iq _,Iq _,_,_]) (Qp La ?_))
 refine Qe (Al (l:=[.int .i64 0,.int .i64 0,.str []]) (by kernel_rfl)) ?_
 rintro _ _ ⟨b4,rfl,rfl⟩
 refine Qp Av (Dh (Qp (Cm [_,Iq _,Iq _,Iq _,Iq _,Iq _,_,_]) (Qp Yy (Qp Bt ?_))))
 refine Qp (Qc rfl (c91 x e.var)) ?_
 refine Qp Vy (Ag (AW.seq (Ah (Qp Kv (Qp Bt (Ag (AW.block (Ah (Qp A7 ?_)))))))))
 refine Qp Bg (Ag (A5 (fun hc1=>?_) fun hc1=>?_))
 ·
  refine Ah (Qp Jr (Qp (Cm [Iq _,Iq _,.str _]) (Co 0 [Iq _,Iq _,.str _] (_::_) (Qp Av (Ag (AW.ret (Bc (Aj ?_))))))))
  refine ⟨.inr rfl,[.agg [Iq _,Iq _,.str _],Iq _],.cons (.box _ _ _ 0 _ _ _ _ rfl rfl rfl rfl rfl rfl) <| .cons (.tmp _ _ rfl) <| .nil,.cons _ (.refl _),?_⟩
  simp only [Ad,Fc,G8]
  try simp only [hgd]
  (first | rw [if_pos hc1] | skip)
  first | done | rfl | (exfalso;simp_all;done) | skip
 ·
  refine Ah (Qp A7 (Qp Bg (Ag (A5 (fun hc2=>?_) fun hc2=>?_))))
  ·
   refine Ah (Qp C6 ?_)
   refine Qp (Ak (n:=(Bv x.vars e.var).length) Ai rfl rfl rfl (by simp)) ?_
   refine Qp (Et [Iq _,Iq _,.str _]) (Co 0 [Iq _,Iq _,.str _] (_::_) (Qp Av (Ag (AW.ret (Bc (Aj ?_))))))
   refine ⟨.inr rfl,[.agg [Iq _,Iq _,.str _],Iq _],.cons (.box _ _ _ 0 _ _ _ _ rfl rfl rfl rfl rfl rfl) <| .cons (.tmp _ _ rfl) <| .nil,.cons _ (.refl _),?_⟩
   simp only [Ad,Fc,G8]
   try simp only [hgd]
   (first | rw [iN hc1] | skip);(first | rw [if_pos hc2] | skip)
   first | done | rfl | (exfalso;simp_all;done) | skip
  ·
   refine Ah (Qp A7 (Qp Bg (Ag (A5 (fun hc3=>?_) fun hc3=>?_))))
   ·
    refine Ah (Qp (Cm [_,Iq _,Iq _,Iq _,Iq _,Iq _,_,_]) (Qp D1 ?_))
    refine Qp (Qc rfl (c92 x hx e hk)) ?_
    refine Qp (Cd (v:=.agg [Iq _,Iq _,.str _]) rfl rfl) ?_
    refine Qp Jq (Co 0 [Iq _,Iq _,.str _] (_::_) (Qp Av (Ag (AW.ret (Bc (Aj ?_))))))
    refine ⟨.inr rfl,[.agg [Iq _,Iq _,.str _],Iq _],.cons (.box _ _ _ 0 _ _ _ _ rfl rfl rfl rfl rfl rfl) <| .cons (.tmp _ _ rfl) <| .nil,.cons _ (.refl _),?_⟩
    simp only [Ad,Fc,G8]
    try simp only [hgd]
    (first | rw [iN hc1] | skip);(first | rw [iN hc2] | skip);(first | rw [if_pos hc3] | skip)
    first | done | rfl | (exfalso;simp_all;done) | skip
   ·
    refine AW.skip (Bs (Ae (Ah (Qp (Qf [Iq _,Iq _,Iq _,Iq _,_,_]) (Qp (Cm [Iq _,Iq _,Iq _,Iq _,_]) ?_)))))
    refine Qe (Al (l:=[.int .i64 0,.int .i64 0,.int .i64 0,.int .i64 0,.sl 3 []]) (by kernel_rfl)) ?_
    rintro _ _ ⟨b7,rfl,rfl⟩
    refine Co 0 [Iq _,Iq _,Iq _,Iq _,_] (_::_::_) (Ag (AW.seq (Ah (Qp Yy (Qp Bt (Qp (Qf [Iq _,Iq _,Iq _,Iq _,Iq _,_,_]) (Qp Bt (Qp Ct (Ag (A5 (fun hc4=>?_) fun hc4=>?_))))))))))
    ·
     refine AW.seq (Ah (Qp C6 ?_))
     refine Qp (Ak (n:=(Bv x.vars e.var).length) Ai rfl rfl rfl (by simp)) ?_
     refine Qp A7 (Ag (A5 (fun hc5=>?_) fun hc5=>?_))
     ·
      refine Ah (Qp (Et [Iq _,Iq _,.str _]) (Co 1 [Iq _,Iq _,.str _] (_::_::_) (Qp Av (Ag (Du (Aj ?_))))))
      refine ⟨.inr rfl,[.agg [Iq _,Iq _,.str _],Iq _],.cons (.box _ _ _ 1 _ _ _ _ rfl rfl rfl rfl rfl rfl) <| .cons (.tmp _ _ rfl) <| .nil,.cons _ (.cons _ (.refl _)),?_⟩
      simp only [Ad,Fc,G8]
      try simp only [hgd]
      (first | rw [iN hc1] | skip);(first | rw [iN hc2] | skip);(first | rw [iN hc3] | skip);(first | rw [if_pos hc4] | skip);(first | rw [if_pos hc5] | skip)
      first | done | rfl | (exfalso;simp_all;done) | skip
     ·
      have hlg:=vV hc5
      have hle:=aQ hx e.var
      have hne:(Bv x.vars e.var).length≠0:=by simpa using hc5
      refine hlg.elim fun a hal=>?_
      have ha:=hal.1
      have hl:=hal.2
      have hgd:(Bv x.vars e.var).getLast?.getD Kn=a:=by rw [hl];rfl
      refine Bz (AW.region (Qp C6 (Qp C6 ?_)))
      refine Qp (Ak (n:=(Bv x.vars e.var).length) Ai rfl rfl rfl (by simp)) ?_
      refine Qp (aA rfl rfl rfl (by constructor <;> omega)) ?_
      refine Qp (Af (c:=[Iq _,Iq _,Iq _,Iq _,_]) Ai rfl rfl rfl rfl rfl rfl (by omega) (Bj ha)) ?_
      refine Qp (Cm [Iq _,Iq _,Iq _,Iq _,_]) (Co 0 [Iq _,Iq _,Iq _,Iq _,_] (_::_::_) (Ag (AW.seq (Ah (Qp Kv (Qp Bt (Qp A7 (Ag (A5 (fun hc6=>?_) fun hc6=>?_)))))))))
      ·
       refine Ah (Qp Ir ?_)
       refine AOL.Aa9 (A0 (k:=0) (c:=Iq _) Ai rfl rfl rfl rfl) rfl rfl ?_
       refine Qp (Et [Iq _,Iq _,.str _]) (Co 1 [Iq _,Iq _,.str _] (_::_::_) (Qp Av (Ag (Du ?_))))
       refine ⟨.inr rfl,[.agg [Iq _,Iq _,.str _],Iq _],.cons (.box _ _ _ 1 _ _ _ _ rfl rfl rfl rfl rfl rfl) <| .cons (.tmp _ _ rfl) <| .nil,.cons _ (.cons _ (.refl _)),?_⟩
       simp only [Ad,Fc,G8]
       try simp only [hgd]
       (first | rw [iN hc1] | skip);(first | rw [iN hc2] | skip);(first | rw [iN hc3] | skip);(first | rw [if_pos hc4] | skip);(first | rw [iN hc5] | skip);(first | rw [if_pos hc6] | skip)
       first | done | rfl | (exfalso;simp_all;done) | skip
      ·
       refine Bz (Ah ?_)
       refine AOL.Aa9 (B1 (k:=0) (l:=[Iq _,Iq _,Iq _,Iq _,_]) Ai rfl rfl rfl rfl rfl) rfl rfl ?_
       refine Qp Qt (Qp Bt ?_)
       refine Qp (Qc rfl (c93 _ e.field hk)) ?_
       refine Qp Mx ?_
       refine Qp (Cd (v:=.agg [Iq _,Iq _,.str _]) rfl rfl) ?_
       refine Qp Jq ?_
       refine Qe (Al (l:=[.int .i64 0,.int .i64 0,.str []]) (by kernel_rfl)) ?_
       rintro _ _ ⟨b8,rfl,rfl⟩
       refine Co 0 [Iq _,Iq _,.str _] (_::_::_::_) (Qp Av ?_)
       refine AOL.ghost (GS.Aa4 (t:=8) 0 rfl rfl) ?_
       refine Ag (AW.seq (Ah (Qp A2 (Qp A7 (Ag (A5 (fun hc7=>?_) fun hc7=>?_))))))
       ·
        refine AW.region (Qp (Cm [Iq _,Iq _,.str _]) ?_)
        refine Qp (Qc rfl (c94 _)) ?_
        refine Qp Av (Ag (AW.seq (Ah (Qp A2 (Qp Ct (Ag (A5 (fun hc8=>?_) fun hc8=>?_)))))))
        ·
         refine Ah (Qp (Et [Iq _,Iq _,.str _]) (Qp A2 (Co 1 [Iq _,Iq _,.str _] (_::_::_) (Qp Av (Ag (Du ?_))))))
         refine ⟨.inr rfl,[.agg [Iq _,Iq _,.str _],Iq _],.cons (.box _ _ _ 1 _ _ _ _ rfl rfl rfl rfl rfl rfl) <| .cons (.tmp _ _ rfl) <| .nil,.cons _ (.cons _ (.refl _)),?_⟩
         simp only [Ad,Fc,G8]
         try simp only [hgd]
         (first | rw [iN hc1] | skip);(first | rw [iN hc2] | skip);(first | rw [iN hc3] | skip);(first | rw [if_pos hc4] | skip);(first | rw [iN hc5] | skip);(first | rw [iN hc6] | skip);(first | rw [if_pos hc7] | skip);(first | rw [if_pos hc8] | skip)
         first | done | rfl | (exfalso;simp_all;done) | skip
        ·
         refine Bz (Ah (Qp (Cm [Iq _,Iq _,.str _]) (Co 1 [Iq _,Iq _,.str _] (_::_::_) (Qp Av (Ag (AW.ret ?_))))))
         refine ⟨.inr rfl,[.agg [Iq _,Iq _,.str _],Iq _],.cons (.box _ _ _ 1 _ _ _ _ rfl rfl rfl rfl rfl rfl) <| .cons (.tmp _ _ rfl) <| .nil,.cons _ (.cons _ (.refl _)),?_⟩
         simp only [Ad,Fc,G8]
         try simp only [hgd]
         (first | rw [iN hc1] | skip);(first | rw [iN hc2] | skip);(first | rw [iN hc3] | skip);(first | rw [if_pos hc4] | skip);(first | rw [iN hc5] | skip);(first | rw [iN hc6] | skip);(first | rw [if_pos hc7] | skip);(first | rw [iN hc8] | skip)
         first | done | rfl | (exfalso;simp_all;done) | skip
       ·
        refine Bz (AW.seq (Ah (Qp A2 (Qp Ct (Ag (A5 (fun hc9=>?_) fun hc9=>?_))))))
        ·
         refine Ah (Qp (Et [Iq _,Iq _,.str _]) (Qp A2 (Co 1 [Iq _,Iq _,.str _] (_::_::_) (Qp Av (Ag (Du ?_))))))
         refine ⟨.inr rfl,[.agg [Iq _,Iq _,.str _],Iq _],.cons (.box _ _ _ 1 _ _ _ _ rfl rfl rfl rfl rfl rfl) <| .cons (.tmp _ _ rfl) <| .nil,.cons _ (.cons _ (.refl _)),?_⟩
         simp only [Ad,Fc,G8]
         try simp only [hgd]
         (first | rw [iN hc1] | skip);(first | rw [iN hc2] | skip);(first | rw [iN hc3] | skip);(first | rw [if_pos hc4] | skip);(first | rw [iN hc5] | skip);(first | rw [iN hc6] | skip);(first | rw [iN hc7] | skip);(first | rw [if_pos hc9] | skip)
         first | done | rfl | (exfalso;simp_all;done) | skip
        ·
         refine Bz (Ah (Qp (Cm [Iq _,Iq _,.str _]) (Co 1 [Iq _,Iq _,.str _] (_::_::_) (Qp Av (Ag (AW.ret ?_))))))
         refine ⟨.inr rfl,[.agg [Iq _,Iq _,.str _],Iq _],.cons (.box _ _ _ 1 _ _ _ _ rfl rfl rfl rfl rfl rfl) <| .cons (.tmp _ _ rfl) <| .nil,.cons _ (.cons _ (.refl _)),?_⟩
         simp only [Ad,Fc,G8]
         try simp only [hgd]
         (first | rw [iN hc1] | skip);(first | rw [iN hc2] | skip);(first | rw [iN hc3] | skip);(first | rw [if_pos hc4] | skip);(first | rw [iN hc5] | skip);(first | rw [iN hc6] | skip);(first | rw [iN hc7] | skip);(first | rw [iN hc9] | skip)
         first | done | rfl | (exfalso;simp_all;done) | skip
    ·
     refine Bz (AW.seq (Ah (Qp Kv (Qp Bt (Qp A7 (Ag (A5 (fun hc10=>?_) fun hc10=>?_)))))))
     ·
      refine Ah (Qp Ir ?_)
      refine AOL.Aa9 (A0 (k:=0) (c:=Iq _) Ai rfl rfl rfl rfl) rfl rfl ?_
      refine Qp (Et [Iq _,Iq _,.str _]) (Co 1 [Iq _,Iq _,.str _] (_::_::_) (Qp Av (Ag (Du ?_))))
      refine ⟨.inr rfl,[.agg [Iq _,Iq _,.str _],Iq _],.cons (.box _ _ _ 1 _ _ _ _ rfl rfl rfl rfl rfl rfl) <| .cons (.tmp _ _ rfl) <| .nil,.cons _ (.cons _ (.refl _)),?_⟩
      simp only [Ad,Fc,G8]
      try simp only [hgd]
      (first | rw [iN hc1] | skip);(first | rw [iN hc2] | skip);(first | rw [iN hc3] | skip);(first | rw [iN hc4] | skip);(first | rw [if_pos hc10] | skip)
      first | done | rfl | (exfalso;simp_all;done) | skip
     ·
      refine Bz (Ah ?_)
      refine AOL.Aa9 (B1 (k:=0) (l:=[Iq _,Iq _,Iq _,Iq _,_]) Ai rfl rfl rfl rfl rfl) rfl rfl ?_
      refine Qp Qt (Qp Bt ?_)
      refine Qp (Qc rfl (c93 _ e.field hk)) ?_
      refine Qp Mx ?_
      refine Qp (Cd (v:=.agg [Iq _,Iq _,.str _]) rfl rfl) ?_
      refine Qp Jq ?_
      refine Qe (Al (l:=[.int .i64 0,.int .i64 0,.str []]) (by kernel_rfl)) ?_
      rintro _ _ ⟨b8,rfl,rfl⟩
      refine Co 0 [Iq _,Iq _,.str _] (_::_::_::_) (Qp Av ?_)
      refine AOL.ghost (GS.Aa4 (t:=8) 0 rfl rfl) ?_
      refine Ag (AW.seq (Ah (Qp A2 (Qp A7 (Ag (A5 (fun hc11=>?_) fun hc11=>?_))))))
      ·
       refine AW.region (Qp (Cm [Iq _,Iq _,.str _]) ?_)
       refine Qp (Qc rfl (c94 _)) ?_
       refine Qp Av (Ag (AW.seq (Ah (Qp A2 (Qp Ct (Ag (A5 (fun hc12=>?_) fun hc12=>?_)))))))
       ·
        refine Ah (Qp (Et [Iq _,Iq _,.str _]) (Qp A2 (Co 1 [Iq _,Iq _,.str _] (_::_::_) (Qp Av (Ag (Du ?_))))))
        refine ⟨.inr rfl,[.agg [Iq _,Iq _,.str _],Iq _],.cons (.box _ _ _ 1 _ _ _ _ rfl rfl rfl rfl rfl rfl) <| .cons (.tmp _ _ rfl) <| .nil,.cons _ (.cons _ (.refl _)),?_⟩
        simp only [Ad,Fc,G8]
        try simp only [hgd]
        (first | rw [iN hc1] | skip);(first | rw [iN hc2] | skip);(first | rw [iN hc3] | skip);(first | rw [iN hc4] | skip);(first | rw [iN hc10] | skip);(first | rw [if_pos hc11] | skip);(first | rw [if_pos hc12] | skip)
        first | done | rfl | (exfalso;simp_all;done) | skip
       ·
        refine Bz (Ah (Qp (Cm [Iq _,Iq _,.str _]) (Co 1 [Iq _,Iq _,.str _] (_::_::_) (Qp Av (Ag (AW.ret ?_))))))
        refine ⟨.inr rfl,[.agg [Iq _,Iq _,.str _],Iq _],.cons (.box _ _ _ 1 _ _ _ _ rfl rfl rfl rfl rfl rfl) <| .cons (.tmp _ _ rfl) <| .nil,.cons _ (.cons _ (.refl _)),?_⟩
        simp only [Ad,Fc,G8]
        try simp only [hgd]
        (first | rw [iN hc1] | skip);(first | rw [iN hc2] | skip);(first | rw [iN hc3] | skip);(first | rw [iN hc4] | skip);(first | rw [iN hc10] | skip);(first | rw [if_pos hc11] | skip);(first | rw [iN hc12] | skip)
        first | done | rfl | (exfalso;simp_all;done) | skip
      ·
       refine Bz (AW.seq (Ah (Qp A2 (Qp Ct (Ag (A5 (fun hc13=>?_) fun hc13=>?_))))))
       ·
        refine Ah (Qp (Et [Iq _,Iq _,.str _]) (Qp A2 (Co 1 [Iq _,Iq _,.str _] (_::_::_) (Qp Av (Ag (Du ?_))))))
        refine ⟨.inr rfl,[.agg [Iq _,Iq _,.str _],Iq _],.cons (.box _ _ _ 1 _ _ _ _ rfl rfl rfl rfl rfl rfl) <| .cons (.tmp _ _ rfl) <| .nil,.cons _ (.cons _ (.refl _)),?_⟩
        simp only [Ad,Fc,G8]
        try simp only [hgd]
        (first | rw [iN hc1] | skip);(first | rw [iN hc2] | skip);(first | rw [iN hc3] | skip);(first | rw [iN hc4] | skip);(first | rw [iN hc10] | skip);(first | rw [iN hc11] | skip);(first | rw [if_pos hc13] | skip)
        first | done | rfl | (exfalso;simp_all;done) | skip
       ·
        refine Bz (Ah (Qp (Cm [Iq _,Iq _,.str _]) (Co 1 [Iq _,Iq _,.str _] (_::_::_) (Qp Av (Ag (AW.ret ?_))))))
        refine ⟨.inr rfl,[.agg [Iq _,Iq _,.str _],Iq _],.cons (.box _ _ _ 1 _ _ _ _ rfl rfl rfl rfl rfl rfl) <| .cons (.tmp _ _ rfl) <| .nil,.cons _ (.cons _ (.refl _)),?_⟩
        simp only [Ad,Fc,G8]
        try simp only [hgd]
        (first | rw [iN hc1] | skip);(first | rw [iN hc2] | skip);(first | rw [iN hc3] | skip);(first | rw [iN hc4] | skip);(first | rw [iN hc10] | skip);(first | rw [iN hc11] | skip);(first | rw [iN hc13] | skip)
        first | done | rfl | (exfalso;simp_all;done) | skip

end Go.Proofs.YtkddpedfbicbeaaGreatDoor
