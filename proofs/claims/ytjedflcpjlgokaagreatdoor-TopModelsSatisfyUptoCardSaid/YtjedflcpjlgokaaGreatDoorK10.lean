/-
  Several texts in one: W3, W5. No condition.
-/
import Derived.Test.YtjedflcpjlgokaaGreatDoorAz
import Derived.Test.YtjedflcpjlgokaaGreatDoorW2
import Derived.Test.YtjedflcpjlgokaaGreatDoorK02
import Derived.KernelRfl
set_option linter.unusedVariables false
set_option linter.unusedSimpArgs false
namespace Go.Proofs.YtjedflcpjlgokaaGreatDoor
open Go Go.Aw
set_option maxHeartbeats 400000
set_option maxRecDepth 20000

theorem c120 (a:Ac)(o:Vl):Ax Tryz.prog 161 [.agg (Vo a),.agg (cV o)] (.tuple [.agg (cV (Dr a o).1),.int .i64 (Dr a o).2]):=by
  refine Ax.body (n:=41) Ah Tryz.func161 rfl rfl rfl fun H=>?_
  refine AW.seq (AW.region (Qp (Gd [Iq _,Iq _,Iq _,Iq _,.str _]) (Qp (Gd [Iq _,Iq _,.str _]) ?_)))
  refine Qe (Ak (l:=[.int .i64 0,.int .i64 0,.str []]) (by kernel_rfl)) ?_
  rintro _ _ ⟨b4,rfl,rfl⟩
  refine Qp Ap (AOL.nil (Ad (AW.seq (AW.seq (AW.region (Qp (Cq [Iq _,Iq _,Iq _,Iq _,.str _]) ?_))))))
  refine Qp (Qc rfl (c126 a)) ?_
  refine Qp Ap (AOL.nil (Ad (AW.seq (AW.region (Qp Az (Qp Cr (AOL.nil (Ad (A6 (fun hc1=>?_) fun hc1=>?_)))))))))
  · skip
    refine AW.seq (AW.region (Qp (Fz [Iq _,Iq _,.str _]) (Qp Az ?_)))
    refine Cv 0 [Iq _,Iq _,.str _] (_::_) ?_
    refine Qp Ap (AOL.nil (Ad (Dw ?_)))
    refine ⟨.inr rfl,[.agg [Iq _,Iq _,.str _],Iq _],.cons (.box _ _ _ 0 _ _ _ _ rfl rfl rfl rfl rfl rfl) <| .cons (.tmp _ _ rfl) <| .nil,.cons _ (.refl _),?_⟩
    try simp only [C1,Bool.and_true] at *
    first
      | (simp only [Ae,Dr,cV,v0];(first | rw [if_pos hc1] | skip);first | done | rfl)
      | (try simp only [Bool.not_eq_true',Bool.not_eq_false'] at *
         first
         | (simp only [Ae,Dr,cV,v0, *,Bool.false_eq_true,↓reduceIte,Bool.true_or,Bool.or_true,Bool.false_or,Bool.or_false,Bool.true_and,Bool.and_true,Bool.false_and,Bool.and_false,Bool.not_true,Bool.not_false];done)
         | (simp [Ae,Dr,cV,v0, *];done)
         | (simp_all [Ae,Dr,cV,v0];done))
      | skip
  · skip
    refine By (AW.seq (AW.seq (AW.region (Qp Oq (Qp Bp (Qp (Cq [Iq _,Iq _,.str _]) ?_))))))
    refine Qp (Qc rfl (c115 a.kind o)) ?_
    refine Qp Ap (AOL.nil (Ad (AW.seq (AW.region (Qp Az (Qp Cr (AOL.nil (Ad (A6 (fun hc2=>?_) fun hc2=>?_)))))))))
    · skip
      refine AW.seq (AW.region (Qp (Fz [Iq _,Iq _,.str _]) (Qp Az ?_)))
      refine Cv 0 [Iq _,Iq _,.str _] (_::_) ?_
      refine Qp Ap (AOL.nil (Ad (Dw ?_)))
      refine ⟨.inr rfl,[.agg [Iq _,Iq _,.str _],Iq _],.cons (.box _ _ _ 0 _ _ _ _ rfl rfl rfl rfl rfl rfl) <| .cons (.tmp _ _ rfl) <| .nil,.cons _ (.refl _),?_⟩
      try simp only [C1,Bool.and_true] at *
      first
        | (simp only [Ae,Dr,cV,v0];(first | rw [iN hc1] | skip);(first | rw [if_pos hc2] | skip);first | done | rfl)
        | (try simp only [Bool.not_eq_true',Bool.not_eq_false'] at *
           first
           | (simp only [Ae,Dr,cV,v0, *,Bool.false_eq_true,↓reduceIte,Bool.true_or,Bool.or_true,Bool.false_or,Bool.or_false,Bool.true_and,Bool.and_true,Bool.false_and,Bool.and_false,Bool.not_true,Bool.not_false];done)
           | (simp [Ae,Dr,cV,v0, *];done)
           | (simp_all [Ae,Dr,cV,v0];done))
        | skip
    · skip
      refine By (AW.seq (AW.block (AW.seq (AW.region (Qp Oq (Qp Bp (Qp A9 (Qp Bl (AOL.nil ?_)))))))))
      refine Ad (A6 (fun hc3=>?_) fun hc3=>?_)
      · skip
        refine AW.seq (AW.region (Qp Sj (Qp Bp (Qp (Fz [Iq _,Iq _,.str _]) ?_))))
        refine Cv 0 [Iq _,Iq _,.str _] (_::_) ?_
        refine Qp Ap (AOL.nil (Ad (AW.ret (Bb (Aj ?_)))))
        refine ⟨.inr rfl,[.agg [Iq _,Iq _,.str _],Iq _],.cons (.box _ _ _ 0 _ _ _ _ rfl rfl rfl rfl rfl rfl) <| .cons (.tmp _ _ rfl) <| .nil,.cons _ (.refl _),?_⟩
        try simp only [C1,Bool.and_true] at *
        first
          | (simp only [Ae,Dr,cV,v0];(first | rw [iN hc1] | skip);(first | rw [iN hc2] | skip);(first | rw [if_pos hc3] | skip);first | done | rfl)
          | (try simp only [Bool.not_eq_true',Bool.not_eq_false'] at *
             first
             | (simp only [Ae,Dr,cV,v0, *,Bool.false_eq_true,↓reduceIte,Bool.true_or,Bool.or_true,Bool.false_or,Bool.or_false,Bool.true_and,Bool.and_true,Bool.false_and,Bool.and_false,Bool.not_true,Bool.not_false];done)
             | (simp [Ae,Dr,cV,v0, *];done)
             | (simp_all [Ae,Dr,cV,v0];done))
          | skip
      · skip
        refine AW.seq (AW.region (Qp Sj (Qp Bp (Qp A9 (Qp B0 (Qg [] Qw Oq (Qg [(34,_)] Qw Bp (Qg [(35,_)] Qw Cr (Qp F7 ?_)))))))))
        refine Qp Bl (AOL.nil (Ad (A6 (fun hc4=>?_) fun hc4=>?_)))
        · skip
          refine AW.seq (AW.region (Qp (Cq [Iq _,Iq _,.str _]) ?_))
          refine Cv 0 [Iq _,Iq _,.str _] (_::_) ?_
          refine Qp Ap (AOL.nil (Ad (AW.ret (Bb (Aj ?_)))))
          refine ⟨.inr rfl,[.agg [Iq _,Iq _,.str _],Iq _],.cons (.box _ _ _ 0 _ _ _ _ rfl rfl rfl rfl rfl rfl) <| .cons (.tmp _ _ rfl) <| .nil,.cons _ (.refl _),?_⟩
          try simp only [C1,Bool.and_true] at *
          first
            | (simp only [Ae,Dr,cV,v0];(first | rw [iN hc1] | skip);(first | rw [iN hc2] | skip);(first | rw [iN hc3] | skip);(first | rw [if_pos hc4] | skip);first | done | rfl)
            | (try simp only [Bool.not_eq_true',Bool.not_eq_false'] at *
               first
               | (simp only [Ae,Dr,cV,v0, *,Bool.false_eq_true,↓reduceIte,Bool.true_or,Bool.or_true,Bool.false_or,Bool.or_false,Bool.true_and,Bool.and_true,Bool.false_and,Bool.and_false,Bool.not_true,Bool.not_false];done)
               | (simp [Ae,Dr,cV,v0, *];done)
               | (simp_all [Ae,Dr,cV,v0];done))
            | skip
        · skip
          refine AW.skip (Bu (Ad (AW.seq (AW.region (Qp Jq (Qp (Cq [Iq _,Iq _,.str _]) ?_))))))
          refine Cv 0 [Iq _,Iq _,.str _] (_::_) ?_
          refine Qp Ap (AOL.nil (Ad (AW.ret ?_)))
          refine ⟨.inr rfl,[.agg [Iq _,Iq _,.str _],Iq _],.cons (.box _ _ _ 0 _ _ _ _ rfl rfl rfl rfl rfl rfl) <| .cons (.tmp _ _ rfl) <| .nil,.cons _ (.refl _),?_⟩
          try simp only [C1,Bool.and_true] at *
          first
            | (simp only [Ae,Dr,cV,v0];(first | rw [iN hc1] | skip);(first | rw [iN hc2] | skip);(first | rw [iN hc3] | skip);(first | rw [iN hc4] | skip);first | done | rfl)
            | (try simp only [Bool.not_eq_true',Bool.not_eq_false'] at *
               first
               | (simp only [Ae,Dr,cV,v0, *,Bool.false_eq_true,↓reduceIte,Bool.true_or,Bool.or_true,Bool.false_or,Bool.or_false,Bool.true_and,Bool.and_true,Bool.false_and,Bool.and_false,Bool.not_true,Bool.not_false];done)
               | (simp [Ae,Dr,cV,v0, *];done)
               | (simp_all [Ae,Dr,cV,v0];done))
            | skip
theorem c117 (k:Int)(a:Ac)(v:Vl)(h:Dt a.kind=true):Ax Tryz.prog 158 [.agg (Vo a),.agg (cV v),.ptr [.int .i64 k]] (.agg (Vo (Jo k a v))):=by
 refine Ax.body (n:=13) Ah Tryz.func158 rfl rfl rfl fun H=>?_
 refine Ai (Qp (Gd [Iq _,Iq _,Iq _,Iq _,.str _]) (Qp (Gd [Iq _,Iq _,.str _]) ?_))
 refine Qe (Ak (l:=[.int .i64 0,.int .i64 0,.int .i64 0,.int .i64 0,.str []]) (by kernel_rfl)) ?_
 rintro _ _ ⟨b5,rfl,rfl⟩
 refine Ag (AW.seq ?_)
 refine AW.draw mixed (fun _=>True) trivial (by kernel_rfl) ?_
 refine Qn 0 rfl (Cq [Iq _,Iq _,Iq _,Iq _,.str _]) (Qn 1 rfl Bp (Qn 2 rfl Bp (Qn 3 rfl (Cq [Iq _,Iq _,.str _]) ?_)))
 refine Qn 4 rfl (Qc rfl (c119 k v)) ?_
 refine Qn 5 rfl (Fz [Iq _,Iq _,Iq _,Iq _,.str _]) ?_
 refine Qn 6 rfl (Qc rfl (c118 a ⟨k,1,Et k v⟩ h)) ?_
 refine Jn.eff _ _ 7 _ _ rfl (by kernel_rfl) rfl rfl (B2 (k:=0) (v:=.agg _) (cs':=[Iq _,Iq _,Iq _,Iq _,.str _]) (H2:=_::_) Ah rfl rfl rfl rfl (rfl) rfl rfl rfl rfl) (fun _ _ _=>trivial) ?_
 rintro _ _ ⟨rfl,rfl⟩
 refine Jn.done _ _ (by kernel_rfl) ?_
 refine Ad (AW.ret ?_)
 refine ⟨.inr rfl,[.agg [Iq _,Iq _,Iq _,Iq _,.str _]],.cons (.box _ _ _ 0 _ _ _ _ rfl rfl rfl rfl rfl rfl) <| .nil,.cons _ (.refl _),?_⟩
 rfl
theorem c116 (k:Int)(hk:Dt k=true)(a:Ac)(l:List Vl)(h:Dt a.kind=true):Ax Tryz.prog 157 [.agg (Vo a),.sl 3 (l.map cV),.fn (.func 158) [] [.ptr [.int .i64 k]]] (.agg (Vo (l.foldl (Jo k) a))):=by
 refine Ax.body (n:=21) Ah Tryz.func157 rfl rfl rfl fun H=>?_
 refine Ai ?_
 refine Qe (O8 (v:=.agg _) (cs:=[Iq _,Iq _,Iq _,Iq _,.str _]) rfl rfl (rfl)) ?_
 rintro _ _ ⟨b3,rfl,rfl⟩
 refine Qe (Ak (l:=[.int .i64 0,.int .i64 0,.int .i64 0,.int .i64 0,.str []]) (by kernel_rfl)) ?_
 rintro _ _ ⟨b6,rfl,rfl⟩
 refine Ag (AW.seq (Ai (Qp Dx ?_)))
 refine Qp (Al (n:=l.length) Ah rfl rfl rfl (by simp)) ?_
 refine Qp Az (Ag (AW.block ?_))
 refine AW.sllen 9 rfl fun hlen=>?_
 simp only [List.length_map,maxLen] at hlen
 refine AW.Aao (fun (p:Nat×Ac)=>(⟨[(2,.fn (.func 158) [] [.ptr [.int .i64 k]]),(9,.sl 3 (l.map cV)),(10,.int .i64 l.length),(11,.int .i64 (p.1:Int)),(3,.val (.pointer (some ⟨b3,0,none⟩))),(6,.val (.pointer (some ⟨b6,0,none⟩)))],.box b6 230 [.int .i64 0,.int .i64 0,.int .i64 0,.int .i64 0,.str []] :: .box b3 230 (Vo p.2)::H,21⟩:St)) (fun (p:Nat×Ac)=>p.1≤l.length∧l.foldl (Jo k) a=(l.drop p.1).foldl (Jo k) p.2∧Dt p.2.kind=true) (fun (p:Nat×Ac)=>l.length-p.1) ((0,a)) ?_ (GS.weaken ⟨rfl,rfl,rfl,rfl,rfl,rfl,trivial⟩ (.refl _)) ?_
 · exact ⟨Nat.zero_le _,by simp,h⟩
 ·
  rintro p hR
  refine Ai (Qp Ch (Ag (AW.seq (A6 (fun hc1=>?_) fun hc1=>?_))))
  ·
   obtain ⟨v,hv⟩:=B5 hc1
   have hlt:=A4 hv
   refine By (AW.seq (AW.block (Ai ?_)))
   refine Qp (Af (c:=[Iq _,Iq _,.str _]) Ah rfl rfl rfl rfl rfl rfl (by omega) (Bi hv)) ?_
   refine Qp (Cq [Iq _,Iq _,.str _]) ?_
   refine Qe (Ak (l:=[.int .i64 0,.int .i64 0,.str []]) (by kernel_rfl)) ?_
   rintro _ _ ⟨b8,rfl,rfl⟩
   refine Cv 0 [Iq _,Iq _,.str _] (_::_::_::_) ?_
   refine AOL.ghost (GS.Aan (t:=8) 0 rfl rfl) ?_
   refine Ag (AW.region ?_)
   refine Qp (Bm (v:=.fn _ _ _) rfl) ?_
   refine AOL.Aas (A7 (k:=1) (l:=[Iq _,Iq _,Iq _,Iq _,.str _]) Ah rfl rfl rfl rfl rfl) rfl rfl ?_
   refine Qp (Cq [Iq _,Iq _,.str _]) ?_
   refine Qp (Eg (by kernel_rfl) rfl rfl rfl (c117 k p.2 v hR.2.2)) ?_
   refine Cv 1 [Iq _,Iq _,Iq _,Iq _,.str _] (_::_::_) ?_
   refine AOL.nil (Bu (Ad (AW.region (Qp Ey (Qp Az (Ag ?_))))))
   refine ⟨(p.1+1,Jo k p.2 v),?_,?_,GS.weaken ⟨rfl,rfl,rfl,rfl,rfl,rfl,trivial⟩ (.refl _)⟩
   · exact ⟨A4 hv,by rw [hR.2.1,A8 hv];rfl,qM k _ v hR.2.2 hk⟩
   · have:=A4 hv;first | omega | (simp only;omega)
  ·
   have hd:=Dc hc1
   refine AW.exit ?_
   refine A5 (A5 (Bq (Ad (Ai ?_))))
   refine AOL.Aas (A7 (k:=1) (l:=[Iq _,Iq _,Iq _,Iq _,.str _]) Ah rfl rfl rfl rfl rfl) rfl rfl ?_
   refine Cv 0 [Iq _,Iq _,Iq _,Iq _,.str _] (_::_::_) ?_
   refine Ag (AW.ret ?_)
   refine ⟨.inr rfl,[.agg [Iq _,Iq _,Iq _,Iq _,.str _]],.cons (.box _ _ _ 0 _ _ _ _ rfl rfl rfl rfl rfl rfl) <| .nil,.cons _ (.cons _ (.refl _)),?_⟩
   show AV.agg (Vo _)=_
   rw [hR.2.1,hd];rfl
theorem c106 (k:Int)(l:List Vl)(o:Vl):Ax Tryz.prog 150 [.int .i64 k,.sl 3 (l.map cV),.agg (cV o)] (.tuple [.agg (cV (cQ k l o).1),.int .i64 (cQ k l o).2]):=by
  refine Ax.body (n:=46) Ah Tryz.func150 rfl rfl rfl fun H=>?_
  refine AW.seq (AW.region ?_)
  refine Qp (X7 (v:=Iq _) (cs:=[Iq _]) rfl rfl rfl) ?_
  refine Qp (Gd [Iq _,Iq _,.str _]) ?_
  refine Qe (Ak (l:=[.int .i64 0,.int .i64 0,.str []]) (by kernel_rfl)) ?_
  rintro _ _ ⟨b6,rfl,rfl⟩
  refine Qp Ap (AOL.nil (Ad (AW.seq (AW.block (AW.seq (AW.region (Qp Bp ?_)))))))
  refine Qp (Qc rfl (c114 k)) ?_
  refine Qp Hc (Qp Bl (AOL.nil (Ad (A6 (fun hc1=>?_) fun hc1=>?_))))
  · skip
    refine AW.seq (AW.region (Qp (Fz [Iq _,Iq _,.str _]) ?_))
    refine Cv 0 [Iq _,Iq _,.str _] (_::_) ?_
    refine Qp Ap (AOL.nil (Ad (AW.ret (Bb (Aj ?_)))))
    refine ⟨.inr rfl,[.agg [Iq _,Iq _,.str _],Iq _],.cons (.box _ _ _ 0 _ _ _ _ rfl rfl rfl rfl rfl rfl) <| .cons (.tmp _ _ rfl) <| .nil,.cons _ (.refl _),?_⟩
    try simp only [C1,Bool.and_true] at *
    first
      | (simp only [Ae,cQ,cV,v0];(first | rw [if_pos hc1] | skip);first | done | rfl)
      | (try simp only [Bool.not_eq_true',Bool.not_eq_false'] at *
         first
         | (simp only [Ae,cQ,cV,v0, *,Bool.false_eq_true,↓reduceIte,Bool.true_or,Bool.or_true,Bool.false_or,Bool.or_false,Bool.true_and,Bool.and_true,Bool.false_and,Bool.and_false,Bool.not_true,Bool.not_false];done)
         | (simp [Ae,cQ,cV,v0, *];done)
         | (simp_all [Ae,cQ,cV,v0];done))
      | skip
  · skip
    have hkn:Dt k=true:=by simpa using hc1
    refine AW.seq (AW.region (Qp Dx ?_))
    refine Qp (Al (n:=l.length) Ah rfl rfl rfl (by simp)) ?_
    refine Qp Ha (Qp Bl (AOL.nil (Ad (A6 (fun hc2=>?_) fun hc2=>?_))))
    · skip
      refine AW.seq (AW.region (Qp (Fz [Iq _,Iq _,.str _]) ?_))
      refine Cv 0 [Iq _,Iq _,.str _] (_::_) ?_
      refine Qp Ap (AOL.nil (Ad (AW.ret (Bb (Aj ?_)))))
      refine ⟨.inr rfl,[.agg [Iq _,Iq _,.str _],Iq _],.cons (.box _ _ _ 0 _ _ _ _ rfl rfl rfl rfl rfl rfl) <| .cons (.tmp _ _ rfl) <| .nil,.cons _ (.refl _),?_⟩
      try simp only [C1,Bool.and_true] at *
      first
        | (simp only [Ae,cQ,cV,v0];(first | rw [iN hc1] | skip);(first | rw [if_pos hc2] | skip);first | done | rfl)
        | (try simp only [Bool.not_eq_true',Bool.not_eq_false'] at *
           first
           | (simp only [Ae,cQ,cV,v0, *,Bool.false_eq_true,↓reduceIte,Bool.true_or,Bool.or_true,Bool.false_or,Bool.or_false,Bool.true_and,Bool.and_true,Bool.false_and,Bool.and_false,Bool.not_true,Bool.not_false];done)
           | (simp [Ae,cQ,cV,v0, *];done)
           | (simp_all [Ae,cQ,cV,v0];done))
        | skip
    · skip
      refine AW.skip (Bu (Ad (AW.seq (AW.seq (AW.region (Qp Dx ?_))))))
      refine Qp (Al (n:=l.length) Ah rfl rfl rfl (by simp)) ?_
      refine Qp Az (AOL.nil (Ad (AW.block ?_)))
      have hlen:(l.length:Int)≤4096:=by simpa using hc2
      refine AW.Aao (fun (p:Nat)=>(⟨[(1,.sl 3 (l.map cV)),(3,.ptr [.int .i64 k]),(5,.ptr (cV o)),(22,.sl 3 (l.map cV)),(23,.int .i64 l.length),(24,.int .i64 (p:Int)),(6,.val (.pointer (some ⟨b6,0,none⟩)))],.box b6 28 [.int .i64 0,.int .i64 0,.str []]::H,46⟩:St)) (fun (p:Nat)=>p≤l.length∧Ao (Do k) l=Ao (Do k) (l.drop p)) (fun (p:Nat)=>l.length-p) (0) ?_ (GS.weaken ⟨rfl,rfl,rfl,rfl,rfl,rfl,rfl,trivial⟩ (.refl _)) ?_
      · exact ⟨Nat.zero_le _,by simp⟩
      · rintro p hR
        refine AW.seq (AW.region (Qp Ch (AOL.nil (Ad (AW.seq (A6 (fun hc3=>?_) fun hc3=>?_))))))
        · skip
          obtain ⟨v,hv⟩:=B5 hc3
          have hlt:=A4 hv
          refine By (AW.seq (AW.block (AW.seq (AW.region ?_))))
          refine Qp (Af (c:=[Iq _,Iq _,.str _]) Ah rfl rfl rfl rfl rfl rfl (by omega) (Bi hv)) ?_
          refine Qp (Cq [Iq _,Iq _,.str _]) ?_
          refine Qe (Ak (l:=[.int .i64 0,.int .i64 0,.str []]) (by kernel_rfl)) ?_
          rintro _ _ ⟨b9,rfl,rfl⟩
          refine Cv 0 [Iq _,Iq _,.str _] (_::_::_) ?_
          refine AOL.ghost (GS.Aan (t:=9) 0 rfl rfl) ?_
          refine AOL.nil (Ad (AW.seq (AW.region (Qp Bp (Qp (Cq [Iq _,Iq _,.str _]) ?_)))))
          refine Qp (Qc rfl (c115 k v)) ?_
          refine Qp Ap (AOL.nil (Ad (AW.seq (AW.region (Qp Az (Qp Cr (AOL.nil (Ad (A6 (fun hc4=>?_) fun hc4=>?_)))))))))
          · skip
            have hf:Ao (Do k) l=Do k v:=by rw [hR.2,A8 hv,Ao,if_pos hc4]
            refine AW.seq (AW.region (Qp (Fz [Iq _,Iq _,.str _]) (Qp Az ?_)))
            refine Cv 0 [Iq _,Iq _,.str _] (_::_) ?_
            refine Qp Ap (AOL.nil (Ad (AW.ret (Bb (Aj (Aj (Bb (Aj ?_))))))))
            refine ⟨.inr rfl,[.agg [Iq _,Iq _,.str _],Iq _],.cons (.box _ _ _ 0 _ _ _ _ rfl rfl rfl rfl rfl rfl) <| .cons (.tmp _ _ rfl) <| .nil,.cons _ (.refl _),?_⟩
            simp only [Bool.not_eq_false'] at hc1
            have hc2':decide (4096<(l.length:Int))=false:=by simpa using hc2
            simp only [Ae,cQ,hf,hc1,hc2',hkn, *,Bool.false_eq_true,↓reduceIte,Bool.not_true]
            first | rfl | simp [Yn,cV,v0]
          · skip
            refine AW.skip (Bu (Ad (AW.region (Qp Ey (Qp Az (AOL.nil (Ad ?_)))))))
            refine ⟨p+1,?_,?_,GS.weaken ⟨rfl,rfl,rfl,rfl,rfl,rfl,rfl,trivial⟩ (.refl _)⟩
            · exact ⟨A4 hv,by rw [hR.2,A8 hv,Ao,if_neg (by simpa using hc4)]⟩
            · have:=A4 hv;first | omega | (simp only;omega)
        · skip
          have hd:=Dc hc3
          have hf:Ao (Do k) l=0:=by rw [hR.2,hd];rfl
          refine AW.exit ?_
          refine A5 (A5 (Bq (Ad (AW.seq (AW.region (Qp Bp (Qp (Fz [Iq _,Iq _,Iq _,Iq _,.str _]) (Qp Dx ?_))))))))
          refine Qp (Bj (l:=[]) (l':=[.ptr _]) rfl rfl) ?_
          refine Qp (Qc rfl (c116 k hkn ⟨k,0,v0⟩ l hkn)) ?_
          refine Qe (Ak (l:=[.int .i64 0,.int .i64 0,.int .i64 0,.int .i64 0,.str []]) (by kernel_rfl)) ?_
          rintro _ _ ⟨b11,rfl,rfl⟩
          refine Cv 0 [Iq _,Iq _,Iq _,Iq _,.str _] (_::_::_) ?_
          refine AOL.ghost (GS.Aan (t:=11) 0 rfl rfl) ?_
          refine AOL.nil (Ad (AW.seq (AW.region (Qp (Cq [Iq _,Iq _,Iq _,Iq _,.str _]) (Qp (Cq [Iq _,Iq _,.str _]) ?_)))))
          refine Qp (Qc rfl (c120 (l.foldl (Jo k) ⟨k,0,v0⟩) o)) ?_
          refine Qp (Ci (v:=.agg [Iq _,Iq _,.str _]) rfl rfl) ?_
          refine Qp Ke ?_
          refine Cv 0 [Iq _,Iq _,.str _] (_::_) ?_
          refine Qp Ap (AOL.nil (Ad (AW.ret ?_)))
          refine ⟨.inr rfl,[.agg [Iq _,Iq _,.str _],Iq _],.cons (.box _ _ _ 0 _ _ _ _ rfl rfl rfl rfl rfl rfl) <| .cons (.tmp _ _ rfl) <| .nil,.cons _ (.refl _),?_⟩
          simp only [Bool.not_eq_false'] at hc1
          have hc2':decide (4096<(l.length:Int))=false:=by simpa using hc2
          simp only [Ae,cQ,hf,hc1,hc2',hkn, *,Bool.false_eq_true,↓reduceIte,Bool.not_true]
          first | rfl | simp [Yn,cV,v0]
set_option maxHeartbeats 400000
set_option maxRecDepth 20000

theorem c91 (x:Evr)(v:Int):Ax Tryz.prog 138 [.agg (cX x),.int .i64 v] (.sl 5 ((Bx x.vars v).map Lo)):=by
 refine Ax.body (n:=21) Ah Tryz.func138 rfl rfl rfl fun H=>?_
 refine Ai (Qp (Gd [_,Iq _,Iq _,Iq _,Iq _,Iq _,_,_]) ?_)
 refine Qp (Bz (z:=5) rfl) ?_
 refine Ag (AW.seq (Ai (Qp Az (Qp Ch (Qp B0 (Qg [] Qw Az (Qg [] Qw (Qf [_,Iq _,Iq _,Iq _,Iq _,Iq _,_,_]) (Qg [(9,_)] Qw (Qf [_,Iq _,Iq _,Iq _,Iq _,Iq _,_,_]) (Qg [(10,_)] Qw Dy ?_)))))))))
 refine AOL.Aar (y:=Iq _) _ [(11,_)] rfl (nC.all ⟨Ent.Aam _ _,trivial⟩) (fun hG=>Al (n:=x.vars.length) Ah rfl rfl rfl (by simp)) rfl ?_
 refine AOL.Aar (y:=.bool _) _ [(8,_),(12,_)] rfl (nC.all ⟨Ent.Aam _ _,Ent.Aam _ _,trivial⟩) (fun hG=>Ro rfl rfl) rfl ?_
 refine Qp E1 (Ag (A6 (fun hc1=>?_) fun hc1=>?_))
 ·
  refine Ai ?_
  refine Qp (Bz (z:=5) rfl) ?_
  refine Ag (Dw ?_)
  refine Qr (.sl _ _) ?_
  simp only [Ae,Bx]
  rw [if_pos hc1];rfl
 ·
  have hv:0≤v∧v<(x.vars.length:Int):=by simp at hc1;omega
  obtain ⟨l,hl⟩:=Hi hv.1 hv.2
  refine By (Ai (Qp (Qf [_,Iq _,Iq _,Iq _,Iq _,Iq _,_,_]) (Qp (Qf [_,Iq _,Iq _,Iq _,Iq _,Iq _,_,_]) (Qp Dy (Qp Az ?_)))))
  refine Qp (Af (c:=[_]) Ah rfl rfl rfl rfl rfl rfl (hv.1) (Bi hl)) ?_
  refine Qp Dy (Qp Sr (Ag (AW.ret ?_)))
  refine Qr (.sl _ _) ?_
  simp only [Ae,Bx]
  rw [if_neg (by simpa using hc1),hl];rfl
theorem c93 (e:Ev)(k:Int)(hk:0≤k):Ax Tryz.prog 140 [.agg (Lo e),.int .i64 k] (.tuple [.agg (cV (Dq e k).1),.int .i64 (Dq e k).2]):=by
 refine Ax.body (n:=17) Ah Tryz.func140 rfl rfl rfl fun H=>?_
 refine Ai (Qp (Gd [Iq _,Iq _,Iq _,Iq _,_]) ?_)
 refine Qe (Ak (l:=[.int .i64 0,.int .i64 0,.str []]) (by kernel_rfl)) ?_
 rintro _ _ ⟨b4,rfl,rfl⟩
 refine Qp Ap (Ag (AW.seq (Ai (Qp Az (Qp (Qf [_]) (Qp Dy ?_))))))
 refine Qp (Al (n:=e.values.length) Ah rfl rfl rfl (by simp)) ?_
 refine Qp Nt (Ag (A6 (fun hc1=>?_) fun hc1=>?_))
 ·
  refine Ai (Qp (Fz [Iq _,Iq _,.str _]) ?_)
  refine Cv 0 [Iq _,Iq _,.str _] (_::_) ?_
  refine Qp Ap (Ag (Dw ?_))
  refine ⟨.inr rfl,[.agg [Iq _,Iq _,.str _],Iq _],.cons (.box _ _ _ 0 _ _ _ _ rfl rfl rfl rfl rfl rfl) <| .cons (.tmp _ _ rfl) <| .nil,.cons _ (.refl _),?_⟩
  simp only [Ae,Dq]
  rw [if_pos hc1];rfl
 ·
  obtain ⟨v,hv⟩:=Hi (l:=e.values) hk (by simp at hc1;omega)
  refine By (Ai (Qp (Qf [_]) (Qp Dy (Qp Az ?_))))
  refine Qp (Af (c:=[Iq _,Iq _,.str _]) Ah rfl rfl rfl rfl rfl rfl (hk) (Bi hv)) ?_
  refine Qp (Cq [Iq _,Iq _,.str _]) ?_
  refine Cv 0 [Iq _,Iq _,.str _] (_::_) ?_
  refine Qp Ap (Ag (AW.ret ?_))
  refine ⟨.inr rfl,[.agg [Iq _,Iq _,.str _],Iq _],.cons (.box _ _ _ 0 _ _ _ _ rfl rfl rfl rfl rfl rfl) <| .cons (.tmp _ _ rfl) <| .nil,.cons _ (.refl _),?_⟩
  simp only [Ae,Dq]
  rw [if_neg (by simpa using hc1),hv];rfl
theorem c92 (x:Evr)(hx:x.ok)(e:Ex)(hk:0≤e.field):Ax Tryz.prog 139 [.agg (cX x),.agg (cE e)] (.tuple [.agg (cV (Ot x e).1),.int .i64 (Ot x e).2]):=by
 refine Ax.body (n:=44) Ah Tryz.func139 rfl rfl rfl fun H=>?_
 refine Ai (Qp (Gd [_,Iq _,Iq _,Iq _,Iq _,Iq _,_,_]) (Qp Kx ?_))
 refine Qe (Ak (l:=[.int .i64 0,.int .i64 0,.str []]) (by kernel_rfl)) ?_
 rintro _ _ ⟨b4,rfl,rfl⟩
 refine Qp Ap (Dm (Qp N4 ?_))
 refine AOL.ghost (GS.row (t:=6) 28 3 rfl) ?_
 refine Ag (AW.seq (Ai (Qp (Cq [_,Iq _,Iq _,Iq _,Iq _,Iq _,_,_]) (Qp Te (Qp Bp ?_)))))
 refine Qp (Qc rfl (c91 x e.var)) ?_
 refine Qp (Al (n:=(Bx x.vars e.var).length) Ah rfl rfl rfl (by simp)) ?_
 refine Qp Az (Ag (AW.block ?_))
 have hlen:=Yc hx e.var
 refine AW.Aao (fun (p:Nat×List (List AV)×Value)=>(⟨[(2,.ptr (cX x)),(3,.ptr (cE e)),(4,.val (.pointer (some ⟨b4,0,none⟩))),(6,.row p.2.2 3 p.2.1),(14,.sl 5 ((Bx x.vars e.var).map Lo)),(15,.int .i64 (Bx x.vars e.var).length),(16,.int .i64 (p.1:Int))],.row p.2.2 p.2.1.length 28 3 :: .box b4 28 [.int .i64 0,.int .i64 0,.str []]::H,44⟩:St)) (fun (p:Nat×List (List AV)×Value)=>p.1≤(Bx x.vars e.var).length∧Ao (fun v=>(Dq v e.field).2) (Bx x.vars e.var)=Ao (fun v=>(Dq v e.field).2) ((Bx x.vars e.var).drop p.1)∧p.2.1=(((Bx x.vars e.var).take p.1).map fun v=>(Dq v e.field).1).map cV) (fun (p:Nat×List (List AV)×Value)=>(Bx x.vars e.var).length-p.1) ((0,[],.slice none 0 0)) ?_ (GS.weaken ⟨rfl,rfl,rfl,rfl,rfl,rfl,rfl,trivial⟩ (.refl _)) ?_
 · exact ⟨Nat.zero_le _,by simp,by simp⟩
 ·
  rintro p hR
  have hsc:∀c∈p.2.1,Be c=true:=by rw [hR.2.2];exact Ed fun _=>rfl
  refine Ai (Qp Ch (Ag (AW.seq (A6 (fun hc1=>?_) fun hc1=>?_))))
  ·
   obtain ⟨a,ha⟩:=B5 hc1
   have hlt:=A4 ha
   have hm:=List.mem_of_getElem? ha
   refine By (AW.seq (AW.block (Ai ?_)))
   refine Qp (Af (c:=[Iq _,Iq _,Iq _,Iq _,_]) Ah rfl rfl rfl rfl rfl rfl (by omega) (Bi ha)) ?_
   refine Qp (Cq [Iq _,Iq _,Iq _,Iq _,_]) ?_
   refine Qe (Ak (l:=[.int .i64 0,.int .i64 0,.int .i64 0,.int .i64 0,.sl 3 []]) (by kernel_rfl)) ?_
   rintro _ _ ⟨b8,rfl,rfl⟩
   refine Cv 0 [Iq _,Iq _,Iq _,Iq _,_] (_::_::_::_) ?_
   refine AOL.ghost (GS.Aan (t:=8) 0 rfl rfl) ?_
   refine Dm (Qp (Cq [Iq _,Iq _,Iq _,Iq _,_]) (Qp Oq (Qp Bp ?_)))
   refine Qp (Qc rfl (c93 a e.field hk)) ?_
   refine Qp N6 ?_
   refine Qp (Ci (v:=.agg [Iq _,Iq _,.str _]) rfl rfl) ?_
   refine Qp Ke ?_
   refine Qe (Ak (l:=[.int .i64 0,.int .i64 0,.str []]) (by kernel_rfl)) ?_
   rintro _ _ ⟨b9,rfl,rfl⟩
   refine Cv 0 [Iq _,Iq _,.str _] (_::_::_::_) ?_
   refine Qp Ap ?_
   refine AOL.ghost (GS.Aan (t:=9) 0 rfl rfl) ?_
   refine Ag (AW.seq (Ai (Qp Az (Qp Cr (Ag (A6 (fun hc2=>?_) fun hc2=>?_))))))
   ·
    refine Ai (Qp (Fz [Iq _,Iq _,.str _]) (Qp Az ?_))
    refine Cv 1 [Iq _,Iq _,.str _] (_::_::_) ?_
    refine Qp Ap (Ag (Dw (Bb (Aj (Aj (Bb (Aj ?_)))))))
    refine ⟨.inr rfl,[.agg [Iq _,Iq _,.str _],Iq _],.cons (.box _ _ _ 1 _ _ _ _ rfl rfl rfl rfl rfl rfl) <| .cons (.tmp _ _ rfl) <| .nil,.cons _ (.cons _ (.refl _)),?_⟩
    have hf:Ao (fun v=>(Dq v e.field).2) (Bx x.vars e.var)=(Dq a e.field).2:=by rw [hR.2.1,A8 ha,Ao,if_pos hc2]
    simp only [Ae,Ot,hf,hc2,↓reduceIte];rfl
   ·
    refine By (AW.region ?_)
    refine Qp (Bm (v:=.row _ _ _) rfl) ?_
    refine Qp (Cq [Iq _,Iq _,.str _]) ?_
    refine Qp (A1 (es:=[[Iq _,Iq _,.str _]]) Ah rfl rfl rfl rfl rfl rfl rfl rfl rfl) ?_
    refine Qe (C3 (k:=0) Ah rfl rfl rfl rfl rfl rfl rfl rfl (Ff rfl) (hsc) (by simp [hR.2.2];omega) (by simp [hR.2.2,maxLen];omega)) ?_
    rintro _ _ ⟨v34,rfl,rfl⟩
    refine Qp (Dg (v:=.row _ _ _) rfl) ?_
    refine AOL.nil (Bu (Ad (AW.region (Qp Ey (Qp Az (Ag ?_))))))
    refine ⟨(p.1+1,p.2.1 ++ [cV (Dq a e.field).1],v34),?_,?_,GS.weaken ⟨rfl,rfl,rfl,rfl,rfl,rfl,rfl,trivial⟩ (.refl _)⟩
    · simp only;exact ⟨hlt,by rw [hR.2.1,A8 ha,Ao,if_neg (by simpa using hc2)],by rw [C4 ha,hR.2.2];simp⟩
    · first | omega | (simp only;omega)
  ·
   have hte:=Cu hc1
   have hd:=Dc hc1
   have hf:Ao (fun v=>(Dq v e.field).2) (Bx x.vars e.var)=0:=by rw [hR.2.1,hd];rfl
   obtain ⟨k,es,rv⟩:=p
   simp only at hR hte
   obtain rfl:es=((Bx x.vars e.var).map fun v=>(Dq v e.field).1).map cV:=by rw [hR.2.2,hte]
   refine AW.exit ?_
   refine A5 (A5 (Bq (Ad (Ai (Qp Sj (Qp Bp ?_))))))
   refine AOL.ghost (GS.unrow 6 rfl) ?_
   refine Qp Dx (Qp Jq (Qp (Cq [Iq _,Iq _,.str _]) ?_))
   refine Qp (Qc rfl (c106 e.kind ((Bx x.vars e.var).map fun v=>(Dq v e.field).1) e.val)) ?_
   refine Qp (Ci (v:=.agg [Iq _,Iq _,.str _]) rfl rfl) ?_
   refine Qp Ke ?_
   refine Cv 1 [Iq _,Iq _,.str _] (_::_::_) ?_
   refine Qp Ap (Ag (AW.ret ?_))
   refine ⟨.inr rfl,[.agg [Iq _,Iq _,.str _],Iq _],.cons (.box _ _ _ 1 _ _ _ _ rfl rfl rfl rfl rfl rfl) <| .cons (.tmp _ _ rfl) <| .nil,.cons _ (.cons _ (.refl _)),?_⟩
   simp only [Ae,Ot,hf];rfl
theorem c71 (op:Int)(ks:List Int):Ax Tryz.prog 102 [.int .i64 op,.sl 1 (ks.map fun k=>[.int .i64 k])] (.int .i64 (D0 op ks)):=by
 refine Ax.body (n:=38) Ah Tryz.func102 rfl rfl rfl fun H=>?_
 refine Ai (Qp Ap (Ag (AW.seq (Ai (Qp Dx ?_)))))
 refine Qp (Al (n:=ks.length) Ah rfl rfl rfl (by simp)) ?_
 refine Qp Az (Ag (AW.block ?_))
 refine AW.sllen 8 rfl fun hlen=>?_
 simp only [List.length_map,maxLen] at hlen
 refine AW.Aao (fun (p:Nat)=>(⟨[(0,.int .i64 op),(1,.sl 1 (ks.map fun k=>[.int .i64 k])),(8,.sl 1 (ks.map fun k=>[.int .i64 k])),(9,.int .i64 ks.length),(10,.int .i64 (p:Int))],H,38⟩:St)) (fun (p:Nat)=>p≤ks.length∧D0 op ks=Ao (fun k=>if Nu op k (ks.headD 0) then 0 else 9) (ks.drop p)) (fun (p:Nat)=>ks.length-p) (0) ?_ (GS.weaken ⟨rfl,rfl,rfl,rfl,rfl,trivial⟩ (.refl _)) ?_
 · exact ⟨Nat.zero_le _,rfl⟩
 ·
  rintro p hR
  refine Ai (Qp Ch (Ag (AW.seq (A6 (fun hc1=>?_) fun hc1=>?_))))
  ·
   obtain ⟨a,ha⟩:=B5 hc1
   have hlt:=A4 ha
   have hm:=List.mem_of_getElem? ha
   obtain ⟨a0,ha0⟩:∃a0,ks[0]? = some a0:=⟨_,List.getElem?_eq_getElem (by omega)⟩
   have hhd:ks.headD 0=a0:=by cases ks <;> simp_all
   refine By (AW.seq (AW.block (Ai ?_)))
   refine Qp (Af (c:=[Iq _]) Ah rfl rfl rfl rfl rfl rfl (by omega) (Bi (f:=fun k=>[AV.int .i64 k]) ha)) ?_
   refine Qp Bp (Qp Ap (Dm (Qp Bl (Ag ?_))))
   refine AW.cut (fun (_:Unit)=>(⟨[(0,.int .i64 op),(1,.sl 1 (ks.map fun k=>[.int .i64 k])),(8,.sl 1 (ks.map fun k=>[.int .i64 k])),(9,.int .i64 ks.length),(10,.int .i64 (p:Int)),(7,.bool (Nu op a a0))],H,38⟩:St)) (fun (_:Unit)=>True) ?_ ?_
   ·
    refine Ai (Qp Az (Ag (AW.block ?_)))
    refine AW.cut (fun (_:Unit)=>(⟨[(0,.int .i64 op),(1,.sl 1 (ks.map fun k=>[.int .i64 k])),(6,.int .i64 a),(7,.bool true),(8,.sl 1 (ks.map fun k=>[.int .i64 k])),(9,.int .i64 ks.length),(10,.int .i64 (p:Int)),(14,.int .i64 op),(15,.bool (op==5||op==6||op==7||op==8))],H,38⟩:St)) (fun (_:Unit)=>True) ?_ ?_
    ·
     refine Ai (Qp A9 (Qp Bl (Ag (A6 (fun hc2=>?_) fun hc2=>?_))))
     ·
      refine By ?_
      refine ⟨(),?_,GS.weaken ⟨rfl,rfl,rfl,rfl,rfl,rfl,rfl,rfl,congrArg AV.bool (by simp [Nu, *]),trivial⟩ (.refl _)⟩
      trivial
     ·
      refine Ai (Qp A9 (Qp Bl (Ag (A6 (fun hc3=>?_) fun hc3=>?_))))
      ·
       refine By ?_
       refine ⟨(),?_,GS.weaken ⟨rfl,rfl,rfl,rfl,rfl,rfl,rfl,rfl,congrArg AV.bool (by simp [Nu, *]),trivial⟩ (.refl _)⟩
       trivial
      ·
       refine Ai (Qp A9 (Qp Bl (Ag (A6 (fun hc4=>?_) fun hc4=>?_))))
       ·
        refine By ?_
        refine ⟨(),?_,GS.weaken ⟨rfl,rfl,rfl,rfl,rfl,rfl,rfl,rfl,congrArg AV.bool (by simp [Nu, *]),trivial⟩ (.refl _)⟩
        trivial
       ·
        refine AW.region (Qp A9 (Qp Bl (Ag ?_)))
        refine ⟨(),?_,GS.weaken ⟨rfl,rfl,rfl,rfl,rfl,rfl,rfl,rfl,congrArg AV.bool (by simp [Nu, *]),trivial⟩ (.refl _)⟩
        trivial
    ·
     rintro _ _
     refine A6 (fun hc5=>?_) fun hc5=>?_
     ·
      refine AW.region (Qp Az (Qp A9 (Qp Bl (AOL.nil (Bu (Ad ?_))))))
      refine ⟨(),?_,GS.weaken ⟨rfl,rfl,rfl,rfl,rfl,congrArg AV.bool (by simp [Nu, *]),trivial⟩ (.refl _)⟩
      trivial
     ·
      refine AW.cut (fun (_:Unit)=>(⟨[(0,.int .i64 op),(1,.sl 1 (ks.map fun k=>[.int .i64 k])),(6,.int .i64 a),(7,.bool true),(8,.sl 1 (ks.map fun k=>[.int .i64 k])),(9,.int .i64 ks.length),(10,.int .i64 (p:Int)),(14,.int .i64 op),(22,.bool (op==10||op==11||op==12))],H,38⟩:St)) (fun (_:Unit)=>True) ?_ ?_
      ·
       refine Ai (Qp A9 (Qp Bl (Ag (A6 (fun hc6=>?_) fun hc6=>?_))))
       ·
        refine By ?_
        refine ⟨(),?_,GS.weaken ⟨rfl,rfl,rfl,rfl,rfl,rfl,rfl,rfl,congrArg AV.bool (by simp [Nu, *]),trivial⟩ (.refl _)⟩
        trivial
       ·
        refine Ai (Qp A9 (Qp Bl (Ag (A6 (fun hc7=>?_) fun hc7=>?_))))
        ·
         refine By ?_
         refine ⟨(),?_,GS.weaken ⟨rfl,rfl,rfl,rfl,rfl,rfl,rfl,rfl,congrArg AV.bool (by simp [Nu, *]),trivial⟩ (.refl _)⟩
         trivial
        ·
         refine AW.region (Qp A9 (Qp Bl (Ag ?_)))
         refine ⟨(),?_,GS.weaken ⟨rfl,rfl,rfl,rfl,rfl,rfl,rfl,rfl,congrArg AV.bool (by simp [Nu, *]),trivial⟩ (.refl _)⟩
         trivial
      ·
       rintro _ _
       refine A6 (fun hc8=>?_) fun hc8=>?_
       ·
        refine AW.region (Qp Az (Qp A9 (Qp Bl (AOL.nil (Bu (Ad ?_))))))
        refine ⟨(),?_,GS.weaken ⟨rfl,rfl,rfl,rfl,rfl,congrArg AV.bool (by simp [Nu, *]),trivial⟩ (.refl _)⟩
        trivial
       ·
        refine Ai (Qp A9 (Qp Bl (Ag (A6 (fun hc9=>?_) fun hc9=>?_))))
        ·
         refine AW.region (Qp Az (Qp Dx ?_))
         refine Qp (Af (c:=[Iq _]) Ah rfl rfl rfl rfl rfl rfl (by omega) (Bi (f:=fun k=>[AV.int .i64 k]) ha0)) ?_
         refine Qp Bp (Qp A9 (Qp Bl (AOL.nil (Bu (Ad ?_)))))
         refine ⟨(),?_,GS.weaken ⟨rfl,rfl,rfl,rfl,rfl,congrArg AV.bool (by simp [Nu, *]),trivial⟩ (.refl _)⟩
         trivial
        ·
         refine AW.skip (Bu (Ad ?_))
         refine ⟨(),?_,GS.weaken ⟨rfl,rfl,rfl,rfl,rfl,congrArg AV.bool (by simp [Nu, *]),trivial⟩ (.refl _)⟩
         trivial
   ·
    rintro _ _
    refine Ai (Qp B0 (Qp Hc (Ag (A6 (fun hc10=>?_) fun hc10=>?_))))
    ·
     have hok:Nu op a a0=false:=by simpa using hc10
     refine Ai (Qp Ap (Ag (AW.ret (Bb (Aj (Aj (Bb (Aj ?_))))))))
     refine Qr (Iq _) ?_
     simp only [Ae,AV.int.injEq,true_and]
     rw [hR.2,A8 ha,Ao,hhd];simp [hok]
    ·
     have hok:Nu op a a0=true:=by simpa using hc10
     refine AW.skip (Bu (Ad (AW.region (Qp Ey (Qp Az (Ag ?_))))))
     refine ⟨p+1,?_,?_,GS.weaken ⟨rfl,rfl,rfl,rfl,rfl,trivial⟩ (.refl _)⟩
     · exact ⟨hlt,by rw [hR.2,A8 ha,Ao,hhd];simp [hok]⟩
     · first | omega | (simp only;omega)
  ·
   have hd:=Dc hc1
   refine AW.exit ?_
   refine A5 (A5 (Bq (Ad (Ai (Qp Ap (Ag (AW.ret ?_)))))))
   refine Qr (Iq _) ?_
   simp only [Ae,AV.int.injEq,true_and]
   rw [hR.2,hd];rfl

end Go.Proofs.YtjedflcpjlgokaaGreatDoor
