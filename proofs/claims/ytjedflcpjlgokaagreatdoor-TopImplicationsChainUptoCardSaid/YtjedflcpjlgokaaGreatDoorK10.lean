/-
  Several texts in one: W3, W5. No condition.
-/
import Derived.Test.YtjedflcpjlgokaaGreatDoorAz
import Derived.Test.YtjedflcpjlgokaaGreatDoorW2
import Derived.Test.YtjedflcpjlgokaaGreatDoorK02
import Derived.KernelRfl
set_option linter.unusedVariables false
set_option linter.unusedSimpArgs false
namespace Go.Proofs.YtjedflcpjlgokaaGreatDoor
open Go Go.Aw
set_option maxHeartbeats 400000
set_option maxRecDepth 20000

theorem c120 (a:Ac)(o:Vl):Ax Tryz.prog 161 [.agg (Vi a),.agg (cV o)] (.tuple [.agg (cV (De a o).1),.int .i64 (De a o).2]):=by
  refine Ax.body (n:=41) Ai Tryz.func161 rfl rfl rfl fun H=>?_
  refine AW.seq (AW.region (Qp (Gd [Iq _,Iq _,Iq _,Iq _,.str _]) (Qp (Gd [Iq _,Iq _,.str _]) ?_)))
  refine Qe (Am (l:=[.int .i64 0,.int .i64 0,.str []]) (by kernel_rfl)) ?_
  rintro _ _ ⟨b4,rfl,rfl⟩
  refine Qp Ar (AOL.nil (Ae (AW.seq (AW.seq (AW.region (Qp (Cv [Iq _,Iq _,Iq _,Iq _,.str _]) ?_))))))
  refine Qp (Qc rfl (c126 a)) ?_
  refine Qp Ar (AOL.nil (Ae (AW.seq (AW.region (Qp A0 (Qp Cr (AOL.nil (Ae (A3 (fun hc1=>?_) fun hc1=>?_)))))))))
  · skip
    refine AW.seq (AW.region (Qp (Fr [Iq _,Iq _,.str _]) (Qp A0 ?_)))
    refine Cz 0 [Iq _,Iq _,.str _] (_::_) ?_
    refine Qp Ar (AOL.nil (Ae (Du ?_)))
    refine ⟨.inr rfl,[.agg [Iq _,Iq _,.str _],Iq _],.cons (.box _ _ _ 0 _ _ _ _ rfl rfl rfl rfl rfl rfl) <| .cons (.tmp _ _ rfl) <| .nil,.cons _ (.refl _),?_⟩
    try simp only [Co,Bool.and_true] at *
    first
      | (simp only [Ad,De,cV,v0];(first | rw [if_pos hc1] | skip);first | done | rfl)
      | (try simp only [Bool.not_eq_true',Bool.not_eq_false'] at *
         first
         | (simp only [Ad,De,cV,v0, *,Bool.false_eq_true,↓reduceIte,Bool.true_or,Bool.or_true,Bool.false_or,Bool.or_false,Bool.true_and,Bool.and_true,Bool.false_and,Bool.and_false,Bool.not_true,Bool.not_false];done)
         | (simp [Ad,De,cV,v0, *];done)
         | (simp_all [Ad,De,cV,v0];done))
      | skip
  · skip
    refine By (AW.seq (AW.seq (AW.region (Qp Qv (Qp Bp (Qp (Cv [Iq _,Iq _,.str _]) ?_))))))
    refine Qp (Qc rfl (c115 a.kind o)) ?_
    refine Qp Ar (AOL.nil (Ae (AW.seq (AW.region (Qp A0 (Qp Cr (AOL.nil (Ae (A3 (fun hc2=>?_) fun hc2=>?_)))))))))
    · skip
      refine AW.seq (AW.region (Qp (Fr [Iq _,Iq _,.str _]) (Qp A0 ?_)))
      refine Cz 0 [Iq _,Iq _,.str _] (_::_) ?_
      refine Qp Ar (AOL.nil (Ae (Du ?_)))
      refine ⟨.inr rfl,[.agg [Iq _,Iq _,.str _],Iq _],.cons (.box _ _ _ 0 _ _ _ _ rfl rfl rfl rfl rfl rfl) <| .cons (.tmp _ _ rfl) <| .nil,.cons _ (.refl _),?_⟩
      try simp only [Co,Bool.and_true] at *
      first
        | (simp only [Ad,De,cV,v0];(first | rw [iN hc1] | skip);(first | rw [if_pos hc2] | skip);first | done | rfl)
        | (try simp only [Bool.not_eq_true',Bool.not_eq_false'] at *
           first
           | (simp only [Ad,De,cV,v0, *,Bool.false_eq_true,↓reduceIte,Bool.true_or,Bool.or_true,Bool.false_or,Bool.or_false,Bool.true_and,Bool.and_true,Bool.false_and,Bool.and_false,Bool.not_true,Bool.not_false];done)
           | (simp [Ad,De,cV,v0, *];done)
           | (simp_all [Ad,De,cV,v0];done))
        | skip
    · skip
      refine By (AW.seq (AW.block (AW.seq (AW.region (Qp Qv (Qp Bp (Qp A6 (Qp Bm (AOL.nil ?_)))))))))
      refine Ae (A3 (fun hc3=>?_) fun hc3=>?_)
      · skip
        refine AW.seq (AW.region (Qp Sl (Qp Bp (Qp (Fr [Iq _,Iq _,.str _]) ?_))))
        refine Cz 0 [Iq _,Iq _,.str _] (_::_) ?_
        refine Qp Ar (AOL.nil (Ae (AW.ret (A7 (Aj ?_)))))
        refine ⟨.inr rfl,[.agg [Iq _,Iq _,.str _],Iq _],.cons (.box _ _ _ 0 _ _ _ _ rfl rfl rfl rfl rfl rfl) <| .cons (.tmp _ _ rfl) <| .nil,.cons _ (.refl _),?_⟩
        try simp only [Co,Bool.and_true] at *
        first
          | (simp only [Ad,De,cV,v0];(first | rw [iN hc1] | skip);(first | rw [iN hc2] | skip);(first | rw [if_pos hc3] | skip);first | done | rfl)
          | (try simp only [Bool.not_eq_true',Bool.not_eq_false'] at *
             first
             | (simp only [Ad,De,cV,v0, *,Bool.false_eq_true,↓reduceIte,Bool.true_or,Bool.or_true,Bool.false_or,Bool.or_false,Bool.true_and,Bool.and_true,Bool.false_and,Bool.and_false,Bool.not_true,Bool.not_false];done)
             | (simp [Ad,De,cV,v0, *];done)
             | (simp_all [Ad,De,cV,v0];done))
          | skip
      · skip
        refine AW.seq (AW.region (Qp Sl (Qp Bp (Qp A6 (Qp Bu (Qg [] Qw Qv (Qg [(34,_)] Qw Bp (Qg [(35,_)] Qw Cr (Qp Gg ?_)))))))))
        refine Qp Bm (AOL.nil (Ae (A3 (fun hc4=>?_) fun hc4=>?_)))
        · skip
          refine AW.seq (AW.region (Qp (Cv [Iq _,Iq _,.str _]) ?_))
          refine Cz 0 [Iq _,Iq _,.str _] (_::_) ?_
          refine Qp Ar (AOL.nil (Ae (AW.ret (A7 (Aj ?_)))))
          refine ⟨.inr rfl,[.agg [Iq _,Iq _,.str _],Iq _],.cons (.box _ _ _ 0 _ _ _ _ rfl rfl rfl rfl rfl rfl) <| .cons (.tmp _ _ rfl) <| .nil,.cons _ (.refl _),?_⟩
          try simp only [Co,Bool.and_true] at *
          first
            | (simp only [Ad,De,cV,v0];(first | rw [iN hc1] | skip);(first | rw [iN hc2] | skip);(first | rw [iN hc3] | skip);(first | rw [if_pos hc4] | skip);first | done | rfl)
            | (try simp only [Bool.not_eq_true',Bool.not_eq_false'] at *
               first
               | (simp only [Ad,De,cV,v0, *,Bool.false_eq_true,↓reduceIte,Bool.true_or,Bool.or_true,Bool.false_or,Bool.or_false,Bool.true_and,Bool.and_true,Bool.false_and,Bool.and_false,Bool.not_true,Bool.not_false];done)
               | (simp [Ad,De,cV,v0, *];done)
               | (simp_all [Ad,De,cV,v0];done))
            | skip
        · skip
          refine AW.skip (Bv (Ae (AW.seq (AW.region (Qp J2 (Qp (Cv [Iq _,Iq _,.str _]) ?_))))))
          refine Cz 0 [Iq _,Iq _,.str _] (_::_) ?_
          refine Qp Ar (AOL.nil (Ae (AW.ret ?_)))
          refine ⟨.inr rfl,[.agg [Iq _,Iq _,.str _],Iq _],.cons (.box _ _ _ 0 _ _ _ _ rfl rfl rfl rfl rfl rfl) <| .cons (.tmp _ _ rfl) <| .nil,.cons _ (.refl _),?_⟩
          try simp only [Co,Bool.and_true] at *
          first
            | (simp only [Ad,De,cV,v0];(first | rw [iN hc1] | skip);(first | rw [iN hc2] | skip);(first | rw [iN hc3] | skip);(first | rw [iN hc4] | skip);first | done | rfl)
            | (try simp only [Bool.not_eq_true',Bool.not_eq_false'] at *
               first
               | (simp only [Ad,De,cV,v0, *,Bool.false_eq_true,↓reduceIte,Bool.true_or,Bool.or_true,Bool.false_or,Bool.or_false,Bool.true_and,Bool.and_true,Bool.false_and,Bool.and_false,Bool.not_true,Bool.not_false];done)
               | (simp [Ad,De,cV,v0, *];done)
               | (simp_all [Ad,De,cV,v0];done))
            | skip
theorem c117 (k:Int)(a:Ac)(v:Vl)(h:Dd a.kind=true):Ax Tryz.prog 158 [.agg (Vi a),.agg (cV v),.ptr [.int .i64 k]] (.agg (Vi (I8 k a v))):=by
 refine Ax.body (n:=13) Ai Tryz.func158 rfl rfl rfl fun H=>?_
 refine Ah (Qp (Gd [Iq _,Iq _,Iq _,Iq _,.str _]) (Qp (Gd [Iq _,Iq _,.str _]) ?_))
 refine Qe (Am (l:=[.int .i64 0,.int .i64 0,.int .i64 0,.int .i64 0,.str []]) (by kernel_rfl)) ?_
 rintro _ _ ⟨b5,rfl,rfl⟩
 refine Ag (AW.seq ?_)
 refine AW.draw mixed (fun _=>True) trivial (by kernel_rfl) ?_
 refine Qn 0 rfl (Cv [Iq _,Iq _,Iq _,Iq _,.str _]) (Qn 1 rfl Bp (Qn 2 rfl Bp (Qn 3 rfl (Cv [Iq _,Iq _,.str _]) ?_)))
 refine Qn 4 rfl (Qc rfl (c119 k v)) ?_
 refine Qn 5 rfl (Fr [Iq _,Iq _,Iq _,Iq _,.str _]) ?_
 refine Qn 6 rfl (Qc rfl (c118 a ⟨k,1,En k v⟩ h)) ?_
 refine Jb.eff _ _ 7 _ _ rfl (by kernel_rfl) rfl rfl (Df (k:=0) (v:=.agg _) (cs':=[Iq _,Iq _,Iq _,Iq _,.str _]) (H2:=_::_) Ai rfl rfl rfl rfl (rfl) rfl rfl rfl rfl) (fun _ _ _=>trivial) ?_
 rintro _ _ ⟨rfl,rfl⟩
 refine Jb.done _ _ (by kernel_rfl) ?_
 refine Ae (AW.ret ?_)
 refine ⟨.inr rfl,[.agg [Iq _,Iq _,Iq _,Iq _,.str _]],.cons (.box _ _ _ 0 _ _ _ _ rfl rfl rfl rfl rfl rfl) <| .nil,.cons _ (.refl _),?_⟩
 rfl
theorem c116 (k:Int)(hk:Dd k=true)(a:Ac)(l:List Vl)(h:Dd a.kind=true):Ax Tryz.prog 157 [.agg (Vi a),.sl 3 (l.map cV),.fn (.func 158) [] [.ptr [.int .i64 k]]] (.agg (Vi (l.foldl (I8 k) a))):=by
 refine Ax.body (n:=21) Ai Tryz.func157 rfl rfl rfl fun H=>?_
 refine Ah ?_
 refine Qe (Ub (v:=.agg _) (cs:=[Iq _,Iq _,Iq _,Iq _,.str _]) rfl rfl (rfl)) ?_
 rintro _ _ ⟨b3,rfl,rfl⟩
 refine Qe (Am (l:=[.int .i64 0,.int .i64 0,.int .i64 0,.int .i64 0,.str []]) (by kernel_rfl)) ?_
 rintro _ _ ⟨b6,rfl,rfl⟩
 refine Ag (AW.seq (Ah (Qp Dt ?_)))
 refine Qp (Al (n:=l.length) Ai rfl rfl rfl (by simp)) ?_
 refine Qp A0 (Ag (AW.block ?_))
 refine AW.sllen 9 rfl fun hlen=>?_
 simp only [List.length_map,maxLen] at hlen
 refine AW.Aad (fun (p:Nat×Ac)=>(⟨[(2,.fn (.func 158) [] [.ptr [.int .i64 k]]),(9,.sl 3 (l.map cV)),(10,.int .i64 l.length),(11,.int .i64 (p.1:Int)),(3,.val (.pointer (some ⟨b3,0,none⟩))),(6,.val (.pointer (some ⟨b6,0,none⟩)))],.box b6 230 [.int .i64 0,.int .i64 0,.int .i64 0,.int .i64 0,.str []] :: .box b3 230 (Vi p.2)::H,21⟩:St)) (fun (p:Nat×Ac)=>p.1≤l.length∧l.foldl (I8 k) a=(l.drop p.1).foldl (I8 k) p.2∧Dd p.2.kind=true) (fun (p:Nat×Ac)=>l.length-p.1) ((0,a)) ?_ (GS.weaken ⟨rfl,rfl,rfl,rfl,rfl,rfl,trivial⟩ (.refl _)) ?_
 · exact ⟨Nat.zero_le _,by simp,h⟩
 ·
  rintro p hR
  refine Ah (Qp Ck (Ag (AW.seq (A3 (fun hc1=>?_) fun hc1=>?_))))
  ·
   obtain ⟨v,hv⟩:=B7 hc1
   have hlt:=Bb hv
   refine By (AW.seq (AW.block (Ah ?_)))
   refine Qp (Af (c:=[Iq _,Iq _,.str _]) Ai rfl rfl rfl rfl rfl rfl (by omega) (Bo hv)) ?_
   refine Qp (Cv [Iq _,Iq _,.str _]) ?_
   refine Qe (Am (l:=[.int .i64 0,.int .i64 0,.str []]) (by kernel_rfl)) ?_
   rintro _ _ ⟨b8,rfl,rfl⟩
   refine Cz 0 [Iq _,Iq _,.str _] (_::_::_::_) ?_
   refine AOL.ghost (GS.Aac (t:=8) 0 rfl rfl) ?_
   refine Ag (AW.region ?_)
   refine Qp (Bk (v:=.fn _ _ _) rfl) ?_
   refine AOL.Aah (Bs (k:=1) (l:=[Iq _,Iq _,Iq _,Iq _,.str _]) Ai rfl rfl rfl rfl rfl) rfl rfl ?_
   refine Qp (Cv [Iq _,Iq _,.str _]) ?_
   refine Qp (Ec (by kernel_rfl) rfl rfl rfl (c117 k p.2 v hR.2.2)) ?_
   refine Cz 1 [Iq _,Iq _,Iq _,Iq _,.str _] (_::_::_) ?_
   refine AOL.nil (Bv (Ae (AW.region (Qp F7 (Qp A0 (Ag ?_))))))
   refine ⟨(p.1+1,I8 k p.2 v),?_,?_,GS.weaken ⟨rfl,rfl,rfl,rfl,rfl,rfl,trivial⟩ (.refl _)⟩
   · exact ⟨Bb hv,by rw [hR.2.1,A4 hv];rfl,pW k _ v hR.2.2 hk⟩
   · have:=Bb hv;first | omega | (simp only;omega)
  ·
   have hd:=C8 hc1
   refine AW.exit ?_
   refine A5 (A5 (Bx (Ae (Ah ?_))))
   refine AOL.Aah (Bs (k:=1) (l:=[Iq _,Iq _,Iq _,Iq _,.str _]) Ai rfl rfl rfl rfl rfl) rfl rfl ?_
   refine Cz 0 [Iq _,Iq _,Iq _,Iq _,.str _] (_::_::_) ?_
   refine Ag (AW.ret ?_)
   refine ⟨.inr rfl,[.agg [Iq _,Iq _,Iq _,Iq _,.str _]],.cons (.box _ _ _ 0 _ _ _ _ rfl rfl rfl rfl rfl rfl) <| .nil,.cons _ (.cons _ (.refl _)),?_⟩
   show AV.agg (Vi _)=_
   rw [hR.2.1,hd];rfl
theorem c106 (k:Int)(l:List Vl)(o:Vl):Ax Tryz.prog 150 [.int .i64 k,.sl 3 (l.map cV),.agg (cV o)] (.tuple [.agg (cV (cK k l o).1),.int .i64 (cK k l o).2]):=by
  refine Ax.body (n:=46) Ai Tryz.func150 rfl rfl rfl fun H=>?_
  refine AW.seq (AW.region ?_)
  refine Qp (Zh (v:=Iq _) (cs:=[Iq _]) rfl rfl rfl) ?_
  refine Qp (Gd [Iq _,Iq _,.str _]) ?_
  refine Qe (Am (l:=[.int .i64 0,.int .i64 0,.str []]) (by kernel_rfl)) ?_
  rintro _ _ ⟨b6,rfl,rfl⟩
  refine Qp Ar (AOL.nil (Ae (AW.seq (AW.block (AW.seq (AW.region (Qp Bp ?_)))))))
  refine Qp (Qc rfl (c114 k)) ?_
  refine Qp Hp (Qp Bm (AOL.nil (Ae (A3 (fun hc1=>?_) fun hc1=>?_))))
  · skip
    refine AW.seq (AW.region (Qp (Fr [Iq _,Iq _,.str _]) ?_))
    refine Cz 0 [Iq _,Iq _,.str _] (_::_) ?_
    refine Qp Ar (AOL.nil (Ae (AW.ret (A7 (Aj ?_)))))
    refine ⟨.inr rfl,[.agg [Iq _,Iq _,.str _],Iq _],.cons (.box _ _ _ 0 _ _ _ _ rfl rfl rfl rfl rfl rfl) <| .cons (.tmp _ _ rfl) <| .nil,.cons _ (.refl _),?_⟩
    try simp only [Co,Bool.and_true] at *
    first
      | (simp only [Ad,cK,cV,v0];(first | rw [if_pos hc1] | skip);first | done | rfl)
      | (try simp only [Bool.not_eq_true',Bool.not_eq_false'] at *
         first
         | (simp only [Ad,cK,cV,v0, *,Bool.false_eq_true,↓reduceIte,Bool.true_or,Bool.or_true,Bool.false_or,Bool.or_false,Bool.true_and,Bool.and_true,Bool.false_and,Bool.and_false,Bool.not_true,Bool.not_false];done)
         | (simp [Ad,cK,cV,v0, *];done)
         | (simp_all [Ad,cK,cV,v0];done))
      | skip
  · skip
    have hkn:Dd k=true:=by simpa using hc1
    refine AW.seq (AW.region (Qp Dt ?_))
    refine Qp (Al (n:=l.length) Ai rfl rfl rfl (by simp)) ?_
    refine Qp G6 (Qp Bm (AOL.nil (Ae (A3 (fun hc2=>?_) fun hc2=>?_))))
    · skip
      refine AW.seq (AW.region (Qp (Fr [Iq _,Iq _,.str _]) ?_))
      refine Cz 0 [Iq _,Iq _,.str _] (_::_) ?_
      refine Qp Ar (AOL.nil (Ae (AW.ret (A7 (Aj ?_)))))
      refine ⟨.inr rfl,[.agg [Iq _,Iq _,.str _],Iq _],.cons (.box _ _ _ 0 _ _ _ _ rfl rfl rfl rfl rfl rfl) <| .cons (.tmp _ _ rfl) <| .nil,.cons _ (.refl _),?_⟩
      try simp only [Co,Bool.and_true] at *
      first
        | (simp only [Ad,cK,cV,v0];(first | rw [iN hc1] | skip);(first | rw [if_pos hc2] | skip);first | done | rfl)
        | (try simp only [Bool.not_eq_true',Bool.not_eq_false'] at *
           first
           | (simp only [Ad,cK,cV,v0, *,Bool.false_eq_true,↓reduceIte,Bool.true_or,Bool.or_true,Bool.false_or,Bool.or_false,Bool.true_and,Bool.and_true,Bool.false_and,Bool.and_false,Bool.not_true,Bool.not_false];done)
           | (simp [Ad,cK,cV,v0, *];done)
           | (simp_all [Ad,cK,cV,v0];done))
        | skip
    · skip
      refine AW.skip (Bv (Ae (AW.seq (AW.seq (AW.region (Qp Dt ?_))))))
      refine Qp (Al (n:=l.length) Ai rfl rfl rfl (by simp)) ?_
      refine Qp A0 (AOL.nil (Ae (AW.block ?_)))
      have hlen:(l.length:Int)≤4096:=by simpa using hc2
      refine AW.Aad (fun (p:Nat)=>(⟨[(1,.sl 3 (l.map cV)),(3,.ptr [.int .i64 k]),(5,.ptr (cV o)),(22,.sl 3 (l.map cV)),(23,.int .i64 l.length),(24,.int .i64 (p:Int)),(6,.val (.pointer (some ⟨b6,0,none⟩)))],.box b6 28 [.int .i64 0,.int .i64 0,.str []]::H,46⟩:St)) (fun (p:Nat)=>p≤l.length∧Aq (Db k) l=Aq (Db k) (l.drop p)) (fun (p:Nat)=>l.length-p) (0) ?_ (GS.weaken ⟨rfl,rfl,rfl,rfl,rfl,rfl,rfl,trivial⟩ (.refl _)) ?_
      · exact ⟨Nat.zero_le _,by simp⟩
      · rintro p hR
        refine AW.seq (AW.region (Qp Ck (AOL.nil (Ae (AW.seq (A3 (fun hc3=>?_) fun hc3=>?_))))))
        · skip
          obtain ⟨v,hv⟩:=B7 hc3
          have hlt:=Bb hv
          refine By (AW.seq (AW.block (AW.seq (AW.region ?_))))
          refine Qp (Af (c:=[Iq _,Iq _,.str _]) Ai rfl rfl rfl rfl rfl rfl (by omega) (Bo hv)) ?_
          refine Qp (Cv [Iq _,Iq _,.str _]) ?_
          refine Qe (Am (l:=[.int .i64 0,.int .i64 0,.str []]) (by kernel_rfl)) ?_
          rintro _ _ ⟨b9,rfl,rfl⟩
          refine Cz 0 [Iq _,Iq _,.str _] (_::_::_) ?_
          refine AOL.ghost (GS.Aac (t:=9) 0 rfl rfl) ?_
          refine AOL.nil (Ae (AW.seq (AW.region (Qp Bp (Qp (Cv [Iq _,Iq _,.str _]) ?_)))))
          refine Qp (Qc rfl (c115 k v)) ?_
          refine Qp Ar (AOL.nil (Ae (AW.seq (AW.region (Qp A0 (Qp Cr (AOL.nil (Ae (A3 (fun hc4=>?_) fun hc4=>?_)))))))))
          · skip
            have hf:Aq (Db k) l=Db k v:=by rw [hR.2,A4 hv,Aq,if_pos hc4]
            refine AW.seq (AW.region (Qp (Fr [Iq _,Iq _,.str _]) (Qp A0 ?_)))
            refine Cz 0 [Iq _,Iq _,.str _] (_::_) ?_
            refine Qp Ar (AOL.nil (Ae (AW.ret (A7 (Aj (Aj (A7 (Aj ?_))))))))
            refine ⟨.inr rfl,[.agg [Iq _,Iq _,.str _],Iq _],.cons (.box _ _ _ 0 _ _ _ _ rfl rfl rfl rfl rfl rfl) <| .cons (.tmp _ _ rfl) <| .nil,.cons _ (.refl _),?_⟩
            simp only [Bool.not_eq_false'] at hc1
            have hc2':decide (4096<(l.length:Int))=false:=by simpa using hc2
            simp only [Ad,cK,hf,hc1,hc2',hkn, *,Bool.false_eq_true,↓reduceIte,Bool.not_true]
            first | rfl | simp [Zp,cV,v0]
          · skip
            refine AW.skip (Bv (Ae (AW.region (Qp F7 (Qp A0 (AOL.nil (Ae ?_)))))))
            refine ⟨p+1,?_,?_,GS.weaken ⟨rfl,rfl,rfl,rfl,rfl,rfl,rfl,trivial⟩ (.refl _)⟩
            · exact ⟨Bb hv,by rw [hR.2,A4 hv,Aq,if_neg (by simpa using hc4)]⟩
            · have:=Bb hv;first | omega | (simp only;omega)
        · skip
          have hd:=C8 hc3
          have hf:Aq (Db k) l=0:=by rw [hR.2,hd];rfl
          refine AW.exit ?_
          refine A5 (A5 (Bx (Ae (AW.seq (AW.region (Qp Bp (Qp (Fr [Iq _,Iq _,Iq _,Iq _,.str _]) (Qp Dt ?_))))))))
          refine Qp (A9 (l:=[]) (l':=[.ptr _]) rfl rfl) ?_
          refine Qp (Qc rfl (c116 k hkn ⟨k,0,v0⟩ l hkn)) ?_
          refine Qe (Am (l:=[.int .i64 0,.int .i64 0,.int .i64 0,.int .i64 0,.str []]) (by kernel_rfl)) ?_
          rintro _ _ ⟨b11,rfl,rfl⟩
          refine Cz 0 [Iq _,Iq _,Iq _,Iq _,.str _] (_::_::_) ?_
          refine AOL.ghost (GS.Aac (t:=11) 0 rfl rfl) ?_
          refine AOL.nil (Ae (AW.seq (AW.region (Qp (Cv [Iq _,Iq _,Iq _,Iq _,.str _]) (Qp (Cv [Iq _,Iq _,.str _]) ?_)))))
          refine Qp (Qc rfl (c120 (l.foldl (I8 k) ⟨k,0,v0⟩) o)) ?_
          refine Qp (Ci (v:=.agg [Iq _,Iq _,.str _]) rfl rfl) ?_
          refine Qp I6 ?_
          refine Cz 0 [Iq _,Iq _,.str _] (_::_) ?_
          refine Qp Ar (AOL.nil (Ae (AW.ret ?_)))
          refine ⟨.inr rfl,[.agg [Iq _,Iq _,.str _],Iq _],.cons (.box _ _ _ 0 _ _ _ _ rfl rfl rfl rfl rfl rfl) <| .cons (.tmp _ _ rfl) <| .nil,.cons _ (.refl _),?_⟩
          simp only [Bool.not_eq_false'] at hc1
          have hc2':decide (4096<(l.length:Int))=false:=by simpa using hc2
          simp only [Ad,cK,hf,hc1,hc2',hkn, *,Bool.false_eq_true,↓reduceIte,Bool.not_true]
          first | rfl | simp [Zp,cV,v0]
set_option maxHeartbeats 400000
set_option maxRecDepth 20000

theorem c91 (x:Evr)(v:Int):Ax Tryz.prog 138 [.agg (cX x),.int .i64 v] (.sl 5 ((Bn x.vars v).map Rz)):=by
 refine Ax.body (n:=21) Ai Tryz.func138 rfl rfl rfl fun H=>?_
 refine Ah (Qp (Gd [_,Iq _,Iq _,Iq _,Iq _,Iq _,_,_]) ?_)
 refine Qp (Ca (z:=5) rfl) ?_
 refine Ag (AW.seq (Ah (Qp A0 (Qp Ck (Qp Bu (Qg [] Qw A0 (Qg [] Qw (Qf [_,Iq _,Iq _,Iq _,Iq _,Iq _,_,_]) (Qg [(9,_)] Qw (Qf [_,Iq _,Iq _,Iq _,Iq _,Iq _,_,_]) (Qg [(10,_)] Qw Ee ?_)))))))))
 refine AOL.Aaf (y:=Iq _) _ [(11,_)] rfl (oE.all ⟨Ent.Aab _ _,trivial⟩) (fun hG=>Al (n:=x.vars.length) Ai rfl rfl rfl (by simp)) rfl ?_
 refine AOL.Aaf (y:=.bool _) _ [(8,_),(12,_)] rfl (oE.all ⟨Ent.Aab _ _,Ent.Aab _ _,trivial⟩) (fun hG=>Ua rfl rfl) rfl ?_
 refine Qp E2 (Ag (A3 (fun hc1=>?_) fun hc1=>?_))
 ·
  refine Ah ?_
  refine Qp (Ca (z:=5) rfl) ?_
  refine Ag (Du ?_)
  refine Qr (.sl _ _) ?_
  simp only [Ad,Bn]
  rw [if_pos hc1];rfl
 ·
  have hv:0≤v∧v<(x.vars.length:Int):=by simp at hc1;omega
  obtain ⟨l,hl⟩:=Hc hv.1 hv.2
  refine By (Ah (Qp (Qf [_,Iq _,Iq _,Iq _,Iq _,Iq _,_,_]) (Qp (Qf [_,Iq _,Iq _,Iq _,Iq _,Iq _,_,_]) (Qp Ee (Qp A0 ?_)))))
  refine Qp (Af (c:=[_]) Ai rfl rfl rfl rfl rfl rfl (hv.1) (Bo hl)) ?_
  refine Qp Ee (Qp Un (Ag (AW.ret ?_)))
  refine Qr (.sl _ _) ?_
  simp only [Ad,Bn]
  rw [if_neg (by simpa using hc1),hl];rfl
theorem c93 (e:Ev)(k:Int)(hk:0≤k):Ax Tryz.prog 140 [.agg (Rz e),.int .i64 k] (.tuple [.agg (cV (Dg e k).1),.int .i64 (Dg e k).2]):=by
 refine Ax.body (n:=17) Ai Tryz.func140 rfl rfl rfl fun H=>?_
 refine Ah (Qp (Gd [Iq _,Iq _,Iq _,Iq _,_]) ?_)
 refine Qe (Am (l:=[.int .i64 0,.int .i64 0,.str []]) (by kernel_rfl)) ?_
 rintro _ _ ⟨b4,rfl,rfl⟩
 refine Qp Ar (Ag (AW.seq (Ah (Qp A0 (Qp (Qf [_]) (Qp Ee ?_))))))
 refine Qp (Al (n:=e.values.length) Ai rfl rfl rfl (by simp)) ?_
 refine Qp Nj (Ag (A3 (fun hc1=>?_) fun hc1=>?_))
 ·
  refine Ah (Qp (Fr [Iq _,Iq _,.str _]) ?_)
  refine Cz 0 [Iq _,Iq _,.str _] (_::_) ?_
  refine Qp Ar (Ag (Du ?_))
  refine ⟨.inr rfl,[.agg [Iq _,Iq _,.str _],Iq _],.cons (.box _ _ _ 0 _ _ _ _ rfl rfl rfl rfl rfl rfl) <| .cons (.tmp _ _ rfl) <| .nil,.cons _ (.refl _),?_⟩
  simp only [Ad,Dg]
  rw [if_pos hc1];rfl
 ·
  obtain ⟨v,hv⟩:=Hc (l:=e.values) hk (by simp at hc1;omega)
  refine By (Ah (Qp (Qf [_]) (Qp Ee (Qp A0 ?_))))
  refine Qp (Af (c:=[Iq _,Iq _,.str _]) Ai rfl rfl rfl rfl rfl rfl (hk) (Bo hv)) ?_
  refine Qp (Cv [Iq _,Iq _,.str _]) ?_
  refine Cz 0 [Iq _,Iq _,.str _] (_::_) ?_
  refine Qp Ar (Ag (AW.ret ?_))
  refine ⟨.inr rfl,[.agg [Iq _,Iq _,.str _],Iq _],.cons (.box _ _ _ 0 _ _ _ _ rfl rfl rfl rfl rfl rfl) <| .cons (.tmp _ _ rfl) <| .nil,.cons _ (.refl _),?_⟩
  simp only [Ad,Dg]
  rw [if_neg (by simpa using hc1),hv];rfl
theorem c92 (x:Evr)(hx:x.ok)(e:Ex)(hk:0≤e.field):Ax Tryz.prog 139 [.agg (cX x),.agg (cE e)] (.tuple [.agg (cV (Nx x e).1),.int .i64 (Nx x e).2]):=by
 refine Ax.body (n:=44) Ai Tryz.func139 rfl rfl rfl fun H=>?_
 refine Ah (Qp (Gd [_,Iq _,Iq _,Iq _,Iq _,Iq _,_,_]) (Qp Nc ?_))
 refine Qe (Am (l:=[.int .i64 0,.int .i64 0,.str []]) (by kernel_rfl)) ?_
 rintro _ _ ⟨b4,rfl,rfl⟩
 refine Qp Ar (Do (Qp N2 ?_))
 refine AOL.ghost (GS.row (t:=6) 28 3 rfl) ?_
 refine Ag (AW.seq (Ah (Qp (Cv [_,Iq _,Iq _,Iq _,Iq _,Iq _,_,_]) (Qp Xs (Qp Bp ?_)))))
 refine Qp (Qc rfl (c91 x e.var)) ?_
 refine Qp (Al (n:=(Bn x.vars e.var).length) Ai rfl rfl rfl (by simp)) ?_
 refine Qp A0 (Ag (AW.block ?_))
 have hlen:=Ze hx e.var
 refine AW.Aad (fun (p:Nat×List (List AV)×Value)=>(⟨[(2,.ptr (cX x)),(3,.ptr (cE e)),(4,.val (.pointer (some ⟨b4,0,none⟩))),(6,.row p.2.2 3 p.2.1),(14,.sl 5 ((Bn x.vars e.var).map Rz)),(15,.int .i64 (Bn x.vars e.var).length),(16,.int .i64 (p.1:Int))],.row p.2.2 p.2.1.length 28 3 :: .box b4 28 [.int .i64 0,.int .i64 0,.str []]::H,44⟩:St)) (fun (p:Nat×List (List AV)×Value)=>p.1≤(Bn x.vars e.var).length∧Aq (fun v=>(Dg v e.field).2) (Bn x.vars e.var)=Aq (fun v=>(Dg v e.field).2) ((Bn x.vars e.var).drop p.1)∧p.2.1=(((Bn x.vars e.var).take p.1).map fun v=>(Dg v e.field).1).map cV) (fun (p:Nat×List (List AV)×Value)=>(Bn x.vars e.var).length-p.1) ((0,[],.slice none 0 0)) ?_ (GS.weaken ⟨rfl,rfl,rfl,rfl,rfl,rfl,rfl,trivial⟩ (.refl _)) ?_
 · exact ⟨Nat.zero_le _,by simp,by simp⟩
 ·
  rintro p hR
  have hsc:∀c∈p.2.1,Bc c=true:=by rw [hR.2.2];exact Fc fun _=>rfl
  refine Ah (Qp Ck (Ag (AW.seq (A3 (fun hc1=>?_) fun hc1=>?_))))
  ·
   obtain ⟨a,ha⟩:=B7 hc1
   have hlt:=Bb ha
   have hm:=List.mem_of_getElem? ha
   refine By (AW.seq (AW.block (Ah ?_)))
   refine Qp (Af (c:=[Iq _,Iq _,Iq _,Iq _,_]) Ai rfl rfl rfl rfl rfl rfl (by omega) (Bo ha)) ?_
   refine Qp (Cv [Iq _,Iq _,Iq _,Iq _,_]) ?_
   refine Qe (Am (l:=[.int .i64 0,.int .i64 0,.int .i64 0,.int .i64 0,.sl 3 []]) (by kernel_rfl)) ?_
   rintro _ _ ⟨b8,rfl,rfl⟩
   refine Cz 0 [Iq _,Iq _,Iq _,Iq _,_] (_::_::_::_) ?_
   refine AOL.ghost (GS.Aac (t:=8) 0 rfl rfl) ?_
   refine Do (Qp (Cv [Iq _,Iq _,Iq _,Iq _,_]) (Qp Qv (Qp Bp ?_)))
   refine Qp (Qc rfl (c93 a e.field hk)) ?_
   refine Qp Nb ?_
   refine Qp (Ci (v:=.agg [Iq _,Iq _,.str _]) rfl rfl) ?_
   refine Qp I6 ?_
   refine Qe (Am (l:=[.int .i64 0,.int .i64 0,.str []]) (by kernel_rfl)) ?_
   rintro _ _ ⟨b9,rfl,rfl⟩
   refine Cz 0 [Iq _,Iq _,.str _] (_::_::_::_) ?_
   refine Qp Ar ?_
   refine AOL.ghost (GS.Aac (t:=9) 0 rfl rfl) ?_
   refine Ag (AW.seq (Ah (Qp A0 (Qp Cr (Ag (A3 (fun hc2=>?_) fun hc2=>?_))))))
   ·
    refine Ah (Qp (Fr [Iq _,Iq _,.str _]) (Qp A0 ?_))
    refine Cz 1 [Iq _,Iq _,.str _] (_::_::_) ?_
    refine Qp Ar (Ag (Du (A7 (Aj (Aj (A7 (Aj ?_)))))))
    refine ⟨.inr rfl,[.agg [Iq _,Iq _,.str _],Iq _],.cons (.box _ _ _ 1 _ _ _ _ rfl rfl rfl rfl rfl rfl) <| .cons (.tmp _ _ rfl) <| .nil,.cons _ (.cons _ (.refl _)),?_⟩
    have hf:Aq (fun v=>(Dg v e.field).2) (Bn x.vars e.var)=(Dg a e.field).2:=by rw [hR.2.1,A4 ha,Aq,if_pos hc2]
    simp only [Ad,Nx,hf,hc2,↓reduceIte];rfl
   ·
    refine By (AW.region ?_)
    refine Qp (Bk (v:=.row _ _ _) rfl) ?_
    refine Qp (Cv [Iq _,Iq _,.str _]) ?_
    refine Qp (A2 (es:=[[Iq _,Iq _,.str _]]) Ai rfl rfl rfl rfl rfl rfl rfl rfl rfl) ?_
    refine Qe (Dh (k:=0) Ai rfl rfl rfl rfl rfl rfl rfl rfl (G5 rfl) (hsc) (by simp [hR.2.2];omega) (by simp [hR.2.2,maxLen];omega)) ?_
    rintro _ _ ⟨v34,rfl,rfl⟩
    refine Qp (Da (v:=.row _ _ _) rfl) ?_
    refine AOL.nil (Bv (Ae (AW.region (Qp F7 (Qp A0 (Ag ?_))))))
    refine ⟨(p.1+1,p.2.1 ++ [cV (Dg a e.field).1],v34),?_,?_,GS.weaken ⟨rfl,rfl,rfl,rfl,rfl,rfl,rfl,trivial⟩ (.refl _)⟩
    · simp only;exact ⟨hlt,by rw [hR.2.1,A4 ha,Aq,if_neg (by simpa using hc2)],by rw [C9 ha,hR.2.2];simp⟩
    · first | omega | (simp only;omega)
  ·
   have hte:=C5 hc1
   have hd:=C8 hc1
   have hf:Aq (fun v=>(Dg v e.field).2) (Bn x.vars e.var)=0:=by rw [hR.2.1,hd];rfl
   obtain ⟨k,es,rv⟩:=p
   simp only at hR hte
   obtain rfl:es=((Bn x.vars e.var).map fun v=>(Dg v e.field).1).map cV:=by rw [hR.2.2,hte]
   refine AW.exit ?_
   refine A5 (A5 (Bx (Ae (Ah (Qp Sl (Qp Bp ?_))))))
   refine AOL.ghost (GS.unrow 6 rfl) ?_
   refine Qp Dt (Qp J2 (Qp (Cv [Iq _,Iq _,.str _]) ?_))
   refine Qp (Qc rfl (c106 e.kind ((Bn x.vars e.var).map fun v=>(Dg v e.field).1) e.val)) ?_
   refine Qp (Ci (v:=.agg [Iq _,Iq _,.str _]) rfl rfl) ?_
   refine Qp I6 ?_
   refine Cz 1 [Iq _,Iq _,.str _] (_::_::_) ?_
   refine Qp Ar (Ag (AW.ret ?_))
   refine ⟨.inr rfl,[.agg [Iq _,Iq _,.str _],Iq _],.cons (.box _ _ _ 1 _ _ _ _ rfl rfl rfl rfl rfl rfl) <| .cons (.tmp _ _ rfl) <| .nil,.cons _ (.cons _ (.refl _)),?_⟩
   simp only [Ad,Nx,hf];rfl
theorem c71 (op:Int)(ks:List Int):Ax Tryz.prog 102 [.int .i64 op,.sl 1 (ks.map fun k=>[.int .i64 k])] (.int .i64 (Dm op ks)):=by
 refine Ax.body (n:=38) Ai Tryz.func102 rfl rfl rfl fun H=>?_
 refine Ah (Qp Ar (Ag (AW.seq (Ah (Qp Dt ?_)))))
 refine Qp (Al (n:=ks.length) Ai rfl rfl rfl (by simp)) ?_
 refine Qp A0 (Ag (AW.block ?_))
 refine AW.sllen 8 rfl fun hlen=>?_
 simp only [List.length_map,maxLen] at hlen
 refine AW.Aad (fun (p:Nat)=>(⟨[(0,.int .i64 op),(1,.sl 1 (ks.map fun k=>[.int .i64 k])),(8,.sl 1 (ks.map fun k=>[.int .i64 k])),(9,.int .i64 ks.length),(10,.int .i64 (p:Int))],H,38⟩:St)) (fun (p:Nat)=>p≤ks.length∧Dm op ks=Aq (fun k=>if Na op k (ks.headD 0) then 0 else 9) (ks.drop p)) (fun (p:Nat)=>ks.length-p) (0) ?_ (GS.weaken ⟨rfl,rfl,rfl,rfl,rfl,trivial⟩ (.refl _)) ?_
 · exact ⟨Nat.zero_le _,rfl⟩
 ·
  rintro p hR
  refine Ah (Qp Ck (Ag (AW.seq (A3 (fun hc1=>?_) fun hc1=>?_))))
  ·
   obtain ⟨a,ha⟩:=B7 hc1
   have hlt:=Bb ha
   have hm:=List.mem_of_getElem? ha
   obtain ⟨a0,ha0⟩:∃a0,ks[0]? = some a0:=⟨_,List.getElem?_eq_getElem (by omega)⟩
   have hhd:ks.headD 0=a0:=by cases ks <;> simp_all
   refine By (AW.seq (AW.block (Ah ?_)))
   refine Qp (Af (c:=[Iq _]) Ai rfl rfl rfl rfl rfl rfl (by omega) (Bo (f:=fun k=>[AV.int .i64 k]) ha)) ?_
   refine Qp Bp (Qp Ar (Do (Qp Bm (Ag ?_))))
   refine AW.cut (fun (_:Unit)=>(⟨[(0,.int .i64 op),(1,.sl 1 (ks.map fun k=>[.int .i64 k])),(8,.sl 1 (ks.map fun k=>[.int .i64 k])),(9,.int .i64 ks.length),(10,.int .i64 (p:Int)),(7,.bool (Na op a a0))],H,38⟩:St)) (fun (_:Unit)=>True) ?_ ?_
   ·
    refine Ah (Qp A0 (Ag (AW.block ?_)))
    refine AW.cut (fun (_:Unit)=>(⟨[(0,.int .i64 op),(1,.sl 1 (ks.map fun k=>[.int .i64 k])),(6,.int .i64 a),(7,.bool true),(8,.sl 1 (ks.map fun k=>[.int .i64 k])),(9,.int .i64 ks.length),(10,.int .i64 (p:Int)),(14,.int .i64 op),(15,.bool (op==5||op==6||op==7||op==8))],H,38⟩:St)) (fun (_:Unit)=>True) ?_ ?_
    ·
     refine Ah (Qp A6 (Qp Bm (Ag (A3 (fun hc2=>?_) fun hc2=>?_))))
     ·
      refine By ?_
      refine ⟨(),?_,GS.weaken ⟨rfl,rfl,rfl,rfl,rfl,rfl,rfl,rfl,congrArg AV.bool (by simp [Na, *]),trivial⟩ (.refl _)⟩
      trivial
     ·
      refine Ah (Qp A6 (Qp Bm (Ag (A3 (fun hc3=>?_) fun hc3=>?_))))
      ·
       refine By ?_
       refine ⟨(),?_,GS.weaken ⟨rfl,rfl,rfl,rfl,rfl,rfl,rfl,rfl,congrArg AV.bool (by simp [Na, *]),trivial⟩ (.refl _)⟩
       trivial
      ·
       refine Ah (Qp A6 (Qp Bm (Ag (A3 (fun hc4=>?_) fun hc4=>?_))))
       ·
        refine By ?_
        refine ⟨(),?_,GS.weaken ⟨rfl,rfl,rfl,rfl,rfl,rfl,rfl,rfl,congrArg AV.bool (by simp [Na, *]),trivial⟩ (.refl _)⟩
        trivial
       ·
        refine AW.region (Qp A6 (Qp Bm (Ag ?_)))
        refine ⟨(),?_,GS.weaken ⟨rfl,rfl,rfl,rfl,rfl,rfl,rfl,rfl,congrArg AV.bool (by simp [Na, *]),trivial⟩ (.refl _)⟩
        trivial
    ·
     rintro _ _
     refine A3 (fun hc5=>?_) fun hc5=>?_
     ·
      refine AW.region (Qp A0 (Qp A6 (Qp Bm (AOL.nil (Bv (Ae ?_))))))
      refine ⟨(),?_,GS.weaken ⟨rfl,rfl,rfl,rfl,rfl,congrArg AV.bool (by simp [Na, *]),trivial⟩ (.refl _)⟩
      trivial
     ·
      refine AW.cut (fun (_:Unit)=>(⟨[(0,.int .i64 op),(1,.sl 1 (ks.map fun k=>[.int .i64 k])),(6,.int .i64 a),(7,.bool true),(8,.sl 1 (ks.map fun k=>[.int .i64 k])),(9,.int .i64 ks.length),(10,.int .i64 (p:Int)),(14,.int .i64 op),(22,.bool (op==10||op==11||op==12))],H,38⟩:St)) (fun (_:Unit)=>True) ?_ ?_
      ·
       refine Ah (Qp A6 (Qp Bm (Ag (A3 (fun hc6=>?_) fun hc6=>?_))))
       ·
        refine By ?_
        refine ⟨(),?_,GS.weaken ⟨rfl,rfl,rfl,rfl,rfl,rfl,rfl,rfl,congrArg AV.bool (by simp [Na, *]),trivial⟩ (.refl _)⟩
        trivial
       ·
        refine Ah (Qp A6 (Qp Bm (Ag (A3 (fun hc7=>?_) fun hc7=>?_))))
        ·
         refine By ?_
         refine ⟨(),?_,GS.weaken ⟨rfl,rfl,rfl,rfl,rfl,rfl,rfl,rfl,congrArg AV.bool (by simp [Na, *]),trivial⟩ (.refl _)⟩
         trivial
        ·
         refine AW.region (Qp A6 (Qp Bm (Ag ?_)))
         refine ⟨(),?_,GS.weaken ⟨rfl,rfl,rfl,rfl,rfl,rfl,rfl,rfl,congrArg AV.bool (by simp [Na, *]),trivial⟩ (.refl _)⟩
         trivial
      ·
       rintro _ _
       refine A3 (fun hc8=>?_) fun hc8=>?_
       ·
        refine AW.region (Qp A0 (Qp A6 (Qp Bm (AOL.nil (Bv (Ae ?_))))))
        refine ⟨(),?_,GS.weaken ⟨rfl,rfl,rfl,rfl,rfl,congrArg AV.bool (by simp [Na, *]),trivial⟩ (.refl _)⟩
        trivial
       ·
        refine Ah (Qp A6 (Qp Bm (Ag (A3 (fun hc9=>?_) fun hc9=>?_))))
        ·
         refine AW.region (Qp A0 (Qp Dt ?_))
         refine Qp (Af (c:=[Iq _]) Ai rfl rfl rfl rfl rfl rfl (by omega) (Bo (f:=fun k=>[AV.int .i64 k]) ha0)) ?_
         refine Qp Bp (Qp A6 (Qp Bm (AOL.nil (Bv (Ae ?_)))))
         refine ⟨(),?_,GS.weaken ⟨rfl,rfl,rfl,rfl,rfl,congrArg AV.bool (by simp [Na, *]),trivial⟩ (.refl _)⟩
         trivial
        ·
         refine AW.skip (Bv (Ae ?_))
         refine ⟨(),?_,GS.weaken ⟨rfl,rfl,rfl,rfl,rfl,congrArg AV.bool (by simp [Na, *]),trivial⟩ (.refl _)⟩
         trivial
   ·
    rintro _ _
    refine Ah (Qp Bu (Qp Hp (Ag (A3 (fun hc10=>?_) fun hc10=>?_))))
    ·
     have hok:Na op a a0=false:=by simpa using hc10
     refine Ah (Qp Ar (Ag (AW.ret (A7 (Aj (Aj (A7 (Aj ?_))))))))
     refine Qr (Iq _) ?_
     simp only [Ad,AV.int.injEq,true_and]
     rw [hR.2,A4 ha,Aq,hhd];simp [hok]
    ·
     have hok:Na op a a0=true:=by simpa using hc10
     refine AW.skip (Bv (Ae (AW.region (Qp F7 (Qp A0 (Ag ?_))))))
     refine ⟨p+1,?_,?_,GS.weaken ⟨rfl,rfl,rfl,rfl,rfl,trivial⟩ (.refl _)⟩
     · exact ⟨hlt,by rw [hR.2,A4 ha,Aq,hhd];simp [hok]⟩
     · first | omega | (simp only;omega)
  ·
   have hd:=C8 hc1
   refine AW.exit ?_
   refine A5 (A5 (Bx (Ae (Ah (Qp Ar (Ag (AW.ret ?_)))))))
   refine Qr (Iq _) ?_
   simp only [Ad,AV.int.injEq,true_and]
   rw [hR.2,hd];rfl

end Go.Proofs.YtjedflcpjlgokaaGreatDoor
