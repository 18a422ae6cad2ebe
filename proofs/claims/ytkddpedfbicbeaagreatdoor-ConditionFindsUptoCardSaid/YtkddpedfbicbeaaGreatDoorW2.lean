/-
  Walks of layer 7. No condition.
-/
import Derived.Test.YtkddpedfbicbeaaGreatDoorAz
import Derived.Test.YtkddpedfbicbeaaGreatDoorW1
import Derived.KernelRfl
namespace Go.Proofs.YtkddpedfbicbeaaGreatDoor
open Go Go.Aw
set_option maxHeartbeats 400000
set_option maxRecDepth 20000
set_option linter.unusedVariables false
set_option linter.unusedSimpArgs false

theorem c127  : Av Tryz.prog 200 [] (.agg (cV v0)):=by
 refine Av.body (n:=2) Ai Tryz.func200 rfl rfl rfl fun H=>?_
 refine Ah ?_
 refine Qe (Al (l:=[.int .i64 0,.int .i64 0,.str []]) (by kernel_rfl)) ?_
 rintro _ _ ⟨b0,rfl,rfl⟩
 refine Df (Qp (Ep [Iq _,Iq _,.str _]) ?_)
 refine Cm 0 [Iq _,Iq _,.str _] (_::_) ?_
 refine Ag (AW.ret ?_)
 refine ⟨.inr rfl,[.agg [Iq _,Iq _,.str _]],.cons (.box _ _ _ 0 _ _ _ _ rfl rfl rfl rfl rfl rfl) <| .nil,.cons _ (.refl _),?_⟩
 rfl
theorem c128 (v w:Vl):Av Tryz.prog 201 [.ptr (cV v),.ptr (cV w)] (.agg (cV (I3 1 v w))):=by
 refine Av.body (n:=9) Ai Tryz.func201 rfl rfl rfl fun H=>?_
 refine Ah ?_
 refine Qe (Al (l:=[.int .i64 0,.int .i64 0,.str []]) (by kernel_rfl)) ?_
 rintro _ _ ⟨b2,rfl,rfl⟩
 refine Df (Qp Wi (Qp Bs (Qp Wi (Qp Bs ?_))))
 refine Qp (bQ rfl rfl) ?_
 refine Qp (Ep [Iq _,Iq _,.str _]) ?_
 refine Cm 0 [Iq _,Iq _,.str _] (_::_) ?_
 refine Ag (AW.ret ?_)
 refine ⟨.inr rfl,[.agg [Iq _,Iq _,.str _]],.cons (.box _ _ _ 0 _ _ _ _ rfl rfl rfl rfl rfl rfl) <| .nil,.cons _ (.refl _),?_⟩
 rfl
theorem c129 (v w:Vl):Av Tryz.prog 202 [.ptr (cV v),.ptr (cV w)] (.agg (cV (I3 2 v w))):=by
 refine Av.body (n:=9) Ai Tryz.func202 rfl rfl rfl fun H=>?_
 refine Ah ?_
 refine Qe (Al (l:=[.int .i64 0,.int .i64 0,.str []]) (by kernel_rfl)) ?_
 rintro _ _ ⟨b2,rfl,rfl⟩
 refine Df (Qp Wi (Qp Bs (Qp Wi (Qp Bs ?_))))
 refine Qp (P_min rfl rfl) ?_
 refine Qp (Ep [Iq _,Iq _,.str _]) ?_
 refine Cm 0 [Iq _,Iq _,.str _] (_::_) ?_
 refine Ag (AW.ret ?_)
 refine ⟨.inr rfl,[.agg [Iq _,Iq _,.str _]],.cons (.box _ _ _ 0 _ _ _ _ rfl rfl rfl rfl rfl rfl) <| .nil,.cons _ (.refl _),?_⟩
 rfl
theorem c130 (v w:Vl):Av Tryz.prog 203 [.ptr (cV v),.ptr (cV w)] (.agg (cV (I3 3 v w))):=by
 refine Av.body (n:=9) Ai Tryz.func203 rfl rfl rfl fun H=>?_
 refine Ah ?_
 refine Qe (Al (l:=[.int .i64 0,.int .i64 0,.str []]) (by kernel_rfl)) ?_
 rintro _ _ ⟨b2,rfl,rfl⟩
 refine Df (Qp Wi (Qp Bs (Qp Wi (Qp Bs ?_))))
 refine Qp (uS rfl rfl) ?_
 refine Qp (Ep [Iq _,Iq _,.str _]) ?_
 refine Cm 0 [Iq _,Iq _,.str _] (_::_) ?_
 refine Ag (AW.ret ?_)
 refine ⟨.inr rfl,[.agg [Iq _,Iq _,.str _]],.cons (.box _ _ _ 0 _ _ _ _ rfl rfl rfl rfl rfl rfl) <| .nil,.cons _ (.refl _),?_⟩
 rfl
theorem c131 (v:Vl):Av Tryz.prog 204 [.ptr (cV v)] (.agg (cV v)):=by
 refine Av.body (n:=3) Ai Tryz.func204 rfl rfl rfl fun H=>?_
 refine Ah ?_
 refine Qe (Al (l:=[.int .i64 0,.int .i64 0,.str []]) (by kernel_rfl)) ?_
 rintro _ _ ⟨b1,rfl,rfl⟩
 refine Df (Qp (Ck [Iq _,Iq _,.str _]) ?_)
 refine Cm 0 [Iq _,Iq _,.str _] (_::_) ?_
 refine Ag (AW.ret ?_)
 refine ⟨.inr rfl,[.agg [Iq _,Iq _,.str _]],.cons (.box _ _ _ 0 _ _ _ _ rfl rfl rfl rfl rfl rfl) <| .nil,.cons _ (.refl _),?_⟩
 rfl
theorem c132 (v:Vl):Av Tryz.prog 205 [.ptr (cV v)] (.agg (cV v)):=by
 refine Av.body (n:=3) Ai Tryz.func205 rfl rfl rfl fun H=>?_
 refine Ah ?_
 refine Qe (Al (l:=[.int .i64 0,.int .i64 0,.str []]) (by kernel_rfl)) ?_
 rintro _ _ ⟨b1,rfl,rfl⟩
 refine Df (Qp (Ck [Iq _,Iq _,.str _]) ?_)
 refine Cm 0 [Iq _,Iq _,.str _] (_::_) ?_
 refine Ag (AW.ret ?_)
 refine ⟨.inr rfl,[.agg [Iq _,Iq _,.str _]],.cons (.box _ _ _ 0 _ _ _ _ rfl rfl rfl rfl rfl rfl) <| .nil,.cons _ (.refl _),?_⟩
 rfl
theorem c125_0 (v w:Vl):Av Tryz.prog 192 [.int .i64 0,.agg (cV v),.agg (cV w)] (.agg (cV (I3 0 v w))):=by
 refine Av.body (n:=16) Ai Tryz.func192 rfl rfl rfl fun H=>?_
 refine Ah (Qp (F5 [Iq _,Iq _,.str _]) (Qp (F5 [Iq _,Iq _,.str _]) ?_))
 refine Qe (Al (l:=[.int .i64 0,.int .i64 0,.str []]) (by kernel_rfl)) ?_
 rintro _ _ ⟨b6,rfl,rfl⟩
 refine Df ?_
 refine Qp (Bc (l:=[]) (l':=[.ptr _,.ptr _]) rfl rfl) ?_
 refine Qp (Bc (l:=[]) (l':=[.ptr _,.ptr _]) rfl rfl) ?_
 refine Qp (Bc (l:=[]) (l':=[.ptr _,.ptr _]) rfl rfl) ?_
 refine Qp (Bc (l:=[]) (l':=[.ptr _]) rfl rfl) ?_
 refine Qp (Bc (l:=[]) (l':=[.ptr _]) rfl rfl) ?_
 refine Qp (J1 (l:=[_,_,_,_,_,_]) Ai rfl rfl rfl rfl) ?_
 refine Qp A0 ?_
 refine Qp (I7 (c:=_) Ai rfl rfl rfl rfl rfl rfl rfl (by omega) (by omega) (rfl)) ?_
 refine Qp (Dz (by kernel_rfl) rfl rfl rfl (c127)) ?_
 refine Cm 0 [Iq _,Iq _,.str _] (_::_) ?_
 refine Ag (AW.ret ?_)
 refine ⟨.inr rfl,[.agg [Iq _,Iq _,.str _]],.cons (.box _ _ _ 0 _ _ _ _ rfl rfl rfl rfl rfl rfl) <| .nil,.cons _ (.refl _),?_⟩
 rfl
theorem c125_1 (v w:Vl):Av Tryz.prog 192 [.int .i64 1,.agg (cV v),.agg (cV w)] (.agg (cV (I3 1 v w))):=by
 refine Av.body (n:=16) Ai Tryz.func192 rfl rfl rfl fun H=>?_
 refine Ah (Qp (F5 [Iq _,Iq _,.str _]) (Qp (F5 [Iq _,Iq _,.str _]) ?_))
 refine Qe (Al (l:=[.int .i64 0,.int .i64 0,.str []]) (by kernel_rfl)) ?_
 rintro _ _ ⟨b6,rfl,rfl⟩
 refine Df ?_
 refine Qp (Bc (l:=[]) (l':=[.ptr _,.ptr _]) rfl rfl) ?_
 refine Qp (Bc (l:=[]) (l':=[.ptr _,.ptr _]) rfl rfl) ?_
 refine Qp (Bc (l:=[]) (l':=[.ptr _,.ptr _]) rfl rfl) ?_
 refine Qp (Bc (l:=[]) (l':=[.ptr _]) rfl rfl) ?_
 refine Qp (Bc (l:=[]) (l':=[.ptr _]) rfl rfl) ?_
 refine Qp (J1 (l:=[_,_,_,_,_,_]) Ai rfl rfl rfl rfl) ?_
 refine Qp A0 ?_
 refine Qp (I7 (c:=_) Ai rfl rfl rfl rfl rfl rfl rfl (by omega) (by omega) (rfl)) ?_
 refine Qp (Dz (by kernel_rfl) rfl rfl rfl (c128 v w)) ?_
 refine Cm 0 [Iq _,Iq _,.str _] (_::_) ?_
 refine Ag (AW.ret ?_)
 refine ⟨.inr rfl,[.agg [Iq _,Iq _,.str _]],.cons (.box _ _ _ 0 _ _ _ _ rfl rfl rfl rfl rfl rfl) <| .nil,.cons _ (.refl _),?_⟩
 rfl
theorem c125_2 (v w:Vl):Av Tryz.prog 192 [.int .i64 2,.agg (cV v),.agg (cV w)] (.agg (cV (I3 2 v w))):=by
 refine Av.body (n:=16) Ai Tryz.func192 rfl rfl rfl fun H=>?_
 refine Ah (Qp (F5 [Iq _,Iq _,.str _]) (Qp (F5 [Iq _,Iq _,.str _]) ?_))
 refine Qe (Al (l:=[.int .i64 0,.int .i64 0,.str []]) (by kernel_rfl)) ?_
 rintro _ _ ⟨b6,rfl,rfl⟩
 refine Df ?_
 refine Qp (Bc (l:=[]) (l':=[.ptr _,.ptr _]) rfl rfl) ?_
 refine Qp (Bc (l:=[]) (l':=[.ptr _,.ptr _]) rfl rfl) ?_
 refine Qp (Bc (l:=[]) (l':=[.ptr _,.ptr _]) rfl rfl) ?_
 refine Qp (Bc (l:=[]) (l':=[.ptr _]) rfl rfl) ?_
 refine Qp (Bc (l:=[]) (l':=[.ptr _]) rfl rfl) ?_
 refine Qp (J1 (l:=[_,_,_,_,_,_]) Ai rfl rfl rfl rfl) ?_
 refine Qp A0 ?_
 refine Qp (I7 (c:=_) Ai rfl rfl rfl rfl rfl rfl rfl (by omega) (by omega) (rfl)) ?_
 refine Qp (Dz (by kernel_rfl) rfl rfl rfl (c129 v w)) ?_
 refine Cm 0 [Iq _,Iq _,.str _] (_::_) ?_
 refine Ag (AW.ret ?_)
 refine ⟨.inr rfl,[.agg [Iq _,Iq _,.str _]],.cons (.box _ _ _ 0 _ _ _ _ rfl rfl rfl rfl rfl rfl) <| .nil,.cons _ (.refl _),?_⟩
 rfl
theorem c125_3 (v w:Vl):Av Tryz.prog 192 [.int .i64 3,.agg (cV v),.agg (cV w)] (.agg (cV (I3 3 v w))):=by
 refine Av.body (n:=16) Ai Tryz.func192 rfl rfl rfl fun H=>?_
 refine Ah (Qp (F5 [Iq _,Iq _,.str _]) (Qp (F5 [Iq _,Iq _,.str _]) ?_))
 refine Qe (Al (l:=[.int .i64 0,.int .i64 0,.str []]) (by kernel_rfl)) ?_
 rintro _ _ ⟨b6,rfl,rfl⟩
 refine Df ?_
 refine Qp (Bc (l:=[]) (l':=[.ptr _,.ptr _]) rfl rfl) ?_
 refine Qp (Bc (l:=[]) (l':=[.ptr _,.ptr _]) rfl rfl) ?_
 refine Qp (Bc (l:=[]) (l':=[.ptr _,.ptr _]) rfl rfl) ?_
 refine Qp (Bc (l:=[]) (l':=[.ptr _]) rfl rfl) ?_
 refine Qp (Bc (l:=[]) (l':=[.ptr _]) rfl rfl) ?_
 refine Qp (J1 (l:=[_,_,_,_,_,_]) Ai rfl rfl rfl rfl) ?_
 refine Qp A0 ?_
 refine Qp (I7 (c:=_) Ai rfl rfl rfl rfl rfl rfl rfl (by omega) (by omega) (rfl)) ?_
 refine Qp (Dz (by kernel_rfl) rfl rfl rfl (c130 v w)) ?_
 refine Cm 0 [Iq _,Iq _,.str _] (_::_) ?_
 refine Ag (AW.ret ?_)
 refine ⟨.inr rfl,[.agg [Iq _,Iq _,.str _]],.cons (.box _ _ _ 0 _ _ _ _ rfl rfl rfl rfl rfl rfl) <| .nil,.cons _ (.refl _),?_⟩
 rfl
theorem c125_4 (v w:Vl):Av Tryz.prog 192 [.int .i64 4,.agg (cV v),.agg (cV w)] (.agg (cV (I3 4 v w))):=by
 refine Av.body (n:=16) Ai Tryz.func192 rfl rfl rfl fun H=>?_
 refine Ah (Qp (F5 [Iq _,Iq _,.str _]) (Qp (F5 [Iq _,Iq _,.str _]) ?_))
 refine Qe (Al (l:=[.int .i64 0,.int .i64 0,.str []]) (by kernel_rfl)) ?_
 rintro _ _ ⟨b6,rfl,rfl⟩
 refine Df ?_
 refine Qp (Bc (l:=[]) (l':=[.ptr _,.ptr _]) rfl rfl) ?_
 refine Qp (Bc (l:=[]) (l':=[.ptr _,.ptr _]) rfl rfl) ?_
 refine Qp (Bc (l:=[]) (l':=[.ptr _,.ptr _]) rfl rfl) ?_
 refine Qp (Bc (l:=[]) (l':=[.ptr _]) rfl rfl) ?_
 refine Qp (Bc (l:=[]) (l':=[.ptr _]) rfl rfl) ?_
 refine Qp (J1 (l:=[_,_,_,_,_,_]) Ai rfl rfl rfl rfl) ?_
 refine Qp A0 ?_
 refine Qp (I7 (c:=_) Ai rfl rfl rfl rfl rfl rfl rfl (by omega) (by omega) (rfl)) ?_
 refine Qp (Dz (by kernel_rfl) rfl rfl rfl (c131 v)) ?_
 refine Cm 0 [Iq _,Iq _,.str _] (_::_) ?_
 refine Ag (AW.ret ?_)
 refine ⟨.inr rfl,[.agg [Iq _,Iq _,.str _]],.cons (.box _ _ _ 0 _ _ _ _ rfl rfl rfl rfl rfl rfl) <| .nil,.cons _ (.refl _),?_⟩
 rfl
theorem c125_5 (v w:Vl):Av Tryz.prog 192 [.int .i64 5,.agg (cV v),.agg (cV w)] (.agg (cV (I3 5 v w))):=by
 refine Av.body (n:=16) Ai Tryz.func192 rfl rfl rfl fun H=>?_
 refine Ah (Qp (F5 [Iq _,Iq _,.str _]) (Qp (F5 [Iq _,Iq _,.str _]) ?_))
 refine Qe (Al (l:=[.int .i64 0,.int .i64 0,.str []]) (by kernel_rfl)) ?_
 rintro _ _ ⟨b6,rfl,rfl⟩
 refine Df ?_
 refine Qp (Bc (l:=[]) (l':=[.ptr _,.ptr _]) rfl rfl) ?_
 refine Qp (Bc (l:=[]) (l':=[.ptr _,.ptr _]) rfl rfl) ?_
 refine Qp (Bc (l:=[]) (l':=[.ptr _,.ptr _]) rfl rfl) ?_
 refine Qp (Bc (l:=[]) (l':=[.ptr _]) rfl rfl) ?_
 refine Qp (Bc (l:=[]) (l':=[.ptr _]) rfl rfl) ?_
 refine Qp (J1 (l:=[_,_,_,_,_,_]) Ai rfl rfl rfl rfl) ?_
 refine Qp A0 ?_
 refine Qp (I7 (c:=_) Ai rfl rfl rfl rfl rfl rfl rfl (by omega) (by omega) (rfl)) ?_
 refine Qp (Dz (by kernel_rfl) rfl rfl rfl (c132 w)) ?_
 refine Cm 0 [Iq _,Iq _,.str _] (_::_) ?_
 refine Ag (AW.ret ?_)
 refine ⟨.inr rfl,[.agg [Iq _,Iq _,.str _]],.cons (.box _ _ _ 0 _ _ _ _ rfl rfl rfl rfl rfl rfl) <| .nil,.cons _ (.refl _),?_⟩
 rfl
theorem c125 (k:Int)(v w:Vl)(h:Dp k=true):Av Tryz.prog 192 [.int .i64 k,.agg (cV v),.agg (cV w)] (.agg (cV (I3 k v w))):=by
 simp only [Dp,Bool.and_eq_true,decide_eq_true_eq] at h
 have:k=0∨k=1∨k=2∨k=3∨k=4∨k=5:=by omega
 rcases this with rfl | rfl | rfl | rfl | rfl | rfl
 · exact c125_0 v w
 · exact c125_1 v w
 · exact c125_2 v w
 · exact c125_3 v w
 · exact c125_4 v w
 · exact c125_5 v w
theorem c118 (a c:Ac)(h:Dp a.kind=true):Av Tryz.prog 183 [.agg (Xz a),.agg (Xz c)] (.agg (Xz (E5 a c))):=by
  refine Av.body (n:=30) Ai Tryz.func183 rfl rfl rfl fun H=>?_
  refine AW.seq (AW.region (Qp (F5 [Iq _,Iq _,Iq _,Iq _,.str _]) (Qp (F5 [Iq _,Iq _,Iq _,Iq _,.str _]) ?_)))
  refine Qe (Al (l:=[.int .i64 0,.int .i64 0,.int .i64 0,.int .i64 0,.str []]) (by kernel_rfl)) ?_
  rintro _ _ ⟨b4,rfl,rfl⟩
  refine AOL.nil (Ae (AW.seq (AW.block (AW.seq (AW.region (Qp R1 (Qp Bs (Qp A5 (Qp Be ?_)))))))))
  refine AOL.nil (Ae (A3 (fun hc1=>?_) fun hc1=>?_))
  · skip
    refine AW.seq (AW.region (Qp (Ck [Iq _,Iq _,Iq _,Iq _,.str _]) ?_))
    refine Cm 0 [Iq _,Iq _,Iq _,Iq _,.str _] (_::_) ?_
    refine AOL.nil (Ae (AW.ret (Ba (Aj ?_))))
    refine ⟨.inr rfl,[.agg [Iq _,Iq _,Iq _,Iq _,.str _]],.cons (.box _ _ _ 0 _ _ _ _ rfl rfl rfl rfl rfl rfl) <| .nil,.cons _ (.refl _),?_⟩
    try simp only [Cx,Bool.and_true] at *
    first
      | (simp only [Ad,E5,Xz,cV];(first | rw [if_pos hc1] | skip);first | done | rfl)
      | (try simp only [Bool.not_eq_true',Bool.not_eq_false'] at *
         first
         | (simp only [Ad,E5,Xz,cV, *,Bool.false_eq_true,↓reduceIte,Bool.true_or,Bool.or_true,Bool.false_or,Bool.or_false,Bool.true_and,Bool.and_true,Bool.false_and,Bool.and_false,Bool.not_true,Bool.not_false];done)
         | (simp [Ad,E5,Xz,cV, *];done)
         | (simp_all [Ad,E5,Xz,cV];done))
      | skip
  · skip
    refine AW.seq (AW.region (Qp R1 (Qp Bs (Qp A5 (Qp Be (AOL.nil (Ae (A3 (fun hc2=>?_) fun hc2=>?_))))))))
    · skip
      refine AW.seq (AW.region (Qp (Ck [Iq _,Iq _,Iq _,Iq _,.str _]) ?_))
      refine Cm 0 [Iq _,Iq _,Iq _,Iq _,.str _] (_::_) ?_
      refine AOL.nil (Ae (AW.ret (Ba (Aj ?_))))
      refine ⟨.inr rfl,[.agg [Iq _,Iq _,Iq _,Iq _,.str _]],.cons (.box _ _ _ 0 _ _ _ _ rfl rfl rfl rfl rfl rfl) <| .nil,.cons _ (.refl _),?_⟩
      try simp only [Cx,Bool.and_true] at *
      first
        | (simp only [Ad,E5,Xz,cV];(first | rw [iN hc1] | skip);(first | rw [if_pos hc2] | skip);first | done | rfl)
        | (try simp only [Bool.not_eq_true',Bool.not_eq_false'] at *
           first
           | (simp only [Ad,E5,Xz,cV, *,Bool.false_eq_true,↓reduceIte,Bool.true_or,Bool.or_true,Bool.false_or,Bool.or_false,Bool.true_and,Bool.and_true,Bool.false_and,Bool.and_false,Bool.not_true,Bool.not_false];done)
           | (simp [Ad,E5,Xz,cV, *];done)
           | (simp_all [Ad,E5,Xz,cV];done))
        | skip
    · skip
      refine AW.skip (Bq (Ae (AW.seq ?_)))
      refine AW.draw mixed (fun _=>True) trivial (by kernel_rfl) ?_
      refine Qn 0 rfl Q2 (Qn 1 rfl Bs (Qn 2 rfl R1 (Qn 3 rfl Bs (Qn 4 rfl R1 (Qn 5 rfl Bs ?_)))))
      refine Qn 6 rfl (bQ rfl rfl) ?_
      refine Qn 7 rfl Q2 (Qn 8 rfl Bs (Qn 9 rfl Jp (Qn 10 rfl (Ck [Iq _,Iq _,.str _]) (Qn 11 rfl Jp (Qn 12 rfl (Ck [Iq _,Iq _,.str _]) ?_)))))
      refine Qn 13 rfl (Qc rfl (c125 a.kind a.val c.val h)) ?_
      refine Qn 14 rfl (Ep [Iq _,Iq _,Iq _,Iq _,.str _]) ?_
      refine Jv.eff _ _ 15 _ _ rfl (by kernel_rfl) rfl rfl (C6 (k:=0) (v:=.agg _) (cs':=[Iq _,Iq _,Iq _,Iq _,.str _]) (H2:=_::_) Ai rfl rfl rfl rfl (rfl) rfl rfl rfl rfl) (fun _ _ _=>trivial) ?_
      rintro _ _ ⟨rfl,rfl⟩
      refine Jv.done _ _ (by kernel_rfl) ?_
      refine Ae (AW.ret ?_)
      refine ⟨.inr rfl,[.agg [Iq _,Iq _,Iq _,Iq _,.str _]],.cons (.box _ _ _ 0 _ _ _ _ rfl rfl rfl rfl rfl rfl) <| .nil,.cons _ (.refl _),?_⟩
      try simp only [Cx,Bool.and_true] at *
      first
        | (simp only [Ad,E5,Xz,cV];(first | rw [iN hc1] | skip);(first | rw [iN hc2] | skip);first | done | rfl)
        | (try simp only [Bool.not_eq_true',Bool.not_eq_false'] at *
           first
           | (simp only [Ad,E5,Xz,cV, *,Bool.false_eq_true,↓reduceIte,Bool.true_or,Bool.or_true,Bool.false_or,Bool.or_false,Bool.true_and,Bool.and_true,Bool.false_and,Bool.and_false,Bool.not_true,Bool.not_false];done)
           | (simp [Ad,E5,Xz,cV, *];done)
           | (simp_all [Ad,E5,Xz,cV];done))
        | skip
theorem c126 (a:Ac):Av Tryz.prog 193 [.agg (Xz a)] (.int .i64 (Bo a)):=by
  refine Av.body (n:=77) Ai Tryz.func193 rfl rfl rfl fun H=>?_
  refine AW.seq (AW.region (Qp (F5 [Iq _,Iq _,Iq _,Iq _,.str _]) (Qp At (AOL.nil (Ae (AW.seq (AW.block (AW.seq (AW.region ?_)))))))))
  refine Qp Q2 (Qp Bs ?_)
  refine Qp (Qc rfl (c114 a.kind)) ?_
  refine Qp Ge (Qp Be (AOL.nil (Ae (A3 (fun hc1=>?_) fun hc1=>?_))))
  · skip
    refine AW.seq (AW.region (Qp At (AOL.nil (Ae (AW.ret (Ba (Aj ?_)))))))
    refine Qr (Iq _) ?_
    try simp only [Cx,Bool.and_true] at *
    first
      | (simp only [Ad,Bo];(first | rw [if_pos hc1] | skip);first | done | rfl)
      | (try simp only [Bool.not_eq_true',Bool.not_eq_false'] at *
         first
         | (simp only [Ad,Bo,isV0, *,Bool.false_eq_true,↓reduceIte,Bool.true_or,Bool.or_true,Bool.false_or,Bool.or_false,Bool.true_and,Bool.and_true,Bool.false_and,Bool.and_false,Bool.not_true,Bool.not_false];done)
         | (simp [Ad,Bo,isV0, *];done)
         | (simp_all [Ad,Bo,isV0];done))
      | skip
  · skip
    refine AW.seq (AW.region (Qp R1 (Qp Bs (Qp Cj (Qp Bp (Qg [] Qw R1 (Qg [(15,_)] Qw Bs (Qg [(16,_)] Qw Hg (Qp E2 ?_)))))))))
    refine Qp Be (AOL.nil (Ae (A3 (fun hc2=>?_) fun hc2=>?_)))
    · skip
      refine AW.seq (AW.region (Qp At (AOL.nil (Ae (AW.ret (Ba (Aj ?_)))))))
      refine Qr (Iq _) ?_
      try simp only [Cx,Bool.and_true] at *
      first
        | (simp only [Ad,Bo];(first | rw [iN hc1] | skip);(first | rw [if_pos hc2] | skip);first | done | rfl)
        | (try simp only [Bool.not_eq_true',Bool.not_eq_false'] at *
           first
           | (simp only [Ad,Bo,isV0, *,Bool.false_eq_true,↓reduceIte,Bool.true_or,Bool.or_true,Bool.false_or,Bool.or_false,Bool.true_and,Bool.and_true,Bool.false_and,Bool.and_false,Bool.not_true,Bool.not_false];done)
           | (simp [Ad,Bo,isV0, *];done)
           | (simp_all [Ad,Bo,isV0];done))
        | skip
    · skip
      refine AW.skip (Bq (Ae (AW.seq (AW.region (Qp Be (AOL.nil (Ae (AW.seq (AW.block ?_)))))))))
      refine AW.seq (AW.region (Qp R1 (Qp Bs (Qp A5 (Qp Bp (Qg [] Qw Q2 (Qg [(35,_)] Qw Bs (Qg [(36,_)] Qw A5 (Qp E2 ?_)))))))))
      refine Qp Be (AOL.nil (Ae (A3 (fun hc3=>?_) fun hc3=>?_)))
      · skip
        refine AW.region (Qp Jp (Qp (Ck [Iq _,Iq _,.str _]) (Qp (Ep [Iq _,Iq _,.str _]) ?_)))
        refine Qp (P1 Ai rfl rfl rfl rfl rfl) ?_
        refine Qp Be (AOL.nil (Bq (Ae (AW.seq (AW.seq (AW.region (Qp Bp (Qp Ge (AOL.nil ?_)))))))))
        refine Ae (A3 (fun hc4=>?_) fun hc4=>?_)
        · skip
          refine AW.seq (AW.region (Qp At (AOL.nil (Ae (Dr ?_)))))
          refine Qr (Iq _) ?_
          try simp only [Cx,Bool.and_true] at *
          first
            | (simp only [Ad,Bo];(first | rw [iN hc1] | skip);(first | rw [iN hc2] | skip);(first | rw [if_pos hc3] | skip);(first | rw [if_pos hc4] | skip);first | done | rfl)
            | (try simp only [Bool.not_eq_true',Bool.not_eq_false'] at *
               first
               | (simp only [Ad,Bo,isV0, *,Bool.false_eq_true,↓reduceIte,Bool.true_or,Bool.or_true,Bool.false_or,Bool.or_false,Bool.true_and,Bool.and_true,Bool.false_and,Bool.and_false,Bool.not_true,Bool.not_false];done)
               | (simp [Ad,Bo,isV0, *];done)
               | (simp_all [Ad,Bo,isV0];done))
            | skip
        · skip
          refine Bx (AW.seq (AW.region (Qp At (AOL.nil (Ae (AW.ret ?_))))))
          refine Qr (Iq _) ?_
          try simp only [Cx,Bool.and_true] at *
          first
            | (simp only [Ad,Bo];(first | rw [iN hc1] | skip);(first | rw [iN hc2] | skip);(first | rw [if_pos hc3] | skip);(first | rw [iN hc4] | skip);first | done | rfl)
            | (try simp only [Bool.not_eq_true',Bool.not_eq_false'] at *
               first
               | (simp only [Ad,Bo,isV0, *,Bool.false_eq_true,↓reduceIte,Bool.true_or,Bool.or_true,Bool.false_or,Bool.or_false,Bool.true_and,Bool.and_true,Bool.false_and,Bool.and_false,Bool.not_true,Bool.not_false];done)
               | (simp [Ad,Bo,isV0, *];done)
               | (simp_all [Ad,Bo,isV0];done))
            | skip
      · skip
        refine AW.seq (AW.region (Qp Q2 (Qp Bs (Qp A5 (Qp Be (AOL.nil (Ae (A3 (fun hc5=>?_) fun hc5=>?_))))))))
        · skip
          refine AW.seq (AW.region (Qp R1 (Qp Bs ?_)))
          refine Qp (vX rfl rfl rfl (by have j0:=hc2;simp only [Bool.or_eq_false_iff,Bool.and_eq_true,decide_eq_false_iff_not,decide_eq_true_eq] at j0;constructor <;> omega)) ?_
          refine Qp At (AOL.nil (Ae (AW.region (Qp Jp (Qp Jp (Qp Bs (Qp A5 (Qp Bp (Qg [] Qw Jp ?_)))))))))
          refine Qg [(55,_)] Qw Qf7 (Qg [(56,_)] Qw Vr ?_)
          refine AOL.Aaf (y:=.bool _) _ [(57,_)] rfl (rX.all ⟨Ent.Aac _ _,trivial⟩) (fun hG=>P7 rfl rfl) rfl ?_
          refine Qp E1 (Qp Bp (Qg [] Qw Jp (Qg [(61,_)] Qw Wi (Qg [(62,_)] Qw Bs (Qg [] Qw A0 ?_)))))
          refine AOL.Aaf (y:=Iq _) _ [(64,_)] rfl (rX.all ⟨Ent.Aac _ _,trivial⟩) (fun hG=>Xv rfl rfl (by have j0:=hc2;simp only [Bool.or_eq_false_iff,Bool.and_eq_true,decide_eq_false_iff_not,decide_eq_true_eq] at j0;constructor <;> omega)) rfl ?_
          refine AOL.Aaf (y:=.bool _) _ [(63,_),(65,_)] rfl (rX.all ⟨Ent.Aac _ _,Ent.Aac _ _,trivial⟩) (fun hG=>Ut rfl rfl) rfl ?_
          refine Qp E1 (Qp Bp (Qg [] Qw Jp (Qg [(69,_)] Qw Wi (Qg [(70,_)] Qw Bs (Qg [] Qw A0 ?_)))))
          refine AOL.Aaf (y:=.bool _) _ [(71,_),(72,_)] rfl (rX.all ⟨Ent.Aac _ _,Ent.Aac _ _,trivial⟩) (fun hG=>wG rfl rfl) rfl ?_
          refine Qp E1 (Qp Be (AOL.nil (Bq (Ae (AW.seq (AW.seq (AW.region (Qp Bp (Qp Ge ?_)))))))))
          refine AOL.nil (Ae (A3 (fun hc6=>?_) fun hc6=>?_))
          · skip
            refine AW.seq (AW.region (Qp At (AOL.nil (Ae (Dr ?_)))))
            refine Qr (Iq _) ?_
            try simp only [Cx,Bool.and_true] at *
            first
              | (simp only [Ad,Bo];(first | rw [iN hc1] | skip);(first | rw [iN hc2] | skip);(first | rw [iN hc3] | skip);(first | rw [if_pos hc5] | skip);(first | rw [if_pos hc6] | skip);first | done | rfl)
              | (try simp only [Bool.not_eq_true',Bool.not_eq_false'] at *
                 first
                 | (simp only [Ad,Bo,isV0, *,Bool.false_eq_true,↓reduceIte,Bool.true_or,Bool.or_true,Bool.false_or,Bool.or_false,Bool.true_and,Bool.and_true,Bool.false_and,Bool.and_false,Bool.not_true,Bool.not_false];done)
                 | (simp [Ad,Bo,isV0, *];done)
                 | (simp_all [Ad,Bo,isV0];done))
              | skip
          · skip
            refine Bx (AW.seq (AW.region (Qp At (AOL.nil (Ae (AW.ret ?_))))))
            refine Qr (Iq _) ?_
            try simp only [Cx,Bool.and_true] at *
            first
              | (simp only [Ad,Bo];(first | rw [iN hc1] | skip);(first | rw [iN hc2] | skip);(first | rw [iN hc3] | skip);(first | rw [if_pos hc5] | skip);(first | rw [iN hc6] | skip);first | done | rfl)
              | (try simp only [Bool.not_eq_true',Bool.not_eq_false'] at *
                 first
                 | (simp only [Ad,Bo,isV0, *,Bool.false_eq_true,↓reduceIte,Bool.true_or,Bool.or_true,Bool.false_or,Bool.or_false,Bool.true_and,Bool.and_true,Bool.false_and,Bool.and_false,Bool.not_true,Bool.not_false];done)
                 | (simp [Ad,Bo,isV0, *];done)
                 | (simp_all [Ad,Bo,isV0];done))
              | skip
        · skip
          refine AW.region (Qp Jp (Qp (Ck [Iq _,Iq _,.str _]) ?_))
          refine Qp (Qc rfl (c94 a.val)) ?_
          refine Qp A5 (Qp Bp (Qg [] Qw Q2 (Qg [(24,_)] Qw Bs (Qg [] Qw Jp (Qg [(26,_)] Qw (Ck [Iq _,Iq _,.str _]) ?_)))))
          refine AOL.Aaf (y:=.bool _) _ [(25,_),(27,_)] rfl (rX.all ⟨Ent.Aac _ _,Ent.Aac _ _,trivial⟩) (fun hG=>C7 (by kernel_rfl) rfl rfl (c124 a.kind a.val)) rfl ?_
          refine Qp E1 (Qp Be (AOL.nil (Bq (Ae (AW.seq (AW.seq (AW.region (Qp Bp (Qp Ge ?_)))))))))
          refine AOL.nil (Ae (A3 (fun hc7=>?_) fun hc7=>?_))
          · skip
            refine AW.seq (AW.region (Qp At (AOL.nil (Ae (Dr ?_)))))
            refine Qr (Iq _) ?_
            try simp only [Cx,Bool.and_true] at *
            first
              | (simp only [Ad,Bo];(first | rw [iN hc1] | skip);(first | rw [iN hc2] | skip);(first | rw [iN hc3] | skip);(first | rw [iN hc5] | skip);(first | rw [if_pos hc7] | skip);first | done | rfl)
              | (try simp only [Bool.not_eq_true',Bool.not_eq_false'] at *
                 first
                 | (simp only [Ad,Bo,isV0, *,Bool.false_eq_true,↓reduceIte,Bool.true_or,Bool.or_true,Bool.false_or,Bool.or_false,Bool.true_and,Bool.and_true,Bool.false_and,Bool.and_false,Bool.not_true,Bool.not_false];done)
                 | (simp [Ad,Bo,isV0, *];done)
                 | (simp_all [Ad,Bo,isV0];done))
              | skip
          · skip
            refine Bx (AW.seq (AW.region (Qp At (AOL.nil (Ae (AW.ret ?_))))))
            refine Qr (Iq _) ?_
            try simp only [Cx,Bool.and_true] at *
            first
              | (simp only [Ad,Bo];(first | rw [iN hc1] | skip);(first | rw [iN hc2] | skip);(first | rw [iN hc3] | skip);(first | rw [iN hc5] | skip);(first | rw [iN hc7] | skip);first | done | rfl)
              | (try simp only [Bool.not_eq_true',Bool.not_eq_false'] at *
                 first
                 | (simp only [Ad,Bo,isV0, *,Bool.false_eq_true,↓reduceIte,Bool.true_or,Bool.or_true,Bool.false_or,Bool.or_false,Bool.true_and,Bool.and_true,Bool.false_and,Bool.and_false,Bool.not_true,Bool.not_false];done)
                 | (simp [Ad,Bo,isV0, *];done)
                 | (simp_all [Ad,Bo,isV0];done))
              | skip

end Go.Proofs.YtkddpedfbicbeaaGreatDoor
