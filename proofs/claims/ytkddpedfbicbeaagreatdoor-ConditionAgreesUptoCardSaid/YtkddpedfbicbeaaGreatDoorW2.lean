/-
  Walks of layer 7. No condition.
-/
import Derived.Test.YtkddpedfbicbeaaGreatDoorAz
import Derived.Test.YtkddpedfbicbeaaGreatDoorW1
import Derived.KernelRfl
namespace Go.Proofs.YtkddpedfbicbeaaGreatDoor
open Go Go.Aw
set_option maxHeartbeats 400000
set_option maxRecDepth 20000
set_option linter.unusedVariables false
set_option linter.unusedSimpArgs false

theorem c127  : Ar Tryz.prog 200 [] (.agg (cV v0)):=by
 refine Ar.body (n:=2) Ai Tryz.func200 rfl rfl rfl fun H=>?_
 refine Ah ?_
 refine Qe (Aj (l:=[.int .i64 0,.int .i64 0,.str []]) (by kernel_rfl)) ?_
 rintro _ _ ⟨b0,rfl,rfl⟩
 refine Db (Qp (El [Iq _,Iq _,.str _]) ?_)
 refine Cq 0 [Iq _,Iq _,.str _] (_::_) ?_
 refine Ag (AW.ret ?_)
 refine ⟨.inr rfl,[.agg [Iq _,Iq _,.str _]],.cons (.box _ _ _ 0 _ _ _ _ rfl rfl rfl rfl rfl rfl) <| .nil,.cons _ (.refl _),?_⟩
 rfl
theorem c128 (v w:Vl):Ar Tryz.prog 201 [.ptr (cV v),.ptr (cV w)] (.agg (cV (I0 1 v w))):=by
 refine Ar.body (n:=9) Ai Tryz.func201 rfl rfl rfl fun H=>?_
 refine Ah ?_
 refine Qe (Aj (l:=[.int .i64 0,.int .i64 0,.str []]) (by kernel_rfl)) ?_
 rintro _ _ ⟨b2,rfl,rfl⟩
 refine Db (Qp Ys (Qp Br (Qp Ys (Qp Br ?_))))
 refine Qp (cF rfl rfl) ?_
 refine Qp (El [Iq _,Iq _,.str _]) ?_
 refine Cq 0 [Iq _,Iq _,.str _] (_::_) ?_
 refine Ag (AW.ret ?_)
 refine ⟨.inr rfl,[.agg [Iq _,Iq _,.str _]],.cons (.box _ _ _ 0 _ _ _ _ rfl rfl rfl rfl rfl rfl) <| .nil,.cons _ (.refl _),?_⟩
 rfl
theorem c129 (v w:Vl):Ar Tryz.prog 202 [.ptr (cV v),.ptr (cV w)] (.agg (cV (I0 2 v w))):=by
 refine Ar.body (n:=9) Ai Tryz.func202 rfl rfl rfl fun H=>?_
 refine Ah ?_
 refine Qe (Aj (l:=[.int .i64 0,.int .i64 0,.str []]) (by kernel_rfl)) ?_
 rintro _ _ ⟨b2,rfl,rfl⟩
 refine Db (Qp Ys (Qp Br (Qp Ys (Qp Br ?_))))
 refine Qp (P_min rfl rfl) ?_
 refine Qp (El [Iq _,Iq _,.str _]) ?_
 refine Cq 0 [Iq _,Iq _,.str _] (_::_) ?_
 refine Ag (AW.ret ?_)
 refine ⟨.inr rfl,[.agg [Iq _,Iq _,.str _]],.cons (.box _ _ _ 0 _ _ _ _ rfl rfl rfl rfl rfl rfl) <| .nil,.cons _ (.refl _),?_⟩
 rfl
theorem c130 (v w:Vl):Ar Tryz.prog 203 [.ptr (cV v),.ptr (cV w)] (.agg (cV (I0 3 v w))):=by
 refine Ar.body (n:=9) Ai Tryz.func203 rfl rfl rfl fun H=>?_
 refine Ah ?_
 refine Qe (Aj (l:=[.int .i64 0,.int .i64 0,.str []]) (by kernel_rfl)) ?_
 rintro _ _ ⟨b2,rfl,rfl⟩
 refine Db (Qp Ys (Qp Br (Qp Ys (Qp Br ?_))))
 refine Qp (yG rfl rfl) ?_
 refine Qp (El [Iq _,Iq _,.str _]) ?_
 refine Cq 0 [Iq _,Iq _,.str _] (_::_) ?_
 refine Ag (AW.ret ?_)
 refine ⟨.inr rfl,[.agg [Iq _,Iq _,.str _]],.cons (.box _ _ _ 0 _ _ _ _ rfl rfl rfl rfl rfl rfl) <| .nil,.cons _ (.refl _),?_⟩
 rfl
theorem c131 (v:Vl):Ar Tryz.prog 204 [.ptr (cV v)] (.agg (cV v)):=by
 refine Ar.body (n:=3) Ai Tryz.func204 rfl rfl rfl fun H=>?_
 refine Ah ?_
 refine Qe (Aj (l:=[.int .i64 0,.int .i64 0,.str []]) (by kernel_rfl)) ?_
 rintro _ _ ⟨b1,rfl,rfl⟩
 refine Db (Qp (Cd [Iq _,Iq _,.str _]) ?_)
 refine Cq 0 [Iq _,Iq _,.str _] (_::_) ?_
 refine Ag (AW.ret ?_)
 refine ⟨.inr rfl,[.agg [Iq _,Iq _,.str _]],.cons (.box _ _ _ 0 _ _ _ _ rfl rfl rfl rfl rfl rfl) <| .nil,.cons _ (.refl _),?_⟩
 rfl
theorem c132 (v:Vl):Ar Tryz.prog 205 [.ptr (cV v)] (.agg (cV v)):=by
 refine Ar.body (n:=3) Ai Tryz.func205 rfl rfl rfl fun H=>?_
 refine Ah ?_
 refine Qe (Aj (l:=[.int .i64 0,.int .i64 0,.str []]) (by kernel_rfl)) ?_
 rintro _ _ ⟨b1,rfl,rfl⟩
 refine Db (Qp (Cd [Iq _,Iq _,.str _]) ?_)
 refine Cq 0 [Iq _,Iq _,.str _] (_::_) ?_
 refine Ag (AW.ret ?_)
 refine ⟨.inr rfl,[.agg [Iq _,Iq _,.str _]],.cons (.box _ _ _ 0 _ _ _ _ rfl rfl rfl rfl rfl rfl) <| .nil,.cons _ (.refl _),?_⟩
 rfl
theorem c125_0 (v w:Vl):Ar Tryz.prog 192 [.int .i64 0,.agg (cV v),.agg (cV w)] (.agg (cV (I0 0 v w))):=by
 refine Ar.body (n:=16) Ai Tryz.func192 rfl rfl rfl fun H=>?_
 refine Ah (Qp (Fx [Iq _,Iq _,.str _]) (Qp (Fx [Iq _,Iq _,.str _]) ?_))
 refine Qe (Aj (l:=[.int .i64 0,.int .i64 0,.str []]) (by kernel_rfl)) ?_
 rintro _ _ ⟨b6,rfl,rfl⟩
 refine Db ?_
 refine Qp (Be (l:=[]) (l':=[.ptr _,.ptr _]) rfl rfl) ?_
 refine Qp (Be (l:=[]) (l':=[.ptr _,.ptr _]) rfl rfl) ?_
 refine Qp (Be (l:=[]) (l':=[.ptr _,.ptr _]) rfl rfl) ?_
 refine Qp (Be (l:=[]) (l':=[.ptr _]) rfl rfl) ?_
 refine Qp (Be (l:=[]) (l':=[.ptr _]) rfl rfl) ?_
 refine Qp (Jv (l:=[_,_,_,_,_,_]) Ai rfl rfl rfl rfl) ?_
 refine Qp Az ?_
 refine Qp (I7 (c:=_) Ai rfl rfl rfl rfl rfl rfl rfl (by omega) (by omega) (rfl)) ?_
 refine Qp (D4 (by kernel_rfl) rfl rfl rfl (c127)) ?_
 refine Cq 0 [Iq _,Iq _,.str _] (_::_) ?_
 refine Ag (AW.ret ?_)
 refine ⟨.inr rfl,[.agg [Iq _,Iq _,.str _]],.cons (.box _ _ _ 0 _ _ _ _ rfl rfl rfl rfl rfl rfl) <| .nil,.cons _ (.refl _),?_⟩
 rfl
theorem c125_1 (v w:Vl):Ar Tryz.prog 192 [.int .i64 1,.agg (cV v),.agg (cV w)] (.agg (cV (I0 1 v w))):=by
 refine Ar.body (n:=16) Ai Tryz.func192 rfl rfl rfl fun H=>?_
 refine Ah (Qp (Fx [Iq _,Iq _,.str _]) (Qp (Fx [Iq _,Iq _,.str _]) ?_))
 refine Qe (Aj (l:=[.int .i64 0,.int .i64 0,.str []]) (by kernel_rfl)) ?_
 rintro _ _ ⟨b6,rfl,rfl⟩
 refine Db ?_
 refine Qp (Be (l:=[]) (l':=[.ptr _,.ptr _]) rfl rfl) ?_
 refine Qp (Be (l:=[]) (l':=[.ptr _,.ptr _]) rfl rfl) ?_
 refine Qp (Be (l:=[]) (l':=[.ptr _,.ptr _]) rfl rfl) ?_
 refine Qp (Be (l:=[]) (l':=[.ptr _]) rfl rfl) ?_
 refine Qp (Be (l:=[]) (l':=[.ptr _]) rfl rfl) ?_
 refine Qp (Jv (l:=[_,_,_,_,_,_]) Ai rfl rfl rfl rfl) ?_
 refine Qp Az ?_
 refine Qp (I7 (c:=_) Ai rfl rfl rfl rfl rfl rfl rfl (by omega) (by omega) (rfl)) ?_
 refine Qp (D4 (by kernel_rfl) rfl rfl rfl (c128 v w)) ?_
 refine Cq 0 [Iq _,Iq _,.str _] (_::_) ?_
 refine Ag (AW.ret ?_)
 refine ⟨.inr rfl,[.agg [Iq _,Iq _,.str _]],.cons (.box _ _ _ 0 _ _ _ _ rfl rfl rfl rfl rfl rfl) <| .nil,.cons _ (.refl _),?_⟩
 rfl
theorem c125_2 (v w:Vl):Ar Tryz.prog 192 [.int .i64 2,.agg (cV v),.agg (cV w)] (.agg (cV (I0 2 v w))):=by
 refine Ar.body (n:=16) Ai Tryz.func192 rfl rfl rfl fun H=>?_
 refine Ah (Qp (Fx [Iq _,Iq _,.str _]) (Qp (Fx [Iq _,Iq _,.str _]) ?_))
 refine Qe (Aj (l:=[.int .i64 0,.int .i64 0,.str []]) (by kernel_rfl)) ?_
 rintro _ _ ⟨b6,rfl,rfl⟩
 refine Db ?_
 refine Qp (Be (l:=[]) (l':=[.ptr _,.ptr _]) rfl rfl) ?_
 refine Qp (Be (l:=[]) (l':=[.ptr _,.ptr _]) rfl rfl) ?_
 refine Qp (Be (l:=[]) (l':=[.ptr _,.ptr _]) rfl rfl) ?_
 refine Qp (Be (l:=[]) (l':=[.ptr _]) rfl rfl) ?_
 refine Qp (Be (l:=[]) (l':=[.ptr _]) rfl rfl) ?_
 refine Qp (Jv (l:=[_,_,_,_,_,_]) Ai rfl rfl rfl rfl) ?_
 refine Qp Az ?_
 refine Qp (I7 (c:=_) Ai rfl rfl rfl rfl rfl rfl rfl (by omega) (by omega) (rfl)) ?_
 refine Qp (D4 (by kernel_rfl) rfl rfl rfl (c129 v w)) ?_
 refine Cq 0 [Iq _,Iq _,.str _] (_::_) ?_
 refine Ag (AW.ret ?_)
 refine ⟨.inr rfl,[.agg [Iq _,Iq _,.str _]],.cons (.box _ _ _ 0 _ _ _ _ rfl rfl rfl rfl rfl rfl) <| .nil,.cons _ (.refl _),?_⟩
 rfl
theorem c125_3 (v w:Vl):Ar Tryz.prog 192 [.int .i64 3,.agg (cV v),.agg (cV w)] (.agg (cV (I0 3 v w))):=by
 refine Ar.body (n:=16) Ai Tryz.func192 rfl rfl rfl fun H=>?_
 refine Ah (Qp (Fx [Iq _,Iq _,.str _]) (Qp (Fx [Iq _,Iq _,.str _]) ?_))
 refine Qe (Aj (l:=[.int .i64 0,.int .i64 0,.str []]) (by kernel_rfl)) ?_
 rintro _ _ ⟨b6,rfl,rfl⟩
 refine Db ?_
 refine Qp (Be (l:=[]) (l':=[.ptr _,.ptr _]) rfl rfl) ?_
 refine Qp (Be (l:=[]) (l':=[.ptr _,.ptr _]) rfl rfl) ?_
 refine Qp (Be (l:=[]) (l':=[.ptr _,.ptr _]) rfl rfl) ?_
 refine Qp (Be (l:=[]) (l':=[.ptr _]) rfl rfl) ?_
 refine Qp (Be (l:=[]) (l':=[.ptr _]) rfl rfl) ?_
 refine Qp (Jv (l:=[_,_,_,_,_,_]) Ai rfl rfl rfl rfl) ?_
 refine Qp Az ?_
 refine Qp (I7 (c:=_) Ai rfl rfl rfl rfl rfl rfl rfl (by omega) (by omega) (rfl)) ?_
 refine Qp (D4 (by kernel_rfl) rfl rfl rfl (c130 v w)) ?_
 refine Cq 0 [Iq _,Iq _,.str _] (_::_) ?_
 refine Ag (AW.ret ?_)
 refine ⟨.inr rfl,[.agg [Iq _,Iq _,.str _]],.cons (.box _ _ _ 0 _ _ _ _ rfl rfl rfl rfl rfl rfl) <| .nil,.cons _ (.refl _),?_⟩
 rfl
theorem c125_4 (v w:Vl):Ar Tryz.prog 192 [.int .i64 4,.agg (cV v),.agg (cV w)] (.agg (cV (I0 4 v w))):=by
 refine Ar.body (n:=16) Ai Tryz.func192 rfl rfl rfl fun H=>?_
 refine Ah (Qp (Fx [Iq _,Iq _,.str _]) (Qp (Fx [Iq _,Iq _,.str _]) ?_))
 refine Qe (Aj (l:=[.int .i64 0,.int .i64 0,.str []]) (by kernel_rfl)) ?_
 rintro _ _ ⟨b6,rfl,rfl⟩
 refine Db ?_
 refine Qp (Be (l:=[]) (l':=[.ptr _,.ptr _]) rfl rfl) ?_
 refine Qp (Be (l:=[]) (l':=[.ptr _,.ptr _]) rfl rfl) ?_
 refine Qp (Be (l:=[]) (l':=[.ptr _,.ptr _]) rfl rfl) ?_
 refine Qp (Be (l:=[]) (l':=[.ptr _]) rfl rfl) ?_
 refine Qp (Be (l:=[]) (l':=[.ptr _]) rfl rfl) ?_
 refine Qp (Jv (l:=[_,_,_,_,_,_]) Ai rfl rfl rfl rfl) ?_
 refine Qp Az ?_
 refine Qp (I7 (c:=_) Ai rfl rfl rfl rfl rfl rfl rfl (by omega) (by omega) (rfl)) ?_
 refine Qp (D4 (by kernel_rfl) rfl rfl rfl (c131 v)) ?_
 refine Cq 0 [Iq _,Iq _,.str _] (_::_) ?_
 refine Ag (AW.ret ?_)
 refine ⟨.inr rfl,[.agg [Iq _,Iq _,.str _]],.cons (.box _ _ _ 0 _ _ _ _ rfl rfl rfl rfl rfl rfl) <| .nil,.cons _ (.refl _),?_⟩
 rfl
theorem c125_5 (v w:Vl):Ar Tryz.prog 192 [.int .i64 5,.agg (cV v),.agg (cV w)] (.agg (cV (I0 5 v w))):=by
 refine Ar.body (n:=16) Ai Tryz.func192 rfl rfl rfl fun H=>?_
 refine Ah (Qp (Fx [Iq _,Iq _,.str _]) (Qp (Fx [Iq _,Iq _,.str _]) ?_))
 refine Qe (Aj (l:=[.int .i64 0,.int .i64 0,.str []]) (by kernel_rfl)) ?_
 rintro _ _ ⟨b6,rfl,rfl⟩
 refine Db ?_
 refine Qp (Be (l:=[]) (l':=[.ptr _,.ptr _]) rfl rfl) ?_
 refine Qp (Be (l:=[]) (l':=[.ptr _,.ptr _]) rfl rfl) ?_
 refine Qp (Be (l:=[]) (l':=[.ptr _,.ptr _]) rfl rfl) ?_
 refine Qp (Be (l:=[]) (l':=[.ptr _]) rfl rfl) ?_
 refine Qp (Be (l:=[]) (l':=[.ptr _]) rfl rfl) ?_
 refine Qp (Jv (l:=[_,_,_,_,_,_]) Ai rfl rfl rfl rfl) ?_
 refine Qp Az ?_
 refine Qp (I7 (c:=_) Ai rfl rfl rfl rfl rfl rfl rfl (by omega) (by omega) (rfl)) ?_
 refine Qp (D4 (by kernel_rfl) rfl rfl rfl (c132 w)) ?_
 refine Cq 0 [Iq _,Iq _,.str _] (_::_) ?_
 refine Ag (AW.ret ?_)
 refine ⟨.inr rfl,[.agg [Iq _,Iq _,.str _]],.cons (.box _ _ _ 0 _ _ _ _ rfl rfl rfl rfl rfl rfl) <| .nil,.cons _ (.refl _),?_⟩
 rfl
theorem c125 (k:Int)(v w:Vl)(h:Dn k=true):Ar Tryz.prog 192 [.int .i64 k,.agg (cV v),.agg (cV w)] (.agg (cV (I0 k v w))):=by
 simp only [Dn,Bool.and_eq_true,decide_eq_true_eq] at h
 have:k=0∨k=1∨k=2∨k=3∨k=4∨k=5:=by omega
 rcases this with rfl | rfl | rfl | rfl | rfl | rfl
 · exact c125_0 v w
 · exact c125_1 v w
 · exact c125_2 v w
 · exact c125_3 v w
 · exact c125_4 v w
 · exact c125_5 v w
theorem c118 (a c:Ac)(h:Dn a.kind=true):Ar Tryz.prog 183 [.agg (Wp a),.agg (Wp c)] (.agg (Wp (Ey a c))):=by
  refine Ar.body (n:=30) Ai Tryz.func183 rfl rfl rfl fun H=>?_
  refine AW.seq (AW.region (Qp (Fx [Iq _,Iq _,Iq _,Iq _,.str _]) (Qp (Fx [Iq _,Iq _,Iq _,Iq _,.str _]) ?_)))
  refine Qe (Aj (l:=[.int .i64 0,.int .i64 0,.int .i64 0,.int .i64 0,.str []]) (by kernel_rfl)) ?_
  rintro _ _ ⟨b4,rfl,rfl⟩
  refine AOL.nil (Ae (AW.seq (AW.block (AW.seq (AW.region (Qp R6 (Qp Br (Qp A6 (Qp Bc ?_)))))))))
  refine AOL.nil (Ae (A2 (fun hc1=>?_) fun hc1=>?_))
  · skip
    refine AW.seq (AW.region (Qp (Cd [Iq _,Iq _,Iq _,Iq _,.str _]) ?_))
    refine Cq 0 [Iq _,Iq _,Iq _,Iq _,.str _] (_::_) ?_
    refine AOL.nil (Ae (AW.ret (A9 (Al ?_))))
    refine ⟨.inr rfl,[.agg [Iq _,Iq _,Iq _,Iq _,.str _]],.cons (.box _ _ _ 0 _ _ _ _ rfl rfl rfl rfl rfl rfl) <| .nil,.cons _ (.refl _),?_⟩
    try simp only [Cx,Bool.and_true] at *
    first
      | (simp only [Ad,Ey,Wp,cV];(first | rw [if_pos hc1] | skip);first | done | rfl)
      | (try simp only [Bool.not_eq_true',Bool.not_eq_false'] at *
         first
         | (simp only [Ad,Ey,Wp,cV, *,Bool.false_eq_true,↓reduceIte,Bool.true_or,Bool.or_true,Bool.false_or,Bool.or_false,Bool.true_and,Bool.and_true,Bool.false_and,Bool.and_false,Bool.not_true,Bool.not_false];done)
         | (simp [Ad,Ey,Wp,cV, *];done)
         | (simp_all [Ad,Ey,Wp,cV];done))
      | skip
  · skip
    refine AW.seq (AW.region (Qp R6 (Qp Br (Qp A6 (Qp Bc (AOL.nil (Ae (A2 (fun hc2=>?_) fun hc2=>?_))))))))
    · skip
      refine AW.seq (AW.region (Qp (Cd [Iq _,Iq _,Iq _,Iq _,.str _]) ?_))
      refine Cq 0 [Iq _,Iq _,Iq _,Iq _,.str _] (_::_) ?_
      refine AOL.nil (Ae (AW.ret (A9 (Al ?_))))
      refine ⟨.inr rfl,[.agg [Iq _,Iq _,Iq _,Iq _,.str _]],.cons (.box _ _ _ 0 _ _ _ _ rfl rfl rfl rfl rfl rfl) <| .nil,.cons _ (.refl _),?_⟩
      try simp only [Cx,Bool.and_true] at *
      first
        | (simp only [Ad,Ey,Wp,cV];(first | rw [iN hc1] | skip);(first | rw [if_pos hc2] | skip);first | done | rfl)
        | (try simp only [Bool.not_eq_true',Bool.not_eq_false'] at *
           first
           | (simp only [Ad,Ey,Wp,cV, *,Bool.false_eq_true,↓reduceIte,Bool.true_or,Bool.or_true,Bool.false_or,Bool.or_false,Bool.true_and,Bool.and_true,Bool.false_and,Bool.and_false,Bool.not_true,Bool.not_false];done)
           | (simp [Ad,Ey,Wp,cV, *];done)
           | (simp_all [Ad,Ey,Wp,cV];done))
        | skip
    · skip
      refine AW.skip (Bp (Ae (AW.seq ?_)))
      refine AW.draw mixed (fun _=>True) trivial (by kernel_rfl) ?_
      refine Qn 0 rfl Qv (Qn 1 rfl Br (Qn 2 rfl R6 (Qn 3 rfl Br (Qn 4 rfl R6 (Qn 5 rfl Br ?_)))))
      refine Qn 6 rfl (cF rfl rfl) ?_
      refine Qn 7 rfl Qv (Qn 8 rfl Br (Qn 9 rfl J2 (Qn 10 rfl (Cd [Iq _,Iq _,.str _]) (Qn 11 rfl J2 (Qn 12 rfl (Cd [Iq _,Iq _,.str _]) ?_)))))
      refine Qn 13 rfl (Qc rfl (c125 a.kind a.val c.val h)) ?_
      refine Qn 14 rfl (El [Iq _,Iq _,Iq _,Iq _,.str _]) ?_
      refine Js.eff _ _ 15 _ _ rfl (by kernel_rfl) rfl rfl (C6 (k:=0) (v:=.agg _) (cs':=[Iq _,Iq _,Iq _,Iq _,.str _]) (H2:=_::_) Ai rfl rfl rfl rfl (rfl) rfl rfl rfl rfl) (fun _ _ _=>trivial) ?_
      rintro _ _ ⟨rfl,rfl⟩
      refine Js.done _ _ (by kernel_rfl) ?_
      refine Ae (AW.ret ?_)
      refine ⟨.inr rfl,[.agg [Iq _,Iq _,Iq _,Iq _,.str _]],.cons (.box _ _ _ 0 _ _ _ _ rfl rfl rfl rfl rfl rfl) <| .nil,.cons _ (.refl _),?_⟩
      try simp only [Cx,Bool.and_true] at *
      first
        | (simp only [Ad,Ey,Wp,cV];(first | rw [iN hc1] | skip);(first | rw [iN hc2] | skip);first | done | rfl)
        | (try simp only [Bool.not_eq_true',Bool.not_eq_false'] at *
           first
           | (simp only [Ad,Ey,Wp,cV, *,Bool.false_eq_true,↓reduceIte,Bool.true_or,Bool.or_true,Bool.false_or,Bool.or_false,Bool.true_and,Bool.and_true,Bool.false_and,Bool.and_false,Bool.not_true,Bool.not_false];done)
           | (simp [Ad,Ey,Wp,cV, *];done)
           | (simp_all [Ad,Ey,Wp,cV];done))
        | skip
theorem c126 (a:Ac):Ar Tryz.prog 193 [.agg (Wp a)] (.int .i64 (Bo a)):=by
  refine Ar.body (n:=77) Ai Tryz.func193 rfl rfl rfl fun H=>?_
  refine AW.seq (AW.region (Qp (Fx [Iq _,Iq _,Iq _,Iq _,.str _]) (Qp Ap (AOL.nil (Ae (AW.seq (AW.block (AW.seq (AW.region ?_)))))))))
  refine Qp Qv (Qp Br ?_)
  refine Qp (Qc rfl (c114 a.kind)) ?_
  refine Qp Ge (Qp Bc (AOL.nil (Ae (A2 (fun hc1=>?_) fun hc1=>?_))))
  · skip
    refine AW.seq (AW.region (Qp Ap (AOL.nil (Ae (AW.ret (A9 (Al ?_)))))))
    refine Qr (Iq _) ?_
    try simp only [Cx,Bool.and_true] at *
    first
      | (simp only [Ad,Bo];(first | rw [if_pos hc1] | skip);first | done | rfl)
      | (try simp only [Bool.not_eq_true',Bool.not_eq_false'] at *
         first
         | (simp only [Ad,Bo,isV0, *,Bool.false_eq_true,↓reduceIte,Bool.true_or,Bool.or_true,Bool.false_or,Bool.or_false,Bool.true_and,Bool.and_true,Bool.false_and,Bool.and_false,Bool.not_true,Bool.not_false];done)
         | (simp [Ad,Bo,isV0, *];done)
         | (simp_all [Ad,Bo,isV0];done))
      | skip
  · skip
    refine AW.seq (AW.region (Qp R6 (Qp Br (Qp Cf (Qp Bm (Qg [] Qw R6 (Qg [(15,_)] Qw Br (Qg [(16,_)] Qw Hb (Qp Ek ?_)))))))))
    refine Qp Bc (AOL.nil (Ae (A2 (fun hc2=>?_) fun hc2=>?_)))
    · skip
      refine AW.seq (AW.region (Qp Ap (AOL.nil (Ae (AW.ret (A9 (Al ?_)))))))
      refine Qr (Iq _) ?_
      try simp only [Cx,Bool.and_true] at *
      first
        | (simp only [Ad,Bo];(first | rw [iN hc1] | skip);(first | rw [if_pos hc2] | skip);first | done | rfl)
        | (try simp only [Bool.not_eq_true',Bool.not_eq_false'] at *
           first
           | (simp only [Ad,Bo,isV0, *,Bool.false_eq_true,↓reduceIte,Bool.true_or,Bool.or_true,Bool.false_or,Bool.or_false,Bool.true_and,Bool.and_true,Bool.false_and,Bool.and_false,Bool.not_true,Bool.not_false];done)
           | (simp [Ad,Bo,isV0, *];done)
           | (simp_all [Ad,Bo,isV0];done))
        | skip
    · skip
      refine AW.skip (Bp (Ae (AW.seq (AW.region (Qp Bc (AOL.nil (Ae (AW.seq (AW.block ?_)))))))))
      refine AW.seq (AW.region (Qp R6 (Qp Br (Qp A6 (Qp Bm (Qg [] Qw Qv (Qg [(35,_)] Qw Br (Qg [(36,_)] Qw A6 (Qp Ek ?_)))))))))
      refine Qp Bc (AOL.nil (Ae (A2 (fun hc3=>?_) fun hc3=>?_)))
      · skip
        refine AW.region (Qp J2 (Qp (Cd [Iq _,Iq _,.str _]) (Qp (El [Iq _,Iq _,.str _]) ?_)))
        refine Qp (P1 Ai rfl rfl rfl rfl rfl) ?_
        refine Qp Bc (AOL.nil (Bp (Ae (AW.seq (AW.seq (AW.region (Qp Bm (Qp Ge (AOL.nil ?_)))))))))
        refine Ae (A2 (fun hc4=>?_) fun hc4=>?_)
        · skip
          refine AW.seq (AW.region (Qp Ap (AOL.nil (Ae (Dq ?_)))))
          refine Qr (Iq _) ?_
          try simp only [Cx,Bool.and_true] at *
          first
            | (simp only [Ad,Bo];(first | rw [iN hc1] | skip);(first | rw [iN hc2] | skip);(first | rw [if_pos hc3] | skip);(first | rw [if_pos hc4] | skip);first | done | rfl)
            | (try simp only [Bool.not_eq_true',Bool.not_eq_false'] at *
               first
               | (simp only [Ad,Bo,isV0, *,Bool.false_eq_true,↓reduceIte,Bool.true_or,Bool.or_true,Bool.false_or,Bool.or_false,Bool.true_and,Bool.and_true,Bool.false_and,Bool.and_false,Bool.not_true,Bool.not_false];done)
               | (simp [Ad,Bo,isV0, *];done)
               | (simp_all [Ad,Bo,isV0];done))
            | skip
        · skip
          refine Bv (AW.seq (AW.region (Qp Ap (AOL.nil (Ae (AW.ret ?_))))))
          refine Qr (Iq _) ?_
          try simp only [Cx,Bool.and_true] at *
          first
            | (simp only [Ad,Bo];(first | rw [iN hc1] | skip);(first | rw [iN hc2] | skip);(first | rw [if_pos hc3] | skip);(first | rw [iN hc4] | skip);first | done | rfl)
            | (try simp only [Bool.not_eq_true',Bool.not_eq_false'] at *
               first
               | (simp only [Ad,Bo,isV0, *,Bool.false_eq_true,↓reduceIte,Bool.true_or,Bool.or_true,Bool.false_or,Bool.or_false,Bool.true_and,Bool.and_true,Bool.false_and,Bool.and_false,Bool.not_true,Bool.not_false];done)
               | (simp [Ad,Bo,isV0, *];done)
               | (simp_all [Ad,Bo,isV0];done))
            | skip
      · skip
        refine AW.seq (AW.region (Qp Qv (Qp Br (Qp A6 (Qp Bc (AOL.nil (Ae (A2 (fun hc5=>?_) fun hc5=>?_))))))))
        · skip
          refine AW.seq (AW.region (Qp R6 (Qp Br ?_)))
          refine Qp (tU rfl rfl rfl (by have j0:=hc2;simp only [Bool.or_eq_false_iff,Bool.and_eq_true,decide_eq_false_iff_not,decide_eq_true_eq] at j0;constructor <;> omega)) ?_
          refine Qp Ap (AOL.nil (Ae (AW.region (Qp J2 (Qp J2 (Qp Br (Qp A6 (Qp Bm (Qg [] Qw J2 ?_)))))))))
          refine Qg [(55,_)] Qw Qf7 (Qg [(56,_)] Qw Vn ?_)
          refine AOL.Aav (y:=.bool _) _ [(57,_)] rfl (sB.all ⟨tO.self _ _,trivial⟩) (fun hG=>Po rfl rfl) rfl ?_
          refine Qp Em (Qp Bm (Qg [] Qw J2 (Qg [(61,_)] Qw Ys (Qg [(62,_)] Qw Br (Qg [] Qw Az ?_)))))
          refine AOL.Aav (y:=Iq _) _ [(64,_)] rfl (sB.all ⟨tO.self _ _,trivial⟩) (fun hG=>Yg rfl rfl (by have j0:=hc2;simp only [Bool.or_eq_false_iff,Bool.and_eq_true,decide_eq_false_iff_not,decide_eq_true_eq] at j0;constructor <;> omega)) rfl ?_
          refine AOL.Aav (y:=.bool _) _ [(63,_),(65,_)] rfl (sB.all ⟨tO.self _ _,tO.self _ _,trivial⟩) (fun hG=>U1 rfl rfl) rfl ?_
          refine Qp Em (Qp Bm (Qg [] Qw J2 (Qg [(69,_)] Qw Ys (Qg [(70,_)] Qw Br (Qg [] Qw Az ?_)))))
          refine AOL.Aav (y:=.bool _) _ [(71,_),(72,_)] rfl (sB.all ⟨tO.self _ _,tO.self _ _,trivial⟩) (fun hG=>yU rfl rfl) rfl ?_
          refine Qp Em (Qp Bc (AOL.nil (Bp (Ae (AW.seq (AW.seq (AW.region (Qp Bm (Qp Ge ?_)))))))))
          refine AOL.nil (Ae (A2 (fun hc6=>?_) fun hc6=>?_))
          · skip
            refine AW.seq (AW.region (Qp Ap (AOL.nil (Ae (Dq ?_)))))
            refine Qr (Iq _) ?_
            try simp only [Cx,Bool.and_true] at *
            first
              | (simp only [Ad,Bo];(first | rw [iN hc1] | skip);(first | rw [iN hc2] | skip);(first | rw [iN hc3] | skip);(first | rw [if_pos hc5] | skip);(first | rw [if_pos hc6] | skip);first | done | rfl)
              | (try simp only [Bool.not_eq_true',Bool.not_eq_false'] at *
                 first
                 | (simp only [Ad,Bo,isV0, *,Bool.false_eq_true,↓reduceIte,Bool.true_or,Bool.or_true,Bool.false_or,Bool.or_false,Bool.true_and,Bool.and_true,Bool.false_and,Bool.and_false,Bool.not_true,Bool.not_false];done)
                 | (simp [Ad,Bo,isV0, *];done)
                 | (simp_all [Ad,Bo,isV0];done))
              | skip
          · skip
            refine Bv (AW.seq (AW.region (Qp Ap (AOL.nil (Ae (AW.ret ?_))))))
            refine Qr (Iq _) ?_
            try simp only [Cx,Bool.and_true] at *
            first
              | (simp only [Ad,Bo];(first | rw [iN hc1] | skip);(first | rw [iN hc2] | skip);(first | rw [iN hc3] | skip);(first | rw [if_pos hc5] | skip);(first | rw [iN hc6] | skip);first | done | rfl)
              | (try simp only [Bool.not_eq_true',Bool.not_eq_false'] at *
                 first
                 | (simp only [Ad,Bo,isV0, *,Bool.false_eq_true,↓reduceIte,Bool.true_or,Bool.or_true,Bool.false_or,Bool.or_false,Bool.true_and,Bool.and_true,Bool.false_and,Bool.and_false,Bool.not_true,Bool.not_false];done)
                 | (simp [Ad,Bo,isV0, *];done)
                 | (simp_all [Ad,Bo,isV0];done))
              | skip
        · skip
          refine AW.region (Qp J2 (Qp (Cd [Iq _,Iq _,.str _]) ?_))
          refine Qp (Qc rfl (c94 a.val)) ?_
          refine Qp A6 (Qp Bm (Qg [] Qw Qv (Qg [(24,_)] Qw Br (Qg [] Qw J2 (Qg [(26,_)] Qw (Cd [Iq _,Iq _,.str _]) ?_)))))
          refine AOL.Aav (y:=.bool _) _ [(25,_),(27,_)] rfl (sB.all ⟨tO.self _ _,tO.self _ _,trivial⟩) (fun hG=>Ct (by kernel_rfl) rfl rfl (c124 a.kind a.val)) rfl ?_
          refine Qp Em (Qp Bc (AOL.nil (Bp (Ae (AW.seq (AW.seq (AW.region (Qp Bm (Qp Ge ?_)))))))))
          refine AOL.nil (Ae (A2 (fun hc7=>?_) fun hc7=>?_))
          · skip
            refine AW.seq (AW.region (Qp Ap (AOL.nil (Ae (Dq ?_)))))
            refine Qr (Iq _) ?_
            try simp only [Cx,Bool.and_true] at *
            first
              | (simp only [Ad,Bo];(first | rw [iN hc1] | skip);(first | rw [iN hc2] | skip);(first | rw [iN hc3] | skip);(first | rw [iN hc5] | skip);(first | rw [if_pos hc7] | skip);first | done | rfl)
              | (try simp only [Bool.not_eq_true',Bool.not_eq_false'] at *
                 first
                 | (simp only [Ad,Bo,isV0, *,Bool.false_eq_true,↓reduceIte,Bool.true_or,Bool.or_true,Bool.false_or,Bool.or_false,Bool.true_and,Bool.and_true,Bool.false_and,Bool.and_false,Bool.not_true,Bool.not_false];done)
                 | (simp [Ad,Bo,isV0, *];done)
                 | (simp_all [Ad,Bo,isV0];done))
              | skip
          · skip
            refine Bv (AW.seq (AW.region (Qp Ap (AOL.nil (Ae (AW.ret ?_))))))
            refine Qr (Iq _) ?_
            try simp only [Cx,Bool.and_true] at *
            first
              | (simp only [Ad,Bo];(first | rw [iN hc1] | skip);(first | rw [iN hc2] | skip);(first | rw [iN hc3] | skip);(first | rw [iN hc5] | skip);(first | rw [iN hc7] | skip);first | done | rfl)
              | (try simp only [Bool.not_eq_true',Bool.not_eq_false'] at *
                 first
                 | (simp only [Ad,Bo,isV0, *,Bool.false_eq_true,↓reduceIte,Bool.true_or,Bool.or_true,Bool.false_or,Bool.or_false,Bool.true_and,Bool.and_true,Bool.false_and,Bool.and_false,Bool.not_true,Bool.not_false];done)
                 | (simp [Ad,Bo,isV0, *];done)
                 | (simp_all [Ad,Bo,isV0];done))
              | skip

end Go.Proofs.YtkddpedfbicbeaaGreatDoor
