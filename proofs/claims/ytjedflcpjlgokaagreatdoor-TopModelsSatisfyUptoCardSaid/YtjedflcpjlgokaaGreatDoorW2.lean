/-
  Walks of layer 7. No condition.
-/
import Derived.Test.YtjedflcpjlgokaaGreatDoorAz
import Derived.Test.YtjedflcpjlgokaaGreatDoorW1
import Derived.KernelRfl
namespace Go.Proofs.YtjedflcpjlgokaaGreatDoor
open Go Go.Aw
set_option maxHeartbeats 400000
set_option maxRecDepth 20000
set_option linter.unusedVariables false
set_option linter.unusedSimpArgs false

theorem c127  : Ax Tryz.prog 174 [] (.agg (cV v0)):=by
 refine Ax.body (n:=2) Ah Tryz.func174 rfl rfl rfl fun H=>?_
 refine Ai ?_
 refine Qe (Ak (l:=[.int .i64 0,.int .i64 0,.str []]) (by kernel_rfl)) ?_
 rintro _ _ ⟨b0,rfl,rfl⟩
 refine Dm (Qp (Fz [Iq _,Iq _,.str _]) ?_)
 refine Cv 0 [Iq _,Iq _,.str _] (_::_) ?_
 refine Ag (AW.ret ?_)
 refine ⟨.inr rfl,[.agg [Iq _,Iq _,.str _]],.cons (.box _ _ _ 0 _ _ _ _ rfl rfl rfl rfl rfl rfl) <| .nil,.cons _ (.refl _),?_⟩
 rfl
theorem c128 (v w:Vl):Ax Tryz.prog 175 [.ptr (cV v),.ptr (cV w)] (.agg (cV (I0 1 v w))):=by
 refine Ax.body (n:=9) Ah Tryz.func175 rfl rfl rfl fun H=>?_
 refine Ai ?_
 refine Qe (Ak (l:=[.int .i64 0,.int .i64 0,.str []]) (by kernel_rfl)) ?_
 rintro _ _ ⟨b2,rfl,rfl⟩
 refine Dm (Qp U7 (Qp Bp (Qp U7 (Qp Bp ?_))))
 refine Qp (cH rfl rfl) ?_
 refine Qp (Fz [Iq _,Iq _,.str _]) ?_
 refine Cv 0 [Iq _,Iq _,.str _] (_::_) ?_
 refine Ag (AW.ret ?_)
 refine ⟨.inr rfl,[.agg [Iq _,Iq _,.str _]],.cons (.box _ _ _ 0 _ _ _ _ rfl rfl rfl rfl rfl rfl) <| .nil,.cons _ (.refl _),?_⟩
 rfl
theorem c129 (v w:Vl):Ax Tryz.prog 176 [.ptr (cV v),.ptr (cV w)] (.agg (cV (I0 2 v w))):=by
 refine Ax.body (n:=9) Ah Tryz.func176 rfl rfl rfl fun H=>?_
 refine Ai ?_
 refine Qe (Ak (l:=[.int .i64 0,.int .i64 0,.str []]) (by kernel_rfl)) ?_
 rintro _ _ ⟨b2,rfl,rfl⟩
 refine Dm (Qp U7 (Qp Bp (Qp U7 (Qp Bp ?_))))
 refine Qp (P_min rfl rfl) ?_
 refine Qp (Fz [Iq _,Iq _,.str _]) ?_
 refine Cv 0 [Iq _,Iq _,.str _] (_::_) ?_
 refine Ag (AW.ret ?_)
 refine ⟨.inr rfl,[.agg [Iq _,Iq _,.str _]],.cons (.box _ _ _ 0 _ _ _ _ rfl rfl rfl rfl rfl rfl) <| .nil,.cons _ (.refl _),?_⟩
 rfl
theorem c130 (v w:Vl):Ax Tryz.prog 177 [.ptr (cV v),.ptr (cV w)] (.agg (cV (I0 3 v w))):=by
 refine Ax.body (n:=9) Ah Tryz.func177 rfl rfl rfl fun H=>?_
 refine Ai ?_
 refine Qe (Ak (l:=[.int .i64 0,.int .i64 0,.str []]) (by kernel_rfl)) ?_
 rintro _ _ ⟨b2,rfl,rfl⟩
 refine Dm (Qp U7 (Qp Bp (Qp U7 (Qp Bp ?_))))
 refine Qp (sB rfl rfl) ?_
 refine Qp (Fz [Iq _,Iq _,.str _]) ?_
 refine Cv 0 [Iq _,Iq _,.str _] (_::_) ?_
 refine Ag (AW.ret ?_)
 refine ⟨.inr rfl,[.agg [Iq _,Iq _,.str _]],.cons (.box _ _ _ 0 _ _ _ _ rfl rfl rfl rfl rfl rfl) <| .nil,.cons _ (.refl _),?_⟩
 rfl
theorem c131 (v:Vl):Ax Tryz.prog 178 [.ptr (cV v)] (.agg (cV v)):=by
 refine Ax.body (n:=3) Ah Tryz.func178 rfl rfl rfl fun H=>?_
 refine Ai ?_
 refine Qe (Ak (l:=[.int .i64 0,.int .i64 0,.str []]) (by kernel_rfl)) ?_
 rintro _ _ ⟨b1,rfl,rfl⟩
 refine Dm (Qp (Cq [Iq _,Iq _,.str _]) ?_)
 refine Cv 0 [Iq _,Iq _,.str _] (_::_) ?_
 refine Ag (AW.ret ?_)
 refine ⟨.inr rfl,[.agg [Iq _,Iq _,.str _]],.cons (.box _ _ _ 0 _ _ _ _ rfl rfl rfl rfl rfl rfl) <| .nil,.cons _ (.refl _),?_⟩
 rfl
theorem c132 (v:Vl):Ax Tryz.prog 179 [.ptr (cV v)] (.agg (cV v)):=by
 refine Ax.body (n:=3) Ah Tryz.func179 rfl rfl rfl fun H=>?_
 refine Ai ?_
 refine Qe (Ak (l:=[.int .i64 0,.int .i64 0,.str []]) (by kernel_rfl)) ?_
 rintro _ _ ⟨b1,rfl,rfl⟩
 refine Dm (Qp (Cq [Iq _,Iq _,.str _]) ?_)
 refine Cv 0 [Iq _,Iq _,.str _] (_::_) ?_
 refine Ag (AW.ret ?_)
 refine ⟨.inr rfl,[.agg [Iq _,Iq _,.str _]],.cons (.box _ _ _ 0 _ _ _ _ rfl rfl rfl rfl rfl rfl) <| .nil,.cons _ (.refl _),?_⟩
 rfl
theorem c125_0 (v w:Vl):Ax Tryz.prog 167 [.int .i64 0,.agg (cV v),.agg (cV w)] (.agg (cV (I0 0 v w))):=by
 refine Ax.body (n:=16) Ah Tryz.func167 rfl rfl rfl fun H=>?_
 refine Ai (Qp (Gd [Iq _,Iq _,.str _]) (Qp (Gd [Iq _,Iq _,.str _]) ?_))
 refine Qe (Ak (l:=[.int .i64 0,.int .i64 0,.str []]) (by kernel_rfl)) ?_
 rintro _ _ ⟨b6,rfl,rfl⟩
 refine Dm ?_
 refine Qp (Bj (l:=[]) (l':=[.ptr _,.ptr _]) rfl rfl) ?_
 refine Qp (Bj (l:=[]) (l':=[.ptr _,.ptr _]) rfl rfl) ?_
 refine Qp (Bj (l:=[]) (l':=[.ptr _,.ptr _]) rfl rfl) ?_
 refine Qp (Bj (l:=[]) (l':=[.ptr _]) rfl rfl) ?_
 refine Qp (Bj (l:=[]) (l':=[.ptr _]) rfl rfl) ?_
 refine Qp (Jp (l:=[_,_,_,_,_,_]) Ah rfl rfl rfl rfl) ?_
 refine Qp Az ?_
 refine Qp (Iz (c:=_) Ah rfl rfl rfl rfl rfl rfl rfl (by omega) (by omega) (rfl)) ?_
 refine Qp (Eg (by kernel_rfl) rfl rfl rfl (c127)) ?_
 refine Cv 0 [Iq _,Iq _,.str _] (_::_) ?_
 refine Ag (AW.ret ?_)
 refine ⟨.inr rfl,[.agg [Iq _,Iq _,.str _]],.cons (.box _ _ _ 0 _ _ _ _ rfl rfl rfl rfl rfl rfl) <| .nil,.cons _ (.refl _),?_⟩
 rfl
theorem c125_1 (v w:Vl):Ax Tryz.prog 167 [.int .i64 1,.agg (cV v),.agg (cV w)] (.agg (cV (I0 1 v w))):=by
 refine Ax.body (n:=16) Ah Tryz.func167 rfl rfl rfl fun H=>?_
 refine Ai (Qp (Gd [Iq _,Iq _,.str _]) (Qp (Gd [Iq _,Iq _,.str _]) ?_))
 refine Qe (Ak (l:=[.int .i64 0,.int .i64 0,.str []]) (by kernel_rfl)) ?_
 rintro _ _ ⟨b6,rfl,rfl⟩
 refine Dm ?_
 refine Qp (Bj (l:=[]) (l':=[.ptr _,.ptr _]) rfl rfl) ?_
 refine Qp (Bj (l:=[]) (l':=[.ptr _,.ptr _]) rfl rfl) ?_
 refine Qp (Bj (l:=[]) (l':=[.ptr _,.ptr _]) rfl rfl) ?_
 refine Qp (Bj (l:=[]) (l':=[.ptr _]) rfl rfl) ?_
 refine Qp (Bj (l:=[]) (l':=[.ptr _]) rfl rfl) ?_
 refine Qp (Jp (l:=[_,_,_,_,_,_]) Ah rfl rfl rfl rfl) ?_
 refine Qp Az ?_
 refine Qp (Iz (c:=_) Ah rfl rfl rfl rfl rfl rfl rfl (by omega) (by omega) (rfl)) ?_
 refine Qp (Eg (by kernel_rfl) rfl rfl rfl (c128 v w)) ?_
 refine Cv 0 [Iq _,Iq _,.str _] (_::_) ?_
 refine Ag (AW.ret ?_)
 refine ⟨.inr rfl,[.agg [Iq _,Iq _,.str _]],.cons (.box _ _ _ 0 _ _ _ _ rfl rfl rfl rfl rfl rfl) <| .nil,.cons _ (.refl _),?_⟩
 rfl
theorem c125_2 (v w:Vl):Ax Tryz.prog 167 [.int .i64 2,.agg (cV v),.agg (cV w)] (.agg (cV (I0 2 v w))):=by
 refine Ax.body (n:=16) Ah Tryz.func167 rfl rfl rfl fun H=>?_
 refine Ai (Qp (Gd [Iq _,Iq _,.str _]) (Qp (Gd [Iq _,Iq _,.str _]) ?_))
 refine Qe (Ak (l:=[.int .i64 0,.int .i64 0,.str []]) (by kernel_rfl)) ?_
 rintro _ _ ⟨b6,rfl,rfl⟩
 refine Dm ?_
 refine Qp (Bj (l:=[]) (l':=[.ptr _,.ptr _]) rfl rfl) ?_
 refine Qp (Bj (l:=[]) (l':=[.ptr _,.ptr _]) rfl rfl) ?_
 refine Qp (Bj (l:=[]) (l':=[.ptr _,.ptr _]) rfl rfl) ?_
 refine Qp (Bj (l:=[]) (l':=[.ptr _]) rfl rfl) ?_
 refine Qp (Bj (l:=[]) (l':=[.ptr _]) rfl rfl) ?_
 refine Qp (Jp (l:=[_,_,_,_,_,_]) Ah rfl rfl rfl rfl) ?_
 refine Qp Az ?_
 refine Qp (Iz (c:=_) Ah rfl rfl rfl rfl rfl rfl rfl (by omega) (by omega) (rfl)) ?_
 refine Qp (Eg (by kernel_rfl) rfl rfl rfl (c129 v w)) ?_
 refine Cv 0 [Iq _,Iq _,.str _] (_::_) ?_
 refine Ag (AW.ret ?_)
 refine ⟨.inr rfl,[.agg [Iq _,Iq _,.str _]],.cons (.box _ _ _ 0 _ _ _ _ rfl rfl rfl rfl rfl rfl) <| .nil,.cons _ (.refl _),?_⟩
 rfl
theorem c125_3 (v w:Vl):Ax Tryz.prog 167 [.int .i64 3,.agg (cV v),.agg (cV w)] (.agg (cV (I0 3 v w))):=by
 refine Ax.body (n:=16) Ah Tryz.func167 rfl rfl rfl fun H=>?_
 refine Ai (Qp (Gd [Iq _,Iq _,.str _]) (Qp (Gd [Iq _,Iq _,.str _]) ?_))
 refine Qe (Ak (l:=[.int .i64 0,.int .i64 0,.str []]) (by kernel_rfl)) ?_
 rintro _ _ ⟨b6,rfl,rfl⟩
 refine Dm ?_
 refine Qp (Bj (l:=[]) (l':=[.ptr _,.ptr _]) rfl rfl) ?_
 refine Qp (Bj (l:=[]) (l':=[.ptr _,.ptr _]) rfl rfl) ?_
 refine Qp (Bj (l:=[]) (l':=[.ptr _,.ptr _]) rfl rfl) ?_
 refine Qp (Bj (l:=[]) (l':=[.ptr _]) rfl rfl) ?_
 refine Qp (Bj (l:=[]) (l':=[.ptr _]) rfl rfl) ?_
 refine Qp (Jp (l:=[_,_,_,_,_,_]) Ah rfl rfl rfl rfl) ?_
 refine Qp Az ?_
 refine Qp (Iz (c:=_) Ah rfl rfl rfl rfl rfl rfl rfl (by omega) (by omega) (rfl)) ?_
 refine Qp (Eg (by kernel_rfl) rfl rfl rfl (c130 v w)) ?_
 refine Cv 0 [Iq _,Iq _,.str _] (_::_) ?_
 refine Ag (AW.ret ?_)
 refine ⟨.inr rfl,[.agg [Iq _,Iq _,.str _]],.cons (.box _ _ _ 0 _ _ _ _ rfl rfl rfl rfl rfl rfl) <| .nil,.cons _ (.refl _),?_⟩
 rfl
theorem c125_4 (v w:Vl):Ax Tryz.prog 167 [.int .i64 4,.agg (cV v),.agg (cV w)] (.agg (cV (I0 4 v w))):=by
 refine Ax.body (n:=16) Ah Tryz.func167 rfl rfl rfl fun H=>?_
 refine Ai (Qp (Gd [Iq _,Iq _,.str _]) (Qp (Gd [Iq _,Iq _,.str _]) ?_))
 refine Qe (Ak (l:=[.int .i64 0,.int .i64 0,.str []]) (by kernel_rfl)) ?_
 rintro _ _ ⟨b6,rfl,rfl⟩
 refine Dm ?_
 refine Qp (Bj (l:=[]) (l':=[.ptr _,.ptr _]) rfl rfl) ?_
 refine Qp (Bj (l:=[]) (l':=[.ptr _,.ptr _]) rfl rfl) ?_
 refine Qp (Bj (l:=[]) (l':=[.ptr _,.ptr _]) rfl rfl) ?_
 refine Qp (Bj (l:=[]) (l':=[.ptr _]) rfl rfl) ?_
 refine Qp (Bj (l:=[]) (l':=[.ptr _]) rfl rfl) ?_
 refine Qp (Jp (l:=[_,_,_,_,_,_]) Ah rfl rfl rfl rfl) ?_
 refine Qp Az ?_
 refine Qp (Iz (c:=_) Ah rfl rfl rfl rfl rfl rfl rfl (by omega) (by omega) (rfl)) ?_
 refine Qp (Eg (by kernel_rfl) rfl rfl rfl (c131 v)) ?_
 refine Cv 0 [Iq _,Iq _,.str _] (_::_) ?_
 refine Ag (AW.ret ?_)
 refine ⟨.inr rfl,[.agg [Iq _,Iq _,.str _]],.cons (.box _ _ _ 0 _ _ _ _ rfl rfl rfl rfl rfl rfl) <| .nil,.cons _ (.refl _),?_⟩
 rfl
theorem c125_5 (v w:Vl):Ax Tryz.prog 167 [.int .i64 5,.agg (cV v),.agg (cV w)] (.agg (cV (I0 5 v w))):=by
 refine Ax.body (n:=16) Ah Tryz.func167 rfl rfl rfl fun H=>?_
 refine Ai (Qp (Gd [Iq _,Iq _,.str _]) (Qp (Gd [Iq _,Iq _,.str _]) ?_))
 refine Qe (Ak (l:=[.int .i64 0,.int .i64 0,.str []]) (by kernel_rfl)) ?_
 rintro _ _ ⟨b6,rfl,rfl⟩
 refine Dm ?_
 refine Qp (Bj (l:=[]) (l':=[.ptr _,.ptr _]) rfl rfl) ?_
 refine Qp (Bj (l:=[]) (l':=[.ptr _,.ptr _]) rfl rfl) ?_
 refine Qp (Bj (l:=[]) (l':=[.ptr _,.ptr _]) rfl rfl) ?_
 refine Qp (Bj (l:=[]) (l':=[.ptr _]) rfl rfl) ?_
 refine Qp (Bj (l:=[]) (l':=[.ptr _]) rfl rfl) ?_
 refine Qp (Jp (l:=[_,_,_,_,_,_]) Ah rfl rfl rfl rfl) ?_
 refine Qp Az ?_
 refine Qp (Iz (c:=_) Ah rfl rfl rfl rfl rfl rfl rfl (by omega) (by omega) (rfl)) ?_
 refine Qp (Eg (by kernel_rfl) rfl rfl rfl (c132 w)) ?_
 refine Cv 0 [Iq _,Iq _,.str _] (_::_) ?_
 refine Ag (AW.ret ?_)
 refine ⟨.inr rfl,[.agg [Iq _,Iq _,.str _]],.cons (.box _ _ _ 0 _ _ _ _ rfl rfl rfl rfl rfl rfl) <| .nil,.cons _ (.refl _),?_⟩
 rfl
theorem c125 (k:Int)(v w:Vl)(h:Dt k=true):Ax Tryz.prog 167 [.int .i64 k,.agg (cV v),.agg (cV w)] (.agg (cV (I0 k v w))):=by
 simp only [Dt,Bool.and_eq_true,decide_eq_true_eq] at h
 have:k=0∨k=1∨k=2∨k=3∨k=4∨k=5:=by omega
 rcases this with rfl | rfl | rfl | rfl | rfl | rfl
 · exact c125_0 v w
 · exact c125_1 v w
 · exact c125_2 v w
 · exact c125_3 v w
 · exact c125_4 v w
 · exact c125_5 v w
theorem c118 (a c:Ac)(h:Dt a.kind=true):Ax Tryz.prog 159 [.agg (Vo a),.agg (Vo c)] (.agg (Vo (Eu a c))):=by
  refine Ax.body (n:=30) Ah Tryz.func159 rfl rfl rfl fun H=>?_
  refine AW.seq (AW.region (Qp (Gd [Iq _,Iq _,Iq _,Iq _,.str _]) (Qp (Gd [Iq _,Iq _,Iq _,Iq _,.str _]) ?_)))
  refine Qe (Ak (l:=[.int .i64 0,.int .i64 0,.int .i64 0,.int .i64 0,.str []]) (by kernel_rfl)) ?_
  rintro _ _ ⟨b4,rfl,rfl⟩
  refine AOL.nil (Ad (AW.seq (AW.block (AW.seq (AW.region (Qp Sj (Qp Bp (Qp A9 (Qp Bl ?_)))))))))
  refine AOL.nil (Ad (A6 (fun hc1=>?_) fun hc1=>?_))
  · skip
    refine AW.seq (AW.region (Qp (Cq [Iq _,Iq _,Iq _,Iq _,.str _]) ?_))
    refine Cv 0 [Iq _,Iq _,Iq _,Iq _,.str _] (_::_) ?_
    refine AOL.nil (Ad (AW.ret (Bb (Aj ?_))))
    refine ⟨.inr rfl,[.agg [Iq _,Iq _,Iq _,Iq _,.str _]],.cons (.box _ _ _ 0 _ _ _ _ rfl rfl rfl rfl rfl rfl) <| .nil,.cons _ (.refl _),?_⟩
    try simp only [C1,Bool.and_true] at *
    first
      | (simp only [Ae,Eu,Vo,cV];(first | rw [if_pos hc1] | skip);first | done | rfl)
      | (try simp only [Bool.not_eq_true',Bool.not_eq_false'] at *
         first
         | (simp only [Ae,Eu,Vo,cV, *,Bool.false_eq_true,↓reduceIte,Bool.true_or,Bool.or_true,Bool.false_or,Bool.or_false,Bool.true_and,Bool.and_true,Bool.false_and,Bool.and_false,Bool.not_true,Bool.not_false];done)
         | (simp [Ae,Eu,Vo,cV, *];done)
         | (simp_all [Ae,Eu,Vo,cV];done))
      | skip
  · skip
    refine AW.seq (AW.region (Qp Sj (Qp Bp (Qp A9 (Qp Bl (AOL.nil (Ad (A6 (fun hc2=>?_) fun hc2=>?_))))))))
    · skip
      refine AW.seq (AW.region (Qp (Cq [Iq _,Iq _,Iq _,Iq _,.str _]) ?_))
      refine Cv 0 [Iq _,Iq _,Iq _,Iq _,.str _] (_::_) ?_
      refine AOL.nil (Ad (AW.ret (Bb (Aj ?_))))
      refine ⟨.inr rfl,[.agg [Iq _,Iq _,Iq _,Iq _,.str _]],.cons (.box _ _ _ 0 _ _ _ _ rfl rfl rfl rfl rfl rfl) <| .nil,.cons _ (.refl _),?_⟩
      try simp only [C1,Bool.and_true] at *
      first
        | (simp only [Ae,Eu,Vo,cV];(first | rw [iN hc1] | skip);(first | rw [if_pos hc2] | skip);first | done | rfl)
        | (try simp only [Bool.not_eq_true',Bool.not_eq_false'] at *
           first
           | (simp only [Ae,Eu,Vo,cV, *,Bool.false_eq_true,↓reduceIte,Bool.true_or,Bool.or_true,Bool.false_or,Bool.or_false,Bool.true_and,Bool.and_true,Bool.false_and,Bool.and_false,Bool.not_true,Bool.not_false];done)
           | (simp [Ae,Eu,Vo,cV, *];done)
           | (simp_all [Ae,Eu,Vo,cV];done))
        | skip
    · skip
      refine AW.skip (Bu (Ad (AW.seq ?_)))
      refine AW.draw mixed (fun _=>True) trivial (by kernel_rfl) ?_
      refine Qn 0 rfl Oq (Qn 1 rfl Bp (Qn 2 rfl Sj (Qn 3 rfl Bp (Qn 4 rfl Sj (Qn 5 rfl Bp ?_)))))
      refine Qn 6 rfl (cH rfl rfl) ?_
      refine Qn 7 rfl Oq (Qn 8 rfl Bp (Qn 9 rfl Jq (Qn 10 rfl (Cq [Iq _,Iq _,.str _]) (Qn 11 rfl Jq (Qn 12 rfl (Cq [Iq _,Iq _,.str _]) ?_)))))
      refine Qn 13 rfl (Qc rfl (c125 a.kind a.val c.val h)) ?_
      refine Qn 14 rfl (Fz [Iq _,Iq _,Iq _,Iq _,.str _]) ?_
      refine Jn.eff _ _ 15 _ _ rfl (by kernel_rfl) rfl rfl (B2 (k:=0) (v:=.agg _) (cs':=[Iq _,Iq _,Iq _,Iq _,.str _]) (H2:=_::_) Ah rfl rfl rfl rfl (rfl) rfl rfl rfl rfl) (fun _ _ _=>trivial) ?_
      rintro _ _ ⟨rfl,rfl⟩
      refine Jn.done _ _ (by kernel_rfl) ?_
      refine Ad (AW.ret ?_)
      refine ⟨.inr rfl,[.agg [Iq _,Iq _,Iq _,Iq _,.str _]],.cons (.box _ _ _ 0 _ _ _ _ rfl rfl rfl rfl rfl rfl) <| .nil,.cons _ (.refl _),?_⟩
      try simp only [C1,Bool.and_true] at *
      first
        | (simp only [Ae,Eu,Vo,cV];(first | rw [iN hc1] | skip);(first | rw [iN hc2] | skip);first | done | rfl)
        | (try simp only [Bool.not_eq_true',Bool.not_eq_false'] at *
           first
           | (simp only [Ae,Eu,Vo,cV, *,Bool.false_eq_true,↓reduceIte,Bool.true_or,Bool.or_true,Bool.false_or,Bool.or_false,Bool.true_and,Bool.and_true,Bool.false_and,Bool.and_false,Bool.not_true,Bool.not_false];done)
           | (simp [Ae,Eu,Vo,cV, *];done)
           | (simp_all [Ae,Eu,Vo,cV];done))
        | skip
theorem c126 (a:Ac):Ax Tryz.prog 168 [.agg (Vo a)] (.int .i64 (Bt a)):=by
  refine Ax.body (n:=77) Ah Tryz.func168 rfl rfl rfl fun H=>?_
  refine AW.seq (AW.region (Qp (Gd [Iq _,Iq _,Iq _,Iq _,.str _]) (Qp Ap (AOL.nil (Ad (AW.seq (AW.block (AW.seq (AW.region ?_)))))))))
  refine Qp Oq (Qp Bp ?_)
  refine Qp (Qc rfl (c114 a.kind)) ?_
  refine Qp Hc (Qp Bl (AOL.nil (Ad (A6 (fun hc1=>?_) fun hc1=>?_))))
  · skip
    refine AW.seq (AW.region (Qp Ap (AOL.nil (Ad (AW.ret (Bb (Aj ?_)))))))
    refine Qr (Iq _) ?_
    try simp only [C1,Bool.and_true] at *
    first
      | (simp only [Ae,Bt];(first | rw [if_pos hc1] | skip);first | done | rfl)
      | (try simp only [Bool.not_eq_true',Bool.not_eq_false'] at *
         first
         | (simp only [Ae,Bt,isV0, *,Bool.false_eq_true,↓reduceIte,Bool.true_or,Bool.or_true,Bool.false_or,Bool.or_false,Bool.true_and,Bool.and_true,Bool.false_and,Bool.and_false,Bool.not_true,Bool.not_false];done)
         | (simp [Ae,Bt,isV0, *];done)
         | (simp_all [Ae,Bt,isV0];done))
      | skip
  · skip
    refine AW.seq (AW.region (Qp Sj (Qp Bp (Qp Ch (Qp B0 (Qg [] Qw Sj (Qg [(15,_)] Qw Bp (Qg [(16,_)] Qw Ha (Qp E1 ?_)))))))))
    refine Qp Bl (AOL.nil (Ad (A6 (fun hc2=>?_) fun hc2=>?_)))
    · skip
      refine AW.seq (AW.region (Qp Ap (AOL.nil (Ad (AW.ret (Bb (Aj ?_)))))))
      refine Qr (Iq _) ?_
      try simp only [C1,Bool.and_true] at *
      first
        | (simp only [Ae,Bt];(first | rw [iN hc1] | skip);(first | rw [if_pos hc2] | skip);first | done | rfl)
        | (try simp only [Bool.not_eq_true',Bool.not_eq_false'] at *
           first
           | (simp only [Ae,Bt,isV0, *,Bool.false_eq_true,↓reduceIte,Bool.true_or,Bool.or_true,Bool.false_or,Bool.or_false,Bool.true_and,Bool.and_true,Bool.false_and,Bool.and_false,Bool.not_true,Bool.not_false];done)
           | (simp [Ae,Bt,isV0, *];done)
           | (simp_all [Ae,Bt,isV0];done))
        | skip
    · skip
      refine AW.skip (Bu (Ad (AW.seq (AW.region (Qp Bl (AOL.nil (Ad (AW.seq (AW.block ?_)))))))))
      refine AW.seq (AW.region (Qp Sj (Qp Bp (Qp A9 (Qp B0 (Qg [] Qw Oq (Qg [(35,_)] Qw Bp (Qg [(36,_)] Qw A9 (Qp E1 ?_)))))))))
      refine Qp Bl (AOL.nil (Ad (A6 (fun hc3=>?_) fun hc3=>?_)))
      · skip
        refine AW.region (Qp Jq (Qp (Cq [Iq _,Iq _,.str _]) (Qp (Fz [Iq _,Iq _,.str _]) ?_)))
        refine Qp (Pk Ah rfl rfl rfl rfl rfl) ?_
        refine Qp Bl (AOL.nil (Bu (Ad (AW.seq (AW.seq (AW.region (Qp B0 (Qp Hc (AOL.nil ?_)))))))))
        refine Ad (A6 (fun hc4=>?_) fun hc4=>?_)
        · skip
          refine AW.seq (AW.region (Qp Ap (AOL.nil (Ad (Dw ?_)))))
          refine Qr (Iq _) ?_
          try simp only [C1,Bool.and_true] at *
          first
            | (simp only [Ae,Bt];(first | rw [iN hc1] | skip);(first | rw [iN hc2] | skip);(first | rw [if_pos hc3] | skip);(first | rw [if_pos hc4] | skip);first | done | rfl)
            | (try simp only [Bool.not_eq_true',Bool.not_eq_false'] at *
               first
               | (simp only [Ae,Bt,isV0, *,Bool.false_eq_true,↓reduceIte,Bool.true_or,Bool.or_true,Bool.false_or,Bool.or_false,Bool.true_and,Bool.and_true,Bool.false_and,Bool.and_false,Bool.not_true,Bool.not_false];done)
               | (simp [Ae,Bt,isV0, *];done)
               | (simp_all [Ae,Bt,isV0];done))
            | skip
        · skip
          refine By (AW.seq (AW.region (Qp Ap (AOL.nil (Ad (AW.ret ?_))))))
          refine Qr (Iq _) ?_
          try simp only [C1,Bool.and_true] at *
          first
            | (simp only [Ae,Bt];(first | rw [iN hc1] | skip);(first | rw [iN hc2] | skip);(first | rw [if_pos hc3] | skip);(first | rw [iN hc4] | skip);first | done | rfl)
            | (try simp only [Bool.not_eq_true',Bool.not_eq_false'] at *
               first
               | (simp only [Ae,Bt,isV0, *,Bool.false_eq_true,↓reduceIte,Bool.true_or,Bool.or_true,Bool.false_or,Bool.or_false,Bool.true_and,Bool.and_true,Bool.false_and,Bool.and_false,Bool.not_true,Bool.not_false];done)
               | (simp [Ae,Bt,isV0, *];done)
               | (simp_all [Ae,Bt,isV0];done))
            | skip
      · skip
        refine AW.seq (AW.region (Qp Oq (Qp Bp (Qp A9 (Qp Bl (AOL.nil (Ad (A6 (fun hc5=>?_) fun hc5=>?_))))))))
        · skip
          refine AW.seq (AW.region (Qp Sj (Qp Bp ?_)))
          refine Qp (mG rfl rfl rfl (by have j0:=hc2;simp only [Bool.or_eq_false_iff,Bool.and_eq_true,decide_eq_false_iff_not,decide_eq_true_eq] at j0;constructor <;> omega)) ?_
          refine Qp Ap (AOL.nil (Ad (AW.region (Qp Jq (Qp Jq (Qp Bp (Qp A9 (Qp B0 (Qg [] Qw Jq ?_)))))))))
          refine Qg [(55,_)] Qw Qf7 (Qg [(56,_)] Qw Us ?_)
          refine AOL.Aar (y:=.bool _) _ [(57,_)] rfl (nC.all ⟨Ent.Aam _ _,trivial⟩) (fun hG=>Pb rfl rfl) rfl ?_
          refine Qp F7 (Qp B0 (Qg [] Qw Jq (Qg [(61,_)] Qw U7 (Qg [(62,_)] Qw Bp (Qg [] Qw Az ?_)))))
          refine AOL.Aar (y:=Iq _) _ [(64,_)] rfl (nC.all ⟨Ent.Aam _ _,trivial⟩) (fun hG=>Tq rfl rfl (by have j0:=hc2;simp only [Bool.or_eq_false_iff,Bool.and_eq_true,decide_eq_false_iff_not,decide_eq_true_eq] at j0;constructor <;> omega)) rfl ?_
          refine AOL.Aar (y:=.bool _) _ [(63,_),(65,_)] rfl (nC.all ⟨Ent.Aam _ _,Ent.Aam _ _,trivial⟩) (fun hG=>Ro rfl rfl) rfl ?_
          refine Qp F7 (Qp B0 (Qg [] Qw Jq (Qg [(69,_)] Qw U7 (Qg [(70,_)] Qw Bp (Qg [] Qw Az ?_)))))
          refine AOL.Aar (y:=.bool _) _ [(71,_),(72,_)] rfl (nC.all ⟨Ent.Aam _ _,Ent.Aam _ _,trivial⟩) (fun hG=>rP rfl rfl) rfl ?_
          refine Qp F7 (Qp Bl (AOL.nil (Bu (Ad (AW.seq (AW.seq (AW.region (Qp B0 (Qp Hc ?_)))))))))
          refine AOL.nil (Ad (A6 (fun hc6=>?_) fun hc6=>?_))
          · skip
            refine AW.seq (AW.region (Qp Ap (AOL.nil (Ad (Dw ?_)))))
            refine Qr (Iq _) ?_
            try simp only [C1,Bool.and_true] at *
            first
              | (simp only [Ae,Bt];(first | rw [iN hc1] | skip);(first | rw [iN hc2] | skip);(first | rw [iN hc3] | skip);(first | rw [if_pos hc5] | skip);(first | rw [if_pos hc6] | skip);first | done | rfl)
              | (try simp only [Bool.not_eq_true',Bool.not_eq_false'] at *
                 first
                 | (simp only [Ae,Bt,isV0, *,Bool.false_eq_true,↓reduceIte,Bool.true_or,Bool.or_true,Bool.false_or,Bool.or_false,Bool.true_and,Bool.and_true,Bool.false_and,Bool.and_false,Bool.not_true,Bool.not_false];done)
                 | (simp [Ae,Bt,isV0, *];done)
                 | (simp_all [Ae,Bt,isV0];done))
              | skip
          · skip
            refine By (AW.seq (AW.region (Qp Ap (AOL.nil (Ad (AW.ret ?_))))))
            refine Qr (Iq _) ?_
            try simp only [C1,Bool.and_true] at *
            first
              | (simp only [Ae,Bt];(first | rw [iN hc1] | skip);(first | rw [iN hc2] | skip);(first | rw [iN hc3] | skip);(first | rw [if_pos hc5] | skip);(first | rw [iN hc6] | skip);first | done | rfl)
              | (try simp only [Bool.not_eq_true',Bool.not_eq_false'] at *
                 first
                 | (simp only [Ae,Bt,isV0, *,Bool.false_eq_true,↓reduceIte,Bool.true_or,Bool.or_true,Bool.false_or,Bool.or_false,Bool.true_and,Bool.and_true,Bool.false_and,Bool.and_false,Bool.not_true,Bool.not_false];done)
                 | (simp [Ae,Bt,isV0, *];done)
                 | (simp_all [Ae,Bt,isV0];done))
              | skip
        · skip
          refine AW.region (Qp Jq (Qp (Cq [Iq _,Iq _,.str _]) ?_))
          refine Qp (Qc rfl (c94 a.val)) ?_
          refine Qp A9 (Qp B0 (Qg [] Qw Oq (Qg [(24,_)] Qw Bp (Qg [] Qw Jq (Qg [(26,_)] Qw (Cq [Iq _,Iq _,.str _]) ?_)))))
          refine AOL.Aar (y:=.bool _) _ [(25,_),(27,_)] rfl (nC.all ⟨Ent.Aam _ _,Ent.Aam _ _,trivial⟩) (fun hG=>E3 (by kernel_rfl) rfl rfl (c124 a.kind a.val)) rfl ?_
          refine Qp F7 (Qp Bl (AOL.nil (Bu (Ad (AW.seq (AW.seq (AW.region (Qp B0 (Qp Hc ?_)))))))))
          refine AOL.nil (Ad (A6 (fun hc7=>?_) fun hc7=>?_))
          · skip
            refine AW.seq (AW.region (Qp Ap (AOL.nil (Ad (Dw ?_)))))
            refine Qr (Iq _) ?_
            try simp only [C1,Bool.and_true] at *
            first
              | (simp only [Ae,Bt];(first | rw [iN hc1] | skip);(first | rw [iN hc2] | skip);(first | rw [iN hc3] | skip);(first | rw [iN hc5] | skip);(first | rw [if_pos hc7] | skip);first | done | rfl)
              | (try simp only [Bool.not_eq_true',Bool.not_eq_false'] at *
                 first
                 | (simp only [Ae,Bt,isV0, *,Bool.false_eq_true,↓reduceIte,Bool.true_or,Bool.or_true,Bool.false_or,Bool.or_false,Bool.true_and,Bool.and_true,Bool.false_and,Bool.and_false,Bool.not_true,Bool.not_false];done)
                 | (simp [Ae,Bt,isV0, *];done)
                 | (simp_all [Ae,Bt,isV0];done))
              | skip
          · skip
            refine By (AW.seq (AW.region (Qp Ap (AOL.nil (Ad (AW.ret ?_))))))
            refine Qr (Iq _) ?_
            try simp only [C1,Bool.and_true] at *
            first
              | (simp only [Ae,Bt];(first | rw [iN hc1] | skip);(first | rw [iN hc2] | skip);(first | rw [iN hc3] | skip);(first | rw [iN hc5] | skip);(first | rw [iN hc7] | skip);first | done | rfl)
              | (try simp only [Bool.not_eq_true',Bool.not_eq_false'] at *
                 first
                 | (simp only [Ae,Bt,isV0, *,Bool.false_eq_true,↓reduceIte,Bool.true_or,Bool.or_true,Bool.false_or,Bool.or_false,Bool.true_and,Bool.and_true,Bool.false_and,Bool.and_false,Bool.not_true,Bool.not_false];done)
                 | (simp [Ae,Bt,isV0, *];done)
                 | (simp_all [Ae,Bt,isV0];done))
              | skip

end Go.Proofs.YtjedflcpjlgokaaGreatDoor
