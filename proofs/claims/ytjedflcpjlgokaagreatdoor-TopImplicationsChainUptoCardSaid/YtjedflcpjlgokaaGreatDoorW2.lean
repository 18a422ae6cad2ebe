/-
  Walks of layer 7. No condition.
-/
import Derived.Test.YtjedflcpjlgokaaGreatDoorAz
import Derived.Test.YtjedflcpjlgokaaGreatDoorW1
import Derived.KernelRfl
namespace Go.Proofs.YtjedflcpjlgokaaGreatDoor
open Go Go.Aw
set_option maxHeartbeats 400000
set_option maxRecDepth 20000
set_option linter.unusedVariables false
set_option linter.unusedSimpArgs false

theorem c127  : Ax Tryz.prog 174 [] (.agg (cV v0)):=by
 refine Ax.body (n:=2) Ai Tryz.func174 rfl rfl rfl fun H=>?_
 refine Ah ?_
 refine Qe (Am (l:=[.int .i64 0,.int .i64 0,.str []]) (by kernel_rfl)) ?_
 rintro _ _ ⟨b0,rfl,rfl⟩
 refine Do (Qp (Fr [Iq _,Iq _,.str _]) ?_)
 refine Cz 0 [Iq _,Iq _,.str _] (_::_) ?_
 refine Ag (AW.ret ?_)
 refine ⟨.inr rfl,[.agg [Iq _,Iq _,.str _]],.cons (.box _ _ _ 0 _ _ _ _ rfl rfl rfl rfl rfl rfl) <| .nil,.cons _ (.refl _),?_⟩
 rfl
theorem c128 (v w:Vl):Ax Tryz.prog 175 [.ptr (cV v),.ptr (cV w)] (.agg (cV (Il 1 v w))):=by
 refine Ax.body (n:=9) Ai Tryz.func175 rfl rfl rfl fun H=>?_
 refine Ah ?_
 refine Qe (Am (l:=[.int .i64 0,.int .i64 0,.str []]) (by kernel_rfl)) ?_
 rintro _ _ ⟨b2,rfl,rfl⟩
 refine Do (Qp V1 (Qp Bp (Qp V1 (Qp Bp ?_))))
 refine Qp (bA rfl rfl) ?_
 refine Qp (Fr [Iq _,Iq _,.str _]) ?_
 refine Cz 0 [Iq _,Iq _,.str _] (_::_) ?_
 refine Ag (AW.ret ?_)
 refine ⟨.inr rfl,[.agg [Iq _,Iq _,.str _]],.cons (.box _ _ _ 0 _ _ _ _ rfl rfl rfl rfl rfl rfl) <| .nil,.cons _ (.refl _),?_⟩
 rfl
theorem c129 (v w:Vl):Ax Tryz.prog 176 [.ptr (cV v),.ptr (cV w)] (.agg (cV (Il 2 v w))):=by
 refine Ax.body (n:=9) Ai Tryz.func176 rfl rfl rfl fun H=>?_
 refine Ah ?_
 refine Qe (Am (l:=[.int .i64 0,.int .i64 0,.str []]) (by kernel_rfl)) ?_
 rintro _ _ ⟨b2,rfl,rfl⟩
 refine Do (Qp V1 (Qp Bp (Qp V1 (Qp Bp ?_))))
 refine Qp (P_min rfl rfl) ?_
 refine Qp (Fr [Iq _,Iq _,.str _]) ?_
 refine Cz 0 [Iq _,Iq _,.str _] (_::_) ?_
 refine Ag (AW.ret ?_)
 refine ⟨.inr rfl,[.agg [Iq _,Iq _,.str _]],.cons (.box _ _ _ 0 _ _ _ _ rfl rfl rfl rfl rfl rfl) <| .nil,.cons _ (.refl _),?_⟩
 rfl
theorem c130 (v w:Vl):Ax Tryz.prog 177 [.ptr (cV v),.ptr (cV w)] (.agg (cV (Il 3 v w))):=by
 refine Ax.body (n:=9) Ai Tryz.func177 rfl rfl rfl fun H=>?_
 refine Ah ?_
 refine Qe (Am (l:=[.int .i64 0,.int .i64 0,.str []]) (by kernel_rfl)) ?_
 rintro _ _ ⟨b2,rfl,rfl⟩
 refine Do (Qp V1 (Qp Bp (Qp V1 (Qp Bp ?_))))
 refine Qp (vE rfl rfl) ?_
 refine Qp (Fr [Iq _,Iq _,.str _]) ?_
 refine Cz 0 [Iq _,Iq _,.str _] (_::_) ?_
 refine Ag (AW.ret ?_)
 refine ⟨.inr rfl,[.agg [Iq _,Iq _,.str _]],.cons (.box _ _ _ 0 _ _ _ _ rfl rfl rfl rfl rfl rfl) <| .nil,.cons _ (.refl _),?_⟩
 rfl
theorem c131 (v:Vl):Ax Tryz.prog 178 [.ptr (cV v)] (.agg (cV v)):=by
 refine Ax.body (n:=3) Ai Tryz.func178 rfl rfl rfl fun H=>?_
 refine Ah ?_
 refine Qe (Am (l:=[.int .i64 0,.int .i64 0,.str []]) (by kernel_rfl)) ?_
 rintro _ _ ⟨b1,rfl,rfl⟩
 refine Do (Qp (Cv [Iq _,Iq _,.str _]) ?_)
 refine Cz 0 [Iq _,Iq _,.str _] (_::_) ?_
 refine Ag (AW.ret ?_)
 refine ⟨.inr rfl,[.agg [Iq _,Iq _,.str _]],.cons (.box _ _ _ 0 _ _ _ _ rfl rfl rfl rfl rfl rfl) <| .nil,.cons _ (.refl _),?_⟩
 rfl
theorem c132 (v:Vl):Ax Tryz.prog 179 [.ptr (cV v)] (.agg (cV v)):=by
 refine Ax.body (n:=3) Ai Tryz.func179 rfl rfl rfl fun H=>?_
 refine Ah ?_
 refine Qe (Am (l:=[.int .i64 0,.int .i64 0,.str []]) (by kernel_rfl)) ?_
 rintro _ _ ⟨b1,rfl,rfl⟩
 refine Do (Qp (Cv [Iq _,Iq _,.str _]) ?_)
 refine Cz 0 [Iq _,Iq _,.str _] (_::_) ?_
 refine Ag (AW.ret ?_)
 refine ⟨.inr rfl,[.agg [Iq _,Iq _,.str _]],.cons (.box _ _ _ 0 _ _ _ _ rfl rfl rfl rfl rfl rfl) <| .nil,.cons _ (.refl _),?_⟩
 rfl
theorem c125_0 (v w:Vl):Ax Tryz.prog 167 [.int .i64 0,.agg (cV v),.agg (cV w)] (.agg (cV (Il 0 v w))):=by
 refine Ax.body (n:=16) Ai Tryz.func167 rfl rfl rfl fun H=>?_
 refine Ah (Qp (Gd [Iq _,Iq _,.str _]) (Qp (Gd [Iq _,Iq _,.str _]) ?_))
 refine Qe (Am (l:=[.int .i64 0,.int .i64 0,.str []]) (by kernel_rfl)) ?_
 rintro _ _ ⟨b6,rfl,rfl⟩
 refine Do ?_
 refine Qp (A9 (l:=[]) (l':=[.ptr _,.ptr _]) rfl rfl) ?_
 refine Qp (A9 (l:=[]) (l':=[.ptr _,.ptr _]) rfl rfl) ?_
 refine Qp (A9 (l:=[]) (l':=[.ptr _,.ptr _]) rfl rfl) ?_
 refine Qp (A9 (l:=[]) (l':=[.ptr _]) rfl rfl) ?_
 refine Qp (A9 (l:=[]) (l':=[.ptr _]) rfl rfl) ?_
 refine Qp (Jg (l:=[_,_,_,_,_,_]) Ai rfl rfl rfl rfl) ?_
 refine Qp A0 ?_
 refine Qp (Ih (c:=_) Ai rfl rfl rfl rfl rfl rfl rfl (by omega) (by omega) (rfl)) ?_
 refine Qp (Ec (by kernel_rfl) rfl rfl rfl (c127)) ?_
 refine Cz 0 [Iq _,Iq _,.str _] (_::_) ?_
 refine Ag (AW.ret ?_)
 refine ⟨.inr rfl,[.agg [Iq _,Iq _,.str _]],.cons (.box _ _ _ 0 _ _ _ _ rfl rfl rfl rfl rfl rfl) <| .nil,.cons _ (.refl _),?_⟩
 rfl
theorem c125_1 (v w:Vl):Ax Tryz.prog 167 [.int .i64 1,.agg (cV v),.agg (cV w)] (.agg (cV (Il 1 v w))):=by
 refine Ax.body (n:=16) Ai Tryz.func167 rfl rfl rfl fun H=>?_
 refine Ah (Qp (Gd [Iq _,Iq _,.str _]) (Qp (Gd [Iq _,Iq _,.str _]) ?_))
 refine Qe (Am (l:=[.int .i64 0,.int .i64 0,.str []]) (by kernel_rfl)) ?_
 rintro _ _ ⟨b6,rfl,rfl⟩
 refine Do ?_
 refine Qp (A9 (l:=[]) (l':=[.ptr _,.ptr _]) rfl rfl) ?_
 refine Qp (A9 (l:=[]) (l':=[.ptr _,.ptr _]) rfl rfl) ?_
 refine Qp (A9 (l:=[]) (l':=[.ptr _,.ptr _]) rfl rfl) ?_
 refine Qp (A9 (l:=[]) (l':=[.ptr _]) rfl rfl) ?_
 refine Qp (A9 (l:=[]) (l':=[.ptr _]) rfl rfl) ?_
 refine Qp (Jg (l:=[_,_,_,_,_,_]) Ai rfl rfl rfl rfl) ?_
 refine Qp A0 ?_
 refine Qp (Ih (c:=_) Ai rfl rfl rfl rfl rfl rfl rfl (by omega) (by omega) (rfl)) ?_
 refine Qp (Ec (by kernel_rfl) rfl rfl rfl (c128 v w)) ?_
 refine Cz 0 [Iq _,Iq _,.str _] (_::_) ?_
 refine Ag (AW.ret ?_)
 refine ⟨.inr rfl,[.agg [Iq _,Iq _,.str _]],.cons (.box _ _ _ 0 _ _ _ _ rfl rfl rfl rfl rfl rfl) <| .nil,.cons _ (.refl _),?_⟩
 rfl
theorem c125_2 (v w:Vl):Ax Tryz.prog 167 [.int .i64 2,.agg (cV v),.agg (cV w)] (.agg (cV (Il 2 v w))):=by
 refine Ax.body (n:=16) Ai Tryz.func167 rfl rfl rfl fun H=>?_
 refine Ah (Qp (Gd [Iq _,Iq _,.str _]) (Qp (Gd [Iq _,Iq _,.str _]) ?_))
 refine Qe (Am (l:=[.int .i64 0,.int .i64 0,.str []]) (by kernel_rfl)) ?_
 rintro _ _ ⟨b6,rfl,rfl⟩
 refine Do ?_
 refine Qp (A9 (l:=[]) (l':=[.ptr _,.ptr _]) rfl rfl) ?_
 refine Qp (A9 (l:=[]) (l':=[.ptr _,.ptr _]) rfl rfl) ?_
 refine Qp (A9 (l:=[]) (l':=[.ptr _,.ptr _]) rfl rfl) ?_
 refine Qp (A9 (l:=[]) (l':=[.ptr _]) rfl rfl) ?_
 refine Qp (A9 (l:=[]) (l':=[.ptr _]) rfl rfl) ?_
 refine Qp (Jg (l:=[_,_,_,_,_,_]) Ai rfl rfl rfl rfl) ?_
 refine Qp A0 ?_
 refine Qp (Ih (c:=_) Ai rfl rfl rfl rfl rfl rfl rfl (by omega) (by omega) (rfl)) ?_
 refine Qp (Ec (by kernel_rfl) rfl rfl rfl (c129 v w)) ?_
 refine Cz 0 [Iq _,Iq _,.str _] (_::_) ?_
 refine Ag (AW.ret ?_)
 refine ⟨.inr rfl,[.agg [Iq _,Iq _,.str _]],.cons (.box _ _ _ 0 _ _ _ _ rfl rfl rfl rfl rfl rfl) <| .nil,.cons _ (.refl _),?_⟩
 rfl
theorem c125_3 (v w:Vl):Ax Tryz.prog 167 [.int .i64 3,.agg (cV v),.agg (cV w)] (.agg (cV (Il 3 v w))):=by
 refine Ax.body (n:=16) Ai Tryz.func167 rfl rfl rfl fun H=>?_
 refine Ah (Qp (Gd [Iq _,Iq _,.str _]) (Qp (Gd [Iq _,Iq _,.str _]) ?_))
 refine Qe (Am (l:=[.int .i64 0,.int .i64 0,.str []]) (by kernel_rfl)) ?_
 rintro _ _ ⟨b6,rfl,rfl⟩
 refine Do ?_
 refine Qp (A9 (l:=[]) (l':=[.ptr _,.ptr _]) rfl rfl) ?_
 refine Qp (A9 (l:=[]) (l':=[.ptr _,.ptr _]) rfl rfl) ?_
 refine Qp (A9 (l:=[]) (l':=[.ptr _,.ptr _]) rfl rfl) ?_
 refine Qp (A9 (l:=[]) (l':=[.ptr _]) rfl rfl) ?_
 refine Qp (A9 (l:=[]) (l':=[.ptr _]) rfl rfl) ?_
 refine Qp (Jg (l:=[_,_,_,_,_,_]) Ai rfl rfl rfl rfl) ?_
 refine Qp A0 ?_
 refine Qp (Ih (c:=_) Ai rfl rfl rfl rfl rfl rfl rfl (by omega) (by omega) (rfl)) ?_
 refine Qp (Ec (by kernel_rfl) rfl rfl rfl (c130 v w)) ?_
 refine Cz 0 [Iq _,Iq _,.str _] (_::_) ?_
 refine Ag (AW.ret ?_)
 refine ⟨.inr rfl,[.agg [Iq _,Iq _,.str _]],.cons (.box _ _ _ 0 _ _ _ _ rfl rfl rfl rfl rfl rfl) <| .nil,.cons _ (.refl _),?_⟩
 rfl
theorem c125_4 (v w:Vl):Ax Tryz.prog 167 [.int .i64 4,.agg (cV v),.agg (cV w)] (.agg (cV (Il 4 v w))):=by
 refine Ax.body (n:=16) Ai Tryz.func167 rfl rfl rfl fun H=>?_
 refine Ah (Qp (Gd [Iq _,Iq _,.str _]) (Qp (Gd [Iq _,Iq _,.str _]) ?_))
 refine Qe (Am (l:=[.int .i64 0,.int .i64 0,.str []]) (by kernel_rfl)) ?_
 rintro _ _ ⟨b6,rfl,rfl⟩
 refine Do ?_
 refine Qp (A9 (l:=[]) (l':=[.ptr _,.ptr _]) rfl rfl) ?_
 refine Qp (A9 (l:=[]) (l':=[.ptr _,.ptr _]) rfl rfl) ?_
 refine Qp (A9 (l:=[]) (l':=[.ptr _,.ptr _]) rfl rfl) ?_
 refine Qp (A9 (l:=[]) (l':=[.ptr _]) rfl rfl) ?_
 refine Qp (A9 (l:=[]) (l':=[.ptr _]) rfl rfl) ?_
 refine Qp (Jg (l:=[_,_,_,_,_,_]) Ai rfl rfl rfl rfl) ?_
 refine Qp A0 ?_
 refine Qp (Ih (c:=_) Ai rfl rfl rfl rfl rfl rfl rfl (by omega) (by omega) (rfl)) ?_
 refine Qp (Ec (by kernel_rfl) rfl rfl rfl (c131 v)) ?_
 refine Cz 0 [Iq _,Iq _,.str _] (_::_) ?_
 refine Ag (AW.ret ?_)
 refine ⟨.inr rfl,[.agg [Iq _,Iq _,.str _]],.cons (.box _ _ _ 0 _ _ _ _ rfl rfl rfl rfl rfl rfl) <| .nil,.cons _ (.refl _),?_⟩
 rfl
theorem c125_5 (v w:Vl):Ax Tryz.prog 167 [.int .i64 5,.agg (cV v),.agg (cV w)] (.agg (cV (Il 5 v w))):=by
 refine Ax.body (n:=16) Ai Tryz.func167 rfl rfl rfl fun H=>?_
 refine Ah (Qp (Gd [Iq _,Iq _,.str _]) (Qp (Gd [Iq _,Iq _,.str _]) ?_))
 refine Qe (Am (l:=[.int .i64 0,.int .i64 0,.str []]) (by kernel_rfl)) ?_
 rintro _ _ ⟨b6,rfl,rfl⟩
 refine Do ?_
 refine Qp (A9 (l:=[]) (l':=[.ptr _,.ptr _]) rfl rfl) ?_
 refine Qp (A9 (l:=[]) (l':=[.ptr _,.ptr _]) rfl rfl) ?_
 refine Qp (A9 (l:=[]) (l':=[.ptr _,.ptr _]) rfl rfl) ?_
 refine Qp (A9 (l:=[]) (l':=[.ptr _]) rfl rfl) ?_
 refine Qp (A9 (l:=[]) (l':=[.ptr _]) rfl rfl) ?_
 refine Qp (Jg (l:=[_,_,_,_,_,_]) Ai rfl rfl rfl rfl) ?_
 refine Qp A0 ?_
 refine Qp (Ih (c:=_) Ai rfl rfl rfl rfl rfl rfl rfl (by omega) (by omega) (rfl)) ?_
 refine Qp (Ec (by kernel_rfl) rfl rfl rfl (c132 w)) ?_
 refine Cz 0 [Iq _,Iq _,.str _] (_::_) ?_
 refine Ag (AW.ret ?_)
 refine ⟨.inr rfl,[.agg [Iq _,Iq _,.str _]],.cons (.box _ _ _ 0 _ _ _ _ rfl rfl rfl rfl rfl rfl) <| .nil,.cons _ (.refl _),?_⟩
 rfl
theorem c125 (k:Int)(v w:Vl)(h:Dd k=true):Ax Tryz.prog 167 [.int .i64 k,.agg (cV v),.agg (cV w)] (.agg (cV (Il k v w))):=by
 simp only [Dd,Bool.and_eq_true,decide_eq_true_eq] at h
 have:k=0∨k=1∨k=2∨k=3∨k=4∨k=5:=by omega
 rcases this with rfl | rfl | rfl | rfl | rfl | rfl
 · exact c125_0 v w
 · exact c125_1 v w
 · exact c125_2 v w
 · exact c125_3 v w
 · exact c125_4 v w
 · exact c125_5 v w
theorem c118 (a c:Ac)(h:Dd a.kind=true):Ax Tryz.prog 159 [.agg (Vi a),.agg (Vi c)] (.agg (Vi (Em a c))):=by
  refine Ax.body (n:=30) Ai Tryz.func159 rfl rfl rfl fun H=>?_
  refine AW.seq (AW.region (Qp (Gd [Iq _,Iq _,Iq _,Iq _,.str _]) (Qp (Gd [Iq _,Iq _,Iq _,Iq _,.str _]) ?_)))
  refine Qe (Am (l:=[.int .i64 0,.int .i64 0,.int .i64 0,.int .i64 0,.str []]) (by kernel_rfl)) ?_
  rintro _ _ ⟨b4,rfl,rfl⟩
  refine AOL.nil (Ae (AW.seq (AW.block (AW.seq (AW.region (Qp Sl (Qp Bp (Qp A6 (Qp Bm ?_)))))))))
  refine AOL.nil (Ae (A3 (fun hc1=>?_) fun hc1=>?_))
  · skip
    refine AW.seq (AW.region (Qp (Cv [Iq _,Iq _,Iq _,Iq _,.str _]) ?_))
    refine Cz 0 [Iq _,Iq _,Iq _,Iq _,.str _] (_::_) ?_
    refine AOL.nil (Ae (AW.ret (A7 (Aj ?_))))
    refine ⟨.inr rfl,[.agg [Iq _,Iq _,Iq _,Iq _,.str _]],.cons (.box _ _ _ 0 _ _ _ _ rfl rfl rfl rfl rfl rfl) <| .nil,.cons _ (.refl _),?_⟩
    try simp only [Co,Bool.and_true] at *
    first
      | (simp only [Ad,Em,Vi,cV];(first | rw [if_pos hc1] | skip);first | done | rfl)
      | (try simp only [Bool.not_eq_true',Bool.not_eq_false'] at *
         first
         | (simp only [Ad,Em,Vi,cV, *,Bool.false_eq_true,↓reduceIte,Bool.true_or,Bool.or_true,Bool.false_or,Bool.or_false,Bool.true_and,Bool.and_true,Bool.false_and,Bool.and_false,Bool.not_true,Bool.not_false];done)
         | (simp [Ad,Em,Vi,cV, *];done)
         | (simp_all [Ad,Em,Vi,cV];done))
      | skip
  · skip
    refine AW.seq (AW.region (Qp Sl (Qp Bp (Qp A6 (Qp Bm (AOL.nil (Ae (A3 (fun hc2=>?_) fun hc2=>?_))))))))
    · skip
      refine AW.seq (AW.region (Qp (Cv [Iq _,Iq _,Iq _,Iq _,.str _]) ?_))
      refine Cz 0 [Iq _,Iq _,Iq _,Iq _,.str _] (_::_) ?_
      refine AOL.nil (Ae (AW.ret (A7 (Aj ?_))))
      refine ⟨.inr rfl,[.agg [Iq _,Iq _,Iq _,Iq _,.str _]],.cons (.box _ _ _ 0 _ _ _ _ rfl rfl rfl rfl rfl rfl) <| .nil,.cons _ (.refl _),?_⟩
      try simp only [Co,Bool.and_true] at *
      first
        | (simp only [Ad,Em,Vi,cV];(first | rw [iN hc1] | skip);(first | rw [if_pos hc2] | skip);first | done | rfl)
        | (try simp only [Bool.not_eq_true',Bool.not_eq_false'] at *
           first
           | (simp only [Ad,Em,Vi,cV, *,Bool.false_eq_true,↓reduceIte,Bool.true_or,Bool.or_true,Bool.false_or,Bool.or_false,Bool.true_and,Bool.and_true,Bool.false_and,Bool.and_false,Bool.not_true,Bool.not_false];done)
           | (simp [Ad,Em,Vi,cV, *];done)
           | (simp_all [Ad,Em,Vi,cV];done))
        | skip
    · skip
      refine AW.skip (Bv (Ae (AW.seq ?_)))
      refine AW.draw mixed (fun _=>True) trivial (by kernel_rfl) ?_
      refine Qn 0 rfl Qv (Qn 1 rfl Bp (Qn 2 rfl Sl (Qn 3 rfl Bp (Qn 4 rfl Sl (Qn 5 rfl Bp ?_)))))
      refine Qn 6 rfl (bA rfl rfl) ?_
      refine Qn 7 rfl Qv (Qn 8 rfl Bp (Qn 9 rfl J2 (Qn 10 rfl (Cv [Iq _,Iq _,.str _]) (Qn 11 rfl J2 (Qn 12 rfl (Cv [Iq _,Iq _,.str _]) ?_)))))
      refine Qn 13 rfl (Qc rfl (c125 a.kind a.val c.val h)) ?_
      refine Qn 14 rfl (Fr [Iq _,Iq _,Iq _,Iq _,.str _]) ?_
      refine Jb.eff _ _ 15 _ _ rfl (by kernel_rfl) rfl rfl (Df (k:=0) (v:=.agg _) (cs':=[Iq _,Iq _,Iq _,Iq _,.str _]) (H2:=_::_) Ai rfl rfl rfl rfl (rfl) rfl rfl rfl rfl) (fun _ _ _=>trivial) ?_
      rintro _ _ ⟨rfl,rfl⟩
      refine Jb.done _ _ (by kernel_rfl) ?_
      refine Ae (AW.ret ?_)
      refine ⟨.inr rfl,[.agg [Iq _,Iq _,Iq _,Iq _,.str _]],.cons (.box _ _ _ 0 _ _ _ _ rfl rfl rfl rfl rfl rfl) <| .nil,.cons _ (.refl _),?_⟩
      try simp only [Co,Bool.and_true] at *
      first
        | (simp only [Ad,Em,Vi,cV];(first | rw [iN hc1] | skip);(first | rw [iN hc2] | skip);first | done | rfl)
        | (try simp only [Bool.not_eq_true',Bool.not_eq_false'] at *
           first
           | (simp only [Ad,Em,Vi,cV, *,Bool.false_eq_true,↓reduceIte,Bool.true_or,Bool.or_true,Bool.false_or,Bool.or_false,Bool.true_and,Bool.and_true,Bool.false_and,Bool.and_false,Bool.not_true,Bool.not_false];done)
           | (simp [Ad,Em,Vi,cV, *];done)
           | (simp_all [Ad,Em,Vi,cV];done))
        | skip
theorem c126 (a:Ac):Ax Tryz.prog 168 [.agg (Vi a)] (.int .i64 (Bi a)):=by
  refine Ax.body (n:=77) Ai Tryz.func168 rfl rfl rfl fun H=>?_
  refine AW.seq (AW.region (Qp (Gd [Iq _,Iq _,Iq _,Iq _,.str _]) (Qp Ar (AOL.nil (Ae (AW.seq (AW.block (AW.seq (AW.region ?_)))))))))
  refine Qp Qv (Qp Bp ?_)
  refine Qp (Qc rfl (c114 a.kind)) ?_
  refine Qp Hp (Qp Bm (AOL.nil (Ae (A3 (fun hc1=>?_) fun hc1=>?_))))
  · skip
    refine AW.seq (AW.region (Qp Ar (AOL.nil (Ae (AW.ret (A7 (Aj ?_)))))))
    refine Qr (Iq _) ?_
    try simp only [Co,Bool.and_true] at *
    first
      | (simp only [Ad,Bi];(first | rw [if_pos hc1] | skip);first | done | rfl)
      | (try simp only [Bool.not_eq_true',Bool.not_eq_false'] at *
         first
         | (simp only [Ad,Bi,isV0, *,Bool.false_eq_true,↓reduceIte,Bool.true_or,Bool.or_true,Bool.false_or,Bool.or_false,Bool.true_and,Bool.and_true,Bool.false_and,Bool.and_false,Bool.not_true,Bool.not_false];done)
         | (simp [Ad,Bi,isV0, *];done)
         | (simp_all [Ad,Bi,isV0];done))
      | skip
  · skip
    refine AW.seq (AW.region (Qp Sl (Qp Bp (Qp Ck (Qp Bu (Qg [] Qw Sl (Qg [(15,_)] Qw Bp (Qg [(16,_)] Qw G6 (Qp E2 ?_)))))))))
    refine Qp Bm (AOL.nil (Ae (A3 (fun hc2=>?_) fun hc2=>?_)))
    · skip
      refine AW.seq (AW.region (Qp Ar (AOL.nil (Ae (AW.ret (A7 (Aj ?_)))))))
      refine Qr (Iq _) ?_
      try simp only [Co,Bool.and_true] at *
      first
        | (simp only [Ad,Bi];(first | rw [iN hc1] | skip);(first | rw [if_pos hc2] | skip);first | done | rfl)
        | (try simp only [Bool.not_eq_true',Bool.not_eq_false'] at *
           first
           | (simp only [Ad,Bi,isV0, *,Bool.false_eq_true,↓reduceIte,Bool.true_or,Bool.or_true,Bool.false_or,Bool.or_false,Bool.true_and,Bool.and_true,Bool.false_and,Bool.and_false,Bool.not_true,Bool.not_false];done)
           | (simp [Ad,Bi,isV0, *];done)
           | (simp_all [Ad,Bi,isV0];done))
        | skip
    · skip
      refine AW.skip (Bv (Ae (AW.seq (AW.region (Qp Bm (AOL.nil (Ae (AW.seq (AW.block ?_)))))))))
      refine AW.seq (AW.region (Qp Sl (Qp Bp (Qp A6 (Qp Bu (Qg [] Qw Qv (Qg [(35,_)] Qw Bp (Qg [(36,_)] Qw A6 (Qp E2 ?_)))))))))
      refine Qp Bm (AOL.nil (Ae (A3 (fun hc3=>?_) fun hc3=>?_)))
      · skip
        refine AW.region (Qp J2 (Qp (Cv [Iq _,Iq _,.str _]) (Qp (Fr [Iq _,Iq _,.str _]) ?_)))
        refine Qp (Ow Ai rfl rfl rfl rfl rfl) ?_
        refine Qp Bm (AOL.nil (Bv (Ae (AW.seq (AW.seq (AW.region (Qp Bu (Qp Hp (AOL.nil ?_)))))))))
        refine Ae (A3 (fun hc4=>?_) fun hc4=>?_)
        · skip
          refine AW.seq (AW.region (Qp Ar (AOL.nil (Ae (Du ?_)))))
          refine Qr (Iq _) ?_
          try simp only [Co,Bool.and_true] at *
          first
            | (simp only [Ad,Bi];(first | rw [iN hc1] | skip);(first | rw [iN hc2] | skip);(first | rw [if_pos hc3] | skip);(first | rw [if_pos hc4] | skip);first | done | rfl)
            | (try simp only [Bool.not_eq_true',Bool.not_eq_false'] at *
               first
               | (simp only [Ad,Bi,isV0, *,Bool.false_eq_true,↓reduceIte,Bool.true_or,Bool.or_true,Bool.false_or,Bool.or_false,Bool.true_and,Bool.and_true,Bool.false_and,Bool.and_false,Bool.not_true,Bool.not_false];done)
               | (simp [Ad,Bi,isV0, *];done)
               | (simp_all [Ad,Bi,isV0];done))
            | skip
        · skip
          refine By (AW.seq (AW.region (Qp Ar (AOL.nil (Ae (AW.ret ?_))))))
          refine Qr (Iq _) ?_
          try simp only [Co,Bool.and_true] at *
          first
            | (simp only [Ad,Bi];(first | rw [iN hc1] | skip);(first | rw [iN hc2] | skip);(first | rw [if_pos hc3] | skip);(first | rw [iN hc4] | skip);first | done | rfl)
            | (try simp only [Bool.not_eq_true',Bool.not_eq_false'] at *
               first
               | (simp only [Ad,Bi,isV0, *,Bool.false_eq_true,↓reduceIte,Bool.true_or,Bool.or_true,Bool.false_or,Bool.or_false,Bool.true_and,Bool.and_true,Bool.false_and,Bool.and_false,Bool.not_true,Bool.not_false];done)
               | (simp [Ad,Bi,isV0, *];done)
               | (simp_all [Ad,Bi,isV0];done))
            | skip
      · skip
        refine AW.seq (AW.region (Qp Qv (Qp Bp (Qp A6 (Qp Bm (AOL.nil (Ae (A3 (fun hc5=>?_) fun hc5=>?_))))))))
        · skip
          refine AW.seq (AW.region (Qp Sl (Qp Bp ?_)))
          refine Qp (sR rfl rfl rfl (by have j0:=hc2;simp only [Bool.or_eq_false_iff,Bool.and_eq_true,decide_eq_false_iff_not,decide_eq_true_eq] at j0;constructor <;> omega)) ?_
          refine Qp Ar (AOL.nil (Ae (AW.region (Qp J2 (Qp J2 (Qp Bp (Qp A6 (Qp Bu (Qg [] Qw J2 ?_)))))))))
          refine Qg [(55,_)] Qw Qf7 (Qg [(56,_)] Qw Vb ?_)
          refine AOL.Aaf (y:=.bool _) _ [(57,_)] rfl (oE.all ⟨Ent.Aab _ _,trivial⟩) (fun hG=>Ot rfl rfl) rfl ?_
          refine Qp Gg (Qp Bu (Qg [] Qw J2 (Qg [(61,_)] Qw V1 (Qg [(62,_)] Qw Bp (Qg [] Qw A0 ?_)))))
          refine AOL.Aaf (y:=Iq _) _ [(64,_)] rfl (oE.all ⟨Ent.Aab _ _,trivial⟩) (fun hG=>V5 rfl rfl (by have j0:=hc2;simp only [Bool.or_eq_false_iff,Bool.and_eq_true,decide_eq_false_iff_not,decide_eq_true_eq] at j0;constructor <;> omega)) rfl ?_
          refine AOL.Aaf (y:=.bool _) _ [(63,_),(65,_)] rfl (oE.all ⟨Ent.Aab _ _,Ent.Aab _ _,trivial⟩) (fun hG=>Ua rfl rfl) rfl ?_
          refine Qp Gg (Qp Bu (Qg [] Qw J2 (Qg [(69,_)] Qw V1 (Qg [(70,_)] Qw Bp (Qg [] Qw A0 ?_)))))
          refine AOL.Aaf (y:=.bool _) _ [(71,_),(72,_)] rfl (oE.all ⟨Ent.Aab _ _,Ent.Aab _ _,trivial⟩) (fun hG=>sC rfl rfl) rfl ?_
          refine Qp Gg (Qp Bm (AOL.nil (Bv (Ae (AW.seq (AW.seq (AW.region (Qp Bu (Qp Hp ?_)))))))))
          refine AOL.nil (Ae (A3 (fun hc6=>?_) fun hc6=>?_))
          · skip
            refine AW.seq (AW.region (Qp Ar (AOL.nil (Ae (Du ?_)))))
            refine Qr (Iq _) ?_
            try simp only [Co,Bool.and_true] at *
            first
              | (simp only [Ad,Bi];(first | rw [iN hc1] | skip);(first | rw [iN hc2] | skip);(first | rw [iN hc3] | skip);(first | rw [if_pos hc5] | skip);(first | rw [if_pos hc6] | skip);first | done | rfl)
              | (try simp only [Bool.not_eq_true',Bool.not_eq_false'] at *
                 first
                 | (simp only [Ad,Bi,isV0, *,Bool.false_eq_true,↓reduceIte,Bool.true_or,Bool.or_true,Bool.false_or,Bool.or_false,Bool.true_and,Bool.and_true,Bool.false_and,Bool.and_false,Bool.not_true,Bool.not_false];done)
                 | (simp [Ad,Bi,isV0, *];done)
                 | (simp_all [Ad,Bi,isV0];done))
              | skip
          · skip
            refine By (AW.seq (AW.region (Qp Ar (AOL.nil (Ae (AW.ret ?_))))))
            refine Qr (Iq _) ?_
            try simp only [Co,Bool.and_true] at *
            first
              | (simp only [Ad,Bi];(first | rw [iN hc1] | skip);(first | rw [iN hc2] | skip);(first | rw [iN hc3] | skip);(first | rw [if_pos hc5] | skip);(first | rw [iN hc6] | skip);first | done | rfl)
              | (try simp only [Bool.not_eq_true',Bool.not_eq_false'] at *
                 first
                 | (simp only [Ad,Bi,isV0, *,Bool.false_eq_true,↓reduceIte,Bool.true_or,Bool.or_true,Bool.false_or,Bool.or_false,Bool.true_and,Bool.and_true,Bool.false_and,Bool.and_false,Bool.not_true,Bool.not_false];done)
                 | (simp [Ad,Bi,isV0, *];done)
                 | (simp_all [Ad,Bi,isV0];done))
              | skip
        · skip
          refine AW.region (Qp J2 (Qp (Cv [Iq _,Iq _,.str _]) ?_))
          refine Qp (Qc rfl (c94 a.val)) ?_
          refine Qp A6 (Qp Bu (Qg [] Qw Qv (Qg [(24,_)] Qw Bp (Qg [] Qw J2 (Qg [(26,_)] Qw (Cv [Iq _,Iq _,.str _]) ?_)))))
          refine AOL.Aaf (y:=.bool _) _ [(25,_),(27,_)] rfl (oE.all ⟨Ent.Aab _ _,Ent.Aab _ _,trivial⟩) (fun hG=>E6 (by kernel_rfl) rfl rfl (c124 a.kind a.val)) rfl ?_
          refine Qp Gg (Qp Bm (AOL.nil (Bv (Ae (AW.seq (AW.seq (AW.region (Qp Bu (Qp Hp ?_)))))))))
          refine AOL.nil (Ae (A3 (fun hc7=>?_) fun hc7=>?_))
          · skip
            refine AW.seq (AW.region (Qp Ar (AOL.nil (Ae (Du ?_)))))
            refine Qr (Iq _) ?_
            try simp only [Co,Bool.and_true] at *
            first
              | (simp only [Ad,Bi];(first | rw [iN hc1] | skip);(first | rw [iN hc2] | skip);(first | rw [iN hc3] | skip);(first | rw [iN hc5] | skip);(first | rw [if_pos hc7] | skip);first | done | rfl)
              | (try simp only [Bool.not_eq_true',Bool.not_eq_false'] at *
                 first
                 | (simp only [Ad,Bi,isV0, *,Bool.false_eq_true,↓reduceIte,Bool.true_or,Bool.or_true,Bool.false_or,Bool.or_false,Bool.true_and,Bool.and_true,Bool.false_and,Bool.and_false,Bool.not_true,Bool.not_false];done)
                 | (simp [Ad,Bi,isV0, *];done)
                 | (simp_all [Ad,Bi,isV0];done))
              | skip
          · skip
            refine By (AW.seq (AW.region (Qp Ar (AOL.nil (Ae (AW.ret ?_))))))
            refine Qr (Iq _) ?_
            try simp only [Co,Bool.and_true] at *
            first
              | (simp only [Ad,Bi];(first | rw [iN hc1] | skip);(first | rw [iN hc2] | skip);(first | rw [iN hc3] | skip);(first | rw [iN hc5] | skip);(first | rw [iN hc7] | skip);first | done | rfl)
              | (try simp only [Bool.not_eq_true',Bool.not_eq_false'] at *
                 first
                 | (simp only [Ad,Bi,isV0, *,Bool.false_eq_true,↓reduceIte,Bool.true_or,Bool.or_true,Bool.false_or,Bool.or_false,Bool.true_and,Bool.and_true,Bool.false_and,Bool.and_false,Bool.not_true,Bool.not_false];done)
                 | (simp [Ad,Bi,isV0, *];done)
                 | (simp_all [Ad,Bi,isV0];done))
              | skip

end Go.Proofs.YtjedflcpjlgokaaGreatDoor
