/-
  Several texts in one: Y1, Y6b. No condition.
-/
import Derived.Test.YtkddpedfbicbeaaGreatDoorK01
import Derived.Test.YtkddpedfbicbeaaGreatDoorK02
import Derived.Test.YtkddpedfbicbeaaGreatDoorK05
import Derived.Test.YtkddpedfbicbeaaGreatDoorK07
import Derived.KernelRfl
import Derived.Test.YtkddpedfbicbeaaGreatDoorK08
import Derived.Test.YtkddpedfbicbeaaGreatDoorK14
set_option linter.unusedVariables false
set_option linter.unusedSimpArgs false
namespace Go.Proofs.YtkddpedfbicbeaaGreatDoor
open Go Go.Aw
set_option maxHeartbeats 3200000
set_option maxRecDepth 20000

theorem bE (op:Int)(x y:Ex):Ax Tryz.prog 91 [.int .i64 op,.agg (cE x),.agg (cE y)] (.agg (cE (two op x y))):=by
 refine Ax.body (n:=12) Ai Tryz.func91 rfl rfl rfl fun H=>?_
 refine Ah (Qp K9 (Qp K9 ?_))
 refine Qe (Al (l:=[.int .i64 0,.sl 8 [],.int .i64 0,.int .i64 0,.int .i64 0,.int .i64 0,.int .i64 0,.str []]) (by kernel_rfl)) ?_
 rintro _ _ ⟨b6,rfl,rfl⟩
 refine Df (Qp A2 (Qp Dy (Qp Dy ?_)))
 refine Qp (A1 (es:=[[Iq _,_,Iq _,Iq _,Iq _,Iq _,Iq _,.str _],[Iq _,_,Iq _,Iq _,Iq _,Iq _,Iq _,.str _]]) Ai rfl rfl rfl rfl rfl rfl rfl rfl rfl) ?_
 refine Qp (Eo [Iq _,_,Iq _,Iq _,Iq _,Iq _,Iq _,.str _]) (Cn 0 [Iq _,_,Iq _,Iq _,Iq _,Iq _,Iq _,.str _] (_::_) (Ag (AW.ret ?_)))
 refine ⟨.inr rfl,[.agg [Iq _,_,Iq _,Iq _,Iq _,Iq _,Iq _,.str _]],.cons (.box _ _ _ 0 _ _ _ _ rfl rfl rfl rfl rfl rfl) <| .nil,.cons _ (.refl _),?_⟩
 rw [Zk];rfl
theorem Lg (op:Int)(x y:Ex):Ax Tryz.prog 28 [.int .i64 op,.agg (cE x),.agg (cE y)] (.agg (cE (two op x y))):=by
 refine Ax.body (n:=12) Ai Tryz.func28 rfl rfl rfl fun H=>?_
 refine Ah (Qp K9 (Qp K9 ?_))
 refine Qe (Al (l:=[.int .i64 0,.sl 8 [],.int .i64 0,.int .i64 0,.int .i64 0,.int .i64 0,.int .i64 0,.str []]) (by kernel_rfl)) ?_
 rintro _ _ ⟨b6,rfl,rfl⟩
 refine Df (Qp A2 (Qp Dy (Qp Dy ?_)))
 refine Qp (A1 (es:=[[Iq _,_,Iq _,Iq _,Iq _,Iq _,Iq _,.str _],[Iq _,_,Iq _,Iq _,Iq _,Iq _,Iq _,.str _]]) Ai rfl rfl rfl rfl rfl rfl rfl rfl rfl) ?_
 refine Qp (Eo [Iq _,_,Iq _,Iq _,Iq _,Iq _,Iq _,.str _]) (Cn 0 [Iq _,_,Iq _,Iq _,Iq _,Iq _,Iq _,.str _] (_::_) (Ag (AW.ret ?_)))
 refine ⟨.inr rfl,[.agg [Iq _,_,Iq _,Iq _,Iq _,Iq _,Iq _,.str _]],.cons (.box _ _ _ 0 _ _ _ _ rfl rfl rfl rfl rfl rfl) <| .nil,.cons _ (.refl _),?_⟩
 rw [Zk];rfl
theorem l_not (x:Ex):Ax Tryz.prog 42 [.agg (cE x)] (.agg (cE (Oq x))):=by
 refine Ax.body (n:=6) Ai Tryz.func42 rfl rfl rfl fun H=>?_
 refine Ah (Qp K9 ?_)
 refine Qe (Al (l:=[.int .i64 0,.sl 8 [],.int .i64 0,.int .i64 0,.int .i64 0,.int .i64 0,.int .i64 0,.str []]) (by kernel_rfl)) ?_
 rintro _ _ ⟨b2,rfl,rfl⟩
 refine Df (Qp Dy ?_)
 refine Qp (A1 (es:=[[Iq _,_,Iq _,Iq _,Iq _,Iq _,Iq _,.str _]]) Ai rfl rfl rfl rfl rfl rfl rfl rfl rfl) ?_
 refine Qp (Eo [Iq _,_,Iq _,Iq _,Iq _,Iq _,Iq _,.str _]) (Cn 0 [Iq _,_,Iq _,Iq _,Iq _,Iq _,Iq _,.str _] (_::_) (Ag (AW.ret ?_)))
 refine ⟨.inr rfl,[.agg [Iq _,_,Iq _,Iq _,Iq _,Iq _,Iq _,.str _]],.cons (.box _ _ _ 0 _ _ _ _ rfl rfl rfl rfl rfl rfl) <| .nil,.cons _ (.refl _),?_⟩
 rw [aE];rfl
theorem nG (x:Bool):Ax Tryz.prog 96 [.bool x] (.agg (cE (Em x))):=by
 refine Ax.body (n:=6) Ai Tryz.func96 rfl rfl rfl fun H=>?_
 refine Ah ?_
 refine Qe (Al (l:=[.int .i64 0,.sl 8 [],.int .i64 0,.int .i64 0,.int .i64 0,.int .i64 0,.int .i64 0,.str []]) (by kernel_rfl)) ?_
 rintro _ _ ⟨b2,rfl,rfl⟩
 refine Df (Qp Br ?_)
 refine Qp (Qc rfl (c75 x)) ?_
 refine Qp (Eo [Iq _,_,Iq _,Iq _,Iq _,Iq _,Iq _,.str _]) (Cn 0 [Iq _,_,Iq _,Iq _,Iq _,Iq _,Iq _,.str _] (_::_) (Ag (AW.ret ?_)))
 refine ⟨.inr rfl,[.agg [Iq _,_,Iq _,Iq _,Iq _,Iq _,Iq _,.str _]],.cons (.box _ _ _ 0 _ _ _ _ rfl rfl rfl rfl rfl rfl) <| .nil,.cons _ (.refl _),?_⟩
 rfl
theorem O4 (n:Int):Ax Tryz.prog 41 [.int .i64 n] (.agg (cE (Ov ⟨0,n,[]⟩))):=by
 refine Ax.body (n:=6) Ai Tryz.func41 rfl rfl rfl fun H=>?_
 refine Ah ?_
 refine Qe (Al (l:=[.int .i64 0,.sl 8 [],.int .i64 0,.int .i64 0,.int .i64 0,.int .i64 0,.int .i64 0,.str []]) (by kernel_rfl)) ?_
 rintro _ _ ⟨b2,rfl,rfl⟩
 refine Df (Qp A2 (Qp (Eo [Iq _,Iq _,.str _]) (Qp (Eo [Iq _,_,Iq _,Iq _,Iq _,Iq _,Iq _,.str _]) (Cn 0 [Iq _,_,Iq _,Iq _,Iq _,Iq _,Iq _,.str _] (_::_) (Ag (AW.ret ?_))))))
 refine ⟨.inr rfl,[.agg [Iq _,_,Iq _,Iq _,Iq _,Iq _,Iq _,.str _]],.cons (.box _ _ _ 0 _ _ _ _ rfl rfl rfl rfl rfl rfl) <| .nil,.cons _ (.refl _),?_⟩
 rfl
theorem Fy (v:Int):Ax Tryz.prog 40 [.int .i64 v] (.agg (cE ⟨1,[],v,1,0,v0⟩)):=by
 refine Ax.body (n:=5) Ai Tryz.func40 rfl rfl rfl fun H=>?_
 refine Ah ?_
 refine Qe (Al (l:=[.int .i64 0,.sl 8 [],.int .i64 0,.int .i64 0,.int .i64 0,.int .i64 0,.int .i64 0,.str []]) (by kernel_rfl)) ?_
 rintro _ _ ⟨b2,rfl,rfl⟩
 refine Df (Qp A2 (Qp (Eo [Iq _,_,Iq _,Iq _,Iq _,Iq _,Iq _,.str _]) (Cn 0 [Iq _,_,Iq _,Iq _,Iq _,Iq _,Iq _,.str _] (_::_) (Ag (AW.ret ?_)))))
 refine ⟨.inr rfl,[.agg [Iq _,_,Iq _,Iq _,Iq _,Iq _,Iq _,.str _]],.cons (.box _ _ _ 0 _ _ _ _ rfl rfl rfl rfl rfl rfl) <| .nil,.cons _ (.refl _),?_⟩
 rfl
theorem R3 (v:Int):Ax Tryz.prog 48 [.int .i64 v] (.agg (cE ⟨1,[],v,0,0,v0⟩)):=by
 refine Ax.body (n:=5) Ai Tryz.func48 rfl rfl rfl fun H=>?_
 refine Ah ?_
 refine Qe (Al (l:=[.int .i64 0,.sl 8 [],.int .i64 0,.int .i64 0,.int .i64 0,.int .i64 0,.int .i64 0,.str []]) (by kernel_rfl)) ?_
 rintro _ _ ⟨b2,rfl,rfl⟩
 refine Df (Qp A2 (Qp (Eo [Iq _,_,Iq _,Iq _,Iq _,Iq _,Iq _,.str _]) (Cn 0 [Iq _,_,Iq _,Iq _,Iq _,Iq _,Iq _,.str _] (_::_) (Ag (AW.ret ?_)))))
 refine ⟨.inr rfl,[.agg [Iq _,_,Iq _,Iq _,Iq _,Iq _,Iq _,.str _]],.cons (.box _ _ _ 0 _ _ _ _ rfl rfl rfl rfl rfl rfl) <| .nil,.cons _ (.refl _),?_⟩
 rfl
theorem d_neg (e:Ex)(hn:C3 e=0):Ax Tryz.prog 58 [.agg (cE e)] (.agg (cE (Fc e))):=by
 revert hn
 induction e using Ex.Abu
 rename_i e ih
 intro hn
 have hz:=Be hn
 refine Ax.body (n:=73) Ai Tryz.func58 rfl rfl rfl fun H=>?_
 refine Ah (Qp K9 ?_)
 refine Qe (Al (l:=[.int .i64 0,.sl 8 [],.int .i64 0,.int .i64 0,.int .i64 0,.int .i64 0,.int .i64 0,.str []]) (by kernel_rfl)) ?_
 rintro _ _ ⟨b2,rfl,rfl⟩
 refine Ag (AW.seq (Ah (Qp Ku (Qp Bt (Ag (AW.block (Ah (Qp A7 (Qp Bg ?_)))))))))
 refine Ag (A5 (fun hc1=>?_) fun hc1=>?_)
 ·
  have hop:=eq_of_beq hc1
  have hl2:=Dg hz.1 (by omega)
  have h00:0<e.args.length:=by omega
  refine AW.seq ?_
  refine AW.draw mixed (fun _=>True) trivial (by kernel_rfl) ?_
  refine Qn 0 rfl K3 (Qn 1 rfl Dk ?_)
  refine Qn 2 rfl (Af (c:=[Iq _,_,Iq _,Iq _,Iq _,Iq _,Iq _,.str _]) Ai rfl rfl rfl rfl rfl rfl (by decide) (Fo h00)) ?_
  refine Qn 3 rfl Dy ?_
  refine Qn 4 rfl (Qc rfl (ih _ (A6 h00) (hz.2 _ (A6 h00)))) ?_
  refine Qn 5 rfl K3 (Qn 6 rfl Dk ?_)
  refine Qn 7 rfl (Af (c:=[Iq _,_,Iq _,Iq _,Iq _,Iq _,Iq _,.str _]) Ai rfl rfl rfl rfl rfl rfl (by decide) (Ib hl2)) ?_
  refine Qn 8 rfl Dy ?_
  refine Qn 9 rfl (Qc rfl (ih _ (Bl hl2) (hz.2 _ (Bl hl2)))) ?_
  refine Qn 10 rfl (Qc rfl (bE 11 _ _)) ?_
  refine Ju.eff _ _ 11 _ _ rfl (by kernel_rfl) rfl rfl (C6 (k:=0) (v:=.agg _) (cs':=[Iq _,_,Iq _,Iq _,Iq _,Iq _,Iq _,.str _]) (H2:=_::_) Ai rfl rfl rfl rfl (rfl) rfl rfl rfl rfl) (fun _ _ _=>trivial) ?_
  rintro _ _ ⟨rfl,rfl⟩
  refine Ju.done _ _ (by kernel_rfl) ?_
  refine Ae (AW.ret (Bc (Aj ?_)))
  refine ⟨.inr rfl,[.agg [Iq _,_,Iq _,Iq _,Iq _,Iq _,Iq _,.str _]],.cons (.box _ _ _ 0 _ _ _ _ rfl rfl rfl rfl rfl rfl) <| .nil,.cons _ (.refl _),?_⟩
  rw [wX hc1 hl2];rfl
 ·
  refine Ah (Qp A7 (Qp Bg (Ag (A5 (fun hc2=>?_) fun hc2=>?_))))
  ·
   have hop:=eq_of_beq hc2
   have hl2:=Dg hz.1 (by omega)
   have h00:0<e.args.length:=by omega
   refine AW.seq ?_
   refine AW.draw mixed (fun _=>True) trivial (by kernel_rfl) ?_
   refine Qn 0 rfl K3 (Qn 1 rfl Dk ?_)
   refine Qn 2 rfl (Af (c:=[Iq _,_,Iq _,Iq _,Iq _,Iq _,Iq _,.str _]) Ai rfl rfl rfl rfl rfl rfl (by decide) (Fo h00)) ?_
   refine Qn 3 rfl Dy ?_
   refine Qn 4 rfl (Qc rfl (ih _ (A6 h00) (hz.2 _ (A6 h00)))) ?_
   refine Qn 5 rfl K3 (Qn 6 rfl Dk ?_)
   refine Qn 7 rfl (Af (c:=[Iq _,_,Iq _,Iq _,Iq _,Iq _,Iq _,.str _]) Ai rfl rfl rfl rfl rfl rfl (by decide) (Ib hl2)) ?_
   refine Qn 8 rfl Dy ?_
   refine Qn 9 rfl (Qc rfl (ih _ (Bl hl2) (hz.2 _ (Bl hl2)))) ?_
   refine Qn 10 rfl (Qc rfl (bE 10 _ _)) ?_
   refine Ju.eff _ _ 11 _ _ rfl (by kernel_rfl) rfl rfl (C6 (k:=0) (v:=.agg _) (cs':=[Iq _,_,Iq _,Iq _,Iq _,Iq _,Iq _,.str _]) (H2:=_::_) Ai rfl rfl rfl rfl (rfl) rfl rfl rfl rfl) (fun _ _ _=>trivial) ?_
   rintro _ _ ⟨rfl,rfl⟩
   refine Ju.done _ _ (by kernel_rfl) ?_
   refine Ae (AW.ret (Bc (Aj ?_)))
   refine ⟨.inr rfl,[.agg [Iq _,_,Iq _,Iq _,Iq _,Iq _,Iq _,.str _]],.cons (.box _ _ _ 0 _ _ _ _ rfl rfl rfl rfl rfl rfl) <| .nil,.cons _ (.refl _),?_⟩
   rw [Aat hc1 hc2 hl2];rfl
  ·
   refine Ah (Qp A7 (Qp Bg (Ag (A5 (fun hc3=>?_) fun hc3=>?_))))
   ·
    have h00:=Wa hz.1 (eq_of_beq hc3)
    refine Ah (Qp K3 (Qp Dk ?_))
    refine Qp (Af (c:=[Iq _,_,Iq _,Iq _,Iq _,Iq _,Iq _,.str _]) Ai rfl rfl rfl rfl rfl rfl (by decide) (Fo h00)) ?_
    refine Qp Dy (Cn 0 [Iq _,_,Iq _,Iq _,Iq _,Iq _,Iq _,.str _] (_::_) (Ag (AW.ret (Bc (Aj ?_)))))
    refine ⟨.inr rfl,[.agg [Iq _,_,Iq _,Iq _,Iq _,Iq _,Iq _,.str _]],.cons (.box _ _ _ 0 _ _ _ _ rfl rfl rfl rfl rfl rfl) <| .nil,.cons _ (.refl _),?_⟩
    rw [K4,Vo,Ci hc1,Ci hc2,if_pos hc3];rfl
   ·
    refine Ah (Qp A7 (Qp Bg (Ag (A5 (fun hc4=>?_) fun hc4=>?_))))
    ·
     have hop:=eq_of_beq hc4
     have hl2:=Dg hz.1 (by omega)
     have h00:0<e.args.length:=by omega
     refine AW.seq ?_
     refine AW.draw mixed (fun _=>True) trivial (by kernel_rfl) ?_
     refine Qn 0 rfl K3 (Qn 1 rfl Dk ?_)
     refine Qn 2 rfl (Af (c:=[Iq _,_,Iq _,Iq _,Iq _,Iq _,Iq _,.str _]) Ai rfl rfl rfl rfl rfl rfl (by decide) (Ib hl2)) ?_
     refine Qn 3 rfl Dy (Qn 4 rfl K3 (Qn 5 rfl Dk ?_))
     refine Qn 6 rfl (Af (c:=[Iq _,_,Iq _,Iq _,Iq _,Iq _,Iq _,.str _]) Ai rfl rfl rfl rfl rfl rfl (by decide) (Fo h00)) ?_
     refine Qn 7 rfl Dy ?_
     refine Qn 8 rfl (Qc rfl (bE 8 _ _)) ?_
     refine Ju.eff _ _ 9 _ _ rfl (by kernel_rfl) rfl rfl (C6 (k:=0) (v:=.agg _) (cs':=[Iq _,_,Iq _,Iq _,Iq _,Iq _,Iq _,.str _]) (H2:=_::_) Ai rfl rfl rfl rfl (rfl) rfl rfl rfl rfl) (fun _ _ _=>trivial) ?_
     rintro _ _ ⟨rfl,rfl⟩
     refine Ju.done _ _ (by kernel_rfl) ?_
     refine Ae (AW.ret (Bc (Aj ?_)))
     refine ⟨.inr rfl,[.agg [Iq _,_,Iq _,Iq _,Iq _,Iq _,Iq _,.str _]],.cons (.box _ _ _ 0 _ _ _ _ rfl rfl rfl rfl rfl rfl) <| .nil,.cons _ (.refl _),?_⟩
     rw [K4,Vo,Ci hc1,Ci hc2,Ci hc3,if_pos hc4];rfl
    ·
     refine Ah (Qp A7 (Qp Bg (Ag (A5 (fun hc5=>?_) fun hc5=>?_))))
     ·
      have hop:=eq_of_beq hc5
      have hl2:=Dg hz.1 (by omega)
      have h00:0<e.args.length:=by omega
      refine AW.seq ?_
      refine AW.draw mixed (fun _=>True) trivial (by kernel_rfl) ?_
      refine Qn 0 rfl K3 (Qn 1 rfl Dk ?_)
      refine Qn 2 rfl (Af (c:=[Iq _,_,Iq _,Iq _,Iq _,Iq _,Iq _,.str _]) Ai rfl rfl rfl rfl rfl rfl (by decide) (Ib hl2)) ?_
      refine Qn 3 rfl Dy (Qn 4 rfl K3 (Qn 5 rfl Dk ?_))
      refine Qn 6 rfl (Af (c:=[Iq _,_,Iq _,Iq _,Iq _,Iq _,Iq _,.str _]) Ai rfl rfl rfl rfl rfl rfl (by decide) (Fo h00)) ?_
      refine Qn 7 rfl Dy ?_
      refine Qn 8 rfl (Qc rfl (bE 7 _ _)) ?_
      refine Ju.eff _ _ 9 _ _ rfl (by kernel_rfl) rfl rfl (C6 (k:=0) (v:=.agg _) (cs':=[Iq _,_,Iq _,Iq _,Iq _,Iq _,Iq _,.str _]) (H2:=_::_) Ai rfl rfl rfl rfl (rfl) rfl rfl rfl rfl) (fun _ _ _=>trivial) ?_
      rintro _ _ ⟨rfl,rfl⟩
      refine Ju.done _ _ (by kernel_rfl) ?_
      refine Ae (AW.ret (Bc (Aj ?_)))
      refine ⟨.inr rfl,[.agg [Iq _,_,Iq _,Iq _,Iq _,Iq _,Iq _,.str _]],.cons (.box _ _ _ 0 _ _ _ _ rfl rfl rfl rfl rfl rfl) <| .nil,.cons _ (.refl _),?_⟩
      rw [K4,Vo,Ci hc1,Ci hc2,Ci hc3,Ci hc4,if_pos hc5];rfl
     ·
      refine Ah (Qp A7 (Qp Bg (Ag (A5 (fun hc6=>?_) fun hc6=>?_))))
      ·
       refine Ah (Qp Jr (Qp Jr (Qp Bt (Qp A7 (Ag (A5 (fun hc7=>?_) fun hc7=>?_))))))
       ·
        refine Ah (Qp Jr (Qp V9 (Qp Bt (Qp A7 ?_))))
        refine Qp (Qc rfl (nG _)) ?_
        refine Cn 0 [Iq _,_,Iq _,Iq _,Iq _,Iq _,Iq _,.str _] (_::_) (Ag (AW.ret (Bc (Aj ?_))))
        refine ⟨.inr rfl,[.agg [Iq _,_,Iq _,Iq _,Iq _,Iq _,Iq _,.str _]],.cons (.box _ _ _ 0 _ _ _ _ rfl rfl rfl rfl rfl rfl) <| .nil,.cons _ (.refl _),?_⟩
        rw [K4,Vo,Ci hc1,Ci hc2,Ci hc3,Ci hc4,Ci hc5,if_pos (by rw [hc6,hc7];rfl)];rfl
       ·
        refine AW.skip (Bs (Ae (Ah (Qp Dy ?_))))
        refine Qp (A1 (es:=[[Iq _,_,Iq _,Iq _,Iq _,Iq _,Iq _,.str _]]) Ai rfl rfl rfl rfl rfl rfl rfl rfl rfl) ?_
        refine Qp (Eo [Iq _,_,Iq _,Iq _,Iq _,Iq _,Iq _,.str _]) (Cn 0 [Iq _,_,Iq _,Iq _,Iq _,Iq _,Iq _,.str _] (_::_) (Ag (AW.ret ?_)))
        refine ⟨.inr rfl,[.agg [Iq _,_,Iq _,Iq _,Iq _,Iq _,Iq _,.str _]],.cons (.box _ _ _ 0 _ _ _ _ rfl rfl rfl rfl rfl rfl) <| .nil,.cons _ (.refl _),?_⟩
        exact Eq.trans rfl (eR hc1 hc2 hc3 hc4 hc5 (by rw [hc6,hc7];rfl)).symm
      ·
       refine AW.skip (Bs (Ae (Ah (Qp Dy ?_))))
       refine Qp (A1 (es:=[[Iq _,_,Iq _,Iq _,Iq _,Iq _,Iq _,.str _]]) Ai rfl rfl rfl rfl rfl rfl rfl rfl rfl) ?_
       refine Qp (Eo [Iq _,_,Iq _,Iq _,Iq _,Iq _,Iq _,.str _]) (Cn 0 [Iq _,_,Iq _,Iq _,Iq _,Iq _,Iq _,.str _] (_::_) (Ag (AW.ret ?_)))
       refine ⟨.inr rfl,[.agg [Iq _,_,Iq _,Iq _,Iq _,Iq _,Iq _,.str _]],.cons (.box _ _ _ 0 _ _ _ _ rfl rfl rfl rfl rfl rfl) <| .nil,.cons _ (.refl _),?_⟩
       exact Eq.trans rfl (eR hc1 hc2 hc3 hc4 hc5 (by rw [hc6];rfl)).symm
theorem wZ (e:Ex)(hs:At e≤1048576):Ax Tryz.prog 18 [.agg (cE e)] (.tuple [.agg (cE (Cy e).1),.int .i64 (Cy e).2]):=by
 refine Ax.body (n:=22) Ai Tryz.func18 rfl rfl rfl fun H=>?_
 refine Ah (Qp K9 ?_)
 refine Qe (Al (l:=[.int .i64 0,.sl 8 [],.int .i64 0,.int .i64 0,.int .i64 0,.int .i64 0,.int .i64 0,.str []]) (by kernel_rfl)) ?_
 rintro _ _ ⟨b2,rfl,rfl⟩
 refine Qp Av (Ag (AW.seq (Ah (Qp Dy ?_))))
 refine Qp (Qc rfl (c21 e hs)) ?_
 refine Qp Av (Df (Qp A2 (Qp Cq (Ag (A5 (fun hc1=>?_) fun hc1=>?_)))))
 ·
  refine Ah (Qp (Eo [Iq _,_,Iq _,Iq _,Iq _,Iq _,Iq _,.str _]) (Qp A2 (Cn 0 [Iq _,_,Iq _,Iq _,Iq _,Iq _,Iq _,.str _] (_::_) (Qp Av (Ag (Dr ?_))))))
  refine ⟨.inr rfl,[.agg [Iq _,_,Iq _,Iq _,Iq _,Iq _,Iq _,.str _],Iq _],.cons (.box _ _ _ 0 _ _ _ _ rfl rfl rfl rfl rfl rfl) <| .cons (.tmp _ _ rfl) <| .nil,.cons _ (.refl _),?_⟩
  rw [Cy,if_pos hc1];rfl
 ·
  have hn:=Sn hc1
  have hsz:At (Fc e)≤1048576:=by have:=yS e hn;have:=Xd hc1;omega
  refine Bz (Ah (Qp Dy ?_))
  refine Qp (Qc rfl (d_neg e hn)) ?_
  refine Qe (Al (l:=[.int .i64 0,.sl 8 [],.int .i64 0,.int .i64 0,.int .i64 0,.int .i64 0,.int .i64 0,.str []]) (by kernel_rfl)) ?_
  rintro _ _ ⟨b5,rfl,rfl⟩
  refine Cn 0 [Iq _,_,Iq _,Iq _,Iq _,Iq _,Iq _,.str _] (_::_::_) ?_
  refine AOL.ghost (GS.Abn (t:=5) 0 rfl rfl) ?_
  refine Ag (AW.seq (Ah (Qp Dy ?_)))
  refine Qp (Qc rfl (c21 _ hsz)) ?_
  refine Qp Av (Df (Qp A2 (Qp Cq (Ag (A5 (fun hc2=>?_) fun hc2=>?_)))))
  ·
   refine Ah (Qp (Eo [Iq _,_,Iq _,Iq _,Iq _,Iq _,Iq _,.str _]) (Qp A2 (Cn 0 [Iq _,_,Iq _,Iq _,Iq _,Iq _,Iq _,.str _] (_::_) (Qp Av (Ag (Dr ?_))))))
   refine ⟨.inr rfl,[.agg [Iq _,_,Iq _,Iq _,Iq _,Iq _,Iq _,.str _],Iq _],.cons (.box _ _ _ 0 _ _ _ _ rfl rfl rfl rfl rfl rfl) <| .cons (.tmp _ _ rfl) <| .nil,.cons _ (.refl _),?_⟩
   rw [Cy,Ci hc1,if_pos hc2];rfl
  ·
   refine Bz (Ah (Qp Dy (Cn 0 [Iq _,_,Iq _,Iq _,Iq _,Iq _,Iq _,.str _] (_::_) (Qp Av (Ag (AW.ret ?_))))))
   refine ⟨.inr rfl,[.agg [Iq _,_,Iq _,Iq _,Iq _,Iq _,Iq _,.str _],Iq _],.cons (.box _ _ _ 0 _ _ _ _ rfl rfl rfl rfl rfl rfl) <| .cons (.tmp _ _ rfl) <| .nil,.cons _ (.refl _),?_⟩
   rw [Cy,Ci hc1,Ci hc2];rfl
set_option maxHeartbeats 6400000
set_option maxRecDepth 20000

theorem Pk (a b:Cs)(n m:Nat)(ha:csOK n a)(hb:csOK m b)(hn:n≤1048576)(hm:m≤1048576):Ax Tryz.prog 65 [.agg (Ei a),.agg (Ei b)] (.agg (Ei (Ek a b))):=by
 have hla:=ha.len
 have hlb:=hb.len
 have hxa:=fun x hx=>Nat.le_trans (ha.lits x hx) hn
 have hxb:=fun x hx=>Nat.le_trans (hb.lits x hx) hm
 refine Ax.body (n:=27) Ai Tryz.func65 rfl rfl rfl fun H=>?_
 refine Ah (Qp (Fz [_,.bool _]) (Qp (Fz [_,.bool _]) ?_))
 refine Qe (Al (l:=[.sl 1 [],.bool false]) (by kernel_rfl)) ?_
 rintro _ _ ⟨b4,rfl,rfl⟩
 refine Ag (AW.seq (Ah (Qp (Qf [.bool _]) (Qp kC (Qp Gj (Qp Br (Qg [] Qw (Qf [.bool _]) (Qg [(11,_)] Qw kC (Qg [(12,_)] Qw Gj ?_)))))))))
 refine Qp E2 (Ag (A5 (fun hc1=>?_) fun hc1=>?_))
 ·
  refine Ah (Qp (Eo [_,.bool _]) (Cn 0 [_,.bool _] (_::_) (Ag (Dr ?_))))
  refine ⟨.inr rfl,[.agg [_,.bool _]],.cons (.box _ _ _ 0 _ _ _ _ rfl rfl rfl rfl rfl rfl) <| .nil,.cons _ (.refl _),?_⟩
  exact Eq.trans rfl (congrArg (fun q:Cs=>AV.agg (Ei q)) (fS hc1)).symm
 ·
  refine Bz (Ah (Qp (Qf [_,.bool _]) (Qp Dk (Qp (Qf [_,.bool _]) (Qp Dk ?_)))))
  refine Qp (Qc rfl (rN a.1 b.1 (by omega) (by omega) hxa hxb)) ?_
  refine Qp Mt (Qp zU (Qp gF (Qp V2 (Qp Bg (Df (Qp C4 (Qp Br (Qp (Eo [_,.bool _]) (Cn 0 [_,.bool _] (_::_) ?_)))))))))
  refine Ag (AW.ret ?_)
  refine ⟨.inr rfl,[.agg [_,.bool _]],.cons (.box _ _ _ 0 _ _ _ _ rfl rfl rfl rfl rfl rfl) <| .nil,.cons _ (.refl _),?_⟩
  exact Eq.trans rfl (congrArg (fun q:Cs=>AV.agg (Ei q)) (bL hc1)).symm
theorem lV (a b:Cs)(n m:Nat)(ha:csOK n a)(hb:csOK m b)(hn:n≤1048576)(hm:m≤1048576):Ax Tryz.prog 88 [.agg (Ei a),.agg (Ei b)] (.agg (Ei (Jf a b))):=by
 have hla:=ha.len
 have hlb:=hb.len
 have hxa:=fun x hx=>Nat.le_trans (ha.lits x hx) hn
 have hxb:=fun x hx=>Nat.le_trans (hb.lits x hx) hm
 have hb2:Il [(!a.2 || !b.2,false)]→True:=fun _=>trivial
 have hsa:∀c∈(a.1.map Pp),Bh c=true:=Fl fun _=>rfl
 have hsb:∀c∈(b.1.map Pp),Bh c=true:=Fl fun _=>rfl
 have hsab:∀c∈(a.1.map Pp++b.1.map Pp),Bh c=true:=fun c hc=>(List.mem_append.1 hc).elim (hsa c) (hsb c)
 refine Ax.body (n:=32) Ai Tryz.func88 rfl rfl rfl fun H=>?_
 refine Ah (Qp (Fz [_,.bool _]) (Qp (Fz [_,.bool _]) ?_))
 refine Qe (Al (l:=[.sl 1 [],.bool false]) (by kernel_rfl)) ?_
 rintro _ _ ⟨b4,rfl,rfl⟩
 refine Ag (AW.seq (Ah (Qp (Qf [.bool _]) (Qp kC (Qp Gj (Qp Br (Qg [] Qw (Qf [.bool _]) (Qg [(9,_)] Qw kC (Qg [(10,_)] Qw Gj ?_)))))))))
 refine Qp E2 (Qp Br (Qg [] Qw (Qf [_,.bool _]) (Qg [(14,_)] Qw Dk ?_)))
 refine AOL.Abp (y:=Iq _) _ [(15,_)] rfl (tK.all ⟨Ent.Abm _ _,trivial⟩) (fun hG=>Ak (n:=a.1.length) Ai rfl rfl rfl (by simp)) rfl ?_
 refine Qg [] Qw (Qf [_,.bool _]) (Qg [(17,_)] Qw Dk ?_)
 refine AOL.Abp (y:=Iq _) _ [(18,_)] rfl (tK.all ⟨Ent.Abm _ _,trivial⟩) (fun hG=>Ak (n:=b.1.length) Ai rfl rfl rfl (by simp)) rfl ?_
 refine AOL.Abp (y:=Iq _) _ [(16,_),(19,_)] rfl (tK.all ⟨Ent.Abm _ _,Ent.Abm _ _,trivial⟩) (fun hG=>jX rfl rfl rfl (by constructor <;> omega)) rfl ?_
 refine Qg [(20,_)] Qw Hl (Qp E2 (Ag (A5 (fun hc1=>?_) fun hc1=>?_)))
 ·
  refine Ah (Qp (Eo [_,.bool _]) (Cn 0 [_,.bool _] (_::_) (Ag (Dr ?_))))
  refine ⟨.inr rfl,[.agg [_,.bool _]],.cons (.box _ _ _ 0 _ _ _ _ rfl rfl rfl rfl rfl rfl) <| .nil,.cons _ (.refl _),?_⟩
  exact Eq.trans rfl (congrArg (fun q:Cs=>AV.agg (Ei q)) (oG hc1)).symm
 ·
  refine Bz (AW.seq ?_)
  refine AW.draw mixed (fun _=>True) trivial (by kernel_rfl) ?_
  refine Qn 1 rfl (Qf [_,.bool _]) (Qn 2 rfl Dk (Qn 4 rfl (Qf [_,.bool _]) (Qn 5 rfl Dk ?_)))
  refine Ju.eff _ _ 0 _ _ rfl (by kernel_rfl) rfl rfl (R4 (es:=[]) Ai rfl rfl rfl rfl rfl rfl rfl rfl rfl) (fun _ _ _=>trivial) ?_
  rintro _ _ ⟨v24,rfl,rfl⟩
  refine Ju.eff _ _ 3 _ _ rfl (by kernel_rfl) rfl rfl (Dm (k:=0) Ai rfl rfl rfl rfl rfl rfl rfl rfl (hsa) (xE) (by simp;omega) (by simp [maxLen];omega)) (fun _ _ _=>trivial) ?_
  rintro _ _ ⟨v27,rfl,rfl⟩
  refine Ju.eff _ _ 6 _ _ rfl (by kernel_rfl) rfl rfl (Dm (k:=0) Ai rfl rfl rfl rfl rfl rfl rfl rfl (hsb) (hsa) (by simp;omega) (by simp [maxLen];omega)) (fun _ _ _=>trivial) ?_
  rintro _ _ ⟨v30,rfl,rfl⟩
  refine Qn 7 rfl (Eo [_,.bool _]) ?_
  refine Ju.eff _ _ 8 _ _ rfl (by kernel_rfl) rfl rfl (C6 (k:=1) (v:=.agg _) (cs':=[_,.bool _]) (H2:=_::_::_) Ai rfl rfl rfl rfl (rfl) rfl rfl rfl rfl) (fun _ _ _=>trivial) ?_
  rintro _ _ ⟨rfl,rfl⟩
  refine Ju.done _ _ (by kernel_rfl) ?_
  refine Ae ?_
  refine AW.ghost (GS.cell (H2:=_::_::_) 1 0 rfl rfl rfl rfl Hd) ?_
  refine AW.ret ?_
  refine ⟨.inr rfl,[.agg [_,.bool _]],.cons (.box _ _ _ 1 _ _ _ _ rfl rfl rfl rfl rfl rfl) <| .nil,.cons _ (.cons _ (.refl _)),?_⟩
  rw [List.nil_append,←List.map_append]
  exact Eq.trans rfl (congrArg (fun q:Cs=>AV.agg (Ei q)) (gC hc1)).symm
theorem Wp (l:List Lit)(hl:l.length≤256):Ax Tryz.prog 90 [.sl 9 (l.map G2)] (.agg (Ei (Eg l))):=by
 refine Ax.body (n:=22) Ai Tryz.func90 rfl rfl rfl fun H=>?_
 refine Ah ?_
 refine Qe (Al (l:=[.sl 1 [],.bool false]) (by kernel_rfl)) ?_
 rintro _ _ ⟨b2,rfl,rfl⟩
 refine Df ?_
 refine Qp (Od (l0:=[.val (.slice none 0 0),.bool false]) (l:=[_,_]) Ai rfl rfl (by kernel_rfl) rfl) ?_
 refine Qe (Al (l:=[.sl 1 [],.bool false]) (by kernel_rfl)) ?_
 rintro _ _ ⟨b3,rfl,rfl⟩
 refine Cn 0 [_,.bool _] (_::_::_) ?_
 refine AOL.ghost (GS.cellRow 0 0 71 1 rfl rfl rfl rfl) ?_
 refine Ag (AW.seq (Ah (Qp C4 ?_)))
 refine Qp (Ak (n:=l.length) Ai rfl rfl rfl (by simp)) ?_
 refine Qp A2 (Ag (AW.block ?_))
 refine AW.Abo (fun (p:Nat×List (List AV)×Value)=>(⟨[(2,.val (.pointer (some ⟨b2,0,none⟩))),(3,.val (.pointer (some ⟨b3,0,none⟩))),(7,.sl 9 (l.map G2)),(8,.int .i64 l.length),(9,.int .i64 (p.1:Int))],.row p.2.2 p.2.1.length 71 1 :: .box b3 103 [.row p.2.2 1 p.2.1,.bool true] :: .box b2 103 [.sl 1 [],.bool false]::H,22⟩:St)) (fun (p:Nat×List (List AV)×Value)=>p.1≤l.length∧p.2.1=((l.take p.1).map fun x=>[x]).map Pp) (fun (p:Nat×List (List AV)×Value)=>l.length-p.1) ((0,[],.slice none 0 0)) ?_ (GS.weaken ⟨rfl,rfl,rfl,rfl,rfl,trivial⟩ (.refl _)) ?_
 · exact ⟨Nat.zero_le _,rfl⟩
 ·
  rintro p hR
  have hsc:∀c∈p.2.1,Bh c=true:=by rw [hR.2];exact Fl fun _=>rfl
  have hpl:p.2.1.length≤p.1:=by rw [hR.2];simp;omega
  refine Ah (Qp Cj (Ag (AW.seq (A5 (fun hc1=>?_) fun hc1=>?_))))
  ·
   obtain ⟨x,hx⟩:=B4 hc1
   have hlx:=Bb hx
   refine Bz (AW.seq (AW.block (Ah ?_)))
   refine Qp (Af (c:=[Iq _,_,Iq _,Iq _,Iq _,Iq _,Iq _,.str _,.bool _]) Ai rfl rfl rfl rfl rfl rfl (by omega) (Bj hx)) ?_
   refine Qp (Ck [Iq _,_,Iq _,Iq _,Iq _,Iq _,Iq _,.str _,.bool _]) ?_
   refine Qe (Al (l:=[.int .i64 0,.sl 8 [],.int .i64 0,.int .i64 0,.int .i64 0,.int .i64 0,.int .i64 0,.str [],.bool false]) (by kernel_rfl)) ?_
   rintro _ _ ⟨b5,rfl,rfl⟩
   refine Cn 0 [Iq _,_,Iq _,Iq _,Iq _,Iq _,Iq _,.str _,.bool _] (_::_::_::_::_) ?_
   refine AOL.ghost (GS.Abn (t:=5) 0 rfl rfl) ?_
   refine Ag (AW.region (Qp Ip ?_))
   refine AOL.Abs (A0 (k:=1) (c:=.row _ _ _) Ai rfl rfl rfl rfl) rfl rfl ?_
   refine Qp (Ck [Iq _,_,Iq _,Iq _,Iq _,Iq _,Iq _,.str _,.bool _]) ?_
   refine Qp (A1 (es:=[[Iq _,_,Iq _,Iq _,Iq _,Iq _,Iq _,.str _,.bool _]]) Ai rfl rfl rfl rfl rfl rfl rfl rfl rfl) ?_
   refine Qp (A1 (es:=[[_]]) Ai rfl rfl rfl rfl rfl rfl rfl rfl rfl) ?_
   refine Qe (Dm (k:=0) Ai rfl rfl rfl rfl rfl rfl rfl rfl (He rfl) (hsc) (by simp;omega) (by simp [maxLen];omega)) ?_
   rintro _ _ ⟨v18,rfl,rfl⟩
   refine Qp Ip (Cn 1 [_,.bool _] (_::_::_::_) (AOL.nil (Bs (Ae (AW.region (Qp Fw (Qp A2 (Ag ?_))))))))
   refine ⟨(p.1+1,p.2.1 ++ [[.sl 9 [G2 x]]],v18),?_,?_,GS.weaken ⟨rfl,rfl,rfl,rfl,rfl,trivial⟩ (.refl _)⟩
   · exact ⟨hlx,by simp only;rw [Cr hx,hR.2];simp [Pp]⟩
   · simp only;omega
  ·
   have hte:=C2 hc1
   have hall:=hR.2
   rw [hte] at hall
   refine AW.exit ?_
   refine A8 (A8 (Bw (Ae (Ah ?_))))
   refine AOL.ghost (GS.cell (H2:=_::_::_::_) 1 0 rfl rfl rfl rfl Hd) ?_
   refine AOL.Abs (B1 (k:=1) (l:=[_,.bool _]) Ai rfl rfl rfl rfl rfl) rfl rfl ?_
   refine Cn 2 [_,.bool _] (_::_::_::_) (Ag (AW.ret ?_))
   refine ⟨.inr rfl,[.agg [_,.bool _]],.cons (.box _ _ _ 2 _ _ _ _ rfl rfl rfl rfl rfl rfl) <| .nil,.cons _ (.cons _ (.cons _ (.refl _))),?_⟩
   rw [hall];rfl
theorem Fh (T:List Sc)(V:List Va)(e:Ex)(ih:∀a∈e.args,∀s,Ax Tryz.prog 53 [.agg (Cp T V),.agg (cE a),.bool s] (.agg (Ei (Da T V a s))))(i:Nat)(a:Ex)(ha:e.args[i]? = some a)(s:Bool):Ax Tryz.prog 87 [.int .i64 (i:Int),.bool s,.ptr (Cp T V),.ptr (cE e)] (.agg (Ei (Da T V a s))):=by
 refine Ax.body (n:=15) Ai Tryz.func87 rfl rfl rfl fun H=>?_
 refine Ah ?_
 refine Qe (Al (l:=[.sl 1 [],.bool false]) (by kernel_rfl)) ?_
 rintro _ _ ⟨b6,rfl,rfl⟩
 refine Ag (AW.seq ?_)
 refine AW.draw mixed (fun _=>True) trivial (by kernel_rfl) ?_
 refine Qn 0 rfl (Ck [_,_]) (Qn 1 rfl K3 (Qn 2 rfl Dk (Qn 3 rfl A2 ?_)))
 refine Qn 4 rfl (Af (c:=[Iq _,_,Iq _,Iq _,Iq _,Iq _,Iq _,.str _]) Ai rfl rfl rfl rfl rfl rfl (by omega) (E9 ha)) ?_
 refine Qn 5 rfl Dy (Qn 6 rfl Br ?_)
 refine Qn 7 rfl (Qc rfl (ih a (List.mem_of_getElem? ha) s)) ?_
 refine Ju.eff _ _ 8 _ _ rfl (by kernel_rfl) rfl rfl (C6 (k:=0) (v:=.agg _) (cs':=[_,.bool _]) (H2:=_::_) Ai rfl rfl rfl rfl (rfl) rfl rfl rfl rfl) (fun _ _ _=>trivial) ?_
 rintro _ _ ⟨rfl,rfl⟩
 refine Ju.done _ _ (by kernel_rfl) ?_
 refine Ae (AW.ret ?_)
 refine ⟨.inr rfl,[.agg [_,.bool _]],.cons (.box _ _ _ 0 _ _ _ _ rfl rfl rfl rfl rfl rfl) <| .nil,.cons _ (.refl _),?_⟩
 rfl
theorem R7 (T:List Sc)(V:List Va)(e:Ex)(hk:KOK T V e)(hse:At e≤64)(s:Bool):Ax Tryz.prog 53 [.agg (Cp T V),.agg (cE e),.bool s] (.agg (Ei (Da T V e s))):=by
 revert s hk hse
 induction e using Ex.Abu
 rename_i e ih0
 intro hk hse s
 have ih:∀a∈e.args,∀s,Ax Tryz.prog 53 [.agg (Cp T V),.agg (cE a),.bool s] (.agg (Ei (Da T V a s))):=fun a ha s=>ih0 a ha (A3 hk ha) (Nat.le_trans (Nat.le_of_lt (G0 ha)) hse) s
 have hz:=Be hk.nodes
 refine Ax.body (n:=111) Ai Tryz.func53 rfl rfl rfl fun H=>?_
 refine Ah (Qp (Fz [_,_]) (Qp K9 ?_))
 refine Qe (Al (l:=[.sl 1 [],.bool false]) (by kernel_rfl)) ?_
 rintro _ _ ⟨b6,rfl,rfl⟩
 refine Df ?_
 refine Qp (Bf (l:=[]) (l':=[.ptr _,.ptr _]) rfl rfl) ?_
 refine Qp (C1 (v:=.fn _ _ _) rfl) ?_
 refine Ag (AW.seq (Ah (Qp Ku (Qp Bt (Ag (AW.block (Ah (Qp A7 (Qp Bg ?_)))))))))
 refine Ag (A5 (fun hc1=>?_) fun hc1=>?_)
 ·
  refine AW.seq (Ah (Qp Jr (Qp V9 (Qp Bt (Qp A7 (Qp Br ?_))))))
  refine Qp (Q7 Ai rfl rfl rfl rfl) ?_
  refine Ag (A5 (fun hc2=>?_) fun hc2=>?_)
  ·
   refine Ah ?_
   refine Qp (Di.weakV (A1 (es:=[[_]]) Ai rfl rfl rfl rfl rfl rfl rfl rfl rfl) gK) ?_
   refine Qp (Eo [_,.bool _]) (Cn 0 [_,.bool _] (_::_) (Ag (Dr (Bc (Aj ?_)))))
   refine ⟨.inr rfl,[.agg [_,.bool _]],.cons (.box _ _ _ 0 _ _ _ _ rfl rfl rfl rfl rfl rfl) <| .nil,.cons _ (.refl _),?_⟩
   first
    | exact absurd (‹(e.op==10)=true›.symm.trans ‹(e.op==10)=false›) (by decide)
    | exact absurd (‹(e.op==11)=true›.symm.trans ‹(e.op==11)=false›) (by decide)
    | exact absurd (‹(e.op==9)=true›.symm.trans ‹(e.op==9)=false›) (by decide)
    | exact Eq.trans rfl (congrArg (fun q:Cs=>AV.agg (Ei q)) (Gk ‹(e.op==0)=true› ‹((e.val.num==1)==s)=true›)).symm
    | exact Eq.trans rfl (congrArg (fun q:Cs=>AV.agg (Ei q)) (Gb ‹(e.op==0)=true› ‹((e.val.num==1)==s)=false›)).symm
    | exact Eq.trans rfl (congrArg (fun q:Cs=>AV.agg (Ei q)) (Gn h00 ‹(e.op==12)=true›)).symm
    | exact Eq.trans rfl (congrArg (fun q:Cs=>AV.agg (Ei q)) (Gc hl2 h10 ‹((e.op==10)==s)=true›)).symm
    | exact Eq.trans rfl (congrArg (fun q:Cs=>AV.agg (Ei q)) (Gi hl2 h10 ‹((e.op==10)==s)=false›)).symm
    | exact Eq.trans rfl (congrArg (fun q:Cs=>AV.agg (Ei q)) (Ge hl2 h9 ‹(Am T V (Ao e)==1)=true›)).symm
    | exact Eq.trans rfl (congrArg (fun q:Cs=>AV.agg (Ei q)) (Gg h9 ‹(Am T V (Ao e)==1)=false› ‹(Am T V (Ao e)==0 && !s)=true›)).symm
    | exact Eq.trans rfl (congrArg (fun q:Cs=>AV.agg (Ei q)) (It h9 ‹(Am T V (Ao e)==1)=false› ‹(Am T V (Ao e)==0 && !s)=false›)).symm
    | exact Eq.trans rfl (congrArg (fun q:Cs=>AV.agg (Ei q)) (Kq ‹(e.op==0)=false› ‹(e.op==12)=false› (cP ‹(e.op==10)=false› ‹(e.op==11)=false›) ‹(e.op==9)=false›)).symm
  ·
   refine Bz (Ah (Qp (Eo [_,.bool _]) (Cn 0 [_,.bool _] (_::_) ?_)))
   refine AOL.ghost (GS.cell (H2:=_::_) 0 0 rfl rfl rfl rfl (yY (z:=1))) ?_
   refine Ag (AW.ret (Bc (Aj ?_)))
   refine ⟨.inr rfl,[.agg [_,.bool _]],.cons (.box _ _ _ 0 _ _ _ _ rfl rfl rfl rfl rfl rfl) <| .nil,.cons _ (.refl _),?_⟩
   first
    | exact absurd (‹(e.op==10)=true›.symm.trans ‹(e.op==10)=false›) (by decide)
    | exact absurd (‹(e.op==11)=true›.symm.trans ‹(e.op==11)=false›) (by decide)
    | exact absurd (‹(e.op==9)=true›.symm.trans ‹(e.op==9)=false›) (by decide)
    | exact Eq.trans rfl (congrArg (fun q:Cs=>AV.agg (Ei q)) (Gk ‹(e.op==0)=true› ‹((e.val.num==1)==s)=true›)).symm
    | exact Eq.trans rfl (congrArg (fun q:Cs=>AV.agg (Ei q)) (Gb ‹(e.op==0)=true› ‹((e.val.num==1)==s)=false›)).symm
    | exact Eq.trans rfl (congrArg (fun q:Cs=>AV.agg (Ei q)) (Gn h00 ‹(e.op==12)=true›)).symm
    | exact Eq.trans rfl (congrArg (fun q:Cs=>AV.agg (Ei q)) (Gc hl2 h10 ‹((e.op==10)==s)=true›)).symm
    | exact Eq.trans rfl (congrArg (fun q:Cs=>AV.agg (Ei q)) (Gi hl2 h10 ‹((e.op==10)==s)=false›)).symm
    | exact Eq.trans rfl (congrArg (fun q:Cs=>AV.agg (Ei q)) (Ge hl2 h9 ‹(Am T V (Ao e)==1)=true›)).symm
    | exact Eq.trans rfl (congrArg (fun q:Cs=>AV.agg (Ei q)) (Gg h9 ‹(Am T V (Ao e)==1)=false› ‹(Am T V (Ao e)==0 && !s)=true›)).symm
    | exact Eq.trans rfl (congrArg (fun q:Cs=>AV.agg (Ei q)) (It h9 ‹(Am T V (Ao e)==1)=false› ‹(Am T V (Ao e)==0 && !s)=false›)).symm
    | exact Eq.trans rfl (congrArg (fun q:Cs=>AV.agg (Ei q)) (Kq ‹(e.op==0)=false› ‹(e.op==12)=false› (cP ‹(e.op==10)=false› ‹(e.op==11)=false›) ‹(e.op==9)=false›)).symm
 ·
  refine Ah (Qp A7 (Qp Bg (Ag (A5 (fun hc3=>?_) fun hc3=>?_))))
  ·
   refine AW.seq ?_
   have h00:=Wa hz.1 (eq_of_beq ‹(e.op==12)=true›)
   have ha0:=P5 h00
   refine AW.region ?_
   refine Qp (Bk (v:=.fn _ _ _) rfl) ?_
   refine Qp Br (Qp Gj ?_)
   refine Qp (Dx (by kernel_rfl) rfl rfl rfl (Fh T V e ih 0 (Ao e) ha0 (!s))) ?_
   refine Cn 0 [_,.bool _] (_::_) (Ag (AW.ret (Bc (Aj ?_))))
   refine ⟨.inr rfl,[.agg [_,.bool _]],.cons (.box _ _ _ 0 _ _ _ _ rfl rfl rfl rfl rfl rfl) <| .nil,.cons _ (.refl _),?_⟩
   first
    | exact absurd (‹(e.op==10)=true›.symm.trans ‹(e.op==10)=false›) (by decide)
    | exact absurd (‹(e.op==11)=true›.symm.trans ‹(e.op==11)=false›) (by decide)
    | exact absurd (‹(e.op==9)=true›.symm.trans ‹(e.op==9)=false›) (by decide)
    | exact Eq.trans rfl (congrArg (fun q:Cs=>AV.agg (Ei q)) (Gk ‹(e.op==0)=true› ‹((e.val.num==1)==s)=true›)).symm
    | exact Eq.trans rfl (congrArg (fun q:Cs=>AV.agg (Ei q)) (Gb ‹(e.op==0)=true› ‹((e.val.num==1)==s)=false›)).symm
    | exact Eq.trans rfl (congrArg (fun q:Cs=>AV.agg (Ei q)) (Gn h00 ‹(e.op==12)=true›)).symm
    | exact Eq.trans rfl (congrArg (fun q:Cs=>AV.agg (Ei q)) (Gc hl2 h10 ‹((e.op==10)==s)=true›)).symm
    | exact Eq.trans rfl (congrArg (fun q:Cs=>AV.agg (Ei q)) (Gi hl2 h10 ‹((e.op==10)==s)=false›)).symm
    | exact Eq.trans rfl (congrArg (fun q:Cs=>AV.agg (Ei q)) (Ge hl2 h9 ‹(Am T V (Ao e)==1)=true›)).symm
    | exact Eq.trans rfl (congrArg (fun q:Cs=>AV.agg (Ei q)) (Gg h9 ‹(Am T V (Ao e)==1)=false› ‹(Am T V (Ao e)==0 && !s)=true›)).symm
    | exact Eq.trans rfl (congrArg (fun q:Cs=>AV.agg (Ei q)) (It h9 ‹(Am T V (Ao e)==1)=false› ‹(Am T V (Ao e)==0 && !s)=false›)).symm
    | exact Eq.trans rfl (congrArg (fun q:Cs=>AV.agg (Ei q)) (Kq ‹(e.op==0)=false› ‹(e.op==12)=false› (cP ‹(e.op==10)=false› ‹(e.op==11)=false›) ‹(e.op==9)=false›)).symm
  ·
   refine AW.seq (Ah (Qp A7 (Qp Bg (Ag (A5 (fun hc4=>?_) fun hc4=>?_)))))
   ·
    refine Bz (A5 (fun hc5=>?_) fun hc5=>?_)
    ·
     refine AW.seq (Ah (Qp Ku (Qp Bt (Qp A7 (Qp Br ?_)))))
     refine Qp (Q7 Ai rfl rfl rfl rfl) ?_
     refine Ag (A5 (fun hc6=>?_) fun hc6=>?_)
     ·
      refine AW.seq ?_
      have h10:(e.op==10||e.op==11)=true:=by first | exact Zp ‹(e.op==10)=true› | exact aB ‹(e.op==11)=true›
      have hl2:=Dg hz.1 (by simp at h10;omega)
      have h00:0<e.args.length:=by omega
      have ha0:=P5 h00
      have ha1:=Ru hl2
      have m0:=A6 h00
      have m1:=Bl hl2
      have k0:=Ga _ (A3 hk m0)
      have k1:=Ga _ (A3 hk m1)
      have hs01:=Dw hl2
      refine AW.region ?_
      refine Qp (Bk (v:=.fn _ _ _) rfl) ?_
      refine Qp Br ?_
      refine Qp (Dx (by kernel_rfl) rfl rfl rfl (Fh T V e ih 0 (Ao e) ha0 s)) ?_
      refine Qp (Bk (v:=.fn _ _ _) rfl) ?_
      refine Qp Br ?_
      refine Qp (Dx (by kernel_rfl) rfl rfl rfl (Fh T V e ih 1 (Bi e) ha1 s)) ?_
      refine Qp (Qc rfl (Pk _ _ _ _ (k0 s) (k1 s) (by omega) (by omega))) ?_
      refine Cn 0 [_,.bool _] (_::_) (Ag (Dr (Bc (Aj ?_))))
      refine ⟨.inr rfl,[.agg [_,.bool _]],.cons (.box _ _ _ 0 _ _ _ _ rfl rfl rfl rfl rfl rfl) <| .nil,.cons _ (.refl _),?_⟩
      first
       | exact absurd (‹(e.op==10)=true›.symm.trans ‹(e.op==10)=false›) (by decide)
       | exact absurd (‹(e.op==11)=true›.symm.trans ‹(e.op==11)=false›) (by decide)
       | exact absurd (‹(e.op==9)=true›.symm.trans ‹(e.op==9)=false›) (by decide)
       | exact Eq.trans rfl (congrArg (fun q:Cs=>AV.agg (Ei q)) (Gk ‹(e.op==0)=true› ‹((e.val.num==1)==s)=true›)).symm
       | exact Eq.trans rfl (congrArg (fun q:Cs=>AV.agg (Ei q)) (Gb ‹(e.op==0)=true› ‹((e.val.num==1)==s)=false›)).symm
       | exact Eq.trans rfl (congrArg (fun q:Cs=>AV.agg (Ei q)) (Gn h00 ‹(e.op==12)=true›)).symm
       | exact Eq.trans rfl (congrArg (fun q:Cs=>AV.agg (Ei q)) (Gc hl2 h10 ‹((e.op==10)==s)=true›)).symm
       | exact Eq.trans rfl (congrArg (fun q:Cs=>AV.agg (Ei q)) (Gi hl2 h10 ‹((e.op==10)==s)=false›)).symm
       | exact Eq.trans rfl (congrArg (fun q:Cs=>AV.agg (Ei q)) (Ge hl2 h9 ‹(Am T V (Ao e)==1)=true›)).symm
       | exact Eq.trans rfl (congrArg (fun q:Cs=>AV.agg (Ei q)) (Gg h9 ‹(Am T V (Ao e)==1)=false› ‹(Am T V (Ao e)==0 && !s)=true›)).symm
       | exact Eq.trans rfl (congrArg (fun q:Cs=>AV.agg (Ei q)) (It h9 ‹(Am T V (Ao e)==1)=false› ‹(Am T V (Ao e)==0 && !s)=false›)).symm
       | exact Eq.trans rfl (congrArg (fun q:Cs=>AV.agg (Ei q)) (Kq ‹(e.op==0)=false› ‹(e.op==12)=false› (cP ‹(e.op==10)=false› ‹(e.op==11)=false›) ‹(e.op==9)=false›)).symm
     ·
      refine Bz (AW.seq ?_)
      have h10:(e.op==10||e.op==11)=true:=by first | exact Zp ‹(e.op==10)=true› | exact aB ‹(e.op==11)=true›
      have hl2:=Dg hz.1 (by simp at h10;omega)
      have h00:0<e.args.length:=by omega
      have ha0:=P5 h00
      have ha1:=Ru hl2
      have m0:=A6 h00
      have m1:=Bl hl2
      have k0:=Ga _ (A3 hk m0)
      have k1:=Ga _ (A3 hk m1)
      have hs01:=Dw hl2
      refine AW.region ?_
      refine Qp (Bk (v:=.fn _ _ _) rfl) ?_
      refine Qp Br ?_
      refine Qp (Dx (by kernel_rfl) rfl rfl rfl (Fh T V e ih 0 (Ao e) ha0 s)) ?_
      refine Qp (Bk (v:=.fn _ _ _) rfl) ?_
      refine Qp Br ?_
      refine Qp (Dx (by kernel_rfl) rfl rfl rfl (Fh T V e ih 1 (Bi e) ha1 s)) ?_
      refine Qp (Qc rfl (lV _ _ _ _ ((k0 s).mono (Nat.le_trans (by omega) hse)) ((k1 s).mono (Nat.le_trans (by omega) hse)) (by omega) (by omega))) ?_
      refine Cn 0 [_,.bool _] (_::_) (Ag (AW.ret (Bc (Aj ?_))))
      refine ⟨.inr rfl,[.agg [_,.bool _]],.cons (.box _ _ _ 0 _ _ _ _ rfl rfl rfl rfl rfl rfl) <| .nil,.cons _ (.refl _),?_⟩
      first
       | exact absurd (‹(e.op==10)=true›.symm.trans ‹(e.op==10)=false›) (by decide)
       | exact absurd (‹(e.op==11)=true›.symm.trans ‹(e.op==11)=false›) (by decide)
       | exact absurd (‹(e.op==9)=true›.symm.trans ‹(e.op==9)=false›) (by decide)
       | exact Eq.trans rfl (congrArg (fun q:Cs=>AV.agg (Ei q)) (Gk ‹(e.op==0)=true› ‹((e.val.num==1)==s)=true›)).symm
       | exact Eq.trans rfl (congrArg (fun q:Cs=>AV.agg (Ei q)) (Gb ‹(e.op==0)=true› ‹((e.val.num==1)==s)=false›)).symm
       | exact Eq.trans rfl (congrArg (fun q:Cs=>AV.agg (Ei q)) (Gn h00 ‹(e.op==12)=true›)).symm
       | exact Eq.trans rfl (congrArg (fun q:Cs=>AV.agg (Ei q)) (Gc hl2 h10 ‹((e.op==10)==s)=true›)).symm
       | exact Eq.trans rfl (congrArg (fun q:Cs=>AV.agg (Ei q)) (Gi hl2 h10 ‹((e.op==10)==s)=false›)).symm
       | exact Eq.trans rfl (congrArg (fun q:Cs=>AV.agg (Ei q)) (Ge hl2 h9 ‹(Am T V (Ao e)==1)=true›)).symm
       | exact Eq.trans rfl (congrArg (fun q:Cs=>AV.agg (Ei q)) (Gg h9 ‹(Am T V (Ao e)==1)=false› ‹(Am T V (Ao e)==0 && !s)=true›)).symm
       | exact Eq.trans rfl (congrArg (fun q:Cs=>AV.agg (Ei q)) (It h9 ‹(Am T V (Ao e)==1)=false› ‹(Am T V (Ao e)==0 && !s)=false›)).symm
       | exact Eq.trans rfl (congrArg (fun q:Cs=>AV.agg (Ei q)) (Kq ‹(e.op==0)=false› ‹(e.op==12)=false› (cP ‹(e.op==10)=false› ‹(e.op==11)=false›) ‹(e.op==9)=false›)).symm
    ·
     exact absurd (hc5.symm.trans hc4) (by decide)
   ·
    refine AW.region (Qp A7 (Qp Bg (Ag (A5 (fun hc7=>?_) fun hc7=>?_))))
    ·
     refine AW.seq (Ah (Qp Ku (Qp Bt (Qp A7 (Qp Br ?_)))))
     refine Qp (Q7 Ai rfl rfl rfl rfl) ?_
     refine Ag (A5 (fun hc8=>?_) fun hc8=>?_)
     ·
      refine AW.seq ?_
      have h10:(e.op==10||e.op==11)=true:=by first | exact Zp ‹(e.op==10)=true› | exact aB ‹(e.op==11)=true›
      have hl2:=Dg hz.1 (by simp at h10;omega)
      have h00:0<e.args.length:=by omega
      have ha0:=P5 h00
      have ha1:=Ru hl2
      have m0:=A6 h00
      have m1:=Bl hl2
      have k0:=Ga _ (A3 hk m0)
      have k1:=Ga _ (A3 hk m1)
      have hs01:=Dw hl2
      refine AW.region ?_
      refine Qp (Bk (v:=.fn _ _ _) rfl) ?_
      refine Qp Br ?_
      refine Qp (Dx (by kernel_rfl) rfl rfl rfl (Fh T V e ih 0 (Ao e) ha0 s)) ?_
      refine Qp (Bk (v:=.fn _ _ _) rfl) ?_
      refine Qp Br ?_
      refine Qp (Dx (by kernel_rfl) rfl rfl rfl (Fh T V e ih 1 (Bi e) ha1 s)) ?_
      refine Qp (Qc rfl (Pk _ _ _ _ (k0 s) (k1 s) (by omega) (by omega))) ?_
      refine Cn 0 [_,.bool _] (_::_) (Ag (Dr (Bc (Aj ?_))))
      refine ⟨.inr rfl,[.agg [_,.bool _]],.cons (.box _ _ _ 0 _ _ _ _ rfl rfl rfl rfl rfl rfl) <| .nil,.cons _ (.refl _),?_⟩
      first
       | exact absurd (‹(e.op==10)=true›.symm.trans ‹(e.op==10)=false›) (by decide)
       | exact absurd (‹(e.op==11)=true›.symm.trans ‹(e.op==11)=false›) (by decide)
       | exact absurd (‹(e.op==9)=true›.symm.trans ‹(e.op==9)=false›) (by decide)
       | exact Eq.trans rfl (congrArg (fun q:Cs=>AV.agg (Ei q)) (Gk ‹(e.op==0)=true› ‹((e.val.num==1)==s)=true›)).symm
       | exact Eq.trans rfl (congrArg (fun q:Cs=>AV.agg (Ei q)) (Gb ‹(e.op==0)=true› ‹((e.val.num==1)==s)=false›)).symm
       | exact Eq.trans rfl (congrArg (fun q:Cs=>AV.agg (Ei q)) (Gn h00 ‹(e.op==12)=true›)).symm
       | exact Eq.trans rfl (congrArg (fun q:Cs=>AV.agg (Ei q)) (Gc hl2 h10 ‹((e.op==10)==s)=true›)).symm
       | exact Eq.trans rfl (congrArg (fun q:Cs=>AV.agg (Ei q)) (Gi hl2 h10 ‹((e.op==10)==s)=false›)).symm
       | exact Eq.trans rfl (congrArg (fun q:Cs=>AV.agg (Ei q)) (Ge hl2 h9 ‹(Am T V (Ao e)==1)=true›)).symm
       | exact Eq.trans rfl (congrArg (fun q:Cs=>AV.agg (Ei q)) (Gg h9 ‹(Am T V (Ao e)==1)=false› ‹(Am T V (Ao e)==0 && !s)=true›)).symm
       | exact Eq.trans rfl (congrArg (fun q:Cs=>AV.agg (Ei q)) (It h9 ‹(Am T V (Ao e)==1)=false› ‹(Am T V (Ao e)==0 && !s)=false›)).symm
       | exact Eq.trans rfl (congrArg (fun q:Cs=>AV.agg (Ei q)) (Kq ‹(e.op==0)=false› ‹(e.op==12)=false› (cP ‹(e.op==10)=false› ‹(e.op==11)=false›) ‹(e.op==9)=false›)).symm
     ·
      refine Bz (AW.seq ?_)
      have h10:(e.op==10||e.op==11)=true:=by first | exact Zp ‹(e.op==10)=true› | exact aB ‹(e.op==11)=true›
      have hl2:=Dg hz.1 (by simp at h10;omega)
      have h00:0<e.args.length:=by omega
      have ha0:=P5 h00
      have ha1:=Ru hl2
      have m0:=A6 h00
      have m1:=Bl hl2
      have k0:=Ga _ (A3 hk m0)
      have k1:=Ga _ (A3 hk m1)
      have hs01:=Dw hl2
      refine AW.region ?_
      refine Qp (Bk (v:=.fn _ _ _) rfl) ?_
      refine Qp Br ?_
      refine Qp (Dx (by kernel_rfl) rfl rfl rfl (Fh T V e ih 0 (Ao e) ha0 s)) ?_
      refine Qp (Bk (v:=.fn _ _ _) rfl) ?_
      refine Qp Br ?_
      refine Qp (Dx (by kernel_rfl) rfl rfl rfl (Fh T V e ih 1 (Bi e) ha1 s)) ?_
      refine Qp (Qc rfl (lV _ _ _ _ ((k0 s).mono (Nat.le_trans (by omega) hse)) ((k1 s).mono (Nat.le_trans (by omega) hse)) (by omega) (by omega))) ?_
      refine Cn 0 [_,.bool _] (_::_) (Ag (AW.ret (Bc (Aj ?_))))
      refine ⟨.inr rfl,[.agg [_,.bool _]],.cons (.box _ _ _ 0 _ _ _ _ rfl rfl rfl rfl rfl rfl) <| .nil,.cons _ (.refl _),?_⟩
      first
       | exact absurd (‹(e.op==10)=true›.symm.trans ‹(e.op==10)=false›) (by decide)
       | exact absurd (‹(e.op==11)=true›.symm.trans ‹(e.op==11)=false›) (by decide)
       | exact absurd (‹(e.op==9)=true›.symm.trans ‹(e.op==9)=false›) (by decide)
       | exact Eq.trans rfl (congrArg (fun q:Cs=>AV.agg (Ei q)) (Gk ‹(e.op==0)=true› ‹((e.val.num==1)==s)=true›)).symm
       | exact Eq.trans rfl (congrArg (fun q:Cs=>AV.agg (Ei q)) (Gb ‹(e.op==0)=true› ‹((e.val.num==1)==s)=false›)).symm
       | exact Eq.trans rfl (congrArg (fun q:Cs=>AV.agg (Ei q)) (Gn h00 ‹(e.op==12)=true›)).symm
       | exact Eq.trans rfl (congrArg (fun q:Cs=>AV.agg (Ei q)) (Gc hl2 h10 ‹((e.op==10)==s)=true›)).symm
       | exact Eq.trans rfl (congrArg (fun q:Cs=>AV.agg (Ei q)) (Gi hl2 h10 ‹((e.op==10)==s)=false›)).symm
       | exact Eq.trans rfl (congrArg (fun q:Cs=>AV.agg (Ei q)) (Ge hl2 h9 ‹(Am T V (Ao e)==1)=true›)).symm
       | exact Eq.trans rfl (congrArg (fun q:Cs=>AV.agg (Ei q)) (Gg h9 ‹(Am T V (Ao e)==1)=false› ‹(Am T V (Ao e)==0 && !s)=true›)).symm
       | exact Eq.trans rfl (congrArg (fun q:Cs=>AV.agg (Ei q)) (It h9 ‹(Am T V (Ao e)==1)=false› ‹(Am T V (Ao e)==0 && !s)=false›)).symm
       | exact Eq.trans rfl (congrArg (fun q:Cs=>AV.agg (Ei q)) (Kq ‹(e.op==0)=false› ‹(e.op==12)=false› (cP ‹(e.op==10)=false› ‹(e.op==11)=false›) ‹(e.op==9)=false›)).symm
    ·
     refine Ah (Qp A7 (Qp Bg (Ag (A5 (fun hc9=>?_) fun hc9=>?_))))
     ·
      refine AW.seq ?_
      have h9:(e.op==9)=true:=‹(e.op==9)=true›
      have hl2:=Dg hz.1 (by simp at h9;omega)
      have h00:0<e.args.length:=by omega
      have ha0:=P5 h00
      have ha1:=Ru hl2
      have m0:=A6 h00
      have m1:=Bl hl2
      have k0:=Ga _ (A3 hk m0)
      have k1:=Ga _ (A3 hk m1)
      have hs01:=Dw hl2
      refine AW.draw mixed (fun _=>True) trivial (by kernel_rfl) ?_
      refine Qn 0 rfl (Ck [_,_]) (Qn 1 rfl K3 (Qn 2 rfl Dk ?_))
      refine Qn 3 rfl (Af (c:=[Iq _,_,Iq _,Iq _,Iq _,Iq _,Iq _,.str _]) Ai rfl rfl rfl rfl rfl rfl (by decide) (Fo h00)) ?_
      refine Qn 4 rfl Dy ?_
      refine Qn 5 rfl (Qc rfl (Yw T V _ (A3 hk m0))) ?_
      refine Qn 6 rfl Av ?_
      refine Ju.done _ _ (by kernel_rfl) ?_
      refine Ae (AW.block (Ah (Qp A2 (Qp A7 (Qp Bg (Ag (A5 (fun hc10=>?_) fun hc10=>?_)))))))
      ·
       refine Ah ?_
       refine Qp (Bk (v:=.fn _ _ _) rfl) ?_
       refine Qp (Dx (by kernel_rfl) rfl rfl rfl (Fh T V e ih 0 (Ao e) ha0 true)) ?_
       refine Qp (Bk (v:=.fn _ _ _) rfl) ?_
       refine Qp Br ?_
       refine Qp (Dx (by kernel_rfl) rfl rfl rfl (Fh T V e ih 1 (Bi e) ha1 s)) ?_
       refine Qp (Qc rfl (Pk _ _ _ _ (k0 true) (k1 s) (by omega) (by omega))) ?_
       refine Qp (Bk (v:=.fn _ _ _) rfl) ?_
       refine Qp (Dx (by kernel_rfl) rfl rfl rfl (Fh T V e ih 0 (Ao e) ha0 false)) ?_
       refine Qp (Bk (v:=.fn _ _ _) rfl) ?_
       refine Qp Br (Qp Gj ?_)
       refine Qp (Dx (by kernel_rfl) rfl rfl rfl (Fh T V e ih 1 (Bi e) ha1 (!s))) ?_
       refine Qp (Qc rfl (Pk _ _ _ _ (k0 false) (k1 (!s)) (by omega) (by omega))) ?_
       refine Qp (Qc rfl (lV _ _ _ _ ((Li (k0 true) (k1 s)).mono (Nat.le_trans (by omega) hse)) ((Li (k0 false) (k1 (!s))).mono (Nat.le_trans (by omega) hse)) (by omega) (by omega))) ?_
       refine Cn 0 [_,.bool _] (_::_) (Ag (AW.ret (Bc (Bc (Aj ?_)))))
       refine ⟨.inr rfl,[.agg [_,.bool _]],.cons (.box _ _ _ 0 _ _ _ _ rfl rfl rfl rfl rfl rfl) <| .nil,.cons _ (.refl _),?_⟩
       first
        | exact absurd (‹(e.op==10)=true›.symm.trans ‹(e.op==10)=false›) (by decide)
        | exact absurd (‹(e.op==11)=true›.symm.trans ‹(e.op==11)=false›) (by decide)
        | exact absurd (‹(e.op==9)=true›.symm.trans ‹(e.op==9)=false›) (by decide)
        | exact Eq.trans rfl (congrArg (fun q:Cs=>AV.agg (Ei q)) (Gk ‹(e.op==0)=true› ‹((e.val.num==1)==s)=true›)).symm
        | exact Eq.trans rfl (congrArg (fun q:Cs=>AV.agg (Ei q)) (Gb ‹(e.op==0)=true› ‹((e.val.num==1)==s)=false›)).symm
        | exact Eq.trans rfl (congrArg (fun q:Cs=>AV.agg (Ei q)) (Gn h00 ‹(e.op==12)=true›)).symm
        | exact Eq.trans rfl (congrArg (fun q:Cs=>AV.agg (Ei q)) (Gc hl2 h10 ‹((e.op==10)==s)=true›)).symm
        | exact Eq.trans rfl (congrArg (fun q:Cs=>AV.agg (Ei q)) (Gi hl2 h10 ‹((e.op==10)==s)=false›)).symm
        | exact Eq.trans rfl (congrArg (fun q:Cs=>AV.agg (Ei q)) (Ge hl2 h9 ‹(Am T V (Ao e)==1)=true›)).symm
        | exact Eq.trans rfl (congrArg (fun q:Cs=>AV.agg (Ei q)) (Gg h9 ‹(Am T V (Ao e)==1)=false› ‹(Am T V (Ao e)==0 && !s)=true›)).symm
        | exact Eq.trans rfl (congrArg (fun q:Cs=>AV.agg (Ei q)) (It h9 ‹(Am T V (Ao e)==1)=false› ‹(Am T V (Ao e)==0 && !s)=false›)).symm
        | exact Eq.trans rfl (congrArg (fun q:Cs=>AV.agg (Ei q)) (Kq ‹(e.op==0)=false› ‹(e.op==12)=false› (cP ‹(e.op==10)=false› ‹(e.op==11)=false›) ‹(e.op==9)=false›)).symm
      ·
       refine Ah (Qp A2 (Qp A7 (Qp Br (Qg [] Qw Br (Qg [(80,_)] Qw Gj (Qp Ez (Qp Bg (Ag (A5 (fun hc11=>?_) fun hc11=>?_)))))))))
       ·
        refine AW.seq ?_
        refine AW.draw mixed (fun _=>True) trivial (by kernel_rfl) ?_
        refine Qn 0 rfl K3 (Qn 1 rfl Dk ?_)
        refine Qn 2 rfl (Af (c:=[Iq _,_,Iq _,Iq _,Iq _,Iq _,Iq _,.str _]) Ai rfl rfl rfl rfl rfl rfl (by decide) (Fo h00)) ?_
        refine Qn 3 rfl Dy (Qn 4 rfl K3 (Qn 5 rfl Dk ?_))
        refine Qn 6 rfl (Af (c:=[Iq _,_,Iq _,Iq _,Iq _,Iq _,Iq _,.str _]) Ai rfl rfl rfl rfl rfl rfl (by decide) (Ib hl2)) ?_
        refine Qn 7 rfl Dy ?_
        refine Qn 8 rfl (Qc rfl (bE 7 _ _)) ?_
        refine Qn 9 rfl (Eo [Iq _,_,Iq _,Iq _,Iq _,Iq _,Iq _,.str _,.bool _]) (Qn 10 rfl K3 (Qn 11 rfl Dk ?_))
        refine Qn 12 rfl (Af (c:=[Iq _,_,Iq _,Iq _,Iq _,Iq _,Iq _,.str _]) Ai rfl rfl rfl rfl rfl rfl (by decide) (Ib hl2)) ?_
        refine Qn 13 rfl Dy (Qn 14 rfl K3 (Qn 15 rfl Dk ?_))
        refine Qn 16 rfl (Af (c:=[Iq _,_,Iq _,Iq _,Iq _,Iq _,Iq _,.str _]) Ai rfl rfl rfl rfl rfl rfl (by decide) (Fo h00)) ?_
        refine Qn 17 rfl Dy ?_
        refine Qn 18 rfl (Qc rfl (bE 7 _ _)) ?_
        refine Qn 19 rfl (Eo [Iq _,_,Iq _,Iq _,Iq _,Iq _,Iq _,.str _,.bool _]) ?_
        refine Qn 20 rfl (A1 (es:=[[Iq _,_,Iq _,Iq _,Iq _,Iq _,Iq _,.str _,.bool _],[Iq _,_,Iq _,Iq _,Iq _,Iq _,Iq _,.str _,.bool _]]) Ai rfl rfl rfl rfl rfl rfl rfl rfl rfl) ?_
        refine Qn 21 rfl (Qc rfl (Wp [⟨two 7 (Ao e) (Bi e),false⟩,⟨two 7 (Bi e) (Ao e),false⟩] (show 2≤256 by decide))) ?_
        refine Ju.eff _ _ 22 _ _ rfl (by kernel_rfl) rfl rfl (C6 (k:=0) (v:=.agg _) (cs':=[_,.bool _]) (H2:=_::_) Ai rfl rfl rfl rfl (rfl) rfl rfl rfl rfl) (fun _ _ _=>trivial) ?_
        rintro _ _ ⟨rfl,rfl⟩
        refine Ju.done _ _ (by kernel_rfl) ?_
        refine Ae (AW.ret (Bc (Bc (Aj ?_))))
        refine ⟨.inr rfl,[.agg [_,.bool _]],.cons (.box _ _ _ 0 _ _ _ _ rfl rfl rfl rfl rfl rfl) <| .nil,.cons _ (.refl _),?_⟩
        first
         | exact absurd (‹(e.op==10)=true›.symm.trans ‹(e.op==10)=false›) (by decide)
         | exact absurd (‹(e.op==11)=true›.symm.trans ‹(e.op==11)=false›) (by decide)
         | exact absurd (‹(e.op==9)=true›.symm.trans ‹(e.op==9)=false›) (by decide)
         | exact Eq.trans rfl (congrArg (fun q:Cs=>AV.agg (Ei q)) (Gk ‹(e.op==0)=true› ‹((e.val.num==1)==s)=true›)).symm
         | exact Eq.trans rfl (congrArg (fun q:Cs=>AV.agg (Ei q)) (Gb ‹(e.op==0)=true› ‹((e.val.num==1)==s)=false›)).symm
         | exact Eq.trans rfl (congrArg (fun q:Cs=>AV.agg (Ei q)) (Gn h00 ‹(e.op==12)=true›)).symm
         | exact Eq.trans rfl (congrArg (fun q:Cs=>AV.agg (Ei q)) (Gc hl2 h10 ‹((e.op==10)==s)=true›)).symm
         | exact Eq.trans rfl (congrArg (fun q:Cs=>AV.agg (Ei q)) (Gi hl2 h10 ‹((e.op==10)==s)=false›)).symm
         | exact Eq.trans rfl (congrArg (fun q:Cs=>AV.agg (Ei q)) (Ge hl2 h9 ‹(Am T V (Ao e)==1)=true›)).symm
         | exact Eq.trans rfl (congrArg (fun q:Cs=>AV.agg (Ei q)) (Gg h9 ‹(Am T V (Ao e)==1)=false› ‹(Am T V (Ao e)==0 && !s)=true›)).symm
         | exact Eq.trans rfl (congrArg (fun q:Cs=>AV.agg (Ei q)) (It h9 ‹(Am T V (Ao e)==1)=false› ‹(Am T V (Ao e)==0 && !s)=false›)).symm
         | exact Eq.trans rfl (congrArg (fun q:Cs=>AV.agg (Ei q)) (Kq ‹(e.op==0)=false› ‹(e.op==12)=false› (cP ‹(e.op==10)=false› ‹(e.op==11)=false›) ‹(e.op==9)=false›)).symm
       ·
        refine AW.skip (Bs (Bs (Ae (Ah (Qp Dy (Qp Br (Qp Gj (Qp (Eo [Iq _,_,Iq _,Iq _,Iq _,Iq _,Iq _,.str _,.bool _]) ?_))))))))
        refine Qp (A1 (es:=[[Iq _,_,Iq _,Iq _,Iq _,Iq _,Iq _,.str _,.bool _]]) Ai rfl rfl rfl rfl rfl rfl rfl rfl rfl) ?_
        refine Qp (Qc rfl (Wp [⟨e,!s⟩] (show 1≤256 by decide))) ?_
        refine Cn 0 [_,.bool _] (_::_) (Ag (AW.ret ?_))
        refine ⟨.inr rfl,[.agg [_,.bool _]],.cons (.box _ _ _ 0 _ _ _ _ rfl rfl rfl rfl rfl rfl) <| .nil,.cons _ (.refl _),?_⟩
        first
         | exact absurd (‹(e.op==10)=true›.symm.trans ‹(e.op==10)=false›) (by decide)
         | exact absurd (‹(e.op==11)=true›.symm.trans ‹(e.op==11)=false›) (by decide)
         | exact absurd (‹(e.op==9)=true›.symm.trans ‹(e.op==9)=false›) (by decide)
         | exact Eq.trans rfl (congrArg (fun q:Cs=>AV.agg (Ei q)) (Gk ‹(e.op==0)=true› ‹((e.val.num==1)==s)=true›)).symm
         | exact Eq.trans rfl (congrArg (fun q:Cs=>AV.agg (Ei q)) (Gb ‹(e.op==0)=true› ‹((e.val.num==1)==s)=false›)).symm
         | exact Eq.trans rfl (congrArg (fun q:Cs=>AV.agg (Ei q)) (Gn h00 ‹(e.op==12)=true›)).symm
         | exact Eq.trans rfl (congrArg (fun q:Cs=>AV.agg (Ei q)) (Gc hl2 h10 ‹((e.op==10)==s)=true›)).symm
         | exact Eq.trans rfl (congrArg (fun q:Cs=>AV.agg (Ei q)) (Gi hl2 h10 ‹((e.op==10)==s)=false›)).symm
         | exact Eq.trans rfl (congrArg (fun q:Cs=>AV.agg (Ei q)) (Ge hl2 h9 ‹(Am T V (Ao e)==1)=true›)).symm
         | exact Eq.trans rfl (congrArg (fun q:Cs=>AV.agg (Ei q)) (Gg h9 ‹(Am T V (Ao e)==1)=false› ‹(Am T V (Ao e)==0 && !s)=true›)).symm
         | exact Eq.trans rfl (congrArg (fun q:Cs=>AV.agg (Ei q)) (It h9 ‹(Am T V (Ao e)==1)=false› ‹(Am T V (Ao e)==0 && !s)=false›)).symm
         | exact Eq.trans rfl (congrArg (fun q:Cs=>AV.agg (Ei q)) (Kq ‹(e.op==0)=false› ‹(e.op==12)=false› (cP ‹(e.op==10)=false› ‹(e.op==11)=false›) ‹(e.op==9)=false›)).symm
     ·
      refine AW.skip (Bs (Ae (Ah (Qp Dy (Qp Br (Qp Gj (Qp (Eo [Iq _,_,Iq _,Iq _,Iq _,Iq _,Iq _,.str _,.bool _]) ?_)))))))
      refine Qp (A1 (es:=[[Iq _,_,Iq _,Iq _,Iq _,Iq _,Iq _,.str _,.bool _]]) Ai rfl rfl rfl rfl rfl rfl rfl rfl rfl) ?_
      refine Qp (Qc rfl (Wp [⟨e,!s⟩] (show 1≤256 by decide))) ?_
      refine Cn 0 [_,.bool _] (_::_) (Ag (AW.ret ?_))
      refine ⟨.inr rfl,[.agg [_,.bool _]],.cons (.box _ _ _ 0 _ _ _ _ rfl rfl rfl rfl rfl rfl) <| .nil,.cons _ (.refl _),?_⟩
      first
       | exact absurd (‹(e.op==10)=true›.symm.trans ‹(e.op==10)=false›) (by decide)
       | exact absurd (‹(e.op==11)=true›.symm.trans ‹(e.op==11)=false›) (by decide)
       | exact absurd (‹(e.op==9)=true›.symm.trans ‹(e.op==9)=false›) (by decide)
       | exact Eq.trans rfl (congrArg (fun q:Cs=>AV.agg (Ei q)) (Gk ‹(e.op==0)=true› ‹((e.val.num==1)==s)=true›)).symm
       | exact Eq.trans rfl (congrArg (fun q:Cs=>AV.agg (Ei q)) (Gb ‹(e.op==0)=true› ‹((e.val.num==1)==s)=false›)).symm
       | exact Eq.trans rfl (congrArg (fun q:Cs=>AV.agg (Ei q)) (Gn h00 ‹(e.op==12)=true›)).symm
       | exact Eq.trans rfl (congrArg (fun q:Cs=>AV.agg (Ei q)) (Gc hl2 h10 ‹((e.op==10)==s)=true›)).symm
       | exact Eq.trans rfl (congrArg (fun q:Cs=>AV.agg (Ei q)) (Gi hl2 h10 ‹((e.op==10)==s)=false›)).symm
       | exact Eq.trans rfl (congrArg (fun q:Cs=>AV.agg (Ei q)) (Ge hl2 h9 ‹(Am T V (Ao e)==1)=true›)).symm
       | exact Eq.trans rfl (congrArg (fun q:Cs=>AV.agg (Ei q)) (Gg h9 ‹(Am T V (Ao e)==1)=false› ‹(Am T V (Ao e)==0 && !s)=true›)).symm
       | exact Eq.trans rfl (congrArg (fun q:Cs=>AV.agg (Ei q)) (It h9 ‹(Am T V (Ao e)==1)=false› ‹(Am T V (Ao e)==0 && !s)=false›)).symm
       | exact Eq.trans rfl (congrArg (fun q:Cs=>AV.agg (Ei q)) (Kq ‹(e.op==0)=false› ‹(e.op==12)=false› (cP ‹(e.op==10)=false› ‹(e.op==11)=false›) ‹(e.op==9)=false›)).symm
theorem sW (T:List Sc)(hl:T.length≤1048576)(hst:∀s∈T,Jn s)(V:List Va)(hvl:V.length≤1048576)(e:Ex)(hse:At e≤1048576):Ax Tryz.prog 13 [.sl 2 (T.map Nx),.sl 2 (V.map Uw),.agg (cE e)] (.tuple [.sl 1 ((Jb T V e).1.map Pp),.int .i64 (Jb T V e).2]):=by
 refine Ax.body (n:=28) Ai Tryz.func13 rfl rfl rfl fun H=>?_
 refine Ah (Qp K9 ?_)
 refine Qp (B2 (z:=1) rfl) ?_
 refine Qp Av (Df (Qp C4 (Qp C4 (Qp (Eo [_,_]) ?_))))
 refine Qe (Al (l:=[.sl 2 [],.sl 2 []]) (by kernel_rfl)) ?_
 rintro _ _ ⟨b8,rfl,rfl⟩
 refine Cn 0 [_,_] (_::_) ?_
 refine AOL.ghost (GS.Abn (t:=8) 0 rfl rfl) ?_
 refine Ag (AW.seq (Ah (Qp (Ck [_,_]) (Qp Dy ?_))))
 refine Qp (Qc rfl (O0 T hl hst V hvl e hse)) ?_
 refine Qp Av (Df (Qp A2 (Qp Cq (Ag (A5 (fun hc1=>?_) fun hc1=>?_)))))
 ·
  refine Ah (Qp A2 ?_)
  refine Qp (B2 (z:=1) rfl) ?_
  refine Qp Av (Ag (Dr ?_))
  refine Kn (.sl _ _) (Iq _) ?_
  exact Eq.trans rfl (congrArg (fun q:List (List Lit)×Int=>AV.tuple [.sl 1 (q.1.map Pp),.int .i64 q.2]) (rW hc1)).symm
 ·
  have hk:=(Sl hc1).1
  refine Bz (Ah (Qp (Ck [_,_]) (Qp Dy ?_)))
  refine Qp (Qc rfl (R7 T V e hk.kok (Ir hk) true)) ?_
  refine Qe (Al (l:=[.sl 1 [],.bool false]) (by kernel_rfl)) ?_
  rintro _ _ ⟨b10,rfl,rfl⟩
  refine Cn 0 [_,.bool _] (_::_) ?_
  refine AOL.ghost (GS.Abn (t:=10) 0 rfl rfl) ?_
  refine Ag (AW.seq (Ah (Qp (Qf [.bool _]) (Qp kC (Qp Gj (Ag (A5 (fun hc2=>?_) fun hc2=>?_)))))))
  ·
   refine Ah ?_
   refine Qp (B2 (z:=1) rfl) ?_
   refine Qp Av (Ag (Dr ?_))
   refine Kn (.sl _ _) (Iq _) ?_
   exact Eq.trans rfl (congrArg (fun q:List (List Lit)×Int=>AV.tuple [.sl 1 (q.1.map Pp),.int .i64 q.2]) (tB hc1 hc2)).symm
  ·
   refine Bz (Ah (Qp (Qf [_,.bool _]) (Qp Dk (Qp V2 (Qp Av (Ag (AW.ret ?_)))))))
   refine Kn (.sl _ _) (Iq _) ?_
   exact Eq.trans rfl (congrArg (fun q:List (List Lit)×Int=>AV.tuple [.sl 1 (q.1.map Pp),.int .i64 q.2]) (pY hc1 hc2)).symm

end Go.Proofs.YtkddpedfbicbeaaGreatDoor
