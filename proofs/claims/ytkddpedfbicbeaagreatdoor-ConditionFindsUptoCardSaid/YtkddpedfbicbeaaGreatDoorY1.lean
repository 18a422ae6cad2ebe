/-
  Walks of layer 11: nodes, negation. No condition.
-/
import Derived.Test.YtkddpedfbicbeaaGreatDoorAz
import Derived.Test.YtkddpedfbicbeaaGreatDoorK04
import Derived.Test.YtkddpedfbicbeaaGreatDoorK08
import Derived.Test.YtkddpedfbicbeaaGreatDoorK12
import Derived.Test.YtkddpedfbicbeaaGreatDoorW25
import Derived.KernelRfl
namespace Go.Proofs.YtkddpedfbicbeaaGreatDoor
open Go Go.Aw
set_option maxHeartbeats 3200000
set_option maxRecDepth 20000
set_option linter.unusedVariables false
set_option linter.unusedSimpArgs false

theorem aR (op:Int)(x y:Ex):Av Tryz.prog 91 [.int .i64 op,.agg (cE x),.agg (cE y)] (.agg (cE (two op x y))):=by
 refine Av.body (n:=12) Ai Tryz.func91 rfl rfl rfl fun H=>?_
 refine Ah (Qp K8 (Qp K8 ?_))
 refine Qe (Al (l:=[.int .i64 0,.sl 8 [],.int .i64 0,.int .i64 0,.int .i64 0,.int .i64 0,.int .i64 0,.str []]) (by kernel_rfl)) ?_
 rintro _ _ ⟨b6,rfl,rfl⟩
 refine Df (Qp A0 (Qp D0 (Qp D0 ?_)))
 refine Qp (Az (es:=[[Iq _,_,Iq _,Iq _,Iq _,Iq _,Iq _,.str _],[Iq _,_,Iq _,Iq _,Iq _,Iq _,Iq _,.str _]]) Ai rfl rfl rfl rfl rfl rfl rfl rfl rfl) ?_
 refine Qp (Ep [Iq _,_,Iq _,Iq _,Iq _,Iq _,Iq _,.str _]) ?_
 refine Cm 0 [Iq _,_,Iq _,Iq _,Iq _,Iq _,Iq _,.str _] (_::_) ?_
 refine Ag (AW.ret ?_)
 refine ⟨.inr rfl,[.agg [Iq _,_,Iq _,Iq _,Iq _,Iq _,Iq _,.str _]],.cons (.box _ _ _ 0 _ _ _ _ rfl rfl rfl rfl rfl rfl) <| .nil,.cons _ (.refl _),?_⟩
 rw [Zg];rfl
theorem Lg (op:Int)(x y:Ex):Av Tryz.prog 28 [.int .i64 op,.agg (cE x),.agg (cE y)] (.agg (cE (two op x y))):=by
 refine Av.body (n:=12) Ai Tryz.func28 rfl rfl rfl fun H=>?_
 refine Ah (Qp K8 (Qp K8 ?_))
 refine Qe (Al (l:=[.int .i64 0,.sl 8 [],.int .i64 0,.int .i64 0,.int .i64 0,.int .i64 0,.int .i64 0,.str []]) (by kernel_rfl)) ?_
 rintro _ _ ⟨b6,rfl,rfl⟩
 refine Df (Qp A0 (Qp D0 (Qp D0 ?_)))
 refine Qp (Az (es:=[[Iq _,_,Iq _,Iq _,Iq _,Iq _,Iq _,.str _],[Iq _,_,Iq _,Iq _,Iq _,Iq _,Iq _,.str _]]) Ai rfl rfl rfl rfl rfl rfl rfl rfl rfl) ?_
 refine Qp (Ep [Iq _,_,Iq _,Iq _,Iq _,Iq _,Iq _,.str _]) ?_
 refine Cm 0 [Iq _,_,Iq _,Iq _,Iq _,Iq _,Iq _,.str _] (_::_) ?_
 refine Ag (AW.ret ?_)
 refine ⟨.inr rfl,[.agg [Iq _,_,Iq _,Iq _,Iq _,Iq _,Iq _,.str _]],.cons (.box _ _ _ 0 _ _ _ _ rfl rfl rfl rfl rfl rfl) <| .nil,.cons _ (.refl _),?_⟩
 rw [Zg];rfl
theorem l_not (x:Ex):Av Tryz.prog 42 [.agg (cE x)] (.agg (cE (Ov x))):=by
 refine Av.body (n:=6) Ai Tryz.func42 rfl rfl rfl fun H=>?_
 refine Ah (Qp K8 ?_)
 refine Qe (Al (l:=[.int .i64 0,.sl 8 [],.int .i64 0,.int .i64 0,.int .i64 0,.int .i64 0,.int .i64 0,.str []]) (by kernel_rfl)) ?_
 rintro _ _ ⟨b2,rfl,rfl⟩
 refine Df (Qp D0 ?_)
 refine Qp (Az (es:=[[Iq _,_,Iq _,Iq _,Iq _,Iq _,Iq _,.str _]]) Ai rfl rfl rfl rfl rfl rfl rfl rfl rfl) ?_
 refine Qp (Ep [Iq _,_,Iq _,Iq _,Iq _,Iq _,Iq _,.str _]) ?_
 refine Cm 0 [Iq _,_,Iq _,Iq _,Iq _,Iq _,Iq _,.str _] (_::_) ?_
 refine Ag (AW.ret ?_)
 refine ⟨.inr rfl,[.agg [Iq _,_,Iq _,Iq _,Iq _,Iq _,Iq _,.str _]],.cons (.box _ _ _ 0 _ _ _ _ rfl rfl rfl rfl rfl rfl) <| .nil,.cons _ (.refl _),?_⟩
 rw [aJ];rfl
theorem pR (x:Bool):Av Tryz.prog 96 [.bool x] (.agg (cE (Em x))):=by
 refine Av.body (n:=6) Ai Tryz.func96 rfl rfl rfl fun H=>?_
 refine Ah ?_
 refine Qe (Al (l:=[.int .i64 0,.sl 8 [],.int .i64 0,.int .i64 0,.int .i64 0,.int .i64 0,.int .i64 0,.str []]) (by kernel_rfl)) ?_
 rintro _ _ ⟨b2,rfl,rfl⟩
 refine Df (Qp Bp ?_)
 refine Qp (Qc rfl (c75 x)) ?_
 refine Qp (Ep [Iq _,_,Iq _,Iq _,Iq _,Iq _,Iq _,.str _]) ?_
 refine Cm 0 [Iq _,_,Iq _,Iq _,Iq _,Iq _,Iq _,.str _] (_::_) ?_
 refine Ag (AW.ret ?_)
 refine ⟨.inr rfl,[.agg [Iq _,_,Iq _,Iq _,Iq _,Iq _,Iq _,.str _]],.cons (.box _ _ _ 0 _ _ _ _ rfl rfl rfl rfl rfl rfl) <| .nil,.cons _ (.refl _),?_⟩
 rfl
theorem Oo (n:Int):Av Tryz.prog 41 [.int .i64 n] (.agg (cE (Ol ⟨0,n,[]⟩))):=by
 refine Av.body (n:=6) Ai Tryz.func41 rfl rfl rfl fun H=>?_
 refine Ah ?_
 refine Qe (Al (l:=[.int .i64 0,.sl 8 [],.int .i64 0,.int .i64 0,.int .i64 0,.int .i64 0,.int .i64 0,.str []]) (by kernel_rfl)) ?_
 rintro _ _ ⟨b2,rfl,rfl⟩
 refine Df (Qp A0 (Qp (Ep [Iq _,Iq _,.str _]) (Qp (Ep [Iq _,_,Iq _,Iq _,Iq _,Iq _,Iq _,.str _]) ?_)))
 refine Cm 0 [Iq _,_,Iq _,Iq _,Iq _,Iq _,Iq _,.str _] (_::_) ?_
 refine Ag (AW.ret ?_)
 refine ⟨.inr rfl,[.agg [Iq _,_,Iq _,Iq _,Iq _,Iq _,Iq _,.str _]],.cons (.box _ _ _ 0 _ _ _ _ rfl rfl rfl rfl rfl rfl) <| .nil,.cons _ (.refl _),?_⟩
 rfl
theorem Fx (v:Int):Av Tryz.prog 40 [.int .i64 v] (.agg (cE ⟨1,[],v,1,0,v0⟩)):=by
 refine Av.body (n:=5) Ai Tryz.func40 rfl rfl rfl fun H=>?_
 refine Ah ?_
 refine Qe (Al (l:=[.int .i64 0,.sl 8 [],.int .i64 0,.int .i64 0,.int .i64 0,.int .i64 0,.int .i64 0,.str []]) (by kernel_rfl)) ?_
 rintro _ _ ⟨b2,rfl,rfl⟩
 refine Df (Qp A0 (Qp (Ep [Iq _,_,Iq _,Iq _,Iq _,Iq _,Iq _,.str _]) ?_))
 refine Cm 0 [Iq _,_,Iq _,Iq _,Iq _,Iq _,Iq _,.str _] (_::_) ?_
 refine Ag (AW.ret ?_)
 refine ⟨.inr rfl,[.agg [Iq _,_,Iq _,Iq _,Iq _,Iq _,Iq _,.str _]],.cons (.box _ _ _ 0 _ _ _ _ rfl rfl rfl rfl rfl rfl) <| .nil,.cons _ (.refl _),?_⟩
 rfl
theorem S2 (v:Int):Av Tryz.prog 48 [.int .i64 v] (.agg (cE ⟨1,[],v,0,0,v0⟩)):=by
 refine Av.body (n:=5) Ai Tryz.func48 rfl rfl rfl fun H=>?_
 refine Ah ?_
 refine Qe (Al (l:=[.int .i64 0,.sl 8 [],.int .i64 0,.int .i64 0,.int .i64 0,.int .i64 0,.int .i64 0,.str []]) (by kernel_rfl)) ?_
 rintro _ _ ⟨b2,rfl,rfl⟩
 refine Df (Qp A0 (Qp (Ep [Iq _,_,Iq _,Iq _,Iq _,Iq _,Iq _,.str _]) ?_))
 refine Cm 0 [Iq _,_,Iq _,Iq _,Iq _,Iq _,Iq _,.str _] (_::_) ?_
 refine Ag (AW.ret ?_)
 refine ⟨.inr rfl,[.agg [Iq _,_,Iq _,Iq _,Iq _,Iq _,Iq _,.str _]],.cons (.box _ _ _ 0 _ _ _ _ rfl rfl rfl rfl rfl rfl) <| .nil,.cons _ (.refl _),?_⟩
 rfl
theorem d_neg (e:Ex)(hn:C1 e=0):Av Tryz.prog 58 [.agg (cE e)] (.agg (cE (Fh e))):=by
 revert hn
 induction e using Ex.Aak
 rename_i e ih
 intro hn
 have hz:=Bb hn
 refine Av.body (n:=73) Ai Tryz.func58 rfl rfl rfl fun H=>?_
 refine Ah (Qp K8 ?_)
 refine Qe (Al (l:=[.int .i64 0,.sl 8 [],.int .i64 0,.int .i64 0,.int .i64 0,.int .i64 0,.int .i64 0,.str []]) (by kernel_rfl)) ?_
 rintro _ _ ⟨b2,rfl,rfl⟩
 refine Ag (AW.seq (Ah (Qp Ks (Qp Bs (Ag (AW.block (Ah (Qp A5 (Qp Be ?_)))))))))
 refine Ag (A3 (fun hc1=>?_) fun hc1=>?_)
 ·
  have hop:=eq_of_beq hc1
  have hl2:=Dg hz.1 (by omega)
  have h00:0<e.args.length:=by omega
  refine AW.seq ?_
  refine AW.draw mixed (fun _=>True) trivial (by kernel_rfl) ?_
  refine Qn 0 rfl K5 (Qn 1 rfl Dk ?_)
  refine Qn 2 rfl (Af (c:=[Iq _,_,Iq _,Iq _,Iq _,Iq _,Iq _,.str _]) Ai rfl rfl rfl rfl rfl rfl (by decide) (Fp h00)) ?_
  refine Qn 3 rfl D0 ?_
  refine Qn 4 rfl (Qc rfl (ih _ (A4 h00) (hz.2 _ (A4 h00)))) ?_
  refine Qn 5 rfl K5 (Qn 6 rfl Dk ?_)
  refine Qn 7 rfl (Af (c:=[Iq _,_,Iq _,Iq _,Iq _,Iq _,Iq _,.str _]) Ai rfl rfl rfl rfl rfl rfl (by decide) (Ie hl2)) ?_
  refine Qn 8 rfl D0 ?_
  refine Qn 9 rfl (Qc rfl (ih _ (Bi hl2) (hz.2 _ (Bi hl2)))) ?_
  refine Qn 10 rfl (Qc rfl (aR 11 _ _)) ?_
  refine Jv.eff _ _ 11 _ _ rfl (by kernel_rfl) rfl rfl (C6 (k:=0) (v:=.agg _) (cs':=[Iq _,_,Iq _,Iq _,Iq _,Iq _,Iq _,.str _]) (H2:=_::_) Ai rfl rfl rfl rfl (rfl) rfl rfl rfl rfl) (fun _ _ _=>trivial) ?_
  rintro _ _ ⟨rfl,rfl⟩
  refine Jv.done _ _ (by kernel_rfl) ?_
  refine Ae (AW.ret (Ba (Aj ?_)))
  refine ⟨.inr rfl,[.agg [Iq _,_,Iq _,Iq _,Iq _,Iq _,Iq _,.str _]],.cons (.box _ _ _ 0 _ _ _ _ rfl rfl rfl rfl rfl rfl) <| .nil,.cons _ (.refl _),?_⟩
  rw [xB hc1 hl2];rfl
 ·
  refine Ah (Qp A5 (Qp Be (Ag (A3 (fun hc2=>?_) fun hc2=>?_))))
  ·
   have hop:=eq_of_beq hc2
   have hl2:=Dg hz.1 (by omega)
   have h00:0<e.args.length:=by omega
   refine AW.seq ?_
   refine AW.draw mixed (fun _=>True) trivial (by kernel_rfl) ?_
   refine Qn 0 rfl K5 (Qn 1 rfl Dk ?_)
   refine Qn 2 rfl (Af (c:=[Iq _,_,Iq _,Iq _,Iq _,Iq _,Iq _,.str _]) Ai rfl rfl rfl rfl rfl rfl (by decide) (Fp h00)) ?_
   refine Qn 3 rfl D0 ?_
   refine Qn 4 rfl (Qc rfl (ih _ (A4 h00) (hz.2 _ (A4 h00)))) ?_
   refine Qn 5 rfl K5 (Qn 6 rfl Dk ?_)
   refine Qn 7 rfl (Af (c:=[Iq _,_,Iq _,Iq _,Iq _,Iq _,Iq _,.str _]) Ai rfl rfl rfl rfl rfl rfl (by decide) (Ie hl2)) ?_
   refine Qn 8 rfl D0 ?_
   refine Qn 9 rfl (Qc rfl (ih _ (Bi hl2) (hz.2 _ (Bi hl2)))) ?_
   refine Qn 10 rfl (Qc rfl (aR 10 _ _)) ?_
   refine Jv.eff _ _ 11 _ _ rfl (by kernel_rfl) rfl rfl (C6 (k:=0) (v:=.agg _) (cs':=[Iq _,_,Iq _,Iq _,Iq _,Iq _,Iq _,.str _]) (H2:=_::_) Ai rfl rfl rfl rfl (rfl) rfl rfl rfl rfl) (fun _ _ _=>trivial) ?_
   rintro _ _ ⟨rfl,rfl⟩
   refine Jv.done _ _ (by kernel_rfl) ?_
   refine Ae (AW.ret (Ba (Aj ?_)))
   refine ⟨.inr rfl,[.agg [Iq _,_,Iq _,Iq _,Iq _,Iq _,Iq _,.str _]],.cons (.box _ _ _ 0 _ _ _ _ rfl rfl rfl rfl rfl rfl) <| .nil,.cons _ (.refl _),?_⟩
   rw [negS_or hc1 hc2 hl2];rfl
  ·
   refine Ah (Qp A5 (Qp Be (Ag (A3 (fun hc3=>?_) fun hc3=>?_))))
   ·
    have h00:=V7 hz.1 (eq_of_beq hc3)
    refine Ah (Qp K5 (Qp Dk ?_))
    refine Qp (Af (c:=[Iq _,_,Iq _,Iq _,Iq _,Iq _,Iq _,.str _]) Ai rfl rfl rfl rfl rfl rfl (by decide) (Fp h00)) ?_
    refine Qp D0 ?_
    refine Cm 0 [Iq _,_,Iq _,Iq _,Iq _,Iq _,Iq _,.str _] (_::_) ?_
    refine Ag (AW.ret (Ba (Aj ?_)))
    refine ⟨.inr rfl,[.agg [Iq _,_,Iq _,Iq _,Iq _,Iq _,Iq _,.str _]],.cons (.box _ _ _ 0 _ _ _ _ rfl rfl rfl rfl rfl rfl) <| .nil,.cons _ (.refl _),?_⟩
    rw [K7,Vp,Ci hc1,Ci hc2,if_pos hc3];rfl
   ·
    refine Ah (Qp A5 (Qp Be (Ag (A3 (fun hc4=>?_) fun hc4=>?_))))
    ·
     have hop:=eq_of_beq hc4
     have hl2:=Dg hz.1 (by omega)
     have h00:0<e.args.length:=by omega
     refine AW.seq ?_
     refine AW.draw mixed (fun _=>True) trivial (by kernel_rfl) ?_
     refine Qn 0 rfl K5 (Qn 1 rfl Dk ?_)
     refine Qn 2 rfl (Af (c:=[Iq _,_,Iq _,Iq _,Iq _,Iq _,Iq _,.str _]) Ai rfl rfl rfl rfl rfl rfl (by decide) (Ie hl2)) ?_
     refine Qn 3 rfl D0 (Qn 4 rfl K5 (Qn 5 rfl Dk ?_))
     refine Qn 6 rfl (Af (c:=[Iq _,_,Iq _,Iq _,Iq _,Iq _,Iq _,.str _]) Ai rfl rfl rfl rfl rfl rfl (by decide) (Fp h00)) ?_
     refine Qn 7 rfl D0 ?_
     refine Qn 8 rfl (Qc rfl (aR 8 _ _)) ?_
     refine Jv.eff _ _ 9 _ _ rfl (by kernel_rfl) rfl rfl (C6 (k:=0) (v:=.agg _) (cs':=[Iq _,_,Iq _,Iq _,Iq _,Iq _,Iq _,.str _]) (H2:=_::_) Ai rfl rfl rfl rfl (rfl) rfl rfl rfl rfl) (fun _ _ _=>trivial) ?_
     rintro _ _ ⟨rfl,rfl⟩
     refine Jv.done _ _ (by kernel_rfl) ?_
     refine Ae (AW.ret (Ba (Aj ?_)))
     refine ⟨.inr rfl,[.agg [Iq _,_,Iq _,Iq _,Iq _,Iq _,Iq _,.str _]],.cons (.box _ _ _ 0 _ _ _ _ rfl rfl rfl rfl rfl rfl) <| .nil,.cons _ (.refl _),?_⟩
     rw [K7,Vp,Ci hc1,Ci hc2,Ci hc3,if_pos hc4];rfl
    ·
     refine Ah (Qp A5 (Qp Be (Ag (A3 (fun hc5=>?_) fun hc5=>?_))))
     ·
      have hop:=eq_of_beq hc5
      have hl2:=Dg hz.1 (by omega)
      have h00:0<e.args.length:=by omega
      refine AW.seq ?_
      refine AW.draw mixed (fun _=>True) trivial (by kernel_rfl) ?_
      refine Qn 0 rfl K5 (Qn 1 rfl Dk ?_)
      refine Qn 2 rfl (Af (c:=[Iq _,_,Iq _,Iq _,Iq _,Iq _,Iq _,.str _]) Ai rfl rfl rfl rfl rfl rfl (by decide) (Ie hl2)) ?_
      refine Qn 3 rfl D0 (Qn 4 rfl K5 (Qn 5 rfl Dk ?_))
      refine Qn 6 rfl (Af (c:=[Iq _,_,Iq _,Iq _,Iq _,Iq _,Iq _,.str _]) Ai rfl rfl rfl rfl rfl rfl (by decide) (Fp h00)) ?_
      refine Qn 7 rfl D0 ?_
      refine Qn 8 rfl (Qc rfl (aR 7 _ _)) ?_
      refine Jv.eff _ _ 9 _ _ rfl (by kernel_rfl) rfl rfl (C6 (k:=0) (v:=.agg _) (cs':=[Iq _,_,Iq _,Iq _,Iq _,Iq _,Iq _,.str _]) (H2:=_::_) Ai rfl rfl rfl rfl (rfl) rfl rfl rfl rfl) (fun _ _ _=>trivial) ?_
      rintro _ _ ⟨rfl,rfl⟩
      refine Jv.done _ _ (by kernel_rfl) ?_
      refine Ae (AW.ret (Ba (Aj ?_)))
      refine ⟨.inr rfl,[.agg [Iq _,_,Iq _,Iq _,Iq _,Iq _,Iq _,.str _]],.cons (.box _ _ _ 0 _ _ _ _ rfl rfl rfl rfl rfl rfl) <| .nil,.cons _ (.refl _),?_⟩
      rw [K7,Vp,Ci hc1,Ci hc2,Ci hc3,Ci hc4,if_pos hc5];rfl
     ·
      refine Ah (Qp A5 (Qp Be (Ag (A3 (fun hc6=>?_) fun hc6=>?_))))
      ·
       refine Ah (Qp Jp (Qp Jp (Qp Bs (Qp A5 (Ag (A3 (fun hc7=>?_) fun hc7=>?_))))))
       ·
        refine Ah (Qp Jp (Qp Wi (Qp Bs (Qp A5 ?_))))
        refine Qp (Qc rfl (pR _)) ?_
        refine Cm 0 [Iq _,_,Iq _,Iq _,Iq _,Iq _,Iq _,.str _] (_::_) ?_
        refine Ag (AW.ret (Ba (Aj ?_)))
        refine ⟨.inr rfl,[.agg [Iq _,_,Iq _,Iq _,Iq _,Iq _,Iq _,.str _]],.cons (.box _ _ _ 0 _ _ _ _ rfl rfl rfl rfl rfl rfl) <| .nil,.cons _ (.refl _),?_⟩
        rw [K7,Vp,Ci hc1,Ci hc2,Ci hc3,Ci hc4,Ci hc5,if_pos (by rw [hc6,hc7];rfl)];rfl
       ·
        refine AW.skip (Bq (Ae (Ah (Qp D0 ?_))))
        refine Qp (Az (es:=[[Iq _,_,Iq _,Iq _,Iq _,Iq _,Iq _,.str _]]) Ai rfl rfl rfl rfl rfl rfl rfl rfl rfl) ?_
        refine Qp (Ep [Iq _,_,Iq _,Iq _,Iq _,Iq _,Iq _,.str _]) ?_
        refine Cm 0 [Iq _,_,Iq _,Iq _,Iq _,Iq _,Iq _,.str _] (_::_) ?_
        refine Ag (AW.ret ?_)
        refine ⟨.inr rfl,[.agg [Iq _,_,Iq _,Iq _,Iq _,Iq _,Iq _,.str _]],.cons (.box _ _ _ 0 _ _ _ _ rfl rfl rfl rfl rfl rfl) <| .nil,.cons _ (.refl _),?_⟩
        exact Eq.trans rfl (fA hc1 hc2 hc3 hc4 hc5 (by rw [hc6,hc7];rfl)).symm
      ·
       refine AW.skip (Bq (Ae (Ah (Qp D0 ?_))))
       refine Qp (Az (es:=[[Iq _,_,Iq _,Iq _,Iq _,Iq _,Iq _,.str _]]) Ai rfl rfl rfl rfl rfl rfl rfl rfl rfl) ?_
       refine Qp (Ep [Iq _,_,Iq _,Iq _,Iq _,Iq _,Iq _,.str _]) ?_
       refine Cm 0 [Iq _,_,Iq _,Iq _,Iq _,Iq _,Iq _,.str _] (_::_) ?_
       refine Ag (AW.ret ?_)
       refine ⟨.inr rfl,[.agg [Iq _,_,Iq _,Iq _,Iq _,Iq _,Iq _,.str _]],.cons (.box _ _ _ 0 _ _ _ _ rfl rfl rfl rfl rfl rfl) <| .nil,.cons _ (.refl _),?_⟩
       exact Eq.trans rfl (fA hc1 hc2 hc3 hc4 hc5 (by rw [hc6];rfl)).symm
theorem uW (e:Ex)(hs:Ar e≤1048576):Av Tryz.prog 18 [.agg (cE e)] (.tuple [.agg (cE (Cz e).1),.int .i64 (Cz e).2]):=by
 refine Av.body (n:=22) Ai Tryz.func18 rfl rfl rfl fun H=>?_
 refine Ah (Qp K8 ?_)
 refine Qe (Al (l:=[.int .i64 0,.sl 8 [],.int .i64 0,.int .i64 0,.int .i64 0,.int .i64 0,.int .i64 0,.str []]) (by kernel_rfl)) ?_
 rintro _ _ ⟨b2,rfl,rfl⟩
 refine Qp At (Ag (AW.seq (Ah (Qp D0 ?_))))
 refine Qp (Qc rfl (c21 e hs)) ?_
 refine Qp At (Df (Qp A0 (Qp Cr (Ag (A3 (fun hc1=>?_) fun hc1=>?_)))))
 ·
  refine Ah (Qp (Ep [Iq _,_,Iq _,Iq _,Iq _,Iq _,Iq _,.str _]) (Qp A0 ?_))
  refine Cm 0 [Iq _,_,Iq _,Iq _,Iq _,Iq _,Iq _,.str _] (_::_) ?_
  refine Qp At (Ag (Dr ?_))
  refine ⟨.inr rfl,[.agg [Iq _,_,Iq _,Iq _,Iq _,Iq _,Iq _,.str _],Iq _],.cons (.box _ _ _ 0 _ _ _ _ rfl rfl rfl rfl rfl rfl) <| .cons (.tmp _ _ rfl) <| .nil,.cons _ (.refl _),?_⟩
  rw [Cz,if_pos hc1];rfl
 ·
  have hn:=R6 hc1
  have hsz:Ar (Fh e)≤1048576:=by have:=wQ e hn;have:=Yp hc1;omega
  refine Bx (Ah (Qp D0 ?_))
  refine Qp (Qc rfl (d_neg e hn)) ?_
  refine Qe (Al (l:=[.int .i64 0,.sl 8 [],.int .i64 0,.int .i64 0,.int .i64 0,.int .i64 0,.int .i64 0,.str []]) (by kernel_rfl)) ?_
  rintro _ _ ⟨b5,rfl,rfl⟩
  refine Cm 0 [Iq _,_,Iq _,Iq _,Iq _,Iq _,Iq _,.str _] (_::_::_) ?_
  refine AOL.ghost (GS.Aad (t:=5) 0 rfl rfl) ?_
  refine Ag (AW.seq (Ah (Qp D0 ?_)))
  refine Qp (Qc rfl (c21 _ hsz)) ?_
  refine Qp At (Df (Qp A0 (Qp Cr (Ag (A3 (fun hc2=>?_) fun hc2=>?_)))))
  ·
   refine Ah (Qp (Ep [Iq _,_,Iq _,Iq _,Iq _,Iq _,Iq _,.str _]) (Qp A0 ?_))
   refine Cm 0 [Iq _,_,Iq _,Iq _,Iq _,Iq _,Iq _,.str _] (_::_) ?_
   refine Qp At (Ag (Dr ?_))
   refine ⟨.inr rfl,[.agg [Iq _,_,Iq _,Iq _,Iq _,Iq _,Iq _,.str _],Iq _],.cons (.box _ _ _ 0 _ _ _ _ rfl rfl rfl rfl rfl rfl) <| .cons (.tmp _ _ rfl) <| .nil,.cons _ (.refl _),?_⟩
   rw [Cz,Ci hc1,if_pos hc2];rfl
  ·
   refine Bx (Ah (Qp D0 ?_))
   refine Cm 0 [Iq _,_,Iq _,Iq _,Iq _,Iq _,Iq _,.str _] (_::_) ?_
   refine Qp At (Ag (AW.ret ?_))
   refine ⟨.inr rfl,[.agg [Iq _,_,Iq _,Iq _,Iq _,Iq _,Iq _,.str _],Iq _],.cons (.box _ _ _ 0 _ _ _ _ rfl rfl rfl rfl rfl rfl) <| .cons (.tmp _ _ rfl) <| .nil,.cons _ (.refl _),?_⟩
   rw [Cz,Ci hc1,Ci hc2];rfl
end Go.Proofs.YtkddpedfbicbeaaGreatDoor
