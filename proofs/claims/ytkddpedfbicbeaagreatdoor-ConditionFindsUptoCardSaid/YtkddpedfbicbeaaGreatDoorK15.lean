/-
  Several texts in one: Y1, Y6b. No condition.
-/
import Derived.Test.YtkddpedfbicbeaaGreatDoorK01
import Derived.Test.YtkddpedfbicbeaaGreatDoorK02
import Derived.Test.YtkddpedfbicbeaaGreatDoorK05
import Derived.Test.YtkddpedfbicbeaaGreatDoorK07
import Derived.KernelRfl
import Derived.Test.YtkddpedfbicbeaaGreatDoorK08
import Derived.Test.YtkddpedfbicbeaaGreatDoorK14
set_option linter.unusedVariables false
set_option linter.unusedSimpArgs false
namespace Go.Proofs.YtkddpedfbicbeaaGreatDoor
open Go Go.Aw
set_option maxHeartbeats 3200000
set_option maxRecDepth 20000

theorem bF (op:Int)(x y:Ex):Ax Tryz.prog 91 [.int .i64 op,.agg (cE x),.agg (cE y)] (.agg (cE (two op x y))):=by
 refine Ax.body (n:=12) Ai Tryz.func91 rfl rfl rfl fun H=>?_
 refine Ah (Qp La (Qp La ?_))
 refine Qe (Al (l:=[.int .i64 0,.sl 8 [],.int .i64 0,.int .i64 0,.int .i64 0,.int .i64 0,.int .i64 0,.str []]) (by kernel_rfl)) ?_
 rintro _ _ ⟨b6,rfl,rfl⟩
 refine Dh (Qp A2 (Qp D1 (Qp D1 ?_)))
 refine Qp (A1 (es:=[[Iq _,_,Iq _,Iq _,Iq _,Iq _,Iq _,.str _],[Iq _,_,Iq _,Iq _,Iq _,Iq _,Iq _,.str _]]) Ai rfl rfl rfl rfl rfl rfl rfl rfl rfl) ?_
 refine Qp (Et [Iq _,_,Iq _,Iq _,Iq _,Iq _,Iq _,.str _]) (Co 0 [Iq _,_,Iq _,Iq _,Iq _,Iq _,Iq _,.str _] (_::_) (Ag (AW.ret ?_)))
 refine ⟨.inr rfl,[.agg [Iq _,_,Iq _,Iq _,Iq _,Iq _,Iq _,.str _]],.cons (.box _ _ _ 0 _ _ _ _ rfl rfl rfl rfl rfl rfl) <| .nil,.cons _ (.refl _),?_⟩
 rw [aX];rfl
theorem Lv (op:Int)(x y:Ex):Ax Tryz.prog 28 [.int .i64 op,.agg (cE x),.agg (cE y)] (.agg (cE (two op x y))):=by
 refine Ax.body (n:=12) Ai Tryz.func28 rfl rfl rfl fun H=>?_
 refine Ah (Qp La (Qp La ?_))
 refine Qe (Al (l:=[.int .i64 0,.sl 8 [],.int .i64 0,.int .i64 0,.int .i64 0,.int .i64 0,.int .i64 0,.str []]) (by kernel_rfl)) ?_
 rintro _ _ ⟨b6,rfl,rfl⟩
 refine Dh (Qp A2 (Qp D1 (Qp D1 ?_)))
 refine Qp (A1 (es:=[[Iq _,_,Iq _,Iq _,Iq _,Iq _,Iq _,.str _],[Iq _,_,Iq _,Iq _,Iq _,Iq _,Iq _,.str _]]) Ai rfl rfl rfl rfl rfl rfl rfl rfl rfl) ?_
 refine Qp (Et [Iq _,_,Iq _,Iq _,Iq _,Iq _,Iq _,.str _]) (Co 0 [Iq _,_,Iq _,Iq _,Iq _,Iq _,Iq _,.str _] (_::_) (Ag (AW.ret ?_)))
 refine ⟨.inr rfl,[.agg [Iq _,_,Iq _,Iq _,Iq _,Iq _,Iq _,.str _]],.cons (.box _ _ _ 0 _ _ _ _ rfl rfl rfl rfl rfl rfl) <| .nil,.cons _ (.refl _),?_⟩
 rw [aX];rfl
theorem l_not (x:Ex):Ax Tryz.prog 42 [.agg (cE x)] (.agg (cE (Ow x))):=by
 refine Ax.body (n:=6) Ai Tryz.func42 rfl rfl rfl fun H=>?_
 refine Ah (Qp La ?_)
 refine Qe (Al (l:=[.int .i64 0,.sl 8 [],.int .i64 0,.int .i64 0,.int .i64 0,.int .i64 0,.int .i64 0,.str []]) (by kernel_rfl)) ?_
 rintro _ _ ⟨b2,rfl,rfl⟩
 refine Dh (Qp D1 ?_)
 refine Qp (A1 (es:=[[Iq _,_,Iq _,Iq _,Iq _,Iq _,Iq _,.str _]]) Ai rfl rfl rfl rfl rfl rfl rfl rfl rfl) ?_
 refine Qp (Et [Iq _,_,Iq _,Iq _,Iq _,Iq _,Iq _,.str _]) (Co 0 [Iq _,_,Iq _,Iq _,Iq _,Iq _,Iq _,.str _] (_::_) (Ag (AW.ret ?_)))
 refine ⟨.inr rfl,[.agg [Iq _,_,Iq _,Iq _,Iq _,Iq _,Iq _,.str _]],.cons (.box _ _ _ 0 _ _ _ _ rfl rfl rfl rfl rfl rfl) <| .nil,.cons _ (.refl _),?_⟩
 rw [aK];rfl
theorem pC (x:Bool):Ax Tryz.prog 96 [.bool x] (.agg (cE (Er x))):=by
 refine Ax.body (n:=6) Ai Tryz.func96 rfl rfl rfl fun H=>?_
 refine Ah ?_
 refine Qe (Al (l:=[.int .i64 0,.sl 8 [],.int .i64 0,.int .i64 0,.int .i64 0,.int .i64 0,.int .i64 0,.str []]) (by kernel_rfl)) ?_
 rintro _ _ ⟨b2,rfl,rfl⟩
 refine Dh (Qp Br ?_)
 refine Qp (Qc rfl (c75 x)) ?_
 refine Qp (Et [Iq _,_,Iq _,Iq _,Iq _,Iq _,Iq _,.str _]) (Co 0 [Iq _,_,Iq _,Iq _,Iq _,Iq _,Iq _,.str _] (_::_) (Ag (AW.ret ?_)))
 refine ⟨.inr rfl,[.agg [Iq _,_,Iq _,Iq _,Iq _,Iq _,Iq _,.str _]],.cons (.box _ _ _ 0 _ _ _ _ rfl rfl rfl rfl rfl rfl) <| .nil,.cons _ (.refl _),?_⟩
 rfl
theorem Ot (n:Int):Ax Tryz.prog 41 [.int .i64 n] (.agg (cE (Oz ⟨0,n,[]⟩))):=by
 refine Ax.body (n:=6) Ai Tryz.func41 rfl rfl rfl fun H=>?_
 refine Ah ?_
 refine Qe (Al (l:=[.int .i64 0,.sl 8 [],.int .i64 0,.int .i64 0,.int .i64 0,.int .i64 0,.int .i64 0,.str []]) (by kernel_rfl)) ?_
 rintro _ _ ⟨b2,rfl,rfl⟩
 refine Dh (Qp A2 (Qp (Et [Iq _,Iq _,.str _]) (Qp (Et [Iq _,_,Iq _,Iq _,Iq _,Iq _,Iq _,.str _]) (Co 0 [Iq _,_,Iq _,Iq _,Iq _,Iq _,Iq _,.str _] (_::_) (Ag (AW.ret ?_))))))
 refine ⟨.inr rfl,[.agg [Iq _,_,Iq _,Iq _,Iq _,Iq _,Iq _,.str _]],.cons (.box _ _ _ 0 _ _ _ _ rfl rfl rfl rfl rfl rfl) <| .nil,.cons _ (.refl _),?_⟩
 rfl
theorem F2 (v:Int):Ax Tryz.prog 40 [.int .i64 v] (.agg (cE ⟨1,[],v,1,0,v0⟩)):=by
 refine Ax.body (n:=5) Ai Tryz.func40 rfl rfl rfl fun H=>?_
 refine Ah ?_
 refine Qe (Al (l:=[.int .i64 0,.sl 8 [],.int .i64 0,.int .i64 0,.int .i64 0,.int .i64 0,.int .i64 0,.str []]) (by kernel_rfl)) ?_
 rintro _ _ ⟨b2,rfl,rfl⟩
 refine Dh (Qp A2 (Qp (Et [Iq _,_,Iq _,Iq _,Iq _,Iq _,Iq _,.str _]) (Co 0 [Iq _,_,Iq _,Iq _,Iq _,Iq _,Iq _,.str _] (_::_) (Ag (AW.ret ?_)))))
 refine ⟨.inr rfl,[.agg [Iq _,_,Iq _,Iq _,Iq _,Iq _,Iq _,.str _]],.cons (.box _ _ _ 0 _ _ _ _ rfl rfl rfl rfl rfl rfl) <| .nil,.cons _ (.refl _),?_⟩
 rfl
theorem Se (v:Int):Ax Tryz.prog 48 [.int .i64 v] (.agg (cE ⟨1,[],v,0,0,v0⟩)):=by
 refine Ax.body (n:=5) Ai Tryz.func48 rfl rfl rfl fun H=>?_
 refine Ah ?_
 refine Qe (Al (l:=[.int .i64 0,.sl 8 [],.int .i64 0,.int .i64 0,.int .i64 0,.int .i64 0,.int .i64 0,.str []]) (by kernel_rfl)) ?_
 rintro _ _ ⟨b2,rfl,rfl⟩
 refine Dh (Qp A2 (Qp (Et [Iq _,_,Iq _,Iq _,Iq _,Iq _,Iq _,.str _]) (Co 0 [Iq _,_,Iq _,Iq _,Iq _,Iq _,Iq _,.str _] (_::_) (Ag (AW.ret ?_)))))
 refine ⟨.inr rfl,[.agg [Iq _,_,Iq _,Iq _,Iq _,Iq _,Iq _,.str _]],.cons (.box _ _ _ 0 _ _ _ _ rfl rfl rfl rfl rfl rfl) <| .nil,.cons _ (.refl _),?_⟩
 rfl
theorem d_neg (e:Ex)(hn:C4 e=0):Ax Tryz.prog 58 [.agg (cE e)] (.agg (cE (Fk e))):=by
 revert hn
 induction e using Ex.Abb
 rename_i e ih
 intro hn
 have hz:=Be hn
 refine Ax.body (n:=73) Ai Tryz.func58 rfl rfl rfl fun H=>?_
 refine Ah (Qp La ?_)
 refine Qe (Al (l:=[.int .i64 0,.sl 8 [],.int .i64 0,.int .i64 0,.int .i64 0,.int .i64 0,.int .i64 0,.str []]) (by kernel_rfl)) ?_
 rintro _ _ ⟨b2,rfl,rfl⟩
 refine Ag (AW.seq (Ah (Qp Kv (Qp Bt (Ag (AW.block (Ah (Qp A7 (Qp Bg ?_)))))))))
 refine Ag (A5 (fun hc1=>?_) fun hc1=>?_)
 ·
  have hop:=eq_of_beq hc1
  have hl2:=Dj hz.1 (by omega)
  have h00:0<e.args.length:=by omega
  refine AW.seq ?_
  refine AW.draw mixed (fun _=>True) trivial (by kernel_rfl) ?_
  refine Qn 0 rfl K7 (Qn 1 rfl Dm ?_)
  refine Qn 2 rfl (Af (c:=[Iq _,_,Iq _,Iq _,Iq _,Iq _,Iq _,.str _]) Ai rfl rfl rfl rfl rfl rfl (by decide) (Fq h00)) ?_
  refine Qn 3 rfl D1 ?_
  refine Qn 4 rfl (Qc rfl (ih _ (A6 h00) (hz.2 _ (A6 h00)))) ?_
  refine Qn 5 rfl K7 (Qn 6 rfl Dm ?_)
  refine Qn 7 rfl (Af (c:=[Iq _,_,Iq _,Iq _,Iq _,Iq _,Iq _,.str _]) Ai rfl rfl rfl rfl rfl rfl (by decide) (Id hl2)) ?_
  refine Qn 8 rfl D1 ?_
  refine Qn 9 rfl (Qc rfl (ih _ (Bk hl2) (hz.2 _ (Bk hl2)))) ?_
  refine Qn 10 rfl (Qc rfl (bF 11 _ _)) ?_
  refine Jx.eff _ _ 11 _ _ rfl (by kernel_rfl) rfl rfl (C7 (k:=0) (v:=.agg _) (cs':=[Iq _,_,Iq _,Iq _,Iq _,Iq _,Iq _,.str _]) (H2:=_::_) Ai rfl rfl rfl rfl (rfl) rfl rfl rfl rfl) (fun _ _ _=>trivial) ?_
  rintro _ _ ⟨rfl,rfl⟩
  refine Jx.done _ _ (by kernel_rfl) ?_
  refine Ae (AW.ret (Bc (Aj ?_)))
  refine ⟨.inr rfl,[.agg [Iq _,_,Iq _,Iq _,Iq _,Iq _,Iq _,.str _]],.cons (.box _ _ _ 0 _ _ _ _ rfl rfl rfl rfl rfl rfl) <| .nil,.cons _ (.refl _),?_⟩
  rw [vG hc1 hl2];rfl
 ·
  refine Ah (Qp A7 (Qp Bg (Ag (A5 (fun hc2=>?_) fun hc2=>?_))))
  ·
   have hop:=eq_of_beq hc2
   have hl2:=Dj hz.1 (by omega)
   have h00:0<e.args.length:=by omega
   refine AW.seq ?_
   refine AW.draw mixed (fun _=>True) trivial (by kernel_rfl) ?_
   refine Qn 0 rfl K7 (Qn 1 rfl Dm ?_)
   refine Qn 2 rfl (Af (c:=[Iq _,_,Iq _,Iq _,Iq _,Iq _,Iq _,.str _]) Ai rfl rfl rfl rfl rfl rfl (by decide) (Fq h00)) ?_
   refine Qn 3 rfl D1 ?_
   refine Qn 4 rfl (Qc rfl (ih _ (A6 h00) (hz.2 _ (A6 h00)))) ?_
   refine Qn 5 rfl K7 (Qn 6 rfl Dm ?_)
   refine Qn 7 rfl (Af (c:=[Iq _,_,Iq _,Iq _,Iq _,Iq _,Iq _,.str _]) Ai rfl rfl rfl rfl rfl rfl (by decide) (Id hl2)) ?_
   refine Qn 8 rfl D1 ?_
   refine Qn 9 rfl (Qc rfl (ih _ (Bk hl2) (hz.2 _ (Bk hl2)))) ?_
   refine Qn 10 rfl (Qc rfl (bF 10 _ _)) ?_
   refine Jx.eff _ _ 11 _ _ rfl (by kernel_rfl) rfl rfl (C7 (k:=0) (v:=.agg _) (cs':=[Iq _,_,Iq _,Iq _,Iq _,Iq _,Iq _,.str _]) (H2:=_::_) Ai rfl rfl rfl rfl (rfl) rfl rfl rfl rfl) (fun _ _ _=>trivial) ?_
   rintro _ _ ⟨rfl,rfl⟩
   refine Jx.done _ _ (by kernel_rfl) ?_
   refine Ae (AW.ret (Bc (Aj ?_)))
   refine ⟨.inr rfl,[.agg [Iq _,_,Iq _,Iq _,Iq _,Iq _,Iq _,.str _]],.cons (.box _ _ _ 0 _ _ _ _ rfl rfl rfl rfl rfl rfl) <| .nil,.cons _ (.refl _),?_⟩
   rw [Aau hc1 hc2 hl2];rfl
  ·
   refine Ah (Qp A7 (Qp Bg (Ag (A5 (fun hc3=>?_) fun hc3=>?_))))
   ·
    have h00:=Wh hz.1 (eq_of_beq hc3)
    refine Ah (Qp K7 (Qp Dm ?_))
    refine Qp (Af (c:=[Iq _,_,Iq _,Iq _,Iq _,Iq _,Iq _,.str _]) Ai rfl rfl rfl rfl rfl rfl (by decide) (Fq h00)) ?_
    refine Qp D1 (Co 0 [Iq _,_,Iq _,Iq _,Iq _,Iq _,Iq _,.str _] (_::_) (Ag (AW.ret (Bc (Aj ?_)))))
    refine ⟨.inr rfl,[.agg [Iq _,_,Iq _,Iq _,Iq _,Iq _,Iq _,.str _]],.cons (.box _ _ _ 0 _ _ _ _ rfl rfl rfl rfl rfl rfl) <| .nil,.cons _ (.refl _),?_⟩
    rw [Kz,Vt,Ck hc1,Ck hc2,if_pos hc3];rfl
   ·
    refine Ah (Qp A7 (Qp Bg (Ag (A5 (fun hc4=>?_) fun hc4=>?_))))
    ·
     have hop:=eq_of_beq hc4
     have hl2:=Dj hz.1 (by omega)
     have h00:0<e.args.length:=by omega
     refine AW.seq ?_
     refine AW.draw mixed (fun _=>True) trivial (by kernel_rfl) ?_
     refine Qn 0 rfl K7 (Qn 1 rfl Dm ?_)
     refine Qn 2 rfl (Af (c:=[Iq _,_,Iq _,Iq _,Iq _,Iq _,Iq _,.str _]) Ai rfl rfl rfl rfl rfl rfl (by decide) (Id hl2)) ?_
     refine Qn 3 rfl D1 (Qn 4 rfl K7 (Qn 5 rfl Dm ?_))
     refine Qn 6 rfl (Af (c:=[Iq _,_,Iq _,Iq _,Iq _,Iq _,Iq _,.str _]) Ai rfl rfl rfl rfl rfl rfl (by decide) (Fq h00)) ?_
     refine Qn 7 rfl D1 ?_
     refine Qn 8 rfl (Qc rfl (bF 8 _ _)) ?_
     refine Jx.eff _ _ 9 _ _ rfl (by kernel_rfl) rfl rfl (C7 (k:=0) (v:=.agg _) (cs':=[Iq _,_,Iq _,Iq _,Iq _,Iq _,Iq _,.str _]) (H2:=_::_) Ai rfl rfl rfl rfl (rfl) rfl rfl rfl rfl) (fun _ _ _=>trivial) ?_
     rintro _ _ ⟨rfl,rfl⟩
     refine Jx.done _ _ (by kernel_rfl) ?_
     refine Ae (AW.ret (Bc (Aj ?_)))
     refine ⟨.inr rfl,[.agg [Iq _,_,Iq _,Iq _,Iq _,Iq _,Iq _,.str _]],.cons (.box _ _ _ 0 _ _ _ _ rfl rfl rfl rfl rfl rfl) <| .nil,.cons _ (.refl _),?_⟩
     rw [Kz,Vt,Ck hc1,Ck hc2,Ck hc3,if_pos hc4];rfl
    ·
     refine Ah (Qp A7 (Qp Bg (Ag (A5 (fun hc5=>?_) fun hc5=>?_))))
     ·
      have hop:=eq_of_beq hc5
      have hl2:=Dj hz.1 (by omega)
      have h00:0<e.args.length:=by omega
      refine AW.seq ?_
      refine AW.draw mixed (fun _=>True) trivial (by kernel_rfl) ?_
      refine Qn 0 rfl K7 (Qn 1 rfl Dm ?_)
      refine Qn 2 rfl (Af (c:=[Iq _,_,Iq _,Iq _,Iq _,Iq _,Iq _,.str _]) Ai rfl rfl rfl rfl rfl rfl (by decide) (Id hl2)) ?_
      refine Qn 3 rfl D1 (Qn 4 rfl K7 (Qn 5 rfl Dm ?_))
      refine Qn 6 rfl (Af (c:=[Iq _,_,Iq _,Iq _,Iq _,Iq _,Iq _,.str _]) Ai rfl rfl rfl rfl rfl rfl (by decide) (Fq h00)) ?_
      refine Qn 7 rfl D1 ?_
      refine Qn 8 rfl (Qc rfl (bF 7 _ _)) ?_
      refine Jx.eff _ _ 9 _ _ rfl (by kernel_rfl) rfl rfl (C7 (k:=0) (v:=.agg _) (cs':=[Iq _,_,Iq _,Iq _,Iq _,Iq _,Iq _,.str _]) (H2:=_::_) Ai rfl rfl rfl rfl (rfl) rfl rfl rfl rfl) (fun _ _ _=>trivial) ?_
      rintro _ _ ⟨rfl,rfl⟩
      refine Jx.done _ _ (by kernel_rfl) ?_
      refine Ae (AW.ret (Bc (Aj ?_)))
      refine ⟨.inr rfl,[.agg [Iq _,_,Iq _,Iq _,Iq _,Iq _,Iq _,.str _]],.cons (.box _ _ _ 0 _ _ _ _ rfl rfl rfl rfl rfl rfl) <| .nil,.cons _ (.refl _),?_⟩
      rw [Kz,Vt,Ck hc1,Ck hc2,Ck hc3,Ck hc4,if_pos hc5];rfl
     ·
      refine Ah (Qp A7 (Qp Bg (Ag (A5 (fun hc6=>?_) fun hc6=>?_))))
      ·
       refine Ah (Qp Jr (Qp Jr (Qp Bt (Qp A7 (Ag (A5 (fun hc7=>?_) fun hc7=>?_))))))
       ·
        refine Ah (Qp Jr (Qp Wn (Qp Bt (Qp A7 ?_))))
        refine Qp (Qc rfl (pC _)) ?_
        refine Co 0 [Iq _,_,Iq _,Iq _,Iq _,Iq _,Iq _,.str _] (_::_) (Ag (AW.ret (Bc (Aj ?_))))
        refine ⟨.inr rfl,[.agg [Iq _,_,Iq _,Iq _,Iq _,Iq _,Iq _,.str _]],.cons (.box _ _ _ 0 _ _ _ _ rfl rfl rfl rfl rfl rfl) <| .nil,.cons _ (.refl _),?_⟩
        rw [Kz,Vt,Ck hc1,Ck hc2,Ck hc3,Ck hc4,Ck hc5,if_pos (by rw [hc6,hc7];rfl)];rfl
       ·
        refine AW.skip (Bs (Ae (Ah (Qp D1 ?_))))
        refine Qp (A1 (es:=[[Iq _,_,Iq _,Iq _,Iq _,Iq _,Iq _,.str _]]) Ai rfl rfl rfl rfl rfl rfl rfl rfl rfl) ?_
        refine Qp (Et [Iq _,_,Iq _,Iq _,Iq _,Iq _,Iq _,.str _]) (Co 0 [Iq _,_,Iq _,Iq _,Iq _,Iq _,Iq _,.str _] (_::_) (Ag (AW.ret ?_)))
        refine ⟨.inr rfl,[.agg [Iq _,_,Iq _,Iq _,Iq _,Iq _,Iq _,.str _]],.cons (.box _ _ _ 0 _ _ _ _ rfl rfl rfl rfl rfl rfl) <| .nil,.cons _ (.refl _),?_⟩
        exact Eq.trans rfl (fV hc1 hc2 hc3 hc4 hc5 (by rw [hc6,hc7];rfl)).symm
      ·
       refine AW.skip (Bs (Ae (Ah (Qp D1 ?_))))
       refine Qp (A1 (es:=[[Iq _,_,Iq _,Iq _,Iq _,Iq _,Iq _,.str _]]) Ai rfl rfl rfl rfl rfl rfl rfl rfl rfl) ?_
       refine Qp (Et [Iq _,_,Iq _,Iq _,Iq _,Iq _,Iq _,.str _]) (Co 0 [Iq _,_,Iq _,Iq _,Iq _,Iq _,Iq _,.str _] (_::_) (Ag (AW.ret ?_)))
       refine ⟨.inr rfl,[.agg [Iq _,_,Iq _,Iq _,Iq _,Iq _,Iq _,.str _]],.cons (.box _ _ _ 0 _ _ _ _ rfl rfl rfl rfl rfl rfl) <| .nil,.cons _ (.refl _),?_⟩
       exact Eq.trans rfl (fV hc1 hc2 hc3 hc4 hc5 (by rw [hc6];rfl)).symm
theorem vM (e:Ex)(hs:At e≤1048576):Ax Tryz.prog 18 [.agg (cE e)] (.tuple [.agg (cE (C2 e).1),.int .i64 (C2 e).2]):=by
 refine Ax.body (n:=22) Ai Tryz.func18 rfl rfl rfl fun H=>?_
 refine Ah (Qp La ?_)
 refine Qe (Al (l:=[.int .i64 0,.sl 8 [],.int .i64 0,.int .i64 0,.int .i64 0,.int .i64 0,.int .i64 0,.str []]) (by kernel_rfl)) ?_
 rintro _ _ ⟨b2,rfl,rfl⟩
 refine Qp Av (Ag (AW.seq (Ah (Qp D1 ?_))))
 refine Qp (Qc rfl (c21 e hs)) ?_
 refine Qp Av (Dh (Qp A2 (Qp Ct (Ag (A5 (fun hc1=>?_) fun hc1=>?_)))))
 ·
  refine Ah (Qp (Et [Iq _,_,Iq _,Iq _,Iq _,Iq _,Iq _,.str _]) (Qp A2 (Co 0 [Iq _,_,Iq _,Iq _,Iq _,Iq _,Iq _,.str _] (_::_) (Qp Av (Ag (Du ?_))))))
  refine ⟨.inr rfl,[.agg [Iq _,_,Iq _,Iq _,Iq _,Iq _,Iq _,.str _],Iq _],.cons (.box _ _ _ 0 _ _ _ _ rfl rfl rfl rfl rfl rfl) <| .cons (.tmp _ _ rfl) <| .nil,.cons _ (.refl _),?_⟩
  rw [C2,if_pos hc1];rfl
 ·
  have hn:=Sl hc1
  have hsz:At (Fk e)≤1048576:=by have:=yT e hn;have:=Xu hc1;omega
  refine Bz (Ah (Qp D1 ?_))
  refine Qp (Qc rfl (d_neg e hn)) ?_
  refine Qe (Al (l:=[.int .i64 0,.sl 8 [],.int .i64 0,.int .i64 0,.int .i64 0,.int .i64 0,.int .i64 0,.str []]) (by kernel_rfl)) ?_
  rintro _ _ ⟨b5,rfl,rfl⟩
  refine Co 0 [Iq _,_,Iq _,Iq _,Iq _,Iq _,Iq _,.str _] (_::_::_) ?_
  refine AOL.ghost (GS.Aa4 (t:=5) 0 rfl rfl) ?_
  refine Ag (AW.seq (Ah (Qp D1 ?_)))
  refine Qp (Qc rfl (c21 _ hsz)) ?_
  refine Qp Av (Dh (Qp A2 (Qp Ct (Ag (A5 (fun hc2=>?_) fun hc2=>?_)))))
  ·
   refine Ah (Qp (Et [Iq _,_,Iq _,Iq _,Iq _,Iq _,Iq _,.str _]) (Qp A2 (Co 0 [Iq _,_,Iq _,Iq _,Iq _,Iq _,Iq _,.str _] (_::_) (Qp Av (Ag (Du ?_))))))
   refine ⟨.inr rfl,[.agg [Iq _,_,Iq _,Iq _,Iq _,Iq _,Iq _,.str _],Iq _],.cons (.box _ _ _ 0 _ _ _ _ rfl rfl rfl rfl rfl rfl) <| .cons (.tmp _ _ rfl) <| .nil,.cons _ (.refl _),?_⟩
   rw [C2,Ck hc1,if_pos hc2];rfl
  ·
   refine Bz (Ah (Qp D1 (Co 0 [Iq _,_,Iq _,Iq _,Iq _,Iq _,Iq _,.str _] (_::_) (Qp Av (Ag (AW.ret ?_))))))
   refine ⟨.inr rfl,[.agg [Iq _,_,Iq _,Iq _,Iq _,Iq _,Iq _,.str _],Iq _],.cons (.box _ _ _ 0 _ _ _ _ rfl rfl rfl rfl rfl rfl) <| .cons (.tmp _ _ rfl) <| .nil,.cons _ (.refl _),?_⟩
   rw [C2,Ck hc1,Ck hc2];rfl
set_option maxHeartbeats 6400000
set_option maxRecDepth 20000

theorem P8 (a b:Cs)(n m:Nat)(ha:csOK n a)(hb:csOK m b)(hn:n≤1048576)(hm:m≤1048576):Ax Tryz.prog 65 [.agg (Ek a),.agg (Ek b)] (.agg (Ek (En a b))):=by
 have hla:=ha.len
 have hlb:=hb.len
 have hxa:=fun x hx=>Nat.le_trans (ha.lits x hx) hn
 have hxb:=fun x hx=>Nat.le_trans (hb.lits x hx) hm
 refine Ax.body (n:=27) Ai Tryz.func65 rfl rfl rfl fun H=>?_
 refine Ah (Qp (F5 [_,.bool _]) (Qp (F5 [_,.bool _]) ?_))
 refine Qe (Al (l:=[.sl 1 [],.bool false]) (by kernel_rfl)) ?_
 rintro _ _ ⟨b4,rfl,rfl⟩
 refine Ag (AW.seq (Ah (Qp (Qf [.bool _]) (Qp kE (Qp Gt (Qp Br (Qg [] Qw (Qf [.bool _]) (Qg [(11,_)] Qw kE (Qg [(12,_)] Qw Gt ?_)))))))))
 refine Qp E5 (Ag (A5 (fun hc1=>?_) fun hc1=>?_))
 ·
  refine Ah (Qp (Et [_,.bool _]) (Co 0 [_,.bool _] (_::_) (Ag (Du ?_))))
  refine ⟨.inr rfl,[.agg [_,.bool _]],.cons (.box _ _ _ 0 _ _ _ _ rfl rfl rfl rfl rfl rfl) <| .nil,.cons _ (.refl _),?_⟩
  exact Eq.trans rfl (congrArg (fun q:Cs=>AV.agg (Ek q)) (eX hc1)).symm
 ·
  refine Bz (Ah (Qp (Qf [_,.bool _]) (Qp Dm (Qp (Qf [_,.bool _]) (Qp Dm ?_)))))
  refine Qp (Qc rfl (tJ a.1 b.1 (by omega) (by omega) hxa hxb)) ?_
  refine Qp Mx (Qp Qxs (Qp kA (Qp Vy (Qp Bg (Dh (Qp C6 (Qp Br (Qp (Et [_,.bool _]) (Co 0 [_,.bool _] (_::_) ?_)))))))))
  refine Ag (AW.ret ?_)
  refine ⟨.inr rfl,[.agg [_,.bool _]],.cons (.box _ _ _ 0 _ _ _ _ rfl rfl rfl rfl rfl rfl) <| .nil,.cons _ (.refl _),?_⟩
  exact Eq.trans rfl (congrArg (fun q:Cs=>AV.agg (Ek q)) (aM hc1)).symm
theorem lI (a b:Cs)(n m:Nat)(ha:csOK n a)(hb:csOK m b)(hn:n≤1048576)(hm:m≤1048576):Ax Tryz.prog 88 [.agg (Ek a),.agg (Ek b)] (.agg (Ek (Jh a b))):=by
 have hla:=ha.len
 have hlb:=hb.len
 have hxa:=fun x hx=>Nat.le_trans (ha.lits x hx) hn
 have hxb:=fun x hx=>Nat.le_trans (hb.lits x hx) hm
 have hb2:Ip [(!a.2 || !b.2,false)]→True:=fun _=>trivial
 have hsa:∀c∈(a.1.map Po),Bh c=true:=Fo fun _=>rfl
 have hsb:∀c∈(b.1.map Po),Bh c=true:=Fo fun _=>rfl
 have hsab:∀c∈(a.1.map Po++b.1.map Po),Bh c=true:=fun c hc=>(List.mem_append.1 hc).elim (hsa c) (hsb c)
 refine Ax.body (n:=32) Ai Tryz.func88 rfl rfl rfl fun H=>?_
 refine Ah (Qp (F5 [_,.bool _]) (Qp (F5 [_,.bool _]) ?_))
 refine Qe (Al (l:=[.sl 1 [],.bool false]) (by kernel_rfl)) ?_
 rintro _ _ ⟨b4,rfl,rfl⟩
 refine Ag (AW.seq (Ah (Qp (Qf [.bool _]) (Qp kE (Qp Gt (Qp Br (Qg [] Qw (Qf [.bool _]) (Qg [(9,_)] Qw kE (Qg [(10,_)] Qw Gt ?_)))))))))
 refine Qp E5 (Qp Br (Qg [] Qw (Qf [_,.bool _]) (Qg [(14,_)] Qw Dm ?_)))
 refine AOL.Aa6 (y:=Iq _) _ [(15,_)] rfl (sF.all ⟨Ent.Aa3 _ _,trivial⟩) (fun hG=>Ak (n:=a.1.length) Ai rfl rfl rfl (by simp)) rfl ?_
 refine Qg [] Qw (Qf [_,.bool _]) (Qg [(17,_)] Qw Dm ?_)
 refine AOL.Aa6 (y:=Iq _) _ [(18,_)] rfl (sF.all ⟨Ent.Aa3 _ _,trivial⟩) (fun hG=>Ak (n:=b.1.length) Ai rfl rfl rfl (by simp)) rfl ?_
 refine AOL.Aa6 (y:=Iq _) _ [(16,_),(19,_)] rfl (sF.all ⟨Ent.Aa3 _ _,Ent.Aa3 _ _,trivial⟩) (fun hG=>fF rfl rfl rfl (by constructor <;> omega)) rfl ?_
 refine Qg [(20,_)] Qw Hi (Qp E5 (Ag (A5 (fun hc1=>?_) fun hc1=>?_)))
 ·
  refine Ah (Qp (Et [_,.bool _]) (Co 0 [_,.bool _] (_::_) (Ag (Du ?_))))
  refine ⟨.inr rfl,[.agg [_,.bool _]],.cons (.box _ _ _ 0 _ _ _ _ rfl rfl rfl rfl rfl rfl) <| .nil,.cons _ (.refl _),?_⟩
  exact Eq.trans rfl (congrArg (fun q:Cs=>AV.agg (Ek q)) (pN hc1)).symm
 ·
  refine Bz (AW.seq ?_)
  refine AW.draw mixed (fun _=>True) trivial (by kernel_rfl) ?_
  refine Qn 1 rfl (Qf [_,.bool _]) (Qn 2 rfl Dm (Qn 4 rfl (Qf [_,.bool _]) (Qn 5 rfl Dm ?_)))
  refine Jx.eff _ _ 0 _ _ rfl (by kernel_rfl) rfl rfl (R6 (es:=[]) Ai rfl rfl rfl rfl rfl rfl rfl rfl rfl) (fun _ _ _=>trivial) ?_
  rintro _ _ ⟨v24,rfl,rfl⟩
  refine Jx.eff _ _ 3 _ _ rfl (by kernel_rfl) rfl rfl (Dn (k:=0) Ai rfl rfl rfl rfl rfl rfl rfl rfl (hsa) (xH) (by simp;omega) (by simp [maxLen];omega)) (fun _ _ _=>trivial) ?_
  rintro _ _ ⟨v27,rfl,rfl⟩
  refine Jx.eff _ _ 6 _ _ rfl (by kernel_rfl) rfl rfl (Dn (k:=0) Ai rfl rfl rfl rfl rfl rfl rfl rfl (hsb) (hsa) (by simp;omega) (by simp [maxLen];omega)) (fun _ _ _=>trivial) ?_
  rintro _ _ ⟨v30,rfl,rfl⟩
  refine Qn 7 rfl (Et [_,.bool _]) ?_
  refine Jx.eff _ _ 8 _ _ rfl (by kernel_rfl) rfl rfl (C7 (k:=1) (v:=.agg _) (cs':=[_,.bool _]) (H2:=_::_::_) Ai rfl rfl rfl rfl (rfl) rfl rfl rfl rfl) (fun _ _ _=>trivial) ?_
  rintro _ _ ⟨rfl,rfl⟩
  refine Jx.done _ _ (by kernel_rfl) ?_
  refine Ae ?_
  refine AW.ghost (GS.cell (H2:=_::_::_) 1 0 rfl rfl rfl rfl G9) ?_
  refine AW.ret ?_
  refine ⟨.inr rfl,[.agg [_,.bool _]],.cons (.box _ _ _ 1 _ _ _ _ rfl rfl rfl rfl rfl rfl) <| .nil,.cons _ (.cons _ (.refl _)),?_⟩
  rw [List.nil_append,←List.map_append]
  exact Eq.trans rfl (congrArg (fun q:Cs=>AV.agg (Ek q)) (iX hc1)).symm
theorem Xn (l:List Lit)(hl:l.length≤256):Ax Tryz.prog 90 [.sl 9 (l.map G5)] (.agg (Ek (Eg l))):=by
 refine Ax.body (n:=22) Ai Tryz.func90 rfl rfl rfl fun H=>?_
 refine Ah ?_
 refine Qe (Al (l:=[.sl 1 [],.bool false]) (by kernel_rfl)) ?_
 rintro _ _ ⟨b2,rfl,rfl⟩
 refine Dh ?_
 refine Qp (Pg (l0:=[.val (.slice none 0 0),.bool false]) (l:=[_,_]) Ai rfl rfl (by kernel_rfl) rfl) ?_
 refine Qe (Al (l:=[.sl 1 [],.bool false]) (by kernel_rfl)) ?_
 rintro _ _ ⟨b3,rfl,rfl⟩
 refine Co 0 [_,.bool _] (_::_::_) ?_
 refine AOL.ghost (GS.cellRow 0 0 71 1 rfl rfl rfl rfl) ?_
 refine Ag (AW.seq (Ah (Qp C6 ?_)))
 refine Qp (Ak (n:=l.length) Ai rfl rfl rfl (by simp)) ?_
 refine Qp A2 (Ag (AW.block ?_))
 refine AW.Aa5 (fun (p:Nat×List (List AV)×Value)=>(⟨[(2,.val (.pointer (some ⟨b2,0,none⟩))),(3,.val (.pointer (some ⟨b3,0,none⟩))),(7,.sl 9 (l.map G5)),(8,.int .i64 l.length),(9,.int .i64 (p.1:Int))],.row p.2.2 p.2.1.length 71 1 :: .box b3 103 [.row p.2.2 1 p.2.1,.bool true] :: .box b2 103 [.sl 1 [],.bool false]::H,22⟩:St)) (fun (p:Nat×List (List AV)×Value)=>p.1≤l.length∧p.2.1=((l.take p.1).map fun x=>[x]).map Po) (fun (p:Nat×List (List AV)×Value)=>l.length-p.1) ((0,[],.slice none 0 0)) ?_ (GS.weaken ⟨rfl,rfl,rfl,rfl,rfl,trivial⟩ (.refl _)) ?_
 · exact ⟨Nat.zero_le _,rfl⟩
 ·
  rintro p hR
  have hsc:∀c∈p.2.1,Bh c=true:=by rw [hR.2];exact Fo fun _=>rfl
  have hpl:p.2.1.length≤p.1:=by rw [hR.2];simp;omega
  refine Ah (Qp Cl (Ag (AW.seq (A5 (fun hc1=>?_) fun hc1=>?_))))
  ·
   obtain ⟨x,hx⟩:=B4 hc1
   have hlx:=Bb hx
   refine Bz (AW.seq (AW.block (Ah ?_)))
   refine Qp (Af (c:=[Iq _,_,Iq _,Iq _,Iq _,Iq _,Iq _,.str _,.bool _]) Ai rfl rfl rfl rfl rfl rfl (by omega) (Bj hx)) ?_
   refine Qp (Cm [Iq _,_,Iq _,Iq _,Iq _,Iq _,Iq _,.str _,.bool _]) ?_
   refine Qe (Al (l:=[.int .i64 0,.sl 8 [],.int .i64 0,.int .i64 0,.int .i64 0,.int .i64 0,.int .i64 0,.str [],.bool false]) (by kernel_rfl)) ?_
   rintro _ _ ⟨b5,rfl,rfl⟩
   refine Co 0 [Iq _,_,Iq _,Iq _,Iq _,Iq _,Iq _,.str _,.bool _] (_::_::_::_::_) ?_
   refine AOL.ghost (GS.Aa4 (t:=5) 0 rfl rfl) ?_
   refine Ag (AW.region (Qp Ir ?_))
   refine AOL.Aa9 (A0 (k:=1) (c:=.row _ _ _) Ai rfl rfl rfl rfl) rfl rfl ?_
   refine Qp (Cm [Iq _,_,Iq _,Iq _,Iq _,Iq _,Iq _,.str _,.bool _]) ?_
   refine Qp (A1 (es:=[[Iq _,_,Iq _,Iq _,Iq _,Iq _,Iq _,.str _,.bool _]]) Ai rfl rfl rfl rfl rfl rfl rfl rfl rfl) ?_
   refine Qp (A1 (es:=[[_]]) Ai rfl rfl rfl rfl rfl rfl rfl rfl rfl) ?_
   refine Qe (Dn (k:=0) Ai rfl rfl rfl rfl rfl rfl rfl rfl (Hg rfl) (hsc) (by simp;omega) (by simp [maxLen];omega)) ?_
   rintro _ _ ⟨v18,rfl,rfl⟩
   refine Qp Ir (Co 1 [_,.bool _] (_::_::_::_) (AOL.nil (Bs (Ae (AW.region (Qp Fx (Qp A2 (Ag ?_))))))))
   refine ⟨(p.1+1,p.2.1 ++ [[.sl 9 [G5 x]]],v18),?_,?_,GS.weaken ⟨rfl,rfl,rfl,rfl,rfl,trivial⟩ (.refl _)⟩
   · exact ⟨hlx,by simp only;rw [Cu hx,hR.2];simp [Po]⟩
   · simp only;omega
  ·
   have hte:=C5 hc1
   have hall:=hR.2
   rw [hte] at hall
   refine AW.exit ?_
   refine A8 (A8 (Bw (Ae (Ah ?_))))
   refine AOL.ghost (GS.cell (H2:=_::_::_::_) 1 0 rfl rfl rfl rfl G9) ?_
   refine AOL.Aa9 (B1 (k:=1) (l:=[_,.bool _]) Ai rfl rfl rfl rfl rfl) rfl rfl ?_
   refine Co 2 [_,.bool _] (_::_::_::_) (Ag (AW.ret ?_))
   refine ⟨.inr rfl,[.agg [_,.bool _]],.cons (.box _ _ _ 2 _ _ _ _ rfl rfl rfl rfl rfl rfl) <| .nil,.cons _ (.cons _ (.cons _ (.refl _))),?_⟩
   rw [hall];rfl
theorem Fg (T:List Sc)(V:List Va)(e:Ex)(ih:∀a∈e.args,∀s,Ax Tryz.prog 53 [.agg (Cq T V),.agg (cE a),.bool s] (.agg (Ek (Dc T V a s))))(i:Nat)(a:Ex)(ha:e.args[i]? = some a)(s:Bool):Ax Tryz.prog 87 [.int .i64 (i:Int),.bool s,.ptr (Cq T V),.ptr (cE e)] (.agg (Ek (Dc T V a s))):=by
 refine Ax.body (n:=15) Ai Tryz.func87 rfl rfl rfl fun H=>?_
 refine Ah ?_
 refine Qe (Al (l:=[.sl 1 [],.bool false]) (by kernel_rfl)) ?_
 rintro _ _ ⟨b6,rfl,rfl⟩
 refine Ag (AW.seq ?_)
 refine AW.draw mixed (fun _=>True) trivial (by kernel_rfl) ?_
 refine Qn 0 rfl (Cm [_,_]) (Qn 1 rfl K7 (Qn 2 rfl Dm (Qn 3 rfl A2 ?_)))
 refine Qn 4 rfl (Af (c:=[Iq _,_,Iq _,Iq _,Iq _,Iq _,Iq _,.str _]) Ai rfl rfl rfl rfl rfl rfl (by omega) (Fb ha)) ?_
 refine Qn 5 rfl D1 (Qn 6 rfl Br ?_)
 refine Qn 7 rfl (Qc rfl (ih a (List.mem_of_getElem? ha) s)) ?_
 refine Jx.eff _ _ 8 _ _ rfl (by kernel_rfl) rfl rfl (C7 (k:=0) (v:=.agg _) (cs':=[_,.bool _]) (H2:=_::_) Ai rfl rfl rfl rfl (rfl) rfl rfl rfl rfl) (fun _ _ _=>trivial) ?_
 rintro _ _ ⟨rfl,rfl⟩
 refine Jx.done _ _ (by kernel_rfl) ?_
 refine Ae (AW.ret ?_)
 refine ⟨.inr rfl,[.agg [_,.bool _]],.cons (.box _ _ _ 0 _ _ _ _ rfl rfl rfl rfl rfl rfl) <| .nil,.cons _ (.refl _),?_⟩
 rfl
theorem Rz (T:List Sc)(V:List Va)(e:Ex)(hk:KOK T V e)(hse:At e≤64)(s:Bool):Ax Tryz.prog 53 [.agg (Cq T V),.agg (cE e),.bool s] (.agg (Ek (Dc T V e s))):=by
 revert s hk hse
 induction e using Ex.Abb
 rename_i e ih0
 intro hk hse s
 have ih:∀a∈e.args,∀s,Ax Tryz.prog 53 [.agg (Cq T V),.agg (cE a),.bool s] (.agg (Ek (Dc T V a s))):=fun a ha s=>ih0 a ha (A3 hk ha) (Nat.le_trans (Nat.le_of_lt (Gu ha)) hse) s
 have hz:=Be hk.nodes
 refine Ax.body (n:=111) Ai Tryz.func53 rfl rfl rfl fun H=>?_
 refine Ah (Qp (F5 [_,_]) (Qp La ?_))
 refine Qe (Al (l:=[.sl 1 [],.bool false]) (by kernel_rfl)) ?_
 rintro _ _ ⟨b6,rfl,rfl⟩
 refine Dh ?_
 refine Qp (Bf (l:=[]) (l':=[.ptr _,.ptr _]) rfl rfl) ?_
 refine Qp (C3 (v:=.fn _ _ _) rfl) ?_
 refine Ag (AW.seq (Ah (Qp Kv (Qp Bt (Ag (AW.block (Ah (Qp A7 (Qp Bg ?_)))))))))
 refine Ag (A5 (fun hc1=>?_) fun hc1=>?_)
 ·
  refine AW.seq (Ah (Qp Jr (Qp Wn (Qp Bt (Qp A7 (Qp Br ?_))))))
  refine Qp (Ra Ai rfl rfl rfl rfl) ?_
  refine Ag (A5 (fun hc2=>?_) fun hc2=>?_)
  ·
   refine Ah ?_
   refine Qp (Dl.weakV (A1 (es:=[[_]]) Ai rfl rfl rfl rfl rfl rfl rfl rfl rfl) jK) ?_
   refine Qp (Et [_,.bool _]) (Co 0 [_,.bool _] (_::_) (Ag (Du (Bc (Aj ?_)))))
   refine ⟨.inr rfl,[.agg [_,.bool _]],.cons (.box _ _ _ 0 _ _ _ _ rfl rfl rfl rfl rfl rfl) <| .nil,.cons _ (.refl _),?_⟩
   first
    | exact absurd (‹(e.op==10)=true›.symm.trans ‹(e.op==10)=false›) (by decide)
    | exact absurd (‹(e.op==11)=true›.symm.trans ‹(e.op==11)=false›) (by decide)
    | exact absurd (‹(e.op==9)=true›.symm.trans ‹(e.op==9)=false›) (by decide)
    | exact Eq.trans rfl (congrArg (fun q:Cs=>AV.agg (Ek q)) (Gg ‹(e.op==0)=true› ‹((e.val.num==1)==s)=true›)).symm
    | exact Eq.trans rfl (congrArg (fun q:Cs=>AV.agg (Ek q)) (Ge ‹(e.op==0)=true› ‹((e.val.num==1)==s)=false›)).symm
    | exact Eq.trans rfl (congrArg (fun q:Cs=>AV.agg (Ek q)) (Gl h00 ‹(e.op==12)=true›)).symm
    | exact Eq.trans rfl (congrArg (fun q:Cs=>AV.agg (Ek q)) (Gf hl2 h10 ‹((e.op==10)==s)=true›)).symm
    | exact Eq.trans rfl (congrArg (fun q:Cs=>AV.agg (Ek q)) (Gd hl2 h10 ‹((e.op==10)==s)=false›)).symm
    | exact Eq.trans rfl (congrArg (fun q:Cs=>AV.agg (Ek q)) (Gc hl2 h9 ‹(Am T V (Ao e)==1)=true›)).symm
    | exact Eq.trans rfl (congrArg (fun q:Cs=>AV.agg (Ek q)) (Gj h9 ‹(Am T V (Ao e)==1)=false› ‹(Am T V (Ao e)==0 && !s)=true›)).symm
    | exact Eq.trans rfl (congrArg (fun q:Cs=>AV.agg (Ek q)) (Iu h9 ‹(Am T V (Ao e)==1)=false› ‹(Am T V (Ao e)==0 && !s)=false›)).symm
    | exact Eq.trans rfl (congrArg (fun q:Cs=>AV.agg (Ek q)) (Kq ‹(e.op==0)=false› ‹(e.op==12)=false› (cF ‹(e.op==10)=false› ‹(e.op==11)=false›) ‹(e.op==9)=false›)).symm
  ·
   refine Bz (Ah (Qp (Et [_,.bool _]) (Co 0 [_,.bool _] (_::_) ?_)))
   refine AOL.ghost (GS.cell (H2:=_::_) 0 0 rfl rfl rfl rfl (wS (z:=1))) ?_
   refine Ag (AW.ret (Bc (Aj ?_)))
   refine ⟨.inr rfl,[.agg [_,.bool _]],.cons (.box _ _ _ 0 _ _ _ _ rfl rfl rfl rfl rfl rfl) <| .nil,.cons _ (.refl _),?_⟩
   first
    | exact absurd (‹(e.op==10)=true›.symm.trans ‹(e.op==10)=false›) (by decide)
    | exact absurd (‹(e.op==11)=true›.symm.trans ‹(e.op==11)=false›) (by decide)
    | exact absurd (‹(e.op==9)=true›.symm.trans ‹(e.op==9)=false›) (by decide)
    | exact Eq.trans rfl (congrArg (fun q:Cs=>AV.agg (Ek q)) (Gg ‹(e.op==0)=true› ‹((e.val.num==1)==s)=true›)).symm
    | exact Eq.trans rfl (congrArg (fun q:Cs=>AV.agg (Ek q)) (Ge ‹(e.op==0)=true› ‹((e.val.num==1)==s)=false›)).symm
    | exact Eq.trans rfl (congrArg (fun q:Cs=>AV.agg (Ek q)) (Gl h00 ‹(e.op==12)=true›)).symm
    | exact Eq.trans rfl (congrArg (fun q:Cs=>AV.agg (Ek q)) (Gf hl2 h10 ‹((e.op==10)==s)=true›)).symm
    | exact Eq.trans rfl (congrArg (fun q:Cs=>AV.agg (Ek q)) (Gd hl2 h10 ‹((e.op==10)==s)=false›)).symm
    | exact Eq.trans rfl (congrArg (fun q:Cs=>AV.agg (Ek q)) (Gc hl2 h9 ‹(Am T V (Ao e)==1)=true›)).symm
    | exact Eq.trans rfl (congrArg (fun q:Cs=>AV.agg (Ek q)) (Gj h9 ‹(Am T V (Ao e)==1)=false› ‹(Am T V (Ao e)==0 && !s)=true›)).symm
    | exact Eq.trans rfl (congrArg (fun q:Cs=>AV.agg (Ek q)) (Iu h9 ‹(Am T V (Ao e)==1)=false› ‹(Am T V (Ao e)==0 && !s)=false›)).symm
    | exact Eq.trans rfl (congrArg (fun q:Cs=>AV.agg (Ek q)) (Kq ‹(e.op==0)=false› ‹(e.op==12)=false› (cF ‹(e.op==10)=false› ‹(e.op==11)=false›) ‹(e.op==9)=false›)).symm
 ·
  refine Ah (Qp A7 (Qp Bg (Ag (A5 (fun hc3=>?_) fun hc3=>?_))))
  ·
   refine AW.seq ?_
   have h00:=Wh hz.1 (eq_of_beq ‹(e.op==12)=true›)
   have ha0:=Qa h00
   refine AW.region ?_
   refine Qp (Bl (v:=.fn _ _ _) rfl) ?_
   refine Qp Br (Qp Gt ?_)
   refine Qp (D2 (by kernel_rfl) rfl rfl rfl (Fg T V e ih 0 (Ao e) ha0 (!s))) ?_
   refine Co 0 [_,.bool _] (_::_) (Ag (AW.ret (Bc (Aj ?_))))
   refine ⟨.inr rfl,[.agg [_,.bool _]],.cons (.box _ _ _ 0 _ _ _ _ rfl rfl rfl rfl rfl rfl) <| .nil,.cons _ (.refl _),?_⟩
   first
    | exact absurd (‹(e.op==10)=true›.symm.trans ‹(e.op==10)=false›) (by decide)
    | exact absurd (‹(e.op==11)=true›.symm.trans ‹(e.op==11)=false›) (by decide)
    | exact absurd (‹(e.op==9)=true›.symm.trans ‹(e.op==9)=false›) (by decide)
    | exact Eq.trans rfl (congrArg (fun q:Cs=>AV.agg (Ek q)) (Gg ‹(e.op==0)=true› ‹((e.val.num==1)==s)=true›)).symm
    | exact Eq.trans rfl (congrArg (fun q:Cs=>AV.agg (Ek q)) (Ge ‹(e.op==0)=true› ‹((e.val.num==1)==s)=false›)).symm
    | exact Eq.trans rfl (congrArg (fun q:Cs=>AV.agg (Ek q)) (Gl h00 ‹(e.op==12)=true›)).symm
    | exact Eq.trans rfl (congrArg (fun q:Cs=>AV.agg (Ek q)) (Gf hl2 h10 ‹((e.op==10)==s)=true›)).symm
    | exact Eq.trans rfl (congrArg (fun q:Cs=>AV.agg (Ek q)) (Gd hl2 h10 ‹((e.op==10)==s)=false›)).symm
    | exact Eq.trans rfl (congrArg (fun q:Cs=>AV.agg (Ek q)) (Gc hl2 h9 ‹(Am T V (Ao e)==1)=true›)).symm
    | exact Eq.trans rfl (congrArg (fun q:Cs=>AV.agg (Ek q)) (Gj h9 ‹(Am T V (Ao e)==1)=false› ‹(Am T V (Ao e)==0 && !s)=true›)).symm
    | exact Eq.trans rfl (congrArg (fun q:Cs=>AV.agg (Ek q)) (Iu h9 ‹(Am T V (Ao e)==1)=false› ‹(Am T V (Ao e)==0 && !s)=false›)).symm
    | exact Eq.trans rfl (congrArg (fun q:Cs=>AV.agg (Ek q)) (Kq ‹(e.op==0)=false› ‹(e.op==12)=false› (cF ‹(e.op==10)=false› ‹(e.op==11)=false›) ‹(e.op==9)=false›)).symm
  ·
   refine AW.seq (Ah (Qp A7 (Qp Bg (Ag (A5 (fun hc4=>?_) fun hc4=>?_)))))
   ·
    refine Bz (A5 (fun hc5=>?_) fun hc5=>?_)
    ·
     refine AW.seq (Ah (Qp Kv (Qp Bt (Qp A7 (Qp Br ?_)))))
     refine Qp (Ra Ai rfl rfl rfl rfl) ?_
     refine Ag (A5 (fun hc6=>?_) fun hc6=>?_)
     ·
      refine AW.seq ?_
      have h10:(e.op==10||e.op==11)=true:=by first | exact aV ‹(e.op==10)=true› | exact Z4 ‹(e.op==11)=true›
      have hl2:=Dj hz.1 (by simp at h10;omega)
      have h00:0<e.args.length:=by omega
      have ha0:=Qa h00
      have ha1:=Sm hl2
      have m0:=A6 h00
      have m1:=Bk hl2
      have k0:=Gi _ (A3 hk m0)
      have k1:=Gi _ (A3 hk m1)
      have hs01:=Dy hl2
      refine AW.region ?_
      refine Qp (Bl (v:=.fn _ _ _) rfl) ?_
      refine Qp Br ?_
      refine Qp (D2 (by kernel_rfl) rfl rfl rfl (Fg T V e ih 0 (Ao e) ha0 s)) ?_
      refine Qp (Bl (v:=.fn _ _ _) rfl) ?_
      refine Qp Br ?_
      refine Qp (D2 (by kernel_rfl) rfl rfl rfl (Fg T V e ih 1 (Bi e) ha1 s)) ?_
      refine Qp (Qc rfl (P8 _ _ _ _ (k0 s) (k1 s) (by omega) (by omega))) ?_
      refine Co 0 [_,.bool _] (_::_) (Ag (Du (Bc (Aj ?_))))
      refine ⟨.inr rfl,[.agg [_,.bool _]],.cons (.box _ _ _ 0 _ _ _ _ rfl rfl rfl rfl rfl rfl) <| .nil,.cons _ (.refl _),?_⟩
      first
       | exact absurd (‹(e.op==10)=true›.symm.trans ‹(e.op==10)=false›) (by decide)
       | exact absurd (‹(e.op==11)=true›.symm.trans ‹(e.op==11)=false›) (by decide)
       | exact absurd (‹(e.op==9)=true›.symm.trans ‹(e.op==9)=false›) (by decide)
       | exact Eq.trans rfl (congrArg (fun q:Cs=>AV.agg (Ek q)) (Gg ‹(e.op==0)=true› ‹((e.val.num==1)==s)=true›)).symm
       | exact Eq.trans rfl (congrArg (fun q:Cs=>AV.agg (Ek q)) (Ge ‹(e.op==0)=true› ‹((e.val.num==1)==s)=false›)).symm
       | exact Eq.trans rfl (congrArg (fun q:Cs=>AV.agg (Ek q)) (Gl h00 ‹(e.op==12)=true›)).symm
       | exact Eq.trans rfl (congrArg (fun q:Cs=>AV.agg (Ek q)) (Gf hl2 h10 ‹((e.op==10)==s)=true›)).symm
       | exact Eq.trans rfl (congrArg (fun q:Cs=>AV.agg (Ek q)) (Gd hl2 h10 ‹((e.op==10)==s)=false›)).symm
       | exact Eq.trans rfl (congrArg (fun q:Cs=>AV.agg (Ek q)) (Gc hl2 h9 ‹(Am T V (Ao e)==1)=true›)).symm
       | exact Eq.trans rfl (congrArg (fun q:Cs=>AV.agg (Ek q)) (Gj h9 ‹(Am T V (Ao e)==1)=false› ‹(Am T V (Ao e)==0 && !s)=true›)).symm
       | exact Eq.trans rfl (congrArg (fun q:Cs=>AV.agg (Ek q)) (Iu h9 ‹(Am T V (Ao e)==1)=false› ‹(Am T V (Ao e)==0 && !s)=false›)).symm
       | exact Eq.trans rfl (congrArg (fun q:Cs=>AV.agg (Ek q)) (Kq ‹(e.op==0)=false› ‹(e.op==12)=false› (cF ‹(e.op==10)=false› ‹(e.op==11)=false›) ‹(e.op==9)=false›)).symm
     ·
      refine Bz (AW.seq ?_)
      have h10:(e.op==10||e.op==11)=true:=by first | exact aV ‹(e.op==10)=true› | exact Z4 ‹(e.op==11)=true›
      have hl2:=Dj hz.1 (by simp at h10;omega)
      have h00:0<e.args.length:=by omega
      have ha0:=Qa h00
      have ha1:=Sm hl2
      have m0:=A6 h00
      have m1:=Bk hl2
      have k0:=Gi _ (A3 hk m0)
      have k1:=Gi _ (A3 hk m1)
      have hs01:=Dy hl2
      refine AW.region ?_
      refine Qp (Bl (v:=.fn _ _ _) rfl) ?_
      refine Qp Br ?_
      refine Qp (D2 (by kernel_rfl) rfl rfl rfl (Fg T V e ih 0 (Ao e) ha0 s)) ?_
      refine Qp (Bl (v:=.fn _ _ _) rfl) ?_
      refine Qp Br ?_
      refine Qp (D2 (by kernel_rfl) rfl rfl rfl (Fg T V e ih 1 (Bi e) ha1 s)) ?_
      refine Qp (Qc rfl (lI _ _ _ _ ((k0 s).mono (Nat.le_trans (by omega) hse)) ((k1 s).mono (Nat.le_trans (by omega) hse)) (by omega) (by omega))) ?_
      refine Co 0 [_,.bool _] (_::_) (Ag (AW.ret (Bc (Aj ?_))))
      refine ⟨.inr rfl,[.agg [_,.bool _]],.cons (.box _ _ _ 0 _ _ _ _ rfl rfl rfl rfl rfl rfl) <| .nil,.cons _ (.refl _),?_⟩
      first
       | exact absurd (‹(e.op==10)=true›.symm.trans ‹(e.op==10)=false›) (by decide)
       | exact absurd (‹(e.op==11)=true›.symm.trans ‹(e.op==11)=false›) (by decide)
       | exact absurd (‹(e.op==9)=true›.symm.trans ‹(e.op==9)=false›) (by decide)
       | exact Eq.trans rfl (congrArg (fun q:Cs=>AV.agg (Ek q)) (Gg ‹(e.op==0)=true› ‹((e.val.num==1)==s)=true›)).symm
       | exact Eq.trans rfl (congrArg (fun q:Cs=>AV.agg (Ek q)) (Ge ‹(e.op==0)=true› ‹((e.val.num==1)==s)=false›)).symm
       | exact Eq.trans rfl (congrArg (fun q:Cs=>AV.agg (Ek q)) (Gl h00 ‹(e.op==12)=true›)).symm
       | exact Eq.trans rfl (congrArg (fun q:Cs=>AV.agg (Ek q)) (Gf hl2 h10 ‹((e.op==10)==s)=true›)).symm
       | exact Eq.trans rfl (congrArg (fun q:Cs=>AV.agg (Ek q)) (Gd hl2 h10 ‹((e.op==10)==s)=false›)).symm
       | exact Eq.trans rfl (congrArg (fun q:Cs=>AV.agg (Ek q)) (Gc hl2 h9 ‹(Am T V (Ao e)==1)=true›)).symm
       | exact Eq.trans rfl (congrArg (fun q:Cs=>AV.agg (Ek q)) (Gj h9 ‹(Am T V (Ao e)==1)=false› ‹(Am T V (Ao e)==0 && !s)=true›)).symm
       | exact Eq.trans rfl (congrArg (fun q:Cs=>AV.agg (Ek q)) (Iu h9 ‹(Am T V (Ao e)==1)=false› ‹(Am T V (Ao e)==0 && !s)=false›)).symm
       | exact Eq.trans rfl (congrArg (fun q:Cs=>AV.agg (Ek q)) (Kq ‹(e.op==0)=false› ‹(e.op==12)=false› (cF ‹(e.op==10)=false› ‹(e.op==11)=false›) ‹(e.op==9)=false›)).symm
    ·
     exact absurd (hc5.symm.trans hc4) (by decide)
   ·
    refine AW.region (Qp A7 (Qp Bg (Ag (A5 (fun hc7=>?_) fun hc7=>?_))))
    ·
     refine AW.seq (Ah (Qp Kv (Qp Bt (Qp A7 (Qp Br ?_)))))
     refine Qp (Ra Ai rfl rfl rfl rfl) ?_
     refine Ag (A5 (fun hc8=>?_) fun hc8=>?_)
     ·
      refine AW.seq ?_
      have h10:(e.op==10||e.op==11)=true:=by first | exact aV ‹(e.op==10)=true› | exact Z4 ‹(e.op==11)=true›
      have hl2:=Dj hz.1 (by simp at h10;omega)
      have h00:0<e.args.length:=by omega
      have ha0:=Qa h00
      have ha1:=Sm hl2
      have m0:=A6 h00
      have m1:=Bk hl2
      have k0:=Gi _ (A3 hk m0)
      have k1:=Gi _ (A3 hk m1)
      have hs01:=Dy hl2
      refine AW.region ?_
      refine Qp (Bl (v:=.fn _ _ _) rfl) ?_
      refine Qp Br ?_
      refine Qp (D2 (by kernel_rfl) rfl rfl rfl (Fg T V e ih 0 (Ao e) ha0 s)) ?_
      refine Qp (Bl (v:=.fn _ _ _) rfl) ?_
      refine Qp Br ?_
      refine Qp (D2 (by kernel_rfl) rfl rfl rfl (Fg T V e ih 1 (Bi e) ha1 s)) ?_
      refine Qp (Qc rfl (P8 _ _ _ _ (k0 s) (k1 s) (by omega) (by omega))) ?_
      refine Co 0 [_,.bool _] (_::_) (Ag (Du (Bc (Aj ?_))))
      refine ⟨.inr rfl,[.agg [_,.bool _]],.cons (.box _ _ _ 0 _ _ _ _ rfl rfl rfl rfl rfl rfl) <| .nil,.cons _ (.refl _),?_⟩
      first
       | exact absurd (‹(e.op==10)=true›.symm.trans ‹(e.op==10)=false›) (by decide)
       | exact absurd (‹(e.op==11)=true›.symm.trans ‹(e.op==11)=false›) (by decide)
       | exact absurd (‹(e.op==9)=true›.symm.trans ‹(e.op==9)=false›) (by decide)
       | exact Eq.trans rfl (congrArg (fun q:Cs=>AV.agg (Ek q)) (Gg ‹(e.op==0)=true› ‹((e.val.num==1)==s)=true›)).symm
       | exact Eq.trans rfl (congrArg (fun q:Cs=>AV.agg (Ek q)) (Ge ‹(e.op==0)=true› ‹((e.val.num==1)==s)=false›)).symm
       | exact Eq.trans rfl (congrArg (fun q:Cs=>AV.agg (Ek q)) (Gl h00 ‹(e.op==12)=true›)).symm
       | exact Eq.trans rfl (congrArg (fun q:Cs=>AV.agg (Ek q)) (Gf hl2 h10 ‹((e.op==10)==s)=true›)).symm
       | exact Eq.trans rfl (congrArg (fun q:Cs=>AV.agg (Ek q)) (Gd hl2 h10 ‹((e.op==10)==s)=false›)).symm
       | exact Eq.trans rfl (congrArg (fun q:Cs=>AV.agg (Ek q)) (Gc hl2 h9 ‹(Am T V (Ao e)==1)=true›)).symm
       | exact Eq.trans rfl (congrArg (fun q:Cs=>AV.agg (Ek q)) (Gj h9 ‹(Am T V (Ao e)==1)=false› ‹(Am T V (Ao e)==0 && !s)=true›)).symm
       | exact Eq.trans rfl (congrArg (fun q:Cs=>AV.agg (Ek q)) (Iu h9 ‹(Am T V (Ao e)==1)=false› ‹(Am T V (Ao e)==0 && !s)=false›)).symm
       | exact Eq.trans rfl (congrArg (fun q:Cs=>AV.agg (Ek q)) (Kq ‹(e.op==0)=false› ‹(e.op==12)=false› (cF ‹(e.op==10)=false› ‹(e.op==11)=false›) ‹(e.op==9)=false›)).symm
     ·
      refine Bz (AW.seq ?_)
      have h10:(e.op==10||e.op==11)=true:=by first | exact aV ‹(e.op==10)=true› | exact Z4 ‹(e.op==11)=true›
      have hl2:=Dj hz.1 (by simp at h10;omega)
      have h00:0<e.args.length:=by omega
      have ha0:=Qa h00
      have ha1:=Sm hl2
      have m0:=A6 h00
      have m1:=Bk hl2
      have k0:=Gi _ (A3 hk m0)
      have k1:=Gi _ (A3 hk m1)
      have hs01:=Dy hl2
      refine AW.region ?_
      refine Qp (Bl (v:=.fn _ _ _) rfl) ?_
      refine Qp Br ?_
      refine Qp (D2 (by kernel_rfl) rfl rfl rfl (Fg T V e ih 0 (Ao e) ha0 s)) ?_
      refine Qp (Bl (v:=.fn _ _ _) rfl) ?_
      refine Qp Br ?_
      refine Qp (D2 (by kernel_rfl) rfl rfl rfl (Fg T V e ih 1 (Bi e) ha1 s)) ?_
      refine Qp (Qc rfl (lI _ _ _ _ ((k0 s).mono (Nat.le_trans (by omega) hse)) ((k1 s).mono (Nat.le_trans (by omega) hse)) (by omega) (by omega))) ?_
      refine Co 0 [_,.bool _] (_::_) (Ag (AW.ret (Bc (Aj ?_))))
      refine ⟨.inr rfl,[.agg [_,.bool _]],.cons (.box _ _ _ 0 _ _ _ _ rfl rfl rfl rfl rfl rfl) <| .nil,.cons _ (.refl _),?_⟩
      first
       | exact absurd (‹(e.op==10)=true›.symm.trans ‹(e.op==10)=false›) (by decide)
       | exact absurd (‹(e.op==11)=true›.symm.trans ‹(e.op==11)=false›) (by decide)
       | exact absurd (‹(e.op==9)=true›.symm.trans ‹(e.op==9)=false›) (by decide)
       | exact Eq.trans rfl (congrArg (fun q:Cs=>AV.agg (Ek q)) (Gg ‹(e.op==0)=true› ‹((e.val.num==1)==s)=true›)).symm
       | exact Eq.trans rfl (congrArg (fun q:Cs=>AV.agg (Ek q)) (Ge ‹(e.op==0)=true› ‹((e.val.num==1)==s)=false›)).symm
       | exact Eq.trans rfl (congrArg (fun q:Cs=>AV.agg (Ek q)) (Gl h00 ‹(e.op==12)=true›)).symm
       | exact Eq.trans rfl (congrArg (fun q:Cs=>AV.agg (Ek q)) (Gf hl2 h10 ‹((e.op==10)==s)=true›)).symm
       | exact Eq.trans rfl (congrArg (fun q:Cs=>AV.agg (Ek q)) (Gd hl2 h10 ‹((e.op==10)==s)=false›)).symm
       | exact Eq.trans rfl (congrArg (fun q:Cs=>AV.agg (Ek q)) (Gc hl2 h9 ‹(Am T V (Ao e)==1)=true›)).symm
       | exact Eq.trans rfl (congrArg (fun q:Cs=>AV.agg (Ek q)) (Gj h9 ‹(Am T V (Ao e)==1)=false› ‹(Am T V (Ao e)==0 && !s)=true›)).symm
       | exact Eq.trans rfl (congrArg (fun q:Cs=>AV.agg (Ek q)) (Iu h9 ‹(Am T V (Ao e)==1)=false› ‹(Am T V (Ao e)==0 && !s)=false›)).symm
       | exact Eq.trans rfl (congrArg (fun q:Cs=>AV.agg (Ek q)) (Kq ‹(e.op==0)=false› ‹(e.op==12)=false› (cF ‹(e.op==10)=false› ‹(e.op==11)=false›) ‹(e.op==9)=false›)).symm
    ·
     refine Ah (Qp A7 (Qp Bg (Ag (A5 (fun hc9=>?_) fun hc9=>?_))))
     ·
      refine AW.seq ?_
      have h9:(e.op==9)=true:=‹(e.op==9)=true›
      have hl2:=Dj hz.1 (by simp at h9;omega)
      have h00:0<e.args.length:=by omega
      have ha0:=Qa h00
      have ha1:=Sm hl2
      have m0:=A6 h00
      have m1:=Bk hl2
      have k0:=Gi _ (A3 hk m0)
      have k1:=Gi _ (A3 hk m1)
      have hs01:=Dy hl2
      refine AW.draw mixed (fun _=>True) trivial (by kernel_rfl) ?_
      refine Qn 0 rfl (Cm [_,_]) (Qn 1 rfl K7 (Qn 2 rfl Dm ?_))
      refine Qn 3 rfl (Af (c:=[Iq _,_,Iq _,Iq _,Iq _,Iq _,Iq _,.str _]) Ai rfl rfl rfl rfl rfl rfl (by decide) (Fq h00)) ?_
      refine Qn 4 rfl D1 ?_
      refine Qn 5 rfl (Qc rfl (Yk T V _ (A3 hk m0))) ?_
      refine Qn 6 rfl Av ?_
      refine Jx.done _ _ (by kernel_rfl) ?_
      refine Ae (AW.block (Ah (Qp A2 (Qp A7 (Qp Bg (Ag (A5 (fun hc10=>?_) fun hc10=>?_)))))))
      ·
       refine Ah ?_
       refine Qp (Bl (v:=.fn _ _ _) rfl) ?_
       refine Qp (D2 (by kernel_rfl) rfl rfl rfl (Fg T V e ih 0 (Ao e) ha0 true)) ?_
       refine Qp (Bl (v:=.fn _ _ _) rfl) ?_
       refine Qp Br ?_
       refine Qp (D2 (by kernel_rfl) rfl rfl rfl (Fg T V e ih 1 (Bi e) ha1 s)) ?_
       refine Qp (Qc rfl (P8 _ _ _ _ (k0 true) (k1 s) (by omega) (by omega))) ?_
       refine Qp (Bl (v:=.fn _ _ _) rfl) ?_
       refine Qp (D2 (by kernel_rfl) rfl rfl rfl (Fg T V e ih 0 (Ao e) ha0 false)) ?_
       refine Qp (Bl (v:=.fn _ _ _) rfl) ?_
       refine Qp Br (Qp Gt ?_)
       refine Qp (D2 (by kernel_rfl) rfl rfl rfl (Fg T V e ih 1 (Bi e) ha1 (!s))) ?_
       refine Qp (Qc rfl (P8 _ _ _ _ (k0 false) (k1 (!s)) (by omega) (by omega))) ?_
       refine Qp (Qc rfl (lI _ _ _ _ ((Lt (k0 true) (k1 s)).mono (Nat.le_trans (by omega) hse)) ((Lt (k0 false) (k1 (!s))).mono (Nat.le_trans (by omega) hse)) (by omega) (by omega))) ?_
       refine Co 0 [_,.bool _] (_::_) (Ag (AW.ret (Bc (Bc (Aj ?_)))))
       refine ⟨.inr rfl,[.agg [_,.bool _]],.cons (.box _ _ _ 0 _ _ _ _ rfl rfl rfl rfl rfl rfl) <| .nil,.cons _ (.refl _),?_⟩
       first
        | exact absurd (‹(e.op==10)=true›.symm.trans ‹(e.op==10)=false›) (by decide)
        | exact absurd (‹(e.op==11)=true›.symm.trans ‹(e.op==11)=false›) (by decide)
        | exact absurd (‹(e.op==9)=true›.symm.trans ‹(e.op==9)=false›) (by decide)
        | exact Eq.trans rfl (congrArg (fun q:Cs=>AV.agg (Ek q)) (Gg ‹(e.op==0)=true› ‹((e.val.num==1)==s)=true›)).symm
        | exact Eq.trans rfl (congrArg (fun q:Cs=>AV.agg (Ek q)) (Ge ‹(e.op==0)=true› ‹((e.val.num==1)==s)=false›)).symm
        | exact Eq.trans rfl (congrArg (fun q:Cs=>AV.agg (Ek q)) (Gl h00 ‹(e.op==12)=true›)).symm
        | exact Eq.trans rfl (congrArg (fun q:Cs=>AV.agg (Ek q)) (Gf hl2 h10 ‹((e.op==10)==s)=true›)).symm
        | exact Eq.trans rfl (congrArg (fun q:Cs=>AV.agg (Ek q)) (Gd hl2 h10 ‹((e.op==10)==s)=false›)).symm
        | exact Eq.trans rfl (congrArg (fun q:Cs=>AV.agg (Ek q)) (Gc hl2 h9 ‹(Am T V (Ao e)==1)=true›)).symm
        | exact Eq.trans rfl (congrArg (fun q:Cs=>AV.agg (Ek q)) (Gj h9 ‹(Am T V (Ao e)==1)=false› ‹(Am T V (Ao e)==0 && !s)=true›)).symm
        | exact Eq.trans rfl (congrArg (fun q:Cs=>AV.agg (Ek q)) (Iu h9 ‹(Am T V (Ao e)==1)=false› ‹(Am T V (Ao e)==0 && !s)=false›)).symm
        | exact Eq.trans rfl (congrArg (fun q:Cs=>AV.agg (Ek q)) (Kq ‹(e.op==0)=false› ‹(e.op==12)=false› (cF ‹(e.op==10)=false› ‹(e.op==11)=false›) ‹(e.op==9)=false›)).symm
      ·
       refine Ah (Qp A2 (Qp A7 (Qp Br (Qg [] Qw Br (Qg [(80,_)] Qw Gt (Qp E3 (Qp Bg (Ag (A5 (fun hc11=>?_) fun hc11=>?_)))))))))
       ·
        refine AW.seq ?_
        refine AW.draw mixed (fun _=>True) trivial (by kernel_rfl) ?_
        refine Qn 0 rfl K7 (Qn 1 rfl Dm ?_)
        refine Qn 2 rfl (Af (c:=[Iq _,_,Iq _,Iq _,Iq _,Iq _,Iq _,.str _]) Ai rfl rfl rfl rfl rfl rfl (by decide) (Fq h00)) ?_
        refine Qn 3 rfl D1 (Qn 4 rfl K7 (Qn 5 rfl Dm ?_))
        refine Qn 6 rfl (Af (c:=[Iq _,_,Iq _,Iq _,Iq _,Iq _,Iq _,.str _]) Ai rfl rfl rfl rfl rfl rfl (by decide) (Id hl2)) ?_
        refine Qn 7 rfl D1 ?_
        refine Qn 8 rfl (Qc rfl (bF 7 _ _)) ?_
        refine Qn 9 rfl (Et [Iq _,_,Iq _,Iq _,Iq _,Iq _,Iq _,.str _,.bool _]) (Qn 10 rfl K7 (Qn 11 rfl Dm ?_))
        refine Qn 12 rfl (Af (c:=[Iq _,_,Iq _,Iq _,Iq _,Iq _,Iq _,.str _]) Ai rfl rfl rfl rfl rfl rfl (by decide) (Id hl2)) ?_
        refine Qn 13 rfl D1 (Qn 14 rfl K7 (Qn 15 rfl Dm ?_))
        refine Qn 16 rfl (Af (c:=[Iq _,_,Iq _,Iq _,Iq _,Iq _,Iq _,.str _]) Ai rfl rfl rfl rfl rfl rfl (by decide) (Fq h00)) ?_
        refine Qn 17 rfl D1 ?_
        refine Qn 18 rfl (Qc rfl (bF 7 _ _)) ?_
        refine Qn 19 rfl (Et [Iq _,_,Iq _,Iq _,Iq _,Iq _,Iq _,.str _,.bool _]) ?_
        refine Qn 20 rfl (A1 (es:=[[Iq _,_,Iq _,Iq _,Iq _,Iq _,Iq _,.str _,.bool _],[Iq _,_,Iq _,Iq _,Iq _,Iq _,Iq _,.str _,.bool _]]) Ai rfl rfl rfl rfl rfl rfl rfl rfl rfl) ?_
        refine Qn 21 rfl (Qc rfl (Xn [⟨two 7 (Ao e) (Bi e),false⟩,⟨two 7 (Bi e) (Ao e),false⟩] (show 2≤256 by decide))) ?_
        refine Jx.eff _ _ 22 _ _ rfl (by kernel_rfl) rfl rfl (C7 (k:=0) (v:=.agg _) (cs':=[_,.bool _]) (H2:=_::_) Ai rfl rfl rfl rfl (rfl) rfl rfl rfl rfl) (fun _ _ _=>trivial) ?_
        rintro _ _ ⟨rfl,rfl⟩
        refine Jx.done _ _ (by kernel_rfl) ?_
        refine Ae (AW.ret (Bc (Bc (Aj ?_))))
        refine ⟨.inr rfl,[.agg [_,.bool _]],.cons (.box _ _ _ 0 _ _ _ _ rfl rfl rfl rfl rfl rfl) <| .nil,.cons _ (.refl _),?_⟩
        first
         | exact absurd (‹(e.op==10)=true›.symm.trans ‹(e.op==10)=false›) (by decide)
         | exact absurd (‹(e.op==11)=true›.symm.trans ‹(e.op==11)=false›) (by decide)
         | exact absurd (‹(e.op==9)=true›.symm.trans ‹(e.op==9)=false›) (by decide)
         | exact Eq.trans rfl (congrArg (fun q:Cs=>AV.agg (Ek q)) (Gg ‹(e.op==0)=true› ‹((e.val.num==1)==s)=true›)).symm
         | exact Eq.trans rfl (congrArg (fun q:Cs=>AV.agg (Ek q)) (Ge ‹(e.op==0)=true› ‹((e.val.num==1)==s)=false›)).symm
         | exact Eq.trans rfl (congrArg (fun q:Cs=>AV.agg (Ek q)) (Gl h00 ‹(e.op==12)=true›)).symm
         | exact Eq.trans rfl (congrArg (fun q:Cs=>AV.agg (Ek q)) (Gf hl2 h10 ‹((e.op==10)==s)=true›)).symm
         | exact Eq.trans rfl (congrArg (fun q:Cs=>AV.agg (Ek q)) (Gd hl2 h10 ‹((e.op==10)==s)=false›)).symm
         | exact Eq.trans rfl (congrArg (fun q:Cs=>AV.agg (Ek q)) (Gc hl2 h9 ‹(Am T V (Ao e)==1)=true›)).symm
         | exact Eq.trans rfl (congrArg (fun q:Cs=>AV.agg (Ek q)) (Gj h9 ‹(Am T V (Ao e)==1)=false› ‹(Am T V (Ao e)==0 && !s)=true›)).symm
         | exact Eq.trans rfl (congrArg (fun q:Cs=>AV.agg (Ek q)) (Iu h9 ‹(Am T V (Ao e)==1)=false› ‹(Am T V (Ao e)==0 && !s)=false›)).symm
         | exact Eq.trans rfl (congrArg (fun q:Cs=>AV.agg (Ek q)) (Kq ‹(e.op==0)=false› ‹(e.op==12)=false› (cF ‹(e.op==10)=false› ‹(e.op==11)=false›) ‹(e.op==9)=false›)).symm
       ·
        refine AW.skip (Bs (Bs (Ae (Ah (Qp D1 (Qp Br (Qp Gt (Qp (Et [Iq _,_,Iq _,Iq _,Iq _,Iq _,Iq _,.str _,.bool _]) ?_))))))))
        refine Qp (A1 (es:=[[Iq _,_,Iq _,Iq _,Iq _,Iq _,Iq _,.str _,.bool _]]) Ai rfl rfl rfl rfl rfl rfl rfl rfl rfl) ?_
        refine Qp (Qc rfl (Xn [⟨e,!s⟩] (show 1≤256 by decide))) ?_
        refine Co 0 [_,.bool _] (_::_) (Ag (AW.ret ?_))
        refine ⟨.inr rfl,[.agg [_,.bool _]],.cons (.box _ _ _ 0 _ _ _ _ rfl rfl rfl rfl rfl rfl) <| .nil,.cons _ (.refl _),?_⟩
        first
         | exact absurd (‹(e.op==10)=true›.symm.trans ‹(e.op==10)=false›) (by decide)
         | exact absurd (‹(e.op==11)=true›.symm.trans ‹(e.op==11)=false›) (by decide)
         | exact absurd (‹(e.op==9)=true›.symm.trans ‹(e.op==9)=false›) (by decide)
         | exact Eq.trans rfl (congrArg (fun q:Cs=>AV.agg (Ek q)) (Gg ‹(e.op==0)=true› ‹((e.val.num==1)==s)=true›)).symm
         | exact Eq.trans rfl (congrArg (fun q:Cs=>AV.agg (Ek q)) (Ge ‹(e.op==0)=true› ‹((e.val.num==1)==s)=false›)).symm
         | exact Eq.trans rfl (congrArg (fun q:Cs=>AV.agg (Ek q)) (Gl h00 ‹(e.op==12)=true›)).symm
         | exact Eq.trans rfl (congrArg (fun q:Cs=>AV.agg (Ek q)) (Gf hl2 h10 ‹((e.op==10)==s)=true›)).symm
         | exact Eq.trans rfl (congrArg (fun q:Cs=>AV.agg (Ek q)) (Gd hl2 h10 ‹((e.op==10)==s)=false›)).symm
         | exact Eq.trans rfl (congrArg (fun q:Cs=>AV.agg (Ek q)) (Gc hl2 h9 ‹(Am T V (Ao e)==1)=true›)).symm
         | exact Eq.trans rfl (congrArg (fun q:Cs=>AV.agg (Ek q)) (Gj h9 ‹(Am T V (Ao e)==1)=false› ‹(Am T V (Ao e)==0 && !s)=true›)).symm
         | exact Eq.trans rfl (congrArg (fun q:Cs=>AV.agg (Ek q)) (Iu h9 ‹(Am T V (Ao e)==1)=false› ‹(Am T V (Ao e)==0 && !s)=false›)).symm
         | exact Eq.trans rfl (congrArg (fun q:Cs=>AV.agg (Ek q)) (Kq ‹(e.op==0)=false› ‹(e.op==12)=false› (cF ‹(e.op==10)=false› ‹(e.op==11)=false›) ‹(e.op==9)=false›)).symm
     ·
      refine AW.skip (Bs (Ae (Ah (Qp D1 (Qp Br (Qp Gt (Qp (Et [Iq _,_,Iq _,Iq _,Iq _,Iq _,Iq _,.str _,.bool _]) ?_)))))))
      refine Qp (A1 (es:=[[Iq _,_,Iq _,Iq _,Iq _,Iq _,Iq _,.str _,.bool _]]) Ai rfl rfl rfl rfl rfl rfl rfl rfl rfl) ?_
      refine Qp (Qc rfl (Xn [⟨e,!s⟩] (show 1≤256 by decide))) ?_
      refine Co 0 [_,.bool _] (_::_) (Ag (AW.ret ?_))
      refine ⟨.inr rfl,[.agg [_,.bool _]],.cons (.box _ _ _ 0 _ _ _ _ rfl rfl rfl rfl rfl rfl) <| .nil,.cons _ (.refl _),?_⟩
      first
       | exact absurd (‹(e.op==10)=true›.symm.trans ‹(e.op==10)=false›) (by decide)
       | exact absurd (‹(e.op==11)=true›.symm.trans ‹(e.op==11)=false›) (by decide)
       | exact absurd (‹(e.op==9)=true›.symm.trans ‹(e.op==9)=false›) (by decide)
       | exact Eq.trans rfl (congrArg (fun q:Cs=>AV.agg (Ek q)) (Gg ‹(e.op==0)=true› ‹((e.val.num==1)==s)=true›)).symm
       | exact Eq.trans rfl (congrArg (fun q:Cs=>AV.agg (Ek q)) (Ge ‹(e.op==0)=true› ‹((e.val.num==1)==s)=false›)).symm
       | exact Eq.trans rfl (congrArg (fun q:Cs=>AV.agg (Ek q)) (Gl h00 ‹(e.op==12)=true›)).symm
       | exact Eq.trans rfl (congrArg (fun q:Cs=>AV.agg (Ek q)) (Gf hl2 h10 ‹((e.op==10)==s)=true›)).symm
       | exact Eq.trans rfl (congrArg (fun q:Cs=>AV.agg (Ek q)) (Gd hl2 h10 ‹((e.op==10)==s)=false›)).symm
       | exact Eq.trans rfl (congrArg (fun q:Cs=>AV.agg (Ek q)) (Gc hl2 h9 ‹(Am T V (Ao e)==1)=true›)).symm
       | exact Eq.trans rfl (congrArg (fun q:Cs=>AV.agg (Ek q)) (Gj h9 ‹(Am T V (Ao e)==1)=false› ‹(Am T V (Ao e)==0 && !s)=true›)).symm
       | exact Eq.trans rfl (congrArg (fun q:Cs=>AV.agg (Ek q)) (Iu h9 ‹(Am T V (Ao e)==1)=false› ‹(Am T V (Ao e)==0 && !s)=false›)).symm
       | exact Eq.trans rfl (congrArg (fun q:Cs=>AV.agg (Ek q)) (Kq ‹(e.op==0)=false› ‹(e.op==12)=false› (cF ‹(e.op==10)=false› ‹(e.op==11)=false›) ‹(e.op==9)=false›)).symm
theorem tD (T:List Sc)(hl:T.length≤1048576)(hst:∀s∈T,Jn s)(V:List Va)(hvl:V.length≤1048576)(e:Ex)(hse:At e≤1048576):Ax Tryz.prog 13 [.sl 2 (T.map N1),.sl 2 (V.map U8),.agg (cE e)] (.tuple [.sl 1 ((Jo T V e).1.map Po),.int .i64 (Jo T V e).2]):=by
 refine Ax.body (n:=28) Ai Tryz.func13 rfl rfl rfl fun H=>?_
 refine Ah (Qp La ?_)
 refine Qp (B2 (z:=1) rfl) ?_
 refine Qp Av (Dh (Qp C6 (Qp C6 (Qp (Et [_,_]) ?_))))
 refine Qe (Al (l:=[.sl 2 [],.sl 2 []]) (by kernel_rfl)) ?_
 rintro _ _ ⟨b8,rfl,rfl⟩
 refine Co 0 [_,_] (_::_) ?_
 refine AOL.ghost (GS.Aa4 (t:=8) 0 rfl rfl) ?_
 refine Ag (AW.seq (Ah (Qp (Cm [_,_]) (Qp D1 ?_))))
 refine Qp (Qc rfl (Om T hl hst V hvl e hse)) ?_
 refine Qp Av (Dh (Qp A2 (Qp Ct (Ag (A5 (fun hc1=>?_) fun hc1=>?_)))))
 ·
  refine Ah (Qp A2 ?_)
  refine Qp (B2 (z:=1) rfl) ?_
  refine Qp Av (Ag (Du ?_))
  refine Ko (.sl _ _) (Iq _) ?_
  exact Eq.trans rfl (congrArg (fun q:List (List Lit)×Int=>AV.tuple [.sl 1 (q.1.map Po),.int .i64 q.2]) (sD hc1)).symm
 ·
  have hk:=(S7 hc1).1
  refine Bz (Ah (Qp (Cm [_,_]) (Qp D1 ?_)))
  refine Qp (Qc rfl (Rz T V e hk.kok (It hk) true)) ?_
  refine Qe (Al (l:=[.sl 1 [],.bool false]) (by kernel_rfl)) ?_
  rintro _ _ ⟨b10,rfl,rfl⟩
  refine Co 0 [_,.bool _] (_::_) ?_
  refine AOL.ghost (GS.Aa4 (t:=10) 0 rfl rfl) ?_
  refine Ag (AW.seq (Ah (Qp (Qf [.bool _]) (Qp kE (Qp Gt (Ag (A5 (fun hc2=>?_) fun hc2=>?_)))))))
  ·
   refine Ah ?_
   refine Qp (B2 (z:=1) rfl) ?_
   refine Qp Av (Ag (Du ?_))
   refine Ko (.sl _ _) (Iq _) ?_
   exact Eq.trans rfl (congrArg (fun q:List (List Lit)×Int=>AV.tuple [.sl 1 (q.1.map Po),.int .i64 q.2]) (qZ hc1 hc2)).symm
  ·
   refine Bz (Ah (Qp (Qf [_,.bool _]) (Qp Dm (Qp Vy (Qp Av (Ag (AW.ret ?_)))))))
   refine Ko (.sl _ _) (Iq _) ?_
   exact Eq.trans rfl (congrArg (fun q:List (List Lit)×Int=>AV.tuple [.sl 1 (q.1.map Po),.int .i64 q.2]) (qW hc1 hc2)).symm

end Go.Proofs.YtkddpedfbicbeaaGreatDoor
