/-
  Walks of layer 11: kinds, comparisons. No condition.
-/
import Derived.Test.YtkddpedfbicbeaaGreatDoorAz
import Derived.Test.YtkddpedfbicbeaaGreatDoorK14
import Derived.KernelRfl
namespace Go.Proofs.YtkddpedfbicbeaaGreatDoor
open Go Go.Aw
set_option maxHeartbeats 1600000
set_option maxRecDepth 20000
set_option linter.unusedVariables false
set_option linter.unusedSimpArgs false

theorem Yq (T:List Sc)(V:List Va)(e:Ex)(hk:KOK T V e):Ar Tryz.prog 89 [.agg (Cj T V),.agg (cE e)] (.int .i64 (Am T V e)):=by
 refine Ar.body (n:=37) Ai Tryz.func89 rfl rfl rfl fun H=>?_
 refine Ah (Qp (Fx [_,_]) (Qp K3 (Qp Ap (Ag (AW.seq (Ah (Qp Kw (Qp Br (Ag ?_)))))))))
 refine AW.block (AW.seq (Ah (Qp A6 (Qp Bc (Ag (A2 (fun hc1=>?_) fun hc1=>?_))))))
 ·
  refine Bv (A2 (fun hc2=>?_) fun hc2=>?_)
  ·
   refine Ah (Qp J2 (Qp J2 (Qp Br (Qp Ap (Ag (AW.ret (A9 (Al ?_))))))))
   refine Qr (Iq _) ?_
   first
    | exact Eq.trans rfl (congrArg (fun q:Int=>AV.int .i64 q) hfk).symm
    | (exfalso;simp_all;done)
    | (simp_all [Ad,Am];done)
  ·
   refine Ah (Qp A6 (Qp Bc (Ag (A2 (fun hc3=>?_) fun hc3=>?_))))
   ·
    refine AW.seq ?_
    refine (kG hk (eq_of_beq ‹(e.op==1)=true›)).elim fun v hv=>?_
    refine hv.elim fun s hv=>?_
    refine hv.elim fun f hv=>?_
    have hv0:=hv.1
    have hv1:=hv.2.1
    have ht0:=hv.2.2.1
    have ht1:=hv.2.2.2.1
    have hf0:=hv.2.2.2.2.1
    have hf1:=hv.2.2.2.2.2.1
    have hfk:=hv.2.2.2.2.2.2
    refine AW.draw mixed (fun _=>True) trivial (by kernel_rfl) ?_
    refine Qn 0 rfl (Qf [_,_]) (Qn 1 rfl Dg (Qn 2 rfl (Qf [_]) (Qn 3 rfl Dg (Qn 4 rfl Ym (Qn 5 rfl Br ?_)))))
    refine Qn 6 rfl (Af (c:=[.str _,Iq _]) Ai rfl rfl rfl rfl rfl rfl (hv0) (Bg hv1)) ?_
    refine Qn 7 rfl (Qf [Iq _]) (Qn 8 rfl Br ?_)
    refine Qn 9 rfl (Af (c:=[.str _,_]) Ai rfl rfl rfl rfl rfl rfl (ht0) (Bg ht1)) ?_
    refine Qn 10 rfl (Qf [_]) (Qn 11 rfl Dg (Qn 12 rfl Qv (Qn 13 rfl Br ?_)))
    refine Qn 14 rfl (Af (c:=[.str _,Iq _]) Ai rfl rfl rfl rfl rfl rfl (hf0) (Bg hf1)) ?_
    refine Qn 15 rfl (Qf [Iq _]) (Qn 16 rfl Br (Qn 17 rfl Ap ?_))
    refine Js.done _ _ (by kernel_rfl) ?_
    refine Ae (AW.ret (A9 (Al ?_)))
    refine Qr (Iq _) ?_
    first
     | exact Eq.trans rfl (congrArg (fun q:Int=>AV.int .i64 q) hfk).symm
     | (exfalso;simp_all;done)
     | (simp_all [Ad,Am];done)
   ·
    refine AW.seq (Ah (Qp A6 (Qp Bc (Ag (A2 (fun hc4=>?_) fun hc4=>?_)))))
    ·
     refine Bv (A2 (fun hc5=>?_) fun hc5=>?_)
     ·
      refine Ah (Qp Ap (Ag (AW.ret (A9 (Al ?_)))))
      refine Qr (Iq _) ?_
      first
       | exact Eq.trans rfl (congrArg (fun q:Int=>AV.int .i64 q) hfk).symm
       | (exfalso;simp_all;done)
       | (simp_all [Ad,Am];done)
     ·
      refine AW.skip (Bp (Ae (Ah (Qp Ap (Ag (AW.ret ?_))))))
      refine Qr (Iq _) ?_
      first
       | exact Eq.trans rfl (congrArg (fun q:Int=>AV.int .i64 q) hfk).symm
       | (exfalso;simp_all;done)
       | (simp_all [Ad,Am];done)
    ·
     refine Ah (Qp A6 (Qp Bc (Ag (A2 (fun hc6=>?_) fun hc6=>?_))))
     ·
      refine Bv (A2 (fun hc7=>?_) fun hc7=>?_)
      ·
       refine Ah (Qp Ap (Ag (AW.ret (A9 (Al ?_)))))
       refine Qr (Iq _) ?_
       first
        | exact Eq.trans rfl (congrArg (fun q:Int=>AV.int .i64 q) hfk).symm
        | (exfalso;simp_all;done)
        | (simp_all [Ad,Am];done)
      ·
       refine AW.skip (Bp (Ae (Ah (Qp Ap (Ag (AW.ret ?_))))))
       refine Qr (Iq _) ?_
       first
        | exact Eq.trans rfl (congrArg (fun q:Int=>AV.int .i64 q) hfk).symm
        | (exfalso;simp_all;done)
        | (simp_all [Ad,Am];done)
     ·
      refine Ah (Qp A6 (Qp Bc (Ag (A2 (fun hc8=>?_) fun hc8=>?_))))
      ·
       refine Bv (A2 (fun hc9=>?_) fun hc9=>?_)
       ·
        refine Ah (Qp Ap (Ag (AW.ret (A9 (Al ?_)))))
        refine Qr (Iq _) ?_
        first
         | exact Eq.trans rfl (congrArg (fun q:Int=>AV.int .i64 q) hfk).symm
         | (exfalso;simp_all;done)
         | (simp_all [Ad,Am];done)
       ·
        refine AW.skip (Bp (Ae (Ah (Qp Ap (Ag (AW.ret ?_))))))
        refine Qr (Iq _) ?_
        first
         | exact Eq.trans rfl (congrArg (fun q:Int=>AV.int .i64 q) hfk).symm
         | (exfalso;simp_all;done)
         | (simp_all [Ad,Am];done)
      ·
       refine AW.region (Qp A6 (Qp Bc (Ag (A2 (fun hc10=>?_) fun hc10=>?_))))
       ·
        refine Ah (Qp Ap (Ag (AW.ret (A9 (Al ?_)))))
        refine Qr (Iq _) ?_
        first
         | exact Eq.trans rfl (congrArg (fun q:Int=>AV.int .i64 q) hfk).symm
         | (exfalso;simp_all;done)
         | (simp_all [Ad,Am];done)
       ·
        refine AW.skip (Bp (Ae (Ah (Qp Ap (Ag (AW.ret ?_))))))
        refine Qr (Iq _) ?_
        first
         | exact Eq.trans rfl (congrArg (fun q:Int=>AV.int .i64 q) hfk).symm
         | (exfalso;simp_all;done)
         | (simp_all [Ad,Am];done)
 ·
  refine AW.region (Qp A6 (Qp Bc (Ag (A2 (fun hc11=>?_) fun hc11=>?_))))
  ·
   refine Ah (Qp J2 (Qp J2 (Qp Br (Qp Ap (Ag (AW.ret (A9 (Al ?_))))))))
   refine Qr (Iq _) ?_
   first
    | exact Eq.trans rfl (congrArg (fun q:Int=>AV.int .i64 q) hfk).symm
    | (exfalso;simp_all;done)
    | (simp_all [Ad,Am];done)
  ·
   refine Ah (Qp A6 (Qp Bc (Ag (A2 (fun hc12=>?_) fun hc12=>?_))))
   ·
    refine AW.seq ?_
    refine (kG hk (eq_of_beq ‹(e.op==1)=true›)).elim fun v hv=>?_
    refine hv.elim fun s hv=>?_
    refine hv.elim fun f hv=>?_
    have hv0:=hv.1
    have hv1:=hv.2.1
    have ht0:=hv.2.2.1
    have ht1:=hv.2.2.2.1
    have hf0:=hv.2.2.2.2.1
    have hf1:=hv.2.2.2.2.2.1
    have hfk:=hv.2.2.2.2.2.2
    refine AW.draw mixed (fun _=>True) trivial (by kernel_rfl) ?_
    refine Qn 0 rfl (Qf [_,_]) (Qn 1 rfl Dg (Qn 2 rfl (Qf [_]) (Qn 3 rfl Dg (Qn 4 rfl Ym (Qn 5 rfl Br ?_)))))
    refine Qn 6 rfl (Af (c:=[.str _,Iq _]) Ai rfl rfl rfl rfl rfl rfl (hv0) (Bg hv1)) ?_
    refine Qn 7 rfl (Qf [Iq _]) (Qn 8 rfl Br ?_)
    refine Qn 9 rfl (Af (c:=[.str _,_]) Ai rfl rfl rfl rfl rfl rfl (ht0) (Bg ht1)) ?_
    refine Qn 10 rfl (Qf [_]) (Qn 11 rfl Dg (Qn 12 rfl Qv (Qn 13 rfl Br ?_)))
    refine Qn 14 rfl (Af (c:=[.str _,Iq _]) Ai rfl rfl rfl rfl rfl rfl (hf0) (Bg hf1)) ?_
    refine Qn 15 rfl (Qf [Iq _]) (Qn 16 rfl Br (Qn 17 rfl Ap ?_))
    refine Js.done _ _ (by kernel_rfl) ?_
    refine Ae (AW.ret (A9 (Al ?_)))
    refine Qr (Iq _) ?_
    first
     | exact Eq.trans rfl (congrArg (fun q:Int=>AV.int .i64 q) hfk).symm
     | (exfalso;simp_all;done)
     | (simp_all [Ad,Am];done)
   ·
    refine AW.seq (Ah (Qp A6 (Qp Bc (Ag (A2 (fun hc13=>?_) fun hc13=>?_)))))
    ·
     refine Bv (A2 (fun hc14=>?_) fun hc14=>?_)
     ·
      refine Ah (Qp Ap (Ag (AW.ret (A9 (Al ?_)))))
      refine Qr (Iq _) ?_
      first
       | exact Eq.trans rfl (congrArg (fun q:Int=>AV.int .i64 q) hfk).symm
       | (exfalso;simp_all;done)
       | (simp_all [Ad,Am];done)
     ·
      refine AW.skip (Bp (Ae (Ah (Qp Ap (Ag (AW.ret ?_))))))
      refine Qr (Iq _) ?_
      first
       | exact Eq.trans rfl (congrArg (fun q:Int=>AV.int .i64 q) hfk).symm
       | (exfalso;simp_all;done)
       | (simp_all [Ad,Am];done)
    ·
     refine Ah (Qp A6 (Qp Bc (Ag (A2 (fun hc15=>?_) fun hc15=>?_))))
     ·
      refine Bv (A2 (fun hc16=>?_) fun hc16=>?_)
      ·
       refine Ah (Qp Ap (Ag (AW.ret (A9 (Al ?_)))))
       refine Qr (Iq _) ?_
       first
        | exact Eq.trans rfl (congrArg (fun q:Int=>AV.int .i64 q) hfk).symm
        | (exfalso;simp_all;done)
        | (simp_all [Ad,Am];done)
      ·
       refine AW.skip (Bp (Ae (Ah (Qp Ap (Ag (AW.ret ?_))))))
       refine Qr (Iq _) ?_
       first
        | exact Eq.trans rfl (congrArg (fun q:Int=>AV.int .i64 q) hfk).symm
        | (exfalso;simp_all;done)
        | (simp_all [Ad,Am];done)
     ·
      refine Ah (Qp A6 (Qp Bc (Ag (A2 (fun hc17=>?_) fun hc17=>?_))))
      ·
       refine Bv (A2 (fun hc18=>?_) fun hc18=>?_)
       ·
        refine Ah (Qp Ap (Ag (AW.ret (A9 (Al ?_)))))
        refine Qr (Iq _) ?_
        first
         | exact Eq.trans rfl (congrArg (fun q:Int=>AV.int .i64 q) hfk).symm
         | (exfalso;simp_all;done)
         | (simp_all [Ad,Am];done)
       ·
        refine AW.skip (Bp (Ae (Ah (Qp Ap (Ag (AW.ret ?_))))))
        refine Qr (Iq _) ?_
        first
         | exact Eq.trans rfl (congrArg (fun q:Int=>AV.int .i64 q) hfk).symm
         | (exfalso;simp_all;done)
         | (simp_all [Ad,Am];done)
      ·
       refine AW.region (Qp A6 (Qp Bc (Ag (A2 (fun hc19=>?_) fun hc19=>?_))))
       ·
        refine Ah (Qp Ap (Ag (AW.ret (A9 (Al ?_)))))
        refine Qr (Iq _) ?_
        first
         | exact Eq.trans rfl (congrArg (fun q:Int=>AV.int .i64 q) hfk).symm
         | (exfalso;simp_all;done)
         | (simp_all [Ad,Am];done)
       ·
        refine AW.skip (Bp (Ae (Ah (Qp Ap (Ag (AW.ret ?_))))))
        refine Qr (Iq _) ?_
        first
         | exact Eq.trans rfl (congrArg (fun q:Int=>AV.int .i64 q) hfk).symm
         | (exfalso;simp_all;done)
         | (simp_all [Ad,Am];done)
theorem Yx (e:Ex):Ar Tryz.prog 135 [.agg (cE e)] (.bool (Cr e)):=by
 refine Ar.body (n:=16) Ai Tryz.func135 rfl rfl rfl fun H=>?_
 refine Ah (Qp K3 (Qp Bc (Db (Qp Kw (Qp Br (Qp A6 (Qp Bm (Qg [] Qw Kw (Qg [(7,_)] Qw Br ?_)))))))))
 refine Qg [(8,_)] Qw A6 (Qp Ek (Qp Bm (Qg [] Qw Kw (Qg [(12,_)] Qw Br (Qg [(13,_)] Qw A6 (Qp Ek (Qp Bc (Ag (AW.ret ?_)))))))))
 refine Qr (.bool _) ?_
 rfl
theorem uN (t:Tm):Ar Tryz.prog 81 [.agg (Hz t)] (.agg (cE (Hf t))):=by
 refine Ar.body (n:=10) Ai Tryz.func81 rfl rfl rfl fun H=>?_
 refine Ah (Qp (Fx [Iq _,Iq _,Iq _]) ?_)
 refine Qe (Aj (l:=[.int .i64 0,.sl 8 [],.int .i64 0,.int .i64 0,.int .i64 0,.int .i64 0,.int .i64 0,.str []]) (by kernel_rfl)) ?_
 rintro _ _ ⟨b2,rfl,rfl⟩
 refine Db (Qp (Qf [Iq _,Iq _,Iq _]) (Qp Br (Qp (Qf [Iq _,Iq _]) (Qp Br (Qp (Qf [Iq _]) (Qp Br (Qp (El [Iq _,_,Iq _,Iq _,Iq _,Iq _,Iq _,.str _]) ?_)))))))
 refine Cq 0 [Iq _,_,Iq _,Iq _,Iq _,Iq _,Iq _,.str _] (_::_) ?_
 refine Ag (AW.ret ?_)
 refine ⟨.inr rfl,[.agg [Iq _,_,Iq _,Iq _,Iq _,Iq _,Iq _,.str _]],.cons (.box _ _ _ 0 _ _ _ _ rfl rfl rfl rfl rfl rfl) <| .nil,.cons _ (.refl _),?_⟩
 rfl
theorem jN (e:Ex):Ar Tryz.prog 134 [.agg (cE e)] (.bool (Sq e)):=by
 refine Ar.body (n:=11) Ai Tryz.func134 rfl rfl rfl fun H=>?_
 refine Ah (Qp K3 (Qp Bc (Db (Qp Kw (Qp Br (Qp A6 (Qp Bm (Qg [] Qw Kw (Qg [(7,_)] Qw Br ?_)))))))))
 refine Qg [(8,_)] Qw A6 (Qp Ek (Qp Bc (Ag (AW.ret ?_))))
 refine Qr (.bool _) ?_
 rfl
theorem iO (T:List Sc)(hl:T.length≤1048576)(hst:∀s∈T,I9 s)(V:List Va)(hvl:V.length≤1048576)(e:Ex)(hse:Av e≤1048576):Ar Tryz.prog 51 [.sl 2 (T.map Nf),.sl 2 (V.map Ub),.agg (cE e)] (.int .i64 (Dx T V e)):=by
 refine Ar.body (n:=21) Ai Tryz.func51 rfl rfl rfl fun H=>?_
 refine Ah (Qp K3 (Qp Ap (Db (Qp C5 (Qp C5 (Qp Dh ?_))))))
 refine Qp (Qc rfl (c32 T hl hst V hvl e hse)) ?_
 refine Qp Lv (Qp Ih (Qp Ih (Qp Ap (Qp Ap (Ag (AW.seq (Ah (Qp Az (Qp Ci ?_)))))))))
 refine Ag (A2 (fun hc1=>?_) fun hc1=>?_)
 ·
  refine Ah (Qp Az (Qp Ap (Ag (Dq ?_))))
  refine Qr (Iq _) ?_
  exact Eq.trans rfl (congrArg (fun q:Int=>AV.int .i64 q) (oL hc1)).symm
 ·
  refine Bv (AW.seq (Ah (Qp Az (Qp Ci (Ag (A2 (fun hc2=>?_) fun hc2=>?_))))))
  ·
   refine Ah (Qp Ap (Ag (Dq ?_)))
   refine Qr (Iq _) ?_
   exact Eq.trans rfl (congrArg (fun q:Int=>AV.int .i64 q) (pK hc1 hc2)).symm
  ·
   refine Bv (Ah (Qp Ap (Ag (AW.ret ?_))))
   refine Qr (Iq _) ?_
   exact Eq.trans rfl (congrArg (fun q:Int=>AV.int .i64 q) (oI hc1 hc2)).symm
theorem Lz (T:List Sc)(hl:T.length≤1048576)(hst:∀s∈T,I9 s)(V:List Va)(hvl:V.length≤1048576)(e:Ex)(hse:Av e≤1048576):Ar Tryz.prog 49 [.agg (Cj T V),.agg (cE e)] (.int .i64 (Dx T V e)):=by
 refine Ar.body (n:=21) Ai Tryz.func49 rfl rfl rfl fun H=>?_
 refine Ah (Qp (Fx [_,_]) (Qp K3 (Qp Ap (Db (Qp (Qf [_,_]) (Qp Dg (Qp (Qf [_]) (Qp Dg (Qp Dh ?_)))))))))
 refine Qp (Qc rfl (c31 T hl hst V hvl e hse)) ?_
 refine Qp Lv (Qp Ih (Qp Ih (Qp Ap (Qp Ap (Ag (AW.seq (Ah (Qp Az (Qp Ci ?_)))))))))
 refine Ag (A2 (fun hc1=>?_) fun hc1=>?_)
 ·
  refine Ah (Qp Az (Qp Ap (Ag (Dq ?_))))
  refine Qr (Iq _) ?_
  exact Eq.trans rfl (congrArg (fun q:Int=>AV.int .i64 q) (oL hc1)).symm
 ·
  refine Bv (AW.seq (Ah (Qp Az (Qp Ci (Ag (A2 (fun hc2=>?_) fun hc2=>?_))))))
  ·
   refine Ah (Qp Ap (Ag (Dq ?_)))
   refine Qr (Iq _) ?_
   exact Eq.trans rfl (congrArg (fun q:Int=>AV.int .i64 q) (pK hc1 hc2)).symm
  ·
   refine Bv (Ah (Qp Ap (Ag (AW.ret ?_))))
   refine Qr (Iq _) ?_
   exact Eq.trans rfl (congrArg (fun q:Int=>AV.int .i64 q) (oI hc1 hc2)).symm
theorem S8 (T:List Sc)(V:List Va)(e:Ex)(hk:KOK T V e):Ar Tryz.prog 136 [.agg (Cj T V),.agg (cE e)] (.bool (Cl T V e)):=by
 refine Ar.body (n:=17) Ai Tryz.func136 rfl rfl rfl fun H=>?_
 refine Ah (Qp (Fx [_,_]) (Qp K3 (Qp Bc (Ag (AW.seq ?_)))))
 refine AW.draw mixed (fun _=>True) trivial (by kernel_rfl) ?_
 refine Qn 0 rfl Kw (Qn 1 rfl Br (Qn 2 rfl A6 (Qn 3 rfl Bm (Qo 4 rfl [] Qw (Cd [_,_]) (Qo 5 rfl [] Qw Mr (Qo 6 rfl [(10,_)] Qw Dg ?_))))))
 refine Js.pure _ _ 7 _ _ rfl (by kernel_rfl) (by kernel_rfl) rfl (.opt _ (.ptr _) [(11,_)] rfl (sB.all ⟨tO.self _ _,trivial⟩) (fun hG=>Af (c:=[Iq _,_,Iq _,Iq _,Iq _,Iq _,Iq _,.str _]) Ai rfl rfl rfl rfl rfl rfl (by decide) (Id (Nat.lt_of_succ_lt (g9 hk hG)))) rfl) ?_
 refine Qo 8 rfl [(12,_)] Qw Dh ?_
 refine Js.pure _ _ 9 _ _ rfl (by kernel_rfl) (by kernel_rfl) rfl (.opt _ (Iq _) [(9,_),(13,_)] rfl (sB.all ⟨tO.self _ _,tO.self _ _,trivial⟩) (fun hG=>Ct (by kernel_rfl) rfl rfl (Yq T V _ (Ax hk (A4 (Nat.lt_of_succ_lt (g9 hk hG)))))) rfl) ?_
 refine Qo 10 rfl [(14,_)] Qw A6 (Qn 11 rfl Em (Qn 12 rfl Bc ?_))
 refine Js.done _ _ (by kernel_rfl) ?_
 refine Ae (AW.ret ?_)
 refine Qr (.bool _) ?_
 rfl
theorem Xh (T:List Sc)(V:List Va)(e:Ex)(hk:KOK T V e):Ar Tryz.prog 83 [.agg (Cj T V),.agg (cE e)] (.bool (Cg T V e)):=by
 refine Ar.body (n:=21) Ai Tryz.func83 rfl rfl rfl fun H=>?_
 refine Ah (Qp (Fx [_,_]) (Qp K3 (Qp Bc (Ag (AW.seq (Ah (Qp Kw (Qp Br (Ag ?_)))))))))
 refine AW.block (Ah (Qp A6 (Qp Bc (Ag (A2 (fun hc1=>?_) fun hc1=>?_)))))
 ·
  refine AW.seq ?_
  have h2:=l9 hk ‹(e.op==9)=true›
  have h00:0<e.args.length:=by omega
  refine AW.draw mixed (fun _=>True) trivial (by kernel_rfl) ?_
  refine Qn 0 rfl (Cd [_,_]) (Qn 1 rfl Mr (Qn 2 rfl Dg ?_))
  refine Qn 3 rfl (Af (c:=[Iq _,_,Iq _,Iq _,Iq _,Iq _,Iq _,.str _]) Ai rfl rfl rfl rfl rfl rfl (by decide) (Id h00)) ?_
  refine Qn 4 rfl Dh ?_
  refine Qn 5 rfl (Qc rfl (Yq T V _ (Ax hk (A4 h00)))) ?_
  refine Qn 6 rfl A6 (Qn 7 rfl Bc ?_)
  refine Js.done _ _ (by kernel_rfl) ?_
  refine Ae (AW.ret (A9 (Al ?_)))
  refine Qr (.bool _) ?_
  first
   | (exfalso;simp_all;done)
   | (simp_all [Ad,Cg];done)
 ·
  refine AW.seq (Ah (Qp A6 (Qp Bc (Ag (A2 (fun hc2=>?_) fun hc2=>?_)))))
  ·
   refine Bv (A2 (fun hc3=>?_) fun hc3=>?_)
   ·
    refine Ah (Qp Bc (Ag (AW.ret (A9 (Al ?_)))))
    refine Qr (.bool _) ?_
    first
     | (exfalso;simp_all;done)
     | (simp_all [Ad,Cg];done)
   ·
    refine AW.skip (Bp (Ae (Ah (Qp Bc (Ag (AW.ret ?_))))))
    refine Qr (.bool _) ?_
    first
     | (exfalso;simp_all;done)
     | (simp_all [Ad,Cg];done)
  ·
   refine Ah (Qp A6 (Qp Bc (Ag (A2 (fun hc4=>?_) fun hc4=>?_))))
   ·
    refine Bv (A2 (fun hc5=>?_) fun hc5=>?_)
    ·
     refine Ah (Qp Bc (Ag (AW.ret (A9 (Al ?_)))))
     refine Qr (.bool _) ?_
     first
      | (exfalso;simp_all;done)
      | (simp_all [Ad,Cg];done)
    ·
     refine AW.skip (Bp (Ae (Ah (Qp Bc (Ag (AW.ret ?_))))))
     refine Qr (.bool _) ?_
     first
      | (exfalso;simp_all;done)
      | (simp_all [Ad,Cg];done)
   ·
    refine Ah (Qp A6 (Qp Bc (Ag (A2 (fun hc6=>?_) fun hc6=>?_))))
    ·
     refine Bv (A2 (fun hc7=>?_) fun hc7=>?_)
     ·
      refine Ah (Qp Bc (Ag (AW.ret (A9 (Al ?_)))))
      refine Qr (.bool _) ?_
      first
       | (exfalso;simp_all;done)
       | (simp_all [Ad,Cg];done)
     ·
      refine AW.skip (Bp (Ae (Ah (Qp Bc (Ag (AW.ret ?_))))))
      refine Qr (.bool _) ?_
      first
       | (exfalso;simp_all;done)
       | (simp_all [Ad,Cg];done)
    ·
     refine AW.region (Qp A6 (Qp Bc (Ag (A2 (fun hc8=>?_) fun hc8=>?_))))
     ·
      refine Ah (Qp Bc (Ag (AW.ret (A9 (Al ?_)))))
      refine Qr (.bool _) ?_
      first
       | (exfalso;simp_all;done)
       | (simp_all [Ad,Cg];done)
     ·
      refine AW.skip (Bp (Ae (Ah (Qp Bc (Ag (AW.ret ?_))))))
      refine Qr (.bool _) ?_
      first
       | (exfalso;simp_all;done)
       | (simp_all [Ad,Cg];done)

end Go.Proofs.YtkddpedfbicbeaaGreatDoor
