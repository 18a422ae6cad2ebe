/-
  Several texts in one: Y3, Y4, Y5, Y5b, Y5c, Y5d, Y6. No condition.
-/
import Derived.Test.YtkddpedfbicbeaaGreatDoorK01
import Derived.Test.YtkddpedfbicbeaaGreatDoorK07
import Derived.KernelRfl
import Derived.Test.YtkddpedfbicbeaaGreatDoorK08
set_option linter.unusedVariables false
set_option linter.unusedSimpArgs false
namespace Go.Proofs.YtkddpedfbicbeaaGreatDoor
open Go Go.Aw
set_option maxHeartbeats 1600000
set_option maxRecDepth 20000

theorem Yk (T:List Sc)(V:List Va)(e:Ex)(hk:KOK T V e):Ax Tryz.prog 89 [.agg (Cq T V),.agg (cE e)] (.int .i64 (Am T V e)):=by
 refine Ax.body (n:=37) Ai Tryz.func89 rfl rfl rfl fun H=>?_
 refine Ah (Qp (F5 [_,_]) (Qp La (Qp Av (Ag (AW.seq (Ah (Qp Kv (Qp Bt (Ag ?_)))))))))
 refine AW.block (AW.seq (Ah (Qp A7 (Qp Bg (Ag (A5 (fun hc1=>?_) fun hc1=>?_))))))
 ·
  refine Bz (A5 (fun hc2=>?_) fun hc2=>?_)
  ·
   refine Ah (Qp Jr (Qp Jr (Qp Bt (Qp Av (Ag (AW.ret (Bc (Aj ?_))))))))
   refine Qr (Iq _) ?_
   first
    | exact Eq.trans rfl (congrArg (fun q:Int=>AV.int .i64 q) hfk).symm
    | (exfalso;simp_all;done)
    | (simp_all [Ad,Am];done)
  ·
   refine Ah (Qp A7 (Qp Bg (Ag (A5 (fun hc3=>?_) fun hc3=>?_))))
   ·
    refine AW.seq ?_
    refine (mT hk (eq_of_beq ‹(e.op==1)=true›)).elim fun v hv=>?_
    refine hv.elim fun s hv=>?_
    refine hv.elim fun f hv=>?_
    have hv0:=hv.1
    have hv1:=hv.2.1
    have ht0:=hv.2.2.1
    have ht1:=hv.2.2.2.1
    have hf0:=hv.2.2.2.2.1
    have hf1:=hv.2.2.2.2.2.1
    have hfk:=hv.2.2.2.2.2.2
    refine AW.draw mixed (fun _=>True) trivial (by kernel_rfl) ?_
    refine Qn 0 rfl (Qf [_,_]) (Qn 1 rfl Dm (Qn 2 rfl (Qf [_]) (Qn 3 rfl Dm (Qn 4 rfl Yy (Qn 5 rfl Bt ?_)))))
    refine Qn 6 rfl (Af (c:=[.str _,Iq _]) Ai rfl rfl rfl rfl rfl rfl (hv0) (Bj hv1)) ?_
    refine Qn 7 rfl (Qf [Iq _]) (Qn 8 rfl Bt ?_)
    refine Qn 9 rfl (Af (c:=[.str _,_]) Ai rfl rfl rfl rfl rfl rfl (ht0) (Bj ht1)) ?_
    refine Qn 10 rfl (Qf [_]) (Qn 11 rfl Dm (Qn 12 rfl Qt (Qn 13 rfl Bt ?_)))
    refine Qn 14 rfl (Af (c:=[.str _,Iq _]) Ai rfl rfl rfl rfl rfl rfl (hf0) (Bj hf1)) ?_
    refine Qn 15 rfl (Qf [Iq _]) (Qn 16 rfl Bt (Qn 17 rfl Av ?_))
    refine Jx.done _ _ (by kernel_rfl) ?_
    refine Ae (AW.ret (Bc (Aj ?_)))
    refine Qr (Iq _) ?_
    first
     | exact Eq.trans rfl (congrArg (fun q:Int=>AV.int .i64 q) hfk).symm
     | (exfalso;simp_all;done)
     | (simp_all [Ad,Am];done)
   ·
    refine AW.seq (Ah (Qp A7 (Qp Bg (Ag (A5 (fun hc4=>?_) fun hc4=>?_)))))
    ·
     refine Bz (A5 (fun hc5=>?_) fun hc5=>?_)
     ·
      refine Ah (Qp Av (Ag (AW.ret (Bc (Aj ?_)))))
      refine Qr (Iq _) ?_
      first
       | exact Eq.trans rfl (congrArg (fun q:Int=>AV.int .i64 q) hfk).symm
       | (exfalso;simp_all;done)
       | (simp_all [Ad,Am];done)
     ·
      refine AW.skip (Bs (Ae (Ah (Qp Av (Ag (AW.ret ?_))))))
      refine Qr (Iq _) ?_
      first
       | exact Eq.trans rfl (congrArg (fun q:Int=>AV.int .i64 q) hfk).symm
       | (exfalso;simp_all;done)
       | (simp_all [Ad,Am];done)
    ·
     refine Ah (Qp A7 (Qp Bg (Ag (A5 (fun hc6=>?_) fun hc6=>?_))))
     ·
      refine Bz (A5 (fun hc7=>?_) fun hc7=>?_)
      ·
       refine Ah (Qp Av (Ag (AW.ret (Bc (Aj ?_)))))
       refine Qr (Iq _) ?_
       first
        | exact Eq.trans rfl (congrArg (fun q:Int=>AV.int .i64 q) hfk).symm
        | (exfalso;simp_all;done)
        | (simp_all [Ad,Am];done)
      ·
       refine AW.skip (Bs (Ae (Ah (Qp Av (Ag (AW.ret ?_))))))
       refine Qr (Iq _) ?_
       first
        | exact Eq.trans rfl (congrArg (fun q:Int=>AV.int .i64 q) hfk).symm
        | (exfalso;simp_all;done)
        | (simp_all [Ad,Am];done)
     ·
      refine Ah (Qp A7 (Qp Bg (Ag (A5 (fun hc8=>?_) fun hc8=>?_))))
      ·
       refine Bz (A5 (fun hc9=>?_) fun hc9=>?_)
       ·
        refine Ah (Qp Av (Ag (AW.ret (Bc (Aj ?_)))))
        refine Qr (Iq _) ?_
        first
         | exact Eq.trans rfl (congrArg (fun q:Int=>AV.int .i64 q) hfk).symm
         | (exfalso;simp_all;done)
         | (simp_all [Ad,Am];done)
       ·
        refine AW.skip (Bs (Ae (Ah (Qp Av (Ag (AW.ret ?_))))))
        refine Qr (Iq _) ?_
        first
         | exact Eq.trans rfl (congrArg (fun q:Int=>AV.int .i64 q) hfk).symm
         | (exfalso;simp_all;done)
         | (simp_all [Ad,Am];done)
      ·
       refine AW.region (Qp A7 (Qp Bg (Ag (A5 (fun hc10=>?_) fun hc10=>?_))))
       ·
        refine Ah (Qp Av (Ag (AW.ret (Bc (Aj ?_)))))
        refine Qr (Iq _) ?_
        first
         | exact Eq.trans rfl (congrArg (fun q:Int=>AV.int .i64 q) hfk).symm
         | (exfalso;simp_all;done)
         | (simp_all [Ad,Am];done)
       ·
        refine AW.skip (Bs (Ae (Ah (Qp Av (Ag (AW.ret ?_))))))
        refine Qr (Iq _) ?_
        first
         | exact Eq.trans rfl (congrArg (fun q:Int=>AV.int .i64 q) hfk).symm
         | (exfalso;simp_all;done)
         | (simp_all [Ad,Am];done)
 ·
  refine AW.region (Qp A7 (Qp Bg (Ag (A5 (fun hc11=>?_) fun hc11=>?_))))
  ·
   refine Ah (Qp Jr (Qp Jr (Qp Bt (Qp Av (Ag (AW.ret (Bc (Aj ?_))))))))
   refine Qr (Iq _) ?_
   first
    | exact Eq.trans rfl (congrArg (fun q:Int=>AV.int .i64 q) hfk).symm
    | (exfalso;simp_all;done)
    | (simp_all [Ad,Am];done)
  ·
   refine Ah (Qp A7 (Qp Bg (Ag (A5 (fun hc12=>?_) fun hc12=>?_))))
   ·
    refine AW.seq ?_
    refine (mT hk (eq_of_beq ‹(e.op==1)=true›)).elim fun v hv=>?_
    refine hv.elim fun s hv=>?_
    refine hv.elim fun f hv=>?_
    have hv0:=hv.1
    have hv1:=hv.2.1
    have ht0:=hv.2.2.1
    have ht1:=hv.2.2.2.1
    have hf0:=hv.2.2.2.2.1
    have hf1:=hv.2.2.2.2.2.1
    have hfk:=hv.2.2.2.2.2.2
    refine AW.draw mixed (fun _=>True) trivial (by kernel_rfl) ?_
    refine Qn 0 rfl (Qf [_,_]) (Qn 1 rfl Dm (Qn 2 rfl (Qf [_]) (Qn 3 rfl Dm (Qn 4 rfl Yy (Qn 5 rfl Bt ?_)))))
    refine Qn 6 rfl (Af (c:=[.str _,Iq _]) Ai rfl rfl rfl rfl rfl rfl (hv0) (Bj hv1)) ?_
    refine Qn 7 rfl (Qf [Iq _]) (Qn 8 rfl Bt ?_)
    refine Qn 9 rfl (Af (c:=[.str _,_]) Ai rfl rfl rfl rfl rfl rfl (ht0) (Bj ht1)) ?_
    refine Qn 10 rfl (Qf [_]) (Qn 11 rfl Dm (Qn 12 rfl Qt (Qn 13 rfl Bt ?_)))
    refine Qn 14 rfl (Af (c:=[.str _,Iq _]) Ai rfl rfl rfl rfl rfl rfl (hf0) (Bj hf1)) ?_
    refine Qn 15 rfl (Qf [Iq _]) (Qn 16 rfl Bt (Qn 17 rfl Av ?_))
    refine Jx.done _ _ (by kernel_rfl) ?_
    refine Ae (AW.ret (Bc (Aj ?_)))
    refine Qr (Iq _) ?_
    first
     | exact Eq.trans rfl (congrArg (fun q:Int=>AV.int .i64 q) hfk).symm
     | (exfalso;simp_all;done)
     | (simp_all [Ad,Am];done)
   ·
    refine AW.seq (Ah (Qp A7 (Qp Bg (Ag (A5 (fun hc13=>?_) fun hc13=>?_)))))
    ·
     refine Bz (A5 (fun hc14=>?_) fun hc14=>?_)
     ·
      refine Ah (Qp Av (Ag (AW.ret (Bc (Aj ?_)))))
      refine Qr (Iq _) ?_
      first
       | exact Eq.trans rfl (congrArg (fun q:Int=>AV.int .i64 q) hfk).symm
       | (exfalso;simp_all;done)
       | (simp_all [Ad,Am];done)
     ·
      refine AW.skip (Bs (Ae (Ah (Qp Av (Ag (AW.ret ?_))))))
      refine Qr (Iq _) ?_
      first
       | exact Eq.trans rfl (congrArg (fun q:Int=>AV.int .i64 q) hfk).symm
       | (exfalso;simp_all;done)
       | (simp_all [Ad,Am];done)
    ·
     refine Ah (Qp A7 (Qp Bg (Ag (A5 (fun hc15=>?_) fun hc15=>?_))))
     ·
      refine Bz (A5 (fun hc16=>?_) fun hc16=>?_)
      ·
       refine Ah (Qp Av (Ag (AW.ret (Bc (Aj ?_)))))
       refine Qr (Iq _) ?_
       first
        | exact Eq.trans rfl (congrArg (fun q:Int=>AV.int .i64 q) hfk).symm
        | (exfalso;simp_all;done)
        | (simp_all [Ad,Am];done)
      ·
       refine AW.skip (Bs (Ae (Ah (Qp Av (Ag (AW.ret ?_))))))
       refine Qr (Iq _) ?_
       first
        | exact Eq.trans rfl (congrArg (fun q:Int=>AV.int .i64 q) hfk).symm
        | (exfalso;simp_all;done)
        | (simp_all [Ad,Am];done)
     ·
      refine Ah (Qp A7 (Qp Bg (Ag (A5 (fun hc17=>?_) fun hc17=>?_))))
      ·
       refine Bz (A5 (fun hc18=>?_) fun hc18=>?_)
       ·
        refine Ah (Qp Av (Ag (AW.ret (Bc (Aj ?_)))))
        refine Qr (Iq _) ?_
        first
         | exact Eq.trans rfl (congrArg (fun q:Int=>AV.int .i64 q) hfk).symm
         | (exfalso;simp_all;done)
         | (simp_all [Ad,Am];done)
       ·
        refine AW.skip (Bs (Ae (Ah (Qp Av (Ag (AW.ret ?_))))))
        refine Qr (Iq _) ?_
        first
         | exact Eq.trans rfl (congrArg (fun q:Int=>AV.int .i64 q) hfk).symm
         | (exfalso;simp_all;done)
         | (simp_all [Ad,Am];done)
      ·
       refine AW.region (Qp A7 (Qp Bg (Ag (A5 (fun hc19=>?_) fun hc19=>?_))))
       ·
        refine Ah (Qp Av (Ag (AW.ret (Bc (Aj ?_)))))
        refine Qr (Iq _) ?_
        first
         | exact Eq.trans rfl (congrArg (fun q:Int=>AV.int .i64 q) hfk).symm
         | (exfalso;simp_all;done)
         | (simp_all [Ad,Am];done)
       ·
        refine AW.skip (Bs (Ae (Ah (Qp Av (Ag (AW.ret ?_))))))
        refine Qr (Iq _) ?_
        first
         | exact Eq.trans rfl (congrArg (fun q:Int=>AV.int .i64 q) hfk).symm
         | (exfalso;simp_all;done)
         | (simp_all [Ad,Am];done)
theorem X9 (e:Ex):Ax Tryz.prog 135 [.agg (cE e)] (.bool (Cv e)):=by
 refine Ax.body (n:=16) Ai Tryz.func135 rfl rfl rfl fun H=>?_
 refine Ah (Qp La (Qp Bg (Dh (Qp Kv (Qp Bt (Qp A7 (Qp Br (Qg [] Qw Kv (Qg [(7,_)] Qw Bt ?_)))))))))
 refine Qg [(8,_)] Qw A7 (Qp E5 (Qp Br (Qg [] Qw Kv (Qg [(12,_)] Qw Bt (Qg [(13,_)] Qw A7 (Qp E5 (Qp Bg (Ag (AW.ret ?_)))))))))
 refine Qr (.bool _) ?_
 rfl
theorem uC (t:Tm):Ax Tryz.prog 81 [.agg (Ib t)] (.agg (cE (Hq t))):=by
 refine Ax.body (n:=10) Ai Tryz.func81 rfl rfl rfl fun H=>?_
 refine Ah (Qp (F5 [Iq _,Iq _,Iq _]) ?_)
 refine Qe (Al (l:=[.int .i64 0,.sl 8 [],.int .i64 0,.int .i64 0,.int .i64 0,.int .i64 0,.int .i64 0,.str []]) (by kernel_rfl)) ?_
 rintro _ _ ⟨b2,rfl,rfl⟩
 refine Dh (Qp (Qf [Iq _,Iq _,Iq _]) (Qp Bt (Qp (Qf [Iq _,Iq _]) (Qp Bt (Qp (Qf [Iq _]) (Qp Bt (Qp (Et [Iq _,_,Iq _,Iq _,Iq _,Iq _,Iq _,.str _]) (Co 0 [Iq _,_,Iq _,Iq _,Iq _,Iq _,Iq _,.str _] (_::_) (Ag ?_)))))))))
 refine AW.ret ?_
 refine ⟨.inr rfl,[.agg [Iq _,_,Iq _,Iq _,Iq _,Iq _,Iq _,.str _]],.cons (.box _ _ _ 0 _ _ _ _ rfl rfl rfl rfl rfl rfl) <| .nil,.cons _ (.refl _),?_⟩
 rfl
theorem gH (e:Ex):Ax Tryz.prog 134 [.agg (cE e)] (.bool (Sg e)):=by
 refine Ax.body (n:=11) Ai Tryz.func134 rfl rfl rfl fun H=>?_
 refine Ah (Qp La (Qp Bg (Dh (Qp Kv (Qp Bt (Qp A7 (Qp Br (Qg [] Qw Kv (Qg [(7,_)] Qw Bt ?_)))))))))
 refine Qg [(8,_)] Qw A7 (Qp E5 (Qp Bg (Ag (AW.ret ?_))))
 refine Qr (.bool _) ?_
 rfl
theorem fC (T:List Sc)(hl:T.length≤1048576)(hst:∀s∈T,Jn s)(V:List Va)(hvl:V.length≤1048576)(e:Ex)(hse:At e≤1048576):Ax Tryz.prog 51 [.sl 2 (T.map N1),.sl 2 (V.map U8),.agg (cE e)] (.int .i64 (Ec T V e)):=by
 refine Ax.body (n:=21) Ai Tryz.func51 rfl rfl rfl fun H=>?_
 refine Ah (Qp La (Qp Av (Dh (Qp C6 (Qp C6 (Qp D1 ?_))))))
 refine Qp (Qc rfl (c32 T hl hst V hvl e hse)) ?_
 refine Qp Mx (Qp Jq (Qp Jq (Qp Av (Qp Av (Ag (AW.seq (Ah (Qp A2 (Qp Ct ?_)))))))))
 refine Ag (A5 (fun hc1=>?_) fun hc1=>?_)
 ·
  refine Ah (Qp A2 (Qp Av (Ag (Du ?_))))
  refine Qr (Iq _) ?_
  exact Eq.trans rfl (congrArg (fun q:Int=>AV.int .i64 q) (oU hc1)).symm
 ·
  refine Bz (AW.seq (Ah (Qp A2 (Qp Ct (Ag (A5 (fun hc2=>?_) fun hc2=>?_))))))
  ·
   refine Ah (Qp Av (Ag (Du ?_)))
   refine Qr (Iq _) ?_
   exact Eq.trans rfl (congrArg (fun q:Int=>AV.int .i64 q) (pK hc1 hc2)).symm
  ·
   refine Bz (Ah (Qp Av (Ag (AW.ret ?_))))
   refine Qr (Iq _) ?_
   exact Eq.trans rfl (congrArg (fun q:Int=>AV.int .i64 q) (nS hc1 hc2)).symm
theorem Om (T:List Sc)(hl:T.length≤1048576)(hst:∀s∈T,Jn s)(V:List Va)(hvl:V.length≤1048576)(e:Ex)(hse:At e≤1048576):Ax Tryz.prog 49 [.agg (Cq T V),.agg (cE e)] (.int .i64 (Ec T V e)):=by
 refine Ax.body (n:=21) Ai Tryz.func49 rfl rfl rfl fun H=>?_
 refine Ah (Qp (F5 [_,_]) (Qp La (Qp Av (Dh (Qp (Qf [_,_]) (Qp Dm (Qp (Qf [_]) (Qp Dm (Qp D1 ?_)))))))))
 refine Qp (Qc rfl (c31 T hl hst V hvl e hse)) ?_
 refine Qp Mx (Qp Jq (Qp Jq (Qp Av (Qp Av (Ag (AW.seq (Ah (Qp A2 (Qp Ct ?_)))))))))
 refine Ag (A5 (fun hc1=>?_) fun hc1=>?_)
 ·
  refine Ah (Qp A2 (Qp Av (Ag (Du ?_))))
  refine Qr (Iq _) ?_
  exact Eq.trans rfl (congrArg (fun q:Int=>AV.int .i64 q) (oU hc1)).symm
 ·
  refine Bz (AW.seq (Ah (Qp A2 (Qp Ct (Ag (A5 (fun hc2=>?_) fun hc2=>?_))))))
  ·
   refine Ah (Qp Av (Ag (Du ?_)))
   refine Qr (Iq _) ?_
   exact Eq.trans rfl (congrArg (fun q:Int=>AV.int .i64 q) (pK hc1 hc2)).symm
  ·
   refine Bz (Ah (Qp Av (Ag (AW.ret ?_))))
   refine Qr (Iq _) ?_
   exact Eq.trans rfl (congrArg (fun q:Int=>AV.int .i64 q) (nS hc1 hc2)).symm
theorem R3 (T:List Sc)(V:List Va)(e:Ex)(hk:KOK T V e):Ax Tryz.prog 136 [.agg (Cq T V),.agg (cE e)] (.bool (Cr T V e)):=by
 refine Ax.body (n:=17) Ai Tryz.func136 rfl rfl rfl fun H=>?_
 refine Ah (Qp (F5 [_,_]) (Qp La (Qp Bg (Ag (AW.seq ?_)))))
 refine AW.draw mixed (fun _=>True) trivial (by kernel_rfl) ?_
 refine Qn 0 rfl Kv (Qn 1 rfl Bt (Qn 2 rfl A7 (Qn 3 rfl Br (Qo 4 rfl [] Qw (Cm [_,_]) (Qo 5 rfl [] Qw K7 (Qo 6 rfl [(10,_)] Qw Dm ?_))))))
 refine Jx.pure _ _ 7 _ _ rfl (by kernel_rfl) (by kernel_rfl) rfl (.opt _ (.ptr _) [(11,_)] rfl (sF.all ⟨Ent.Aa3 _ _,trivial⟩) (fun hG=>Af (c:=[Iq _,_,Iq _,Iq _,Iq _,Iq _,Iq _,.str _]) Ai rfl rfl rfl rfl rfl rfl (by decide) (Fq (Nat.lt_of_succ_lt (g9 hk hG)))) rfl) ?_
 refine Qo 8 rfl [(12,_)] Qw D1 ?_
 refine Jx.pure _ _ 9 _ _ rfl (by kernel_rfl) (by kernel_rfl) rfl (.opt _ (Iq _) [(9,_),(13,_)] rfl (sF.all ⟨Ent.Aa3 _ _,Ent.Aa3 _ _,trivial⟩) (fun hG=>C8 (by kernel_rfl) rfl rfl (Yk T V _ (A3 hk (A6 (Nat.lt_of_succ_lt (g9 hk hG)))))) rfl) ?_
 refine Qo 10 rfl [(14,_)] Qw A7 (Qn 11 rfl E3 (Qn 12 rfl Bg ?_))
 refine Jx.done _ _ (by kernel_rfl) ?_
 refine Ae (AW.ret ?_)
 refine Qr (.bool _) ?_
 rfl
theorem kU (T:List Sc)(V:List Va)(e:Ex)(hk:KOK T V e):Ax Tryz.prog 83 [.agg (Cq T V),.agg (cE e)] (.bool (Ep T V e)):=by
 refine Ax.body (n:=21) Ai Tryz.func83 rfl rfl rfl fun H=>?_
 refine Ah (Qp (F5 [_,_]) (Qp La (Qp Bg (Ag (AW.seq (Ah (Qp Kv (Qp Bt (Ag ?_)))))))))
 refine AW.block (Ah (Qp A7 (Qp Bg (Ag (A5 (fun hc1=>?_) fun hc1=>?_)))))
 ·
  refine AW.seq ?_
  have h2:=l9 hk ‹(e.op==9)=true›
  have h00:0<e.args.length:=by omega
  refine AW.draw mixed (fun _=>True) trivial (by kernel_rfl) ?_
  refine Qn 0 rfl (Cm [_,_]) (Qn 1 rfl K7 (Qn 2 rfl Dm ?_))
  refine Qn 3 rfl (Af (c:=[Iq _,_,Iq _,Iq _,Iq _,Iq _,Iq _,.str _]) Ai rfl rfl rfl rfl rfl rfl (by decide) (Fq h00)) ?_
  refine Qn 4 rfl D1 ?_
  refine Qn 5 rfl (Qc rfl (Yk T V _ (A3 hk (A6 h00)))) ?_
  refine Qn 6 rfl A7 (Qn 7 rfl Bg ?_)
  refine Jx.done _ _ (by kernel_rfl) ?_
  refine Ae (AW.ret (Bc (Aj ?_)))
  refine Qr (.bool _) ?_
  first
   | (exfalso;simp_all;done)
   | (simp_all [Ad,Ep];done)
 ·
  refine AW.seq (Ah (Qp A7 (Qp Bg (Ag (A5 (fun hc2=>?_) fun hc2=>?_)))))
  ·
   refine Bz (A5 (fun hc3=>?_) fun hc3=>?_)
   ·
    refine Ah (Qp Bg (Ag (AW.ret (Bc (Aj ?_)))))
    refine Qr (.bool _) ?_
    first
     | (exfalso;simp_all;done)
     | (simp_all [Ad,Ep];done)
   ·
    refine AW.skip (Bs (Ae (Ah (Qp Bg (Ag (AW.ret ?_))))))
    refine Qr (.bool _) ?_
    first
     | (exfalso;simp_all;done)
     | (simp_all [Ad,Ep];done)
  ·
   refine Ah (Qp A7 (Qp Bg (Ag (A5 (fun hc4=>?_) fun hc4=>?_))))
   ·
    refine Bz (A5 (fun hc5=>?_) fun hc5=>?_)
    ·
     refine Ah (Qp Bg (Ag (AW.ret (Bc (Aj ?_)))))
     refine Qr (.bool _) ?_
     first
      | (exfalso;simp_all;done)
      | (simp_all [Ad,Ep];done)
    ·
     refine AW.skip (Bs (Ae (Ah (Qp Bg (Ag (AW.ret ?_))))))
     refine Qr (.bool _) ?_
     first
      | (exfalso;simp_all;done)
      | (simp_all [Ad,Ep];done)
   ·
    refine Ah (Qp A7 (Qp Bg (Ag (A5 (fun hc6=>?_) fun hc6=>?_))))
    ·
     refine Bz (A5 (fun hc7=>?_) fun hc7=>?_)
     ·
      refine Ah (Qp Bg (Ag (AW.ret (Bc (Aj ?_)))))
      refine Qr (.bool _) ?_
      first
       | (exfalso;simp_all;done)
       | (simp_all [Ad,Ep];done)
     ·
      refine AW.skip (Bs (Ae (Ah (Qp Bg (Ag (AW.ret ?_))))))
      refine Qr (.bool _) ?_
      first
       | (exfalso;simp_all;done)
       | (simp_all [Ad,Ep];done)
    ·
     refine AW.region (Qp A7 (Qp Bg (Ag (A5 (fun hc8=>?_) fun hc8=>?_))))
     ·
      refine Ah (Qp Bg (Ag (AW.ret (Bc (Aj ?_)))))
      refine Qr (.bool _) ?_
      first
       | (exfalso;simp_all;done)
       | (simp_all [Ad,Ep];done)
     ·
      refine AW.skip (Bs (Ae (Ah (Qp Bg (Ag (AW.ret ?_))))))
      refine Qr (.bool _) ?_
      first
       | (exfalso;simp_all;done)
       | (simp_all [Ad,Ep];done)

set_option maxHeartbeats 3200000
set_option maxRecDepth 20000

theorem d_add (m bs:Nat)(R:List HO)(e:Ex)(hn:C4 e=0)(n:Nat)(b:Int)(hb:b=1∨b = -1)(s:Su)(hs:suOK n s)(hm:n+At e≤1048576)(v:Value):Dx Tryz.prog 157 (Oa m bs v s R) [.val (.pointer (some ⟨bs,0,none⟩)),.agg (cE e),.int .i64 b] (fun r H'=>r = .bool (Bp e b s).2∧∃v',H'=Oa m bs v' (Bp e b s).1 R):=by
 revert n b s v hn
 induction e using Ex.Abb
 rename_i e ih
 intro hn n b hb s hs hm v
 have hz:=Be hn
 have hsr:=hs.rest
 have hsl:=hs.len
 have hsp:1≤At e:=by rw [D7];omega
 refine Dx.body (n:=104) Ai Tryz.func157 rfl rfl rfl ?_
 refine Ah (Qp La (Qp Bg (Ag (AW.seq (Ah (Qp Kv (Qp Bt (Ag (AW.block ?_)))))))))
 refine Ah (Qp A7 (Qp Bg (Ag (A5 (fun hc1=>?_) fun hc1=>?_))))
 ·
  refine AW.seq ?_
  have hcn:=Tx hz.1 (eq_of_beq ‹(e.op==0)=true›)
  have hmul:b*e.val.num=e.val.num∨b*e.val.num = - e.val.num:=by rcases hb with rfl | rfl <;> omega
  refine AW.draw mixed (fun H'=>_∈H') (List.mem_of_getElem? (i:=1) rfl) (by kernel_rfl) ?_
  refine Qn 0 rfl H4 ?_
  refine Qn 1 rfl (Bn rfl) ?_
  refine Qn 2 rfl Ir ?_
  refine Qn 3 rfl (OpP.Aa8 (fun k=>A0 (k:=k) (c:=Iq _) Ai rfl rfl rfl rfl) (fun _ h=>h)) ?_
  refine Qn 4 rfl A2 (Qn 5 rfl Jr (Qn 6 rfl Wn (Qn 7 rfl Bt ?_)))
  refine Qn 8 rfl (vL rfl rfl rfl (by constructor <;> omega)) ?_
  refine Qn 9 rfl Fx ?_
  refine Qn 10 rfl (Bn rfl) ?_
  refine Qn 11 rfl Ir ?_
  refine Jx.last _ _ 12 _ _ rfl (by kernel_rfl) rfl rfl (C7 (k:=1) (v:=Iq _) (cs':=[_,_,Iq _]) (H2:=_::_::_::_) Ai rfl rfl rfl rfl (rfl) rfl rfl rfl rfl) (by kernel_rfl) ?_
  rintro _ _ ⟨rfl,rfl⟩
  refine Ae (Ah (Qp Bg (Ag (AW.ret (Bc (Aj ?_))))))
  refine ⟨.inr rfl,[.bool _],.cons (.tmp _ _ rfl) <| .nil,_,.refl _,?_⟩
  first
   | exact absurd (‹(e.op==1)=true›.symm.trans ‹(e.op==1)=false›) (by decide)
   | exact absurd (‹(e.op==2)=true›.symm.trans ‹(e.op==2)=false›) (by decide)
   | exact Bo (Fy ‹(e.op==0)=true›) ⟨rfl,_,rfl⟩
   | exact Bo (B8 ‹(e.op==0)=false› (aV ‹(e.op==1)=true›)) ⟨rfl,_,Gk hnew⟩
   | exact Bo (B8 ‹(e.op==0)=false› (aV ‹(e.op==1)=true›)) ⟨rfl,_,Gn hj3⟩
   | exact Bo (B8 ‹(e.op==0)=false› (Z4 ‹(e.op==2)=true›)) ⟨rfl,_,Gk hnew⟩
   | exact Bo (B8 ‹(e.op==0)=false› (Z4 ‹(e.op==2)=true›)) ⟨rfl,_,Gn hj3⟩
   | exact ⟨congrArg AV.bool (Dg hl2 (.inl ⟨ho,rfl⟩)),_,rfl⟩
   | exact ⟨congrArg AV.bool (Dg hl2 (.inr ⟨ho,rfl⟩)),_,rfl⟩
   | exact Bo (Gx ‹(e.op==0)=false› (cF ‹(e.op==1)=false› ‹(e.op==2)=false›) ‹(e.op==5)=false› ‹(e.op==6)=false›) ⟨rfl,_,rfl⟩
 ·
  refine AW.seq (Ah (Qp A7 (Qp Bg (Ag (A5 (fun hc2=>?_) fun hc2=>?_)))))
  ·
   refine Bz (A5 (fun hc3=>?_) fun hc3=>?_)
   ·
    refine AW.seq ?_
    have hsc:∀c∈(s.ts.map fun p=>Ib p.1),Bh c=true:=Fo fun _=>rfl
    refine AW.region (Qp Kv (Qp Bt (Qp Yy (Qp Bt (Qp Qt (Qp Bt (Qp (Et [Iq _,Iq _,Iq _]) ?_)))))))
    refine Qe (Al (l:=[.int .i64 0,.int .i64 0,.int .i64 0]) (by kernel_rfl)) ?_
    rintro _ _ ⟨b7,rfl,rfl⟩
    refine Co 0 [Iq _,Iq _,Iq _] (_::_::_::_::_) ?_
    refine AOL.ghost (GS.Aa4 (t:=7) 0 rfl rfl) ?_
    refine Ag (AW.seq (AW.seq ?_))
    refine AW.draw mixed (fun H'=>_∈H'∧_∈H') ⟨(List.mem_of_getElem? (i:=1) rfl),(List.mem_of_getElem? (i:=2) rfl)⟩ (by kernel_rfl) ?_
    refine Qn 0 rfl H4 ?_
    refine Qn 1 rfl (Bn rfl) ?_
    refine Qn 2 rfl Ir ?_
    refine Qn 3 rfl (OpP.Aa8 (fun k=>A0 (k:=k) (c:=.val _) Ai rfl rfl rfl rfl) (fun _ h=>h.1)) ?_
    refine Qn 4 rfl (Cm [Iq _,Iq _,Iq _]) ?_
    refine Qn 5 rfl (OpP.Aa8 (fun k=>P3 (i:=k) (eq:=Ht (D3 e)) Ai rfl rfl rfl rfl rfl (by kernel_rfl) rfl rfl (rfl) (Iv (D3 e) s.ts) (Oy (D3 e) s.ts) (has_t (D3 e) s.ts)) (fun _ h=>h.2)) ?_
    refine Qn 6 rfl Mx (Qn 7 rfl Jq (Qn 8 rfl kA (Qn 9 rfl Av (Qn 10 rfl Bg ?_))))
    refine Jx.done _ _ (by kernel_rfl) ?_
    refine Ae (Ah (Qp Br (Qp Gt (Ag (A5 (fun hc4=>?_) fun hc4=>?_)))))
    ·
     have hnew:Rc (D3 e) s.ts=false:=by simpa using hc4
     refine AW.draw mixed (fun H'=>_∈H') (List.mem_of_getElem? (i:=1) rfl) (by kernel_rfl) ?_
     refine Qn 0 rfl H4 (Qn 1 rfl H4 ?_)
     refine Qn 2 rfl (Bn rfl) ?_
     refine Qn 3 rfl Ir ?_
     refine Qn 4 rfl (OpP.Aa8 (fun k=>A0 (k:=k) (c:=.row _ _ _) Ai rfl rfl rfl rfl) (fun _ h=>h)) ?_
     refine Qn 5 rfl (Cm [Iq _,Iq _,Iq _]) ?_
     refine Qn 6 rfl (A1 (es:=[[Iq _,Iq _,Iq _]]) Ai rfl rfl rfl rfl rfl rfl rfl rfl rfl) ?_
     refine Jx.eff _ _ 7 _ _ rfl (by kernel_rfl) rfl rfl (Dn (k:=0) Ai rfl rfl rfl rfl rfl rfl rfl rfl (Hg rfl) (hsc) (by simp;omega) (by simp [maxLen];omega)) (by rintro _ _ ⟨v54,rfl,rfl⟩;simp) ?_
     rintro _ _ ⟨v54,rfl,rfl⟩
     refine Qn 8 rfl (Bn rfl) ?_
     refine Qn 9 rfl Ir ?_
     refine Jx.last _ _ 10 _ _ rfl (by kernel_rfl) rfl rfl (C7 (k:=1) (v:=.row _ _ _) (cs':=[_,_,Iq _]) (H2:=_::_::_::_) Ai rfl rfl rfl rfl (rfl) rfl rfl rfl rfl) (by kernel_rfl) ?_
     rintro _ _ ⟨rfl,rfl⟩
     refine Ae (AW.seq ?_)
     have hcf:=Vz hs (D3 e)
     have htt:=hnew
     refine AW.draw mixed (fun H'=>_∈H'∧(HO.kmap m (Gv s.ts)∈H'∨HO.kmap m (Gv s.ts ++ [([.int .i64 e.op,.int .i64 e.var,.int .i64 e.field],AV.int .i64 0)])∈H')) ⟨(List.mem_of_getElem? (i:=1) rfl),.inl (List.mem_of_getElem? (i:=2) rfl)⟩ (by kernel_rfl) ?_
     refine Qn 0 rfl H4 ?_
     refine Qn 1 rfl (Bn rfl) ?_
     refine Qn 2 rfl Ir ?_
     refine Qn 3 rfl (OpP.Aa8 (fun k=>A0 (k:=k) (c:=.val _) Ai rfl rfl rfl rfl) (fun _ h=>h.1)) ?_
     refine Qn 4 rfl (Cm [Iq _,Iq _,Iq _]) ?_
     refine Qn 5 rfl (oN (fun k=>Jj (i:=k) (eq:=Ht (D3 e)) Ai rfl rfl rfl rfl rfl (by kernel_rfl) rfl rfl (rfl) (Iv (D3 e) s.ts) (Oy (D3 e) s.ts)) (fun k=>Jj (i:=k) (eq:=Ht (D3 e)) Ai rfl rfl rfl rfl rfl (by kernel_rfl) rfl rfl (rfl) (jO (D3 e) s.ts) (mY hnew)) (fun _ h=>h.2)) ?_
     refine Qn 6 rfl A2 (Qn 7 rfl Fx ?_)
     refine Jx.eff _ _ 8 _ _ rfl (by kernel_rfl) rfl rfl (Q2 (i:=2) (eq:=Ht (D3 e)) Ai rfl rfl rfl rfl rfl rfl rfl (fun _ _ _ h=>h) rfl rfl rfl (Iv (D3 e) s.ts) rfl (jS hnew)) (by rintro _ _ ⟨rfl,rfl⟩;simp) ?_
     rintro _ _ ⟨rfl,rfl⟩
     refine Qn 9 rfl Jq ?_
     refine Jx.last _ _ 10 _ _ rfl (by kernel_rfl) rfl rfl (K6 (i:=2) (j:=(Gv s.ts).length) (H2:=_::_::_::_) rfl rfl rfl rfl (gZ (t:=D3 e)) rfl) (by kernel_rfl) ?_
     rintro _ _ ⟨rfl,rfl⟩
     refine Ae (Ah (Qp Bg (Ag (AW.ret (Bc (Aj ?_))))))
     refine ⟨.inr rfl,[.bool _],.cons (.tmp _ _ rfl) <| .nil,_,.refl _,?_⟩
     first
      | exact absurd (‹(e.op==1)=true›.symm.trans ‹(e.op==1)=false›) (by decide)
      | exact absurd (‹(e.op==2)=true›.symm.trans ‹(e.op==2)=false›) (by decide)
      | exact Bo (Fy ‹(e.op==0)=true›) ⟨rfl,_,rfl⟩
      | exact Bo (B8 ‹(e.op==0)=false› (aV ‹(e.op==1)=true›)) ⟨rfl,_,Gk hnew⟩
      | exact Bo (B8 ‹(e.op==0)=false› (aV ‹(e.op==1)=true›)) ⟨rfl,_,Gn hj3⟩
      | exact Bo (B8 ‹(e.op==0)=false› (Z4 ‹(e.op==2)=true›)) ⟨rfl,_,Gk hnew⟩
      | exact Bo (B8 ‹(e.op==0)=false› (Z4 ‹(e.op==2)=true›)) ⟨rfl,_,Gn hj3⟩
      | exact ⟨congrArg AV.bool (Dg hl2 (.inl ⟨ho,rfl⟩)),_,rfl⟩
      | exact ⟨congrArg AV.bool (Dg hl2 (.inr ⟨ho,rfl⟩)),_,rfl⟩
      | exact Bo (Gx ‹(e.op==0)=false› (cF ‹(e.op==1)=false› ‹(e.op==2)=false›) ‹(e.op==5)=false› ‹(e.op==6)=false›) ⟨rfl,_,rfl⟩
    ·
     refine Bz (AW.seq ?_)
     have hcf:=Vz hs (D3 e)
     refine (bP (b:=b) (by simpa using hc4:Rc (D3 e) s.ts=true)).elim fun j hj=>?_
     have hj1:=hj.1
     have hj2:=hj.2.1
     have hj3:=hj.2.2
     refine AW.draw mixed (fun H'=>_∈H'∧_∈H') ⟨(List.mem_of_getElem? (i:=1) rfl),(List.mem_of_getElem? (i:=2) rfl)⟩ (by kernel_rfl) ?_
     refine Qn 0 rfl H4 ?_
     refine Qn 1 rfl (Bn rfl) ?_
     refine Qn 2 rfl Ir ?_
     refine Qn 3 rfl (OpP.Aa8 (fun k=>A0 (k:=k) (c:=.val _) Ai rfl rfl rfl rfl) (fun _ h=>h.1)) ?_
     refine Qn 4 rfl (Cm [Iq _,Iq _,Iq _]) ?_
     refine Qn 5 rfl (OpP.Aa8 (fun k=>Jj (i:=k) (eq:=Ht (D3 e)) Ai rfl rfl rfl rfl rfl (by kernel_rfl) rfl rfl (rfl) (Iv (D3 e) s.ts) (Oy (D3 e) s.ts)) (fun _ h=>h.2)) ?_
     refine Qn 6 rfl A2 (Qn 7 rfl Fx ?_)
     refine Jx.eff _ _ 8 _ _ rfl (by kernel_rfl) rfl rfl (Wy (i:=2) (eq:=Ht (D3 e)) Ai rfl rfl rfl rfl rfl rfl rfl (Iv (D3 e) s.ts) rfl (by rw [lS];exact hj1) (V6 hj2) rfl) (by rintro _ _ ⟨rfl,rfl⟩;simp) ?_
     rintro _ _ ⟨rfl,rfl⟩
     refine Qn 9 rfl Jq ?_
     refine Jx.last _ _ 10 _ _ rfl (by kernel_rfl) rfl rfl (K6 (i:=2) (j:=j) (H2:=_::_::_::_) rfl rfl rfl rfl (V6 hj2) rfl) (by kernel_rfl) ?_
     rintro _ _ ⟨rfl,rfl⟩
     refine Ae (Ah (Qp Bg (Ag (AW.ret (Bc (Aj ?_))))))
     refine ⟨.inr rfl,[.bool _],.cons (.tmp _ _ rfl) <| .nil,_,.refl _,?_⟩
     first
      | exact absurd (‹(e.op==1)=true›.symm.trans ‹(e.op==1)=false›) (by decide)
      | exact absurd (‹(e.op==2)=true›.symm.trans ‹(e.op==2)=false›) (by decide)
      | exact Bo (Fy ‹(e.op==0)=true›) ⟨rfl,_,rfl⟩
      | exact Bo (B8 ‹(e.op==0)=false› (aV ‹(e.op==1)=true›)) ⟨rfl,_,Gk hnew⟩
      | exact Bo (B8 ‹(e.op==0)=false› (aV ‹(e.op==1)=true›)) ⟨rfl,_,Gn hj3⟩
      | exact Bo (B8 ‹(e.op==0)=false› (Z4 ‹(e.op==2)=true›)) ⟨rfl,_,Gk hnew⟩
      | exact Bo (B8 ‹(e.op==0)=false› (Z4 ‹(e.op==2)=true›)) ⟨rfl,_,Gn hj3⟩
      | exact ⟨congrArg AV.bool (Dg hl2 (.inl ⟨ho,rfl⟩)),_,rfl⟩
      | exact ⟨congrArg AV.bool (Dg hl2 (.inr ⟨ho,rfl⟩)),_,rfl⟩
      | exact Bo (Gx ‹(e.op==0)=false› (cF ‹(e.op==1)=false› ‹(e.op==2)=false›) ‹(e.op==5)=false› ‹(e.op==6)=false›) ⟨rfl,_,rfl⟩
   ·
    exact absurd (hc3.symm.trans hc2) (by decide)
  ·
   refine AW.region (Qp A7 (Qp Bg (Ag (A5 (fun hc5=>?_) fun hc5=>?_))))
   ·
    refine AW.seq ?_
    have hsc:∀c∈(s.ts.map fun p=>Ib p.1),Bh c=true:=Fo fun _=>rfl
    refine AW.region (Qp Kv (Qp Bt (Qp Yy (Qp Bt (Qp Qt (Qp Bt (Qp (Et [Iq _,Iq _,Iq _]) ?_)))))))
    refine Qe (Al (l:=[.int .i64 0,.int .i64 0,.int .i64 0]) (by kernel_rfl)) ?_
    rintro _ _ ⟨b7,rfl,rfl⟩
    refine Co 0 [Iq _,Iq _,Iq _] (_::_::_::_::_) ?_
    refine AOL.ghost (GS.Aa4 (t:=7) 0 rfl rfl) ?_
    refine Ag (AW.seq (AW.seq ?_))
    refine AW.draw mixed (fun H'=>_∈H'∧_∈H') ⟨(List.mem_of_getElem? (i:=1) rfl),(List.mem_of_getElem? (i:=2) rfl)⟩ (by kernel_rfl) ?_
    refine Qn 0 rfl H4 ?_
    refine Qn 1 rfl (Bn rfl) ?_
    refine Qn 2 rfl Ir ?_
    refine Qn 3 rfl (OpP.Aa8 (fun k=>A0 (k:=k) (c:=.val _) Ai rfl rfl rfl rfl) (fun _ h=>h.1)) ?_
    refine Qn 4 rfl (Cm [Iq _,Iq _,Iq _]) ?_
    refine Qn 5 rfl (OpP.Aa8 (fun k=>P3 (i:=k) (eq:=Ht (D3 e)) Ai rfl rfl rfl rfl rfl (by kernel_rfl) rfl rfl (rfl) (Iv (D3 e) s.ts) (Oy (D3 e) s.ts) (has_t (D3 e) s.ts)) (fun _ h=>h.2)) ?_
    refine Qn 6 rfl Mx (Qn 7 rfl Jq (Qn 8 rfl kA (Qn 9 rfl Av (Qn 10 rfl Bg ?_))))
    refine Jx.done _ _ (by kernel_rfl) ?_
    refine Ae (Ah (Qp Br (Qp Gt (Ag (A5 (fun hc6=>?_) fun hc6=>?_)))))
    ·
     have hnew:Rc (D3 e) s.ts=false:=by simpa using hc6
     refine AW.draw mixed (fun H'=>_∈H') (List.mem_of_getElem? (i:=1) rfl) (by kernel_rfl) ?_
     refine Qn 0 rfl H4 (Qn 1 rfl H4 ?_)
     refine Qn 2 rfl (Bn rfl) ?_
     refine Qn 3 rfl Ir ?_
     refine Qn 4 rfl (OpP.Aa8 (fun k=>A0 (k:=k) (c:=.row _ _ _) Ai rfl rfl rfl rfl) (fun _ h=>h)) ?_
     refine Qn 5 rfl (Cm [Iq _,Iq _,Iq _]) ?_
     refine Qn 6 rfl (A1 (es:=[[Iq _,Iq _,Iq _]]) Ai rfl rfl rfl rfl rfl rfl rfl rfl rfl) ?_
     refine Jx.eff _ _ 7 _ _ rfl (by kernel_rfl) rfl rfl (Dn (k:=0) Ai rfl rfl rfl rfl rfl rfl rfl rfl (Hg rfl) (hsc) (by simp;omega) (by simp [maxLen];omega)) (by rintro _ _ ⟨v54,rfl,rfl⟩;simp) ?_
     rintro _ _ ⟨v54,rfl,rfl⟩
     refine Qn 8 rfl (Bn rfl) ?_
     refine Qn 9 rfl Ir ?_
     refine Jx.last _ _ 10 _ _ rfl (by kernel_rfl) rfl rfl (C7 (k:=1) (v:=.row _ _ _) (cs':=[_,_,Iq _]) (H2:=_::_::_::_) Ai rfl rfl rfl rfl (rfl) rfl rfl rfl rfl) (by kernel_rfl) ?_
     rintro _ _ ⟨rfl,rfl⟩
     refine Ae (AW.seq ?_)
     have hcf:=Vz hs (D3 e)
     have htt:=hnew
     refine AW.draw mixed (fun H'=>_∈H'∧(HO.kmap m (Gv s.ts)∈H'∨HO.kmap m (Gv s.ts ++ [([.int .i64 e.op,.int .i64 e.var,.int .i64 e.field],AV.int .i64 0)])∈H')) ⟨(List.mem_of_getElem? (i:=1) rfl),.inl (List.mem_of_getElem? (i:=2) rfl)⟩ (by kernel_rfl) ?_
     refine Qn 0 rfl H4 ?_
     refine Qn 1 rfl (Bn rfl) ?_
     refine Qn 2 rfl Ir ?_
     refine Qn 3 rfl (OpP.Aa8 (fun k=>A0 (k:=k) (c:=.val _) Ai rfl rfl rfl rfl) (fun _ h=>h.1)) ?_
     refine Qn 4 rfl (Cm [Iq _,Iq _,Iq _]) ?_
     refine Qn 5 rfl (oN (fun k=>Jj (i:=k) (eq:=Ht (D3 e)) Ai rfl rfl rfl rfl rfl (by kernel_rfl) rfl rfl (rfl) (Iv (D3 e) s.ts) (Oy (D3 e) s.ts)) (fun k=>Jj (i:=k) (eq:=Ht (D3 e)) Ai rfl rfl rfl rfl rfl (by kernel_rfl) rfl rfl (rfl) (jO (D3 e) s.ts) (mY hnew)) (fun _ h=>h.2)) ?_
     refine Qn 6 rfl A2 (Qn 7 rfl Fx ?_)
     refine Jx.eff _ _ 8 _ _ rfl (by kernel_rfl) rfl rfl (Q2 (i:=2) (eq:=Ht (D3 e)) Ai rfl rfl rfl rfl rfl rfl rfl (fun _ _ _ h=>h) rfl rfl rfl (Iv (D3 e) s.ts) rfl (jS hnew)) (by rintro _ _ ⟨rfl,rfl⟩;simp) ?_
     rintro _ _ ⟨rfl,rfl⟩
     refine Qn 9 rfl Jq ?_
     refine Jx.last _ _ 10 _ _ rfl (by kernel_rfl) rfl rfl (K6 (i:=2) (j:=(Gv s.ts).length) (H2:=_::_::_::_) rfl rfl rfl rfl (gZ (t:=D3 e)) rfl) (by kernel_rfl) ?_
     rintro _ _ ⟨rfl,rfl⟩
     refine Ae (Ah (Qp Bg (Ag (AW.ret (Bc (Aj ?_))))))
     refine ⟨.inr rfl,[.bool _],.cons (.tmp _ _ rfl) <| .nil,_,.refl _,?_⟩
     first
      | exact absurd (‹(e.op==1)=true›.symm.trans ‹(e.op==1)=false›) (by decide)
      | exact absurd (‹(e.op==2)=true›.symm.trans ‹(e.op==2)=false›) (by decide)
      | exact Bo (Fy ‹(e.op==0)=true›) ⟨rfl,_,rfl⟩
      | exact Bo (B8 ‹(e.op==0)=false› (aV ‹(e.op==1)=true›)) ⟨rfl,_,Gk hnew⟩
      | exact Bo (B8 ‹(e.op==0)=false› (aV ‹(e.op==1)=true›)) ⟨rfl,_,Gn hj3⟩
      | exact Bo (B8 ‹(e.op==0)=false› (Z4 ‹(e.op==2)=true›)) ⟨rfl,_,Gk hnew⟩
      | exact Bo (B8 ‹(e.op==0)=false› (Z4 ‹(e.op==2)=true›)) ⟨rfl,_,Gn hj3⟩
      | exact ⟨congrArg AV.bool (Dg hl2 (.inl ⟨ho,rfl⟩)),_,rfl⟩
      | exact ⟨congrArg AV.bool (Dg hl2 (.inr ⟨ho,rfl⟩)),_,rfl⟩
      | exact Bo (Gx ‹(e.op==0)=false› (cF ‹(e.op==1)=false› ‹(e.op==2)=false›) ‹(e.op==5)=false› ‹(e.op==6)=false›) ⟨rfl,_,rfl⟩
    ·
     refine Bz (AW.seq ?_)
     have hcf:=Vz hs (D3 e)
     refine (bP (b:=b) (by simpa using hc6:Rc (D3 e) s.ts=true)).elim fun j hj=>?_
     have hj1:=hj.1
     have hj2:=hj.2.1
     have hj3:=hj.2.2
     refine AW.draw mixed (fun H'=>_∈H'∧_∈H') ⟨(List.mem_of_getElem? (i:=1) rfl),(List.mem_of_getElem? (i:=2) rfl)⟩ (by kernel_rfl) ?_
     refine Qn 0 rfl H4 ?_
     refine Qn 1 rfl (Bn rfl) ?_
     refine Qn 2 rfl Ir ?_
     refine Qn 3 rfl (OpP.Aa8 (fun k=>A0 (k:=k) (c:=.val _) Ai rfl rfl rfl rfl) (fun _ h=>h.1)) ?_
     refine Qn 4 rfl (Cm [Iq _,Iq _,Iq _]) ?_
     refine Qn 5 rfl (OpP.Aa8 (fun k=>Jj (i:=k) (eq:=Ht (D3 e)) Ai rfl rfl rfl rfl rfl (by kernel_rfl) rfl rfl (rfl) (Iv (D3 e) s.ts) (Oy (D3 e) s.ts)) (fun _ h=>h.2)) ?_
     refine Qn 6 rfl A2 (Qn 7 rfl Fx ?_)
     refine Jx.eff _ _ 8 _ _ rfl (by kernel_rfl) rfl rfl (Wy (i:=2) (eq:=Ht (D3 e)) Ai rfl rfl rfl rfl rfl rfl rfl (Iv (D3 e) s.ts) rfl (by rw [lS];exact hj1) (V6 hj2) rfl) (by rintro _ _ ⟨rfl,rfl⟩;simp) ?_
     rintro _ _ ⟨rfl,rfl⟩
     refine Qn 9 rfl Jq ?_
     refine Jx.last _ _ 10 _ _ rfl (by kernel_rfl) rfl rfl (K6 (i:=2) (j:=j) (H2:=_::_::_::_) rfl rfl rfl rfl (V6 hj2) rfl) (by kernel_rfl) ?_
     rintro _ _ ⟨rfl,rfl⟩
     refine Ae (Ah (Qp Bg (Ag (AW.ret (Bc (Aj ?_))))))
     refine ⟨.inr rfl,[.bool _],.cons (.tmp _ _ rfl) <| .nil,_,.refl _,?_⟩
     first
      | exact absurd (‹(e.op==1)=true›.symm.trans ‹(e.op==1)=false›) (by decide)
      | exact absurd (‹(e.op==2)=true›.symm.trans ‹(e.op==2)=false›) (by decide)
      | exact Bo (Fy ‹(e.op==0)=true›) ⟨rfl,_,rfl⟩
      | exact Bo (B8 ‹(e.op==0)=false› (aV ‹(e.op==1)=true›)) ⟨rfl,_,Gk hnew⟩
      | exact Bo (B8 ‹(e.op==0)=false› (aV ‹(e.op==1)=true›)) ⟨rfl,_,Gn hj3⟩
      | exact Bo (B8 ‹(e.op==0)=false› (Z4 ‹(e.op==2)=true›)) ⟨rfl,_,Gk hnew⟩
      | exact Bo (B8 ‹(e.op==0)=false› (Z4 ‹(e.op==2)=true›)) ⟨rfl,_,Gn hj3⟩
      | exact ⟨congrArg AV.bool (Dg hl2 (.inl ⟨ho,rfl⟩)),_,rfl⟩
      | exact ⟨congrArg AV.bool (Dg hl2 (.inr ⟨ho,rfl⟩)),_,rfl⟩
      | exact Bo (Gx ‹(e.op==0)=false› (cF ‹(e.op==1)=false› ‹(e.op==2)=false›) ‹(e.op==5)=false› ‹(e.op==6)=false›) ⟨rfl,_,rfl⟩
   ·
    refine Ah (Qp A7 (Qp Bg (Ag (A5 (fun hc7=>?_) fun hc7=>?_))))
    ·
     refine AW.seq ?_
     have ho:=eq_of_beq ‹(e.op==5)=true›
     have hl2:=Dj hz.1 (by omega)
     have h00:0<e.args.length:=by omega
     have hsz:=Dy hl2
     have hs0:=Xb _ (hz.2 _ (A6 h00)) hb hs
     refine AW.region (Qp H4 (Qp K7 (Qp Dm ?_)))
     refine Qp (Af (c:=[Iq _,_,Iq _,Iq _,Iq _,Iq _,Iq _,.str _]) Ai rfl rfl rfl rfl rfl rfl (by decide) (Fq h00)) ?_
     refine Qp D1 (Qp A2 ?_)
     refine Qe (Fr (by kernel_rfl) rfl rfl (ih _ (A6 h00) (hz.2 _ (A6 h00)) n b hb s hs (by omega) v)) ?_
     rintro _ _ ⟨rfl,u0,rfl⟩
     refine Qp Br (Qg [] Qw H4 (Qg [] Qw K7 (Qg [(78,_)] Qw Dm ?_)))
     refine AOL.Aa6 (y:=.ptr _) _ [(79,_)] rfl (sF.all ⟨Ent.Aa3 _ _,trivial⟩) (fun hG=>Af (c:=[Iq _,_,Iq _,Iq _,Iq _,Iq _,Iq _,.str _]) Ai rfl rfl rfl rfl rfl rfl (by decide) (Id hl2)) rfl ?_
     refine Qg [(80,_)] Qw D1 (Qg [] Qw A2 ?_)
     refine AOL.geX (F:=fun u=>Oa m bs u (Bp e b s).1 R) _ [(77,_),(81,_),(82,_)] rfl (sF.all ⟨Ent.Aa3 _ _,Ent.Aa3 _ _,Ent.Aa3 _ _,trivial⟩) (fun hG=>Fr (by kernel_rfl) rfl rfl (jX hl2 (.inl ⟨ho,rfl⟩) hG (ih _ (Bk hl2) (hz.2 _ (Bk hl2)) (n+At (Ao e)) b hb _ hs0 (by omega) u0))) (fun hG=>Z5 hl2 (.inl ⟨ho,rfl⟩) hG) rfl fun u1=>?_
     refine Qp E3 (Qp Bg (Ag (AW.ret (Bc (Aj ?_)))))
     refine ⟨.inr rfl,[.bool _],.cons (.tmp _ _ rfl) <| .nil,_,.refl _,?_⟩
     first
      | exact absurd (‹(e.op==1)=true›.symm.trans ‹(e.op==1)=false›) (by decide)
      | exact absurd (‹(e.op==2)=true›.symm.trans ‹(e.op==2)=false›) (by decide)
      | exact Bo (Fy ‹(e.op==0)=true›) ⟨rfl,_,rfl⟩
      | exact Bo (B8 ‹(e.op==0)=false› (aV ‹(e.op==1)=true›)) ⟨rfl,_,Gk hnew⟩
      | exact Bo (B8 ‹(e.op==0)=false› (aV ‹(e.op==1)=true›)) ⟨rfl,_,Gn hj3⟩
      | exact Bo (B8 ‹(e.op==0)=false› (Z4 ‹(e.op==2)=true›)) ⟨rfl,_,Gk hnew⟩
      | exact Bo (B8 ‹(e.op==0)=false› (Z4 ‹(e.op==2)=true›)) ⟨rfl,_,Gn hj3⟩
      | exact ⟨congrArg AV.bool (Dg hl2 (.inl ⟨ho,rfl⟩)),_,rfl⟩
      | exact ⟨congrArg AV.bool (Dg hl2 (.inr ⟨ho,rfl⟩)),_,rfl⟩
      | exact Bo (Gx ‹(e.op==0)=false› (cF ‹(e.op==1)=false› ‹(e.op==2)=false›) ‹(e.op==5)=false› ‹(e.op==6)=false›) ⟨rfl,_,rfl⟩
    ·
     refine Ah (Qp A7 (Qp Bg (Ag (A5 (fun hc8=>?_) fun hc8=>?_))))
     ·
      refine AW.seq ?_
      have ho:=eq_of_beq ‹(e.op==6)=true›
      have hl2:=Dj hz.1 (by omega)
      have h00:0<e.args.length:=by omega
      have hsz:=Dy hl2
      have hs0:=Xb _ (hz.2 _ (A6 h00)) hb hs
      refine AW.region (Qp H4 (Qp K7 (Qp Dm ?_)))
      refine Qp (Af (c:=[Iq _,_,Iq _,Iq _,Iq _,Iq _,Iq _,.str _]) Ai rfl rfl rfl rfl rfl rfl (by decide) (Fq h00)) ?_
      refine Qp D1 (Qp A2 ?_)
      refine Qe (Fr (by kernel_rfl) rfl rfl (ih _ (A6 h00) (hz.2 _ (A6 h00)) n b hb s hs (by omega) v)) ?_
      rintro _ _ ⟨rfl,u0,rfl⟩
      refine Qp Br (Qg [] Qw H4 (Qg [] Qw K7 (Qg [(96,_)] Qw Dm ?_)))
      refine AOL.Aa6 (y:=.ptr _) _ [(97,_)] rfl (sF.all ⟨Ent.Aa3 _ _,trivial⟩) (fun hG=>Af (c:=[Iq _,_,Iq _,Iq _,Iq _,Iq _,Iq _,.str _]) Ai rfl rfl rfl rfl rfl rfl (by decide) (Id hl2)) rfl ?_
      refine Qg [(98,_)] Qw D1 (Qg [] Qw A2 ?_)
      refine AOL.Aa6 (y:=Iq _) _ [(100,_)] rfl (sF.all ⟨Ent.Aa3 _ _,trivial⟩) (fun hG=>Xx rfl rfl (by constructor <;> omega)) rfl ?_
      refine AOL.geX (F:=fun u=>Oa m bs u (Bp e b s).1 R) _ [(95,_),(99,_),(101,_)] rfl (sF.all ⟨Ent.Aa3 _ _,Ent.Aa3 _ _,Ent.Aa3 _ _,trivial⟩) (fun hG=>Fr (by kernel_rfl) rfl rfl (jX hl2 (.inr ⟨ho,rfl⟩) hG (ih _ (Bk hl2) (hz.2 _ (Bk hl2)) (n+At (Ao e)) (0-b) (by omega) _ hs0 (by omega) u0))) (fun hG=>Z5 hl2 (.inr ⟨ho,rfl⟩) hG) rfl fun u1=>?_
      refine Qp E3 (Qp Bg (Ag (AW.ret (Bc (Aj ?_)))))
      refine ⟨.inr rfl,[.bool _],.cons (.tmp _ _ rfl) <| .nil,_,.refl _,?_⟩
      first
       | exact absurd (‹(e.op==1)=true›.symm.trans ‹(e.op==1)=false›) (by decide)
       | exact absurd (‹(e.op==2)=true›.symm.trans ‹(e.op==2)=false›) (by decide)
       | exact Bo (Fy ‹(e.op==0)=true›) ⟨rfl,_,rfl⟩
       | exact Bo (B8 ‹(e.op==0)=false› (aV ‹(e.op==1)=true›)) ⟨rfl,_,Gk hnew⟩
       | exact Bo (B8 ‹(e.op==0)=false› (aV ‹(e.op==1)=true›)) ⟨rfl,_,Gn hj3⟩
       | exact Bo (B8 ‹(e.op==0)=false› (Z4 ‹(e.op==2)=true›)) ⟨rfl,_,Gk hnew⟩
       | exact Bo (B8 ‹(e.op==0)=false› (Z4 ‹(e.op==2)=true›)) ⟨rfl,_,Gn hj3⟩
       | exact ⟨congrArg AV.bool (Dg hl2 (.inl ⟨ho,rfl⟩)),_,rfl⟩
       | exact ⟨congrArg AV.bool (Dg hl2 (.inr ⟨ho,rfl⟩)),_,rfl⟩
       | exact Bo (Gx ‹(e.op==0)=false› (cF ‹(e.op==1)=false› ‹(e.op==2)=false›) ‹(e.op==5)=false› ‹(e.op==6)=false›) ⟨rfl,_,rfl⟩
     ·
      refine AW.skip (Bs (Ae (Ah (Qp Bg (Ag (AW.ret ?_))))))
      refine ⟨.inr rfl,[.bool _],.cons (.tmp _ _ rfl) <| .nil,_,.refl _,?_⟩
      first
       | exact absurd (‹(e.op==1)=true›.symm.trans ‹(e.op==1)=false›) (by decide)
       | exact absurd (‹(e.op==2)=true›.symm.trans ‹(e.op==2)=false›) (by decide)
       | exact Bo (Fy ‹(e.op==0)=true›) ⟨rfl,_,rfl⟩
       | exact Bo (B8 ‹(e.op==0)=false› (aV ‹(e.op==1)=true›)) ⟨rfl,_,Gk hnew⟩
       | exact Bo (B8 ‹(e.op==0)=false› (aV ‹(e.op==1)=true›)) ⟨rfl,_,Gn hj3⟩
       | exact Bo (B8 ‹(e.op==0)=false› (Z4 ‹(e.op==2)=true›)) ⟨rfl,_,Gk hnew⟩
       | exact Bo (B8 ‹(e.op==0)=false› (Z4 ‹(e.op==2)=true›)) ⟨rfl,_,Gn hj3⟩
       | exact ⟨congrArg AV.bool (Dg hl2 (.inl ⟨ho,rfl⟩)),_,rfl⟩
       | exact ⟨congrArg AV.bool (Dg hl2 (.inr ⟨ho,rfl⟩)),_,rfl⟩
       | exact Bo (Gx ‹(e.op==0)=false› (cF ‹(e.op==1)=false› ‹(e.op==2)=false›) ‹(e.op==5)=false› ‹(e.op==6)=false›) ⟨rfl,_,rfl⟩

set_option maxHeartbeats 3200000
set_option maxRecDepth 20000

theorem Z0 (a b:Ex)(hna:C4 a=0)(hnb:C4 b=0)(hs:At a+At b≤1048576):Ax Tryz.prog 137 [.agg (cE a),.agg (cE b)] (.tuple [.agg (cGp (Cj a b).1),.bool (Cj a b).2]):=by
 have hok:=bN hna hnb
 have hnd:=dF hna hnb
 have htl:=hok.len
 refine Ax.body (n:=75) Ai Tryz.func137 rfl rfl rfl fun H=>?_
 refine Ah (Qp La (Qp La ?_))
 refine Qe (Al (l:=[.sl 3 [],.sl 3 [],.int .i64 0]) (by kernel_rfl)) ?_
 rintro _ _ ⟨b4,rfl,rfl⟩
 refine Qp Bg (Dh ?_)
 refine Qe (Nc) ?_
 rintro _ _ ⟨b10,rfl,rfl⟩
 refine Qp (Pg (l0:=[.val (.map none),.val (.slice none 0 0),.int .i64 0]) (l:=[_,_,_]) Ai rfl rfl (by kernel_rfl) rfl) ?_
 refine Qe (Vb (v:=.agg _) (cs:=[_,_,Iq _]) rfl rfl (rfl)) ?_
 rintro _ _ ⟨b12,rfl,rfl⟩
 refine Qp N8 ?_
 refine AOL.ghost (GS.cellRow 0 1 143 3 rfl rfl rfl rfl) ?_
 refine Ag (AW.seq (Ah (Qp H4 (Qp D1 ?_))))
 refine Qe (Fr (by kernel_rfl) rfl rfl (d_add b10 b12 _ a hna 0 1 (.inl rfl) Kx mC (by omega) _)) ?_
 rintro _ _ ⟨rfl,u0,rfl⟩
 refine Qp Gt (Qp Br (Qg [] Qw H4 (Qg [] Qw D1 ?_)))
 refine AOL.geX (F:=fun u=>Oa b10 b12 u (Da a b) (.box b4 178 [.sl 3 [],.sl 3 [],.int .i64 0]::H)) _ [(18,_),(19,_)] rfl (sF.all ⟨Ent.Aa3 _ _,Ent.Aa3 _ _,trivial⟩) (fun hG=>Fr (by kernel_rfl) rfl rfl (zC hG (d_add b10 b12 _ b hnb (0+At a) (-1) (.inr rfl) _ (Xb a hna (.inl rfl) mC) (by omega) u0))) (fun hG=>btw_f (m:=b10) (bs:=b12) (v:=u0) (b:=b) (R:=(.box b4 178 [.sl 3 [],.sl 3 [],.int .i64 0]::H)) hG) rfl fun u1=>?_
 refine Qg [(20,_)] Qw Gt (Qp E5 (Ag (A5 (fun hc1=>?_) fun hc1=>?_)))
 ·
  refine Ah (Qp (Et [_,_,Iq _]) (Co 3 [_,_,Iq _] (_::_::_::_::_) (Qp Bg (Ag (Du ?_)))))
  refine ⟨.inr rfl,[.agg [_,_,Iq _],.bool _],.cons (.box _ _ _ 3 _ _ _ _ rfl rfl rfl rfl rfl rfl) <| .cons (.tmp _ _ rfl) <| .nil,.cons _ (.cons _ (.cons _ (.cons _ (.refl _)))),?_⟩
  exact Eq.trans rfl (congrArg (fun q:Gp×Bool=>AV.tuple [.agg (cGp q.1),.bool q.2]) (btw_no hc1)).symm
 ·
  refine Bz (Ah (Qp H4 ?_))
  refine Qp (Bn rfl) ?_
  refine Qp Ir ?_
  refine AOL.Aa9 (A0 (k:=1) (c:=Iq _) Ai rfl rfl rfl rfl) rfl rfl ?_
  refine Qp (Pg (l0:=[.val (.slice none 0 0),.val (.slice none 0 0),.int .i64 0]) (l:=[_,_,_]) Ai rfl rfl (by kernel_rfl) rfl) ?_
  refine Qe (Al (l:=[.sl 3 [],.sl 3 [],.int .i64 0]) (by kernel_rfl)) ?_
  rintro _ _ ⟨b7,rfl,rfl⟩
  refine Co 0 [_,_,Iq _] (_::_::_::_::_::_) ?_
  refine AOL.ghost (GS.cellRow 0 0 143 3 rfl rfl rfl rfl) ?_
  refine AOL.ghost (GS.cellRow 1 1 143 3 rfl rfl rfl rfl) ?_
  refine Ag (AW.seq (Ah (Qp H4 ?_)))
  refine Qp (Bn rfl) ?_
  refine Qp Ir ?_
  refine AOL.Aa9 (A0 (k:=4) (c:=.row _ _ _) Ai rfl rfl rfl rfl) rfl rfl ?_
  refine Qp (Mt (n:=(Da a b).ts.length) Ai rfl rfl rfl (by simp)) ?_
  refine Qp A2 (Ag (AW.block ?_))
  refine AW.Aa5 (fun (p:Nat×List Tm×List Tm×Value×Value×List (List AV)×List (List AV))=>(⟨[(2,.ptr (cE a)),(3,.ptr (cE b)),(4,.val (.pointer (some ⟨b4,0,none⟩))),(5,.bool false),(6,.val (.pointer (some ⟨b12,0,none⟩))),(7,.val (.pointer (some ⟨b7,0,none⟩))),(32,.row u1 3 ((Da a b).ts.map fun p=>Ib p.1)),(33,.int .i64 (Da a b).ts.length),(34,.int .i64 (p.1:Int))],.row p.2.2.2.2.1 p.2.2.2.2.2.2.length 143 3 :: .row p.2.2.2.1 p.2.2.2.2.2.1.length 143 3 :: .box b7 178 [.row p.2.2.2.1 3 p.2.2.2.2.2.1,.row p.2.2.2.2.1 3 p.2.2.2.2.2.2,.int .i64 (Da a b).rest]::Oa b10 b12 u1 (Da a b) (.box b4 178 [.sl 3 [],.sl 3 [],.int .i64 0]::H),75⟩:St)) (fun (p:Nat×List Tm×List Tm×Value×Value×List (List AV)×List (List AV))=>p.1≤(Da a b).ts.length∧Dv (Da a b).ts [] []=Dv ((Da a b).ts.drop p.1) p.2.1 p.2.2.1∧p.2.1.length≤p.1∧p.2.2.1.length≤p.1∧p.2.2.2.2.2.1=p.2.1.map Ib∧p.2.2.2.2.2.2=p.2.2.1.map Ib) (fun (p:Nat×List Tm×List Tm×Value×Value×List (List AV)×List (List AV))=>(Da a b).ts.length-p.1) ((0,[],[],.slice none 0 0,.slice none 0 0,[],[])) ?_ (GS.weaken ⟨rfl,rfl,rfl,rfl,rfl,rfl,rfl,rfl,rfl,trivial⟩ (.refl _)) ?_
  · exact ⟨Nat.zero_le _,rfl,Nat.le_refl _,Nat.le_refl _,rfl,rfl⟩
  ·
   rintro p hR
   have hpl:=hR.2.2.1
   have hml:=hR.2.2.2.1
   have hpe:=hR.2.2.2.2.1
   have hme:=hR.2.2.2.2.2
   have hpel:p.2.2.2.2.2.1.length=p.2.1.length:=by rw [hpe];simp
   have hmel:p.2.2.2.2.2.2.length=p.2.2.1.length:=by rw [hme];simp
   refine Ah (Qp Cl (Ag (AW.seq (A5 (fun hc2=>?_) fun hc2=>?_))))
   ·
    obtain ⟨q,hq⟩:=B4 hc2
    have hlt:=Bb hq
    have hdc:=Ba hq
    have hR2:=hR.2.1
    rw [hdc] at hR2
    refine Bz (AW.seq (AW.block (Ah ?_)))
    refine Qp (Kp (c:=[Iq _,Iq _,Iq _]) Ai rfl rfl rfl rfl rfl rfl (by omega) (Bj hq)) ?_
    refine Qp (Cm [Iq _,Iq _,Iq _]) ?_
    refine Qe (Al (l:=[.int .i64 0,.int .i64 0,.int .i64 0]) (by kernel_rfl)) ?_
    rintro _ _ ⟨b9,rfl,rfl⟩
    refine Co 0 [Iq _,Iq _,Iq _] (_::_::_::_::_::_::_::_::_) ?_
    refine AOL.ghost (GS.Aa4 (t:=9) 0 rfl rfl) ?_
    refine Ag (AW.seq ?_)
    refine AW.draw mixed (fun H'=>_∈H'∧_∈H') ⟨(List.mem_of_getElem? (i:=4) rfl),(List.mem_of_getElem? (i:=5) rfl)⟩ (by kernel_rfl) ?_
    refine Qn 0 rfl H4 ?_
    refine Qn 1 rfl (Bn rfl) ?_
    refine Qn 2 rfl Ir ?_
    refine Qn 3 rfl (OpP.Aa8 (fun k=>A0 (k:=k) (c:=.val _) Ai rfl rfl rfl rfl) (fun _ h=>h.1)) ?_
    refine Qn 4 rfl (Cm [Iq _,Iq _,Iq _]) ?_
    refine Qn 5 rfl (OpP.Aa8 (fun k=>Jj (i:=k) (eq:=Ht q.1) Ai rfl rfl rfl rfl rfl (by kernel_rfl) rfl rfl (rfl) (Iv q.1 (Da a b).ts) (look_at hnd hq)) (fun _ h=>h.2)) ?_
    refine Jx.done _ _ (by kernel_rfl) ?_
    refine Ae (AW.block (Ah (Qp A7 (Qp Bg (Ag (A5 (fun hc3=>?_) fun hc3=>?_))))))
    ·
     refine AW.skip (Bs (Bs (Ae (AW.region (Qp Fx (Qp A2 (Ag ?_)))))))
     refine ⟨(p.1+1,p.2.1,p.2.2.1,p.2.2.2.1,p.2.2.2.2.1,p.2.2.2.2.2.1,p.2.2.2.2.2.2),?_,?_,GS.weaken ⟨rfl,rfl,rfl,rfl,rfl,rfl,rfl,rfl,rfl,trivial⟩ (.refl _)⟩
     · exact ⟨hlt,by simp only;rw [hR2,parts_0 hc3],by simp only;omega,by simp only;omega,hpe,hme⟩
     · simp only;omega
    ·
     refine Ah (Qp A7 (Qp Bg (Ag (A5 (fun hc4=>?_) fun hc4=>?_))))
     ·
      have hsc:∀c∈p.2.2.2.2.2.1,Bh c=true:=by rw [hpe];exact Fo fun _=>rfl
      refine AW.region (Qp Ir ?_)
      refine AOL.Aa9 (A0 (k:=2) (c:=.row _ _ _) Ai rfl rfl rfl rfl) rfl rfl ?_
      refine Qp (Cm [Iq _,Iq _,Iq _]) ?_
      refine Qp (A1 (es:=[[Iq _,Iq _,Iq _]]) Ai rfl rfl rfl rfl rfl rfl rfl rfl rfl) ?_
      refine Qe (Dn (k:=1) Ai rfl rfl rfl rfl rfl rfl rfl rfl (Hg rfl) (hsc) (by simp;omega) (by simp [maxLen];omega)) ?_
      rintro _ _ ⟨v53,rfl,rfl⟩
      refine Qp Ir (Co 2 [_,_,Iq _] (_::_::_::_::_::_::_::_) (AOL.nil (Bs (Bs (Ae (AW.region (Qp Fx (Qp A2 (Ag ?_)))))))))
      refine ⟨(p.1+1,p.2.1 ++ [q.1],p.2.2.1,v53,p.2.2.2.2.1,p.2.2.2.2.2.1 ++ [Ib q.1],p.2.2.2.2.2.2),?_,?_,GS.weaken ⟨rfl,rfl,rfl,rfl,rfl,rfl,rfl,rfl,rfl,trivial⟩ (.refl _)⟩
      · exact ⟨hlt,by simp only;rw [hR2,parts_1 hc3 hc4],by simp only [List.length_append,List.length_singleton];omega,by simp only [List.length_append,List.length_singleton];omega,by simp [hpe],by simp [hme]⟩
      · simp only;omega
     ·
      refine Ah (Qp A7 (Qp Bg (Ag (A5 (fun hc5=>?_) fun hc5=>?_))))
      ·
       have hsc:∀c∈p.2.2.2.2.2.2,Bh c=true:=by rw [hme];exact Fo fun _=>rfl
       refine AW.region (Qp Ir ?_)
       refine AOL.Aa9 (A0 (k:=2) (c:=.row _ _ _) Ai rfl rfl rfl rfl) rfl rfl ?_
       refine Qp (Cm [Iq _,Iq _,Iq _]) ?_
       refine Qp (A1 (es:=[[Iq _,Iq _,Iq _]]) Ai rfl rfl rfl rfl rfl rfl rfl rfl rfl) ?_
       refine Qe (Dn (k:=0) Ai rfl rfl rfl rfl rfl rfl rfl rfl (Hg rfl) (hsc) (by simp;omega) (by simp [maxLen];omega)) ?_
       rintro _ _ ⟨v61,rfl,rfl⟩
       refine Qp Ir (Co 2 [_,_,Iq _] (_::_::_::_::_::_::_::_) (AOL.nil (Bs (Bs (Ae (AW.region (Qp Fx (Qp A2 (Ag ?_)))))))))
       refine ⟨(p.1+1,p.2.1,p.2.2.1 ++ [q.1],p.2.2.2.1,v61,p.2.2.2.2.2.1,p.2.2.2.2.2.2 ++ [Ib q.1]),?_,?_,GS.weaken ⟨rfl,rfl,rfl,rfl,rfl,rfl,rfl,rfl,rfl,trivial⟩ (.refl _)⟩
       · exact ⟨hlt,by simp only;rw [hR2,parts_2 hc3 hc4 hc5],by simp only [List.length_append,List.length_singleton];omega,by simp only [List.length_append,List.length_singleton];omega,by simp [hpe],by simp [hme]⟩
       · simp only;omega
      ·
       refine Ah (Qp (Et [_,_,Iq _]) (Co 6 [_,_,Iq _] (_::_::_::_::_::_::_::_) (Qp Bg (Ag (AW.ret (Bc (Bc (Aj (Aj ?_)))))))))
       refine Bc (Aj ?_)
       refine ⟨.inr rfl,[.agg [_,_,Iq _],.bool _],.cons (.box _ _ _ 6 _ _ _ _ rfl rfl rfl rfl rfl rfl) <| .cons (.tmp _ _ rfl) <| .nil,.cons _ (.cons _ (.cons _ (.cons _ (.cons _ (.cons _ (.cons _ (.refl _))))))),?_⟩
       exact Eq.trans rfl (congrArg (fun q:Gp×Bool=>AV.tuple [.agg (cGp q.1),.bool q.2]) (iP hc1 (hR2.trans (parts_3 hc3 hc4 hc5)))).symm
   ·
    have hde:=Di hc2
    have hR2:=hR.2.1
    rw [hde] at hR2
    refine AW.exit ?_
    refine A8 (A8 (Bw (Ae (AW.seq ?_))))
    refine AW.ghost (GS.cell 2 0 rfl rfl rfl rfl G9) ?_
    refine AW.ghost (GS.cell 2 1 rfl rfl rfl rfl G9) ?_
    refine AW.draw mixed (fun H'=>_∈H') (List.mem_of_getElem? (i:=2) rfl) (by kernel_rfl) ?_
    refine Qn 0 rfl (OpP.Aa8 (fun k=>B1 (k:=k) (l:=[_,_,Iq _]) Ai rfl rfl rfl rfl rfl) (fun _ h=>h)) ?_
    refine Qn 1 rfl Ir ?_
    refine Qn 2 rfl (OpP.Aa8 (fun k=>A0 (k:=k) (c:=.sl _ _) Ai rfl rfl rfl rfl) (fun _ h=>h)) ?_
    refine Qn 3 rfl (Ak (n:=p.2.1.length) Ai rfl rfl rfl (hpel)) ?_
    refine Qn 4 rfl Ng (Qn 5 rfl Br (Qo 6 rfl [] Qw Ir ?_))
    refine Jx.pure _ _ 7 _ _ rfl (by kernel_rfl) (by kernel_rfl) rfl (.opt _ (.sl _ _) [(70,_)] rfl (sF.all ⟨Ent.Aa3 _ _,trivial⟩) (fun hG=>OpP.Aa8 (fun k=>A0 (k:=k) (c:=.sl _ _) Ai rfl rfl rfl rfl) (fun _ h=>h)) rfl) ?_
    refine Jx.pure _ _ 8 _ _ rfl (by kernel_rfl) (by kernel_rfl) rfl (.opt _ (Iq _) [(71,_)] rfl (sF.all ⟨Ent.Aa3 _ _,trivial⟩) (fun hG=>Ak (n:=p.2.2.1.length) Ai rfl rfl rfl (hmel)) rfl) ?_
    refine Qo 9 rfl [(72,_)] Qw Ng (Qn 10 rfl E3 ?_)
    refine Jx.eff _ _ 11 _ _ rfl (by kernel_rfl) rfl rfl (C7 (k:=6) (v:=.agg _) (cs':=[_,_,Iq _]) (H2:=_::_::_::_::_::_::_::_) Ai rfl rfl rfl rfl (rfl) rfl rfl rfl rfl) (by rintro _ _ ⟨rfl,rfl⟩;simp) ?_
    rintro _ _ ⟨rfl,rfl⟩
    refine Qn 12 rfl Bg ?_
    refine Jx.done _ _ (by kernel_rfl) ?_
    refine Ae (AW.ret ?_)
    refine ⟨.inr rfl,[.agg [_,_,Iq _],.bool _],.cons (.box _ _ _ 6 _ _ _ _ rfl rfl rfl rfl rfl rfl) <| .cons (.tmp _ _ rfl) <| .nil,.cons _ (.cons _ (.cons _ (.cons _ (.cons _ (.cons _ (.cons _ (.refl _))))))),?_⟩
    rw [hpe,hme]
    exact Eq.trans rfl (congrArg (fun q:Gp×Bool=>AV.tuple [.agg (cGp q.1),.bool q.2]) (vX hc1 hR2)).symm

set_option maxHeartbeats 1600000
set_option maxRecDepth 20000

theorem Sx (T:List Sc)(V:List Va)(e:Ex)(hk:KOK T V e)(hse:At e≤1048576):Ax Tryz.prog 84 [.agg (Cq T V),.agg (cE e)] (.bool (B7 T V e)):=by
 refine Ax.body (n:=47) Ai Tryz.func84 rfl rfl rfl fun H=>?_
 refine Ah (Qp (F5 [_,_]) (Qp La (Qp Bg (Dh ?_))))
 refine Qp (C3 (v:=.fn _ _ _) rfl) ?_
 refine Ag (AW.seq (AW.block (Ah (Qp Kv (Qp Bt (Qp A7 (Qp Bg (Ag (A5 (fun hc1=>?_) fun hc1=>?_)))))))))
 ·
  refine Ah (Qp Bg (Ag (AW.ret (Bc (Aj ?_)))))
  refine Qr (.bool _) ?_
  exact Eq.trans rfl (congrArg (fun q:Bool=>AV.bool q) (vI hc1)).symm
 ·
  refine Ah (Qp D1 ?_)
  refine Qp (Qc rfl (X9 e)) ?_
  refine Qp Gt (Qp Bg (Ag (A5 (fun hc2=>?_) fun hc2=>?_)))
  ·
   refine Ah (Qp Bg (Ag (AW.ret (Bc (Aj ?_)))))
   refine Qr (.bool _) ?_
   exact Eq.trans rfl (congrArg (fun q:Bool=>AV.bool q) (gT hc1 hc2)).symm
  ·
   refine Ah (Qp (Cm [_,_]) (Qp D1 ?_))
   refine Qp (Qc rfl (R3 T V e hk)) ?_
   refine Qp Bg (Ag (A5 (fun hc3=>?_) fun hc3=>?_))
   ·
    refine AW.seq ?_
    have hcmp:Cv e=true:=by simpa using ‹(!Cv e)=false›
    have h2:=K3 hk hcmp
    have h00:0<e.args.length:=by omega
    have hsz:=Dy h2
    have hk0:=A3 hk (A6 h00)
    have hk1:=A3 hk (Bk h2)
    refine AW.region ?_
    refine Qp (Bl (v:=.fn _ _ _) rfl) ?_
    refine Qp K7 (Qp Dm ?_)
    refine Qp (Af (c:=[Iq _,_,Iq _,Iq _,Iq _,Iq _,Iq _,.str _]) Ai rfl rfl rfl rfl rfl rfl (by decide) (Fq h00)) ?_
    refine Qp D1 ?_
    refine Qp (D2 (by kernel_rfl) rfl rfl rfl (gH (Ao e))) ?_
    refine Qp Br ?_
    refine AOL.Aa6 (y:=.fn _ _ _) _ [] rfl (sF.all trivial) (fun hG=>Bl (v:=.fn _ _ _) rfl) rfl ?_
    refine Qg [] Qw K7 (Qg [(28,_)] Qw Dm ?_)
    refine AOL.Aa6 (y:=.ptr _) _ [(29,_)] rfl (sF.all ⟨Ent.Aa3 _ _,trivial⟩) (fun hG=>Af (c:=[Iq _,_,Iq _,Iq _,Iq _,Iq _,Iq _,.str _]) Ai rfl rfl rfl rfl rfl rfl (by decide) (Id h2)) rfl ?_
    refine Qg [(30,_)] Qw D1 ?_
    refine AOL.Aa6 (y:=.bool _) _ [(31,_),(27,_)] rfl (sF.all ⟨Ent.Aa3 _ _,Ent.Aa3 _ _,trivial⟩) (fun hG=>D2 (by kernel_rfl) rfl rfl rfl (gH (Bi e))) rfl ?_
    refine Qp E3 (Qp Bg (Ag (AW.ret (Bc (Aj ?_)))))
    refine Qr (.bool _) ?_
    exact Eq.trans rfl (congrArg (fun q:Bool=>AV.bool q) (yP hc1 hc2 hc3)).symm
   ·
    refine AW.skip (Bs (Ae (AW.seq ?_)))
    have hcmp:Cv e=true:=by simpa using ‹(!Cv e)=false›
    have h2:=K3 hk hcmp
    have h00:0<e.args.length:=by omega
    have hsz:=Dy h2
    have hk0:=A3 hk (A6 h00)
    have hk1:=A3 hk (Bk h2)
    refine AW.draw mixed (fun _=>True) trivial (by kernel_rfl) ?_
    refine Qn 0 rfl K7 (Qn 1 rfl Dm ?_)
    refine Qn 2 rfl (Af (c:=[Iq _,_,Iq _,Iq _,Iq _,Iq _,Iq _,.str _]) Ai rfl rfl rfl rfl rfl rfl (by decide) (Fq h00)) ?_
    refine Qn 3 rfl D1 (Qn 4 rfl K7 (Qn 5 rfl Dm ?_))
    refine Qn 6 rfl (Af (c:=[Iq _,_,Iq _,Iq _,Iq _,Iq _,Iq _,.str _]) Ai rfl rfl rfl rfl rfl rfl (by decide) (Id h2)) ?_
    refine Qn 7 rfl D1 ?_
    refine Qn 8 rfl (Qc rfl (Z0 _ _ hk0.nodes hk1.nodes (by omega))) ?_
    refine Qn 9 rfl Mx ?_
    refine Qn 10 rfl (Cd (v:=.agg [_,_,Iq _]) rfl rfl) ?_
    refine Qn 11 rfl kA ?_
    refine Jx.eff _ _ 12 _ _ rfl (by kernel_rfl) rfl rfl (Al (l:=[.sl 3 [],.sl 3 [],.int .i64 0]) (by kernel_rfl)) (fun _ _ _=>trivial) ?_
    rintro _ _ ⟨b6,rfl,rfl⟩
    refine Jx.eff _ _ 13 _ _ rfl (by kernel_rfl) rfl rfl (C7 (k:=0) (v:=.agg _) (cs':=[_,_,Iq _]) (H2:=_::_) Ai rfl rfl rfl rfl (rfl) rfl rfl rfl rfl) (fun _ _ _=>trivial) ?_
    rintro _ _ ⟨rfl,rfl⟩
    refine Qn 14 rfl Bg ?_
    refine Jx.done _ _ (by kernel_rfl) ?_
    refine Ae ?_
    refine AW.ghost (GS.Aa4 (t:=6) 0 rfl rfl) ?_
    refine Ah (Qp Br (Qp Bg (Ag (AW.ret ?_))))
    refine Qr (.bool _) ?_
    exact Eq.trans rfl (congrArg (fun q:Bool=>AV.bool q) (zD hc1 hc2 hc3)).symm


set_option maxHeartbeats 3200000
set_option maxRecDepth 20000

theorem tJ (a b:List (List Lit))(hla:a.length≤512)(hlb:b.length≤512)(ha:∀x∈a,x.length≤1048576)(hb:∀x∈b,x.length≤1048576):Ax Tryz.prog 106 [.sl 1 (a.map Po),.sl 1 (b.map Po)] (.tuple [.sl 1 ((Ma a b).1.map Po),.bool (Ma a b).2]):=by
 refine Ax.body (n:=40) Ai Tryz.func106 rfl rfl rfl fun H=>?_
 refine Ah ?_
 refine Qp (B2 (z:=1) rfl) ?_
 refine Qp Bg (Ag (AW.seq (Ah (Qp C6 ?_))))
 refine Qp (Ak (n:=a.length) Ai rfl rfl rfl (by simp)) ?_
 refine Qp C6 ?_
 refine Qp (Ak (n:=b.length) Ai rfl rfl rfl (by simp)) ?_
 refine Qp (vL rfl rfl rfl (by constructor <;> (have h1:(0:Int)≤(a.length:Int)*(b.length:Int):=Int.mul_nonneg (by omega) (by omega);have h2:(a.length:Int)*(b.length:Int)≤512*512:=Int.mul_le_mul (by omega) (by omega) (by omega) (by omega);omega))) ?_
 refine Qp Hi (Ag (A5 (fun hc1=>?_) fun hc1=>?_))
 ·
  refine Ah ?_
  refine Qp (B2 (z:=1) rfl) ?_
  refine Qp Bg (Ag (Du ?_))
  refine Ko (.sl _ _) (.bool _) ?_
  exact Eq.trans rfl (congrArg (fun q:Cs=>AV.tuple [.sl 1 (q.1.map Po),.bool q.2]) (oX hc1)).symm
 ·
  refine Bz (Ah (Qp N8 ?_))
  refine AOL.ghost (GS.row (t:=6) 71 1 rfl) ?_
  refine Ag (AW.seq (Ah (Qp C6 ?_)))
  refine Qp (Ak (n:=a.length) Ai rfl rfl rfl (by simp)) ?_
  refine Qp A2 (Ag (AW.block ?_))
  refine AW.Aa5 (fun (p:Nat×List (List AV)×Value)=>(⟨[(0,.sl 1 (a.map Po)),(1,.sl 1 (b.map Po)),(5,.bool false),(6,.row p.2.2 1 p.2.1),(17,.sl 1 (a.map Po)),(18,.int .i64 a.length),(19,.int .i64 (p.1:Int))],.row p.2.2 p.2.1.length 71 1::H,40⟩:St)) (fun (p:Nat×List (List AV)×Value)=>p.1≤a.length∧p.2.1=((a.take p.1).flatMap fun x=>b.map fun y=>x++y).map Po) (fun (p:Nat×List (List AV)×Value)=>a.length-p.1) ((0,[],.slice none 0 0)) ?_ (GS.weaken ⟨rfl,rfl,rfl,rfl,rfl,rfl,rfl,trivial⟩ (.refl _)) ?_
  · exact ⟨Nat.zero_le _,rfl⟩
  ·
   rintro p hR
   refine Ah (Qp Cl (Ag (AW.seq (A5 (fun hc2=>?_) fun hc2=>?_))))
   ·
    obtain ⟨x,hx⟩:=B4 hc2
    have hlx:=Bb hx
    have hxl:=ha x (List.mem_of_getElem? hx)
    refine Bz (AW.seq (AW.block (Ah ?_)))
    refine Qp (Af (c:=[_]) Ai rfl rfl rfl rfl rfl rfl (by omega) (Bj hx)) ?_
    refine Qp Dm (Qp Vy (Dh (Qp C6 ?_)))
    refine Qp (Ak (n:=b.length) Ai rfl rfl rfl (by simp)) ?_
    refine Qp A2 (Ag (AW.block ?_))
    refine AW.Aa5 (fun (q:Nat×List (List AV)×Value)=>(⟨[(0,.sl 1 (a.map Po)),(1,.sl 1 (b.map Po)),(5,.bool false),(6,.row q.2.2 1 q.2.1),(8,.sl 9 (x.map G5)),(17,.sl 1 (a.map Po)),(18,.int .i64 a.length),(19,.int .i64 (p.1:Int)),(23,.sl 1 (b.map Po)),(24,.int .i64 b.length),(25,.int .i64 (q.1:Int))],.row q.2.2 q.2.1.length 71 1::H,40⟩:St)) (fun (q:Nat×List (List AV)×Value)=>q.1≤b.length∧q.2.1=(((a.take p.1).flatMap fun x=>b.map fun y=>x++y)++(b.take q.1).map fun y=>x++y).map Po∧True) (fun (q:Nat×List (List AV)×Value)=>b.length-q.1) ((0,p.2.1,p.2.2)) ?_ (GS.weaken ⟨rfl,rfl,rfl,rfl,rfl,rfl,rfl,rfl,rfl,rfl,rfl,trivial⟩ (.refl _)) ?_
    · exact ⟨Nat.zero_le _,by simp only [List.take_zero,List.map_nil,List.append_nil];exact hR.2,trivial⟩
    ·
     rintro q hQ
     refine Ah (Qp Cl (Ag (AW.seq (A5 (fun hc3=>?_) fun hc3=>?_))))
     ·
      obtain ⟨y,hy⟩:=B4 hc3
      have hly:=Bb hy
      have hyl:=hb y (List.mem_of_getElem? hy)
      have hple:=prod_le hlx hly hc1
      refine Bz (AW.seq (AW.block (Ah ?_)))
      refine Qp (Af (c:=[_]) Ai rfl rfl rfl rfl rfl rfl (by omega) (Bj hy)) ?_
      refine Qp Dm (Qp Vy (Ag ?_))
      have hsx:∀c∈(x.map G5),Bh c=true:=Fo fun _=>rfl
      have hsy:∀c∈(y.map G5),Bh c=true:=Fo fun _=>rfl
      have hscx:∀c∈(x.map G5++y.map G5),Bh c=true:=fun c hc=>(List.mem_append.1 hc).elim (hsx c) (hsy c)
      have hso:∀c∈q.2.1,Bh c=true:=by rw [hQ.2.1];exact Fo fun _=>rfl
      have hql:q.2.1.length<256:=by rw [hQ.2.1,List.length_map,List.length_append,kB,List.length_map,List.length_take,List.length_take,Nat.min_eq_left (Nat.le_of_lt hlx),Nat.min_eq_left (Nat.le_of_lt hly)];exact hple
      refine AW.region ?_
      refine Qp (Bl (v:=.row _ _ _) rfl) ?_
      refine Qe (R6 (es:=[]) Ai rfl rfl rfl rfl rfl rfl rfl rfl rfl) ?_
      rintro _ _ ⟨v30,rfl,rfl⟩
      refine Qp C6 ?_
      refine Qe (Dn (k:=0) Ai rfl rfl rfl rfl rfl rfl rfl rfl (hsx) (xH) (by simp;omega) (by simp [maxLen];omega)) ?_
      rintro _ _ ⟨v32,rfl,rfl⟩
      refine Qp C6 ?_
      refine Qe (Dn (k:=0) Ai rfl rfl rfl rfl rfl rfl rfl rfl (hsy) (hsx) (by simp;omega) (by simp [maxLen];omega)) ?_
      rintro _ _ ⟨v34,rfl,rfl⟩
      refine AOL.ghost (GS.unrow 34 rfl) ?_
      refine Qp (A1 (es:=[[_]]) Ai rfl rfl rfl rfl rfl rfl rfl rfl rfl) ?_
      refine Qe (Dn (k:=1) Ai rfl rfl rfl rfl rfl rfl rfl rfl (Hg rfl) (hso) (by simp;omega) (by simp [maxLen];omega)) ?_
      rintro _ _ ⟨v36,rfl,rfl⟩
      refine Qp (C3 (v:=.row _ _ _) rfl) ?_
      refine AOL.nil (Bs (Ae (AW.region (Qp Fx (Qp A2 (Ag ?_))))))
      refine ⟨(q.1+1,q.2.1 ++ [[.sl 9 (x.map G5++y.map G5)]],v36),?_,?_,GS.weaken ⟨rfl,rfl,rfl,rfl,rfl,rfl,rfl,rfl,rfl,rfl,rfl,trivial⟩ (.cons _ (.refl _))⟩
      · exact ⟨hly,by simp only;rw [Cu hy,hQ.2.1];simp [Po],trivial⟩
      · simp only;omega
     ·
      have hte:=C5 hc3
      have hall:=hQ.2.1
      rw [hte] at hall
      refine AW.exit ?_
      refine A8 (A8 (Bw (Bs (Ae (AW.region (Qp Fx (Qp A2 (Ag ?_))))))))
      refine ⟨(p.1+1,q.2.1,q.2.2),?_,?_,GS.weaken ⟨rfl,rfl,rfl,rfl,rfl,rfl,rfl,trivial⟩ (.refl _)⟩
      · exact ⟨hlx,by simp only;rw [qV hx];exact hall⟩
      · simp only;omega
   ·
    have hte:=C5 hc2
    have hall:=hR.2
    rw [hte] at hall
    refine AW.exit ?_
    refine A8 (A8 (Bw (Ae (Ah ?_))))
    refine Qp (Bl (v:=.row _ _ _) rfl) ?_
    refine AOL.ghost (GS.unrow 39 rfl) ?_
    refine Qp Vy (Qp Bg (Ag (AW.ret ?_)))
    refine ⟨.inr rfl,[.sl _ _,.bool _],.cons (.tmp _ _ rfl) <| .cons (.tmp _ _ rfl) <| .nil,.cons _ (.refl _),?_⟩
    rw [hall]
    exact Eq.trans rfl (congrArg (fun q:Cs=>AV.tuple [.sl 1 (q.1.map Po),.bool q.2]) (eV hc1)).symm
end Go.Proofs.YtkddpedfbicbeaaGreatDoor
