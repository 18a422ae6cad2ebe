/-
  Several texts in one: Z3, Y18, Aub, Z4, Z5, Z6, G11, Ab. No condition.
-/
import Derived.Test.YtjedflcpjlgokaaGreatDoorAz
import Derived.Test.YtjedflcpjlgokaaGreatDoorK33
import Derived.KernelRfl
import Derived.Test.YtjedflcpjlgokaaGreatDoorK22
import Derived.Test.YtjedflcpjlgokaaGreatDoorK23
import Derived.Test.YtjedflcpjlgokaaGreatDoorK31
import Derived.Test.YtjedflcpjlgokaaGreatDoorAx
import Derived.Test.YtjedflcpjlgokaaGreatDoorCards
import Derived.Test.YtjedflcpjlgokaaGreatDoorTie
import Derived.Deep.DeepHandedRow
import Derived.Lib.LaidTab
import Derived.OpenShut
set_option linter.unusedVariables false
set_option linter.unusedSimpArgs false
namespace Go.Proofs.YtjedflcpjlgokaaGreatDoor
open Go Go.Aw
set_option maxHeartbeats 3200000
set_option maxRecDepth 20000

theorem pl_at {k:Nat}(h:k<3):([[.int .i64 2],[.int .i64 2],[.int .i64 1]]:List (List AV))[((k:Nat):Int).toNat]? = some [.int .i64 (plW k)]:=by
 have:k=0∨k=1∨k=2:=by omega
 rcases this with rfl | rfl | rfl <;> rfl
theorem vI (T:List Sc)(hl:T.length≤1048576)(hst:∀s∈T,Is s)(V:List Va)(hvl:V.length≤1048576)(a b:Ex)(ha:Av a≤1048576)(hb:Av b≤1048576) :
  A1 Tryz.prog 10 [.sl 2 (T.map N5),.sl 2 (V.map Tp),.sl 8 [cE a,cE b]] (.tuple [.int .i64 (B6 T V [a,b]).1,.sl 5 ((B6 T V [a,b]).2.1.map aZ),.int .i64 (B6 T V [a,b]).2.2]):=by
 have h:=Vt T hl hst V hvl [a,b] (show 2≤60 by decide) (fun e he=>by
  rcases List.mem_cons.1 he with rfl | he
  · exact ha
  · rw [List.mem_singleton.1 he];exact hb)
 rw [show [a,b].map Gq = [cE a,cE b] by simp only [List.map_cons,List.map_nil,Ko]] at h
 exact h
theorem xD (T:List Sc)(hl:T.length≤1048576)(hst:∀s∈T,Is s)(V:List Va)(hvl:V.length≤1048576)(a:Ex)(ha:Av a≤1048576) :
  A1 Tryz.prog 10 [.sl 2 (T.map N5),.sl 2 (V.map Tp),.sl 8 [cE a]] (.tuple [.int .i64 (B6 T V [a]).1,.sl 5 ((B6 T V [a]).2.1.map aZ),.int .i64 (B6 T V [a]).2.2]):=by
 have h:=Vt T hl hst V hvl [a] (show 1≤60 by decide) (fun e he=>by rw [List.mem_singleton.1 he];exact ha)
 rw [show [a].map Gq = [cE a] by simp only [List.map_cons,List.map_nil,Ko]] at h
 exact h
theorem sN  : A1 Tryz.prog 6 [] (.bool true):=by
 refine A1.body (n:=41) Aj Tryz.func6 rfl rfl rfl fun H=>?_
 refine Ah (Qp Bb (Dv (Qp (Ij [.str _,Iq _]) ?_)))
 refine Qp (A3 (es:=[[.str _,Iq _]]) Aj rfl rfl rfl rfl rfl rfl rfl rfl rfl) ?_
 refine Qp (Ij [.str _,_]) ?_
 refine Qp (A3 (es:=[[.str _,_]]) Aj rfl rfl rfl rfl rfl rfl rfl rfl rfl) ?_
 refine Qp Sx (Dv (Qp (Ij [.str _,Iq _]) (Qp (Ij [.str _,Iq _]) ?_)))
 refine Qp (A3 (es:=[[.str _,Iq _],[.str _,Iq _]]) Aj rfl rfl rfl rfl rfl rfl rfl rfl rfl) ?_
 refine Qp Sx (Ag (AW.seq (Ah ?_)))
 refine Qp (A3 (es:=[[Iq _],[Iq _],[Iq _]]) Aj rfl rfl rfl rfl rfl rfl rfl rfl rfl) ?_
 refine Qp (Al (n:=3) Aj rfl rfl rfl (rfl)) ?_
 refine Qp Az (Ag (AW.block ?_))
 refine AW.Aa3 (fun (k:Nat)=>(⟨[(1,.sl 2 (plT.map N5)),(2,.sl 2 (plV.map Tp)),(15,.sl 1 [[.int .i64 2],[.int .i64 2],[.int .i64 1]]),(16,.int .i64 3),(17,.int .i64 (k:Int))],H,41⟩:St)) (fun (k:Nat)=>k≤3) (fun (k:Nat)=>3-k) (0) ?_ (GS.weaken ⟨rfl,rfl,rfl,rfl,rfl,trivial⟩ (.refl _)) ?_
 · exact Nat.zero_le _
 ·
  rintro k hR
  refine Ah (Qp Co (Ag (AW.seq (A4 (fun hc1=>?_) fun hc1=>?_))))
  ·
   have hk3:k<3:=by have:=of_decide_eq_true hc1;omega
   have hpl:=pl_k hk3
   refine Bx (AW.seq (AW.block (Ah (Qp Az ?_))))
   refine Qp (Af (c:=[Iq _]) Aj rfl rfl rfl rfl rfl rfl (by omega) (pl_at hk3)) ?_
   refine Qp B2 (Qp Aq (Qp Aq (Dv (Qp Dm (Qp Dm ?_)))))
   refine Qp (Qc rfl (kN _ _ _ _)) ?_
   refine Qp Az ?_
   refine Qp (Qc rfl (kN _ _ _ _)) ?_
   refine Qp (A3 (es:=[[Iq _,_,Iq _,Iq _,Iq _,Iq _,Iq _,.str _],[Iq _,_,Iq _,Iq _,Iq _,Iq _,Iq _,.str _]]) Aj rfl rfl rfl rfl rfl rfl rfl rfl rfl) ?_
   refine Qp (Qc rfl (vI plT (by decide) pl_sc plV (by decide) (Q0 7 0 1 0) (Q0 7 1 0 (k:Int)) (jE ..) (jE ..))) ?_
   refine Qp Om (Qp Kn (Qp qE (Qp Kn (Qp Aq (Qp Sx (Qp Aq (Dv (Qp Az (Qp C1 ?_)))))))))
   refine Qp Bt (Qg [] Qw Az (Qg [] Qw Az ?_))
   refine AOL.Aa5 (y:=.bool _) _ [(36,_),(37,_)] rfl (nI.all ⟨Ent.Aa1 _ _,Ent.Aa1 _ _,trivial⟩) (fun hG=>Yc rfl rfl) rfl ?_
   refine Qp Ew (Ag (A4 (fun hc2=>?_) fun hc2=>?_))
   ·
    exact absurd hc2 (by rw [hpl.1,hpl.2];simp)
   ·
    refine AW.skip (Bn (Ad (AW.region (Qp Fb (Qp Az (Ag ?_))))))
    refine ⟨k+1,?_,?_,GS.weaken ⟨rfl,rfl,rfl,rfl,rfl,trivial⟩ (.refl _)⟩
    · exact hk3
    · omega
  ·
   refine AW.exit ?_
   refine A2 (A2 (Bo (Ad (Ah (Qp Bb (Ag (AW.ret ?_)))))))
   refine Qr (.bool _) ?_
   rfl
theorem Wl (T:List Sc)(hl:T.length≤1048576)(hst:∀s∈T,Is s)(V:List Va)(hvl:V.length≤1048576)(c:List Lit)(hcl:c.length≤1048576)(hcs:∀y∈c,Av y.cond≤1048576):A1 Tryz.prog 11 [.agg (B9 T V),.sl 9 (c.map Fy)] (.bool (c.any (Ow T V))):=by
 refine A1.body (n:=46) Aj Tryz.func11 rfl rfl rfl fun H=>?_
 refine Ah (Qp (It [_,_]) (Qp Bb (Ag (AW.seq (Ah (Qp Dm ?_))))))
 refine Qp (Al (n:=c.length) Aj rfl rfl rfl (by simp)) ?_
 refine Qp Az (Ag (AW.block ?_))
 refine AW.Aa3 (fun (k:Nat)=>(⟨[(1,.sl 9 (c.map Fy)),(2,.ptr (B9 T V)),(9,.sl 9 (c.map Fy)),(10,.int .i64 c.length),(11,.int .i64 (k:Int))],H,46⟩:St)) (fun (k:Nat)=>k≤c.length∧(c.take k).any (Ow T V)=false) (fun (k:Nat)=>c.length-k) (0) ?_ (GS.weaken ⟨rfl,rfl,rfl,rfl,rfl,trivial⟩ (.refl _)) ?_
 · exact ⟨Nat.zero_le _,by simp⟩
 ·
  rintro k hR
  refine Ah (Qp Co (Ag (AW.seq (A4 (fun hc1=>?_) fun hc1=>?_))))
  ·
   obtain ⟨y,hy⟩:=B5 hc1
   have hlt:=Bh hy
   have hsy:=hcs y (List.mem_of_getElem? hy)
   refine Bx (AW.seq (AW.block (Ah ?_)))
   refine Qp (Af (c:=[Iq _,_,Iq _,Iq _,Iq _,Iq _,Iq _,.str _,.bool _]) Aj rfl rfl rfl rfl rfl rfl (by omega) (B1 hy)) ?_
   refine Qp (C8 [Iq _,_,Iq _,Iq _,Iq _,Iq _,Iq _,.str _,.bool _]) ?_
   refine Qe (A0 (l:=[.int .i64 0,.sl 8 [],.int .i64 0,.int .i64 0,.int .i64 0,.int .i64 0,.int .i64 0,.str [],.bool false]) (by kernel_rfl)) ?_
   rintro _ _ ⟨b6,rfl,rfl⟩
   refine Eu 0 [Iq _,_,Iq _,Iq _,Iq _,Iq _,Iq _,.str _,.bool _] (_::_) ?_
   refine AOL.ghost (GS.Aa2 (t:=6) 0 rfl rfl) ?_
   refine Ag (AW.seq (Ah (Qp (Qf [Iq _,_,Iq _,Iq _,Iq _,Iq _,Iq _,.str _,.bool _]) (Qp (Qf [Iq _,_,Iq _,Iq _,Iq _,Iq _,Iq _,.str _,.bool _]) (Qp B2 (Qp C1 (Qp Bt (Qg [] Qw (Qf [Iq _,_,Iq _,Iq _,Iq _,Iq _,Iq _,.str _,.bool _]) (Qg [(20,_)] Qw (Qf [_,Iq _,Iq _,Iq _,Iq _,Iq _,.str _,.bool _]) ?_)))))))))
   refine Qg [(21,_)] Qw D1 ?_
   refine AOL.Aa5 (y:=Iq _) _ [(22,_)] rfl (nI.all ⟨Ent.Aa1 _ _,trivial⟩) (fun hG=>Al (n:=y.cond.args.length) Aj rfl rfl rfl (by simp)) rfl ?_
   refine Qg [(23,_)] Qw Ba (Qp Ew (Ag (A4 (fun hc2=>?_) fun hc2=>?_)))
   ·
    refine AW.exit ?_
    refine A2 (Bo (Ad (AW.region (Qp Fb (Qp Az (Ag ?_))))))
    refine ⟨k+1,?_,?_,GS.weaken ⟨rfl,rfl,rfl,rfl,rfl,trivial⟩ (.refl _)⟩
    · exact ⟨hlt,Ik hR.2 hy (vY hc2)⟩
    · omega
   ·
    have h00:=uK hc2
    refine Bx (AW.seq ?_)
    refine AW.draw mixed (fun _=>True) trivial (by kernel_rfl) ?_
    refine Qn 0 rfl (Qf [_,_]) (Qn 1 rfl D1 (Qn 2 rfl (Qf [_]) (Qn 3 rfl D1 (Qn 4 rfl (Qf [Iq _,_,Iq _,Iq _,Iq _,Iq _,Iq _,.str _,.bool _]) (Qn 5 rfl (Qf [_,Iq _,Iq _,Iq _,Iq _,Iq _,.str _,.bool _]) (Qn 6 rfl D1 ?_))))))
    refine Qn 7 rfl (Af (c:=[Iq _,_,Iq _,Iq _,Iq _,Iq _,Iq _,.str _]) Aj rfl rfl rfl rfl rfl rfl (by decide) (Gf h00)) ?_
    refine Qn 8 rfl E2 ?_
    refine Qn 9 rfl (Qc rfl (c31 T hl hst V hvl (Ap y.cond) (Nat.le_trans (Nat.le_of_lt (E9 (Ax h00))) hsy))) ?_
    refine Qn 10 rfl Om (Qn 11 rfl Kn (Qn 12 rfl Kn (Qn 13 rfl Aq (Qn 14 rfl Aq ?_))))
    refine Iu.done _ _ (by kernel_rfl) ?_
    refine Ad (Ah (Qp Az (Qp C1 (Qp Bt (Qg [] Qw Az (Qg [(42,_)] Qw Ba (Qp Ew (Ag (A4 (fun hc3=>?_) fun hc3=>?_)))))))))
    ·
     refine Ah (Qp Bb (Ag (AW.ret (A6 (Ai (Ai (A6 (Ai ?_))))))))
     refine Qr (.bool _) ?_
     exact Eq.trans rfl (congrArg (fun q:Bool=>AV.bool q) (Tg hy (xS hc2 hc3))).symm
    ·
     refine AW.skip (Bn (Ad (AW.region (Qp Fb (Qp Az (Ag ?_))))))
     refine ⟨k+1,?_,?_,GS.weaken ⟨rfl,rfl,rfl,rfl,rfl,trivial⟩ (.refl _)⟩
     · exact ⟨hlt,Ik hR.2 hy (xO hc2 hc3)⟩
     · omega
  ·
   have hte:=Cg hc1
   have hall:=hR.2
   rw [hte] at hall
   refine AW.exit ?_
   refine A2 (A2 (Bo (Ad (Ah (Qp Bb (Ag (AW.ret ?_)))))))
   refine Qr (.bool _) ?_
   exact Eq.trans rfl (congrArg (fun q:Bool=>AV.bool q) (hall)).symm


end Go.Proofs.YtjedflcpjlgokaaGreatDoor

namespace Go.Aw
open Go

section
variable {P:Program} {T:List (Nat×TD)} {d:Option Nat} {ty:TypeId} {pos:String} {aft:Array Edge} {gd:Option (Nat×Bool)} {ρ:Operand→AV} {K:List HO→Prop}
end
end Go.Aw

namespace Go.Proofs.YtjedflcpjlgokaaGreatDoor
open Go Go.Aw

theorem vV {a:Ex}(ha:Av a≤1048576):∀e∈[a],Av e≤1048576:=fun e he=>by rw [List.mem_singleton.1 he];exact ha
structure ChainOK (T:List Sc) (V:List Va) (a b c:Ex):Prop where
 a:CondOK T V a
 b:CondOK T V b
 c:CondOK T V c
set_option maxHeartbeats 6400000
set_option maxRecDepth 20000

theorem qT (z:Zn)(hzl:z.bs.length≤1048576)(hm:∀b∈z.bs,-H6≤b.most∧b.most≤H6)(c:List Int)(hc:c.length≤1048576):A1 Tryz.prog 15 [.agg (Ss z),.sl 1 (c.map cI)] (.int .i64 (Hp z c)):=by
 refine A1.body (n:=65) Aj Tryz.func15 rfl rfl rfl fun H=>?_
 refine Ah (Qp (It [Iq _,_]) (Qp Aq (Ag (AW.seq (Ah (Qp (C8 [Iq _,_]) ?_))))))
 refine Qp (Qc rfl (Tz z)) ?_
 refine Qp Aq (Dv (Qp Az (Qp C1 (Ag (A4 (fun hc1=>?_) fun hc1=>?_)))))
 ·
  refine Ah (Qp Az (Qp Aq (Ag (D4 ?_))))
  refine Qr (Iq _) ?_
  first
   | exact Eq.trans rfl (congrArg (fun q:Int=>AV.int .i64 q) (Wg hc1)).symm
   | exact Eq.trans rfl (congrArg (fun q:Int=>AV.int .i64 q) (Uu hc1 hc2)).symm
   | exact Eq.trans rfl (congrArg (fun q:Int=>AV.int .i64 q) (Vb hc1 hc2 hc3)).symm
   | exact Eq.trans rfl (congrArg (fun q:Int=>AV.int .i64 q) (Ua hc1 hc2 hc3 (Mc hlt ((Jx hi hi2).trans (by assumption))))).symm
   | exact Eq.trans rfl (congrArg (fun q:Int=>AV.int .i64 q) (Vk hc1 hc2 hc3 hall2 (by rw [←hsm];assumption))).symm
   | exact Eq.trans rfl (congrArg (fun q:Int=>AV.int .i64 q) (Uo hc1 hc2 hc3 hall2 (by rw [←hsm];assumption))).symm
 ·
  refine Bx (AW.seq (AW.block (Ah (Qp Dm ?_))))
  refine Qp (Al (n:=c.length) Aj rfl rfl rfl (by simp)) ?_
  refine Qp Ba (Qp Bt (Qg [] Qw Dm ?_))
  refine AOL.Aa5 (y:=Iq _) _ [(21,_)] rfl (nI.all ⟨Ent.Aa1 _ _,trivial⟩) (fun hG=>Al (n:=c.length) Aj rfl rfl rfl (by simp)) rfl ?_
  refine Qg [(22,_)] Qw Gl (Qp Ew (Qp Bb (Ag (A4 (fun hc2=>?_) fun hc2=>?_))))
  ·
   refine Ah (Qp Aq (Ag (AW.ret (A6 (Ai ?_)))))
   refine Qr (Iq _) ?_
   first
    | exact Eq.trans rfl (congrArg (fun q:Int=>AV.int .i64 q) (Wg hc1)).symm
    | exact Eq.trans rfl (congrArg (fun q:Int=>AV.int .i64 q) (Uu hc1 hc2)).symm
    | exact Eq.trans rfl (congrArg (fun q:Int=>AV.int .i64 q) (Vb hc1 hc2 hc3)).symm
    | exact Eq.trans rfl (congrArg (fun q:Int=>AV.int .i64 q) (Ua hc1 hc2 hc3 (Mc hlt ((Jx hi hi2).trans (by assumption))))).symm
    | exact Eq.trans rfl (congrArg (fun q:Int=>AV.int .i64 q) (Vk hc1 hc2 hc3 hall2 (by rw [←hsm];assumption))).symm
    | exact Eq.trans rfl (congrArg (fun q:Int=>AV.int .i64 q) (Uo hc1 hc2 hc3 hall2 (by rw [←hsm];assumption))).symm
  ·
   refine Ah (Qp Dm ?_)
   refine Qp (Gr (l:=[]) (l':=[.ptr _]) rfl rfl) ?_
   refine Qp (Qc rfl (P8 c hc 45 (by kernel_rfl) [.ptr (Ss z)] (Mz z.bs) (fun a _=>nV a z))) ?_
   refine Qp Bb (Ag (A4 (fun hc3=>?_) fun hc3=>?_))
   ·
    refine Ah (Qp Aq (Ag (AW.ret (A6 (Ai ?_)))))
    refine Qr (Iq _) ?_
    first
     | exact Eq.trans rfl (congrArg (fun q:Int=>AV.int .i64 q) (Wg hc1)).symm
     | exact Eq.trans rfl (congrArg (fun q:Int=>AV.int .i64 q) (Uu hc1 hc2)).symm
     | exact Eq.trans rfl (congrArg (fun q:Int=>AV.int .i64 q) (Vb hc1 hc2 hc3)).symm
     | exact Eq.trans rfl (congrArg (fun q:Int=>AV.int .i64 q) (Ua hc1 hc2 hc3 (Mc hlt ((Jx hi hi2).trans (by assumption))))).symm
     | exact Eq.trans rfl (congrArg (fun q:Int=>AV.int .i64 q) (Vk hc1 hc2 hc3 hall2 (by rw [←hsm];assumption))).symm
     | exact Eq.trans rfl (congrArg (fun q:Int=>AV.int .i64 q) (Uo hc1 hc2 hc3 hall2 (by rw [←hsm];assumption))).symm
   ·
    refine AW.skip (Bn (Ad (Ah (Qp Aq (Ag (AW.seq (Ah (Qp Dm ?_))))))))
    refine Qp (Al (n:=c.length) Aj rfl rfl rfl (by simp)) ?_
    refine Qp Az (Ag (AW.block ?_))
    refine AW.Aa3 (fun (p:Nat×Int)=>(⟨[(1,.sl 1 (c.map cI)),(2,.ptr (Ss z)),(6,.int .i64 p.2),(29,.sl 1 (c.map cI)),(30,.int .i64 c.length),(31,.int .i64 (p.1:Int))],H,65⟩:St)) (fun (p:Nat×Int)=>p.1≤c.length∧((List.range c.length).take p.1).any (K9 z.bs c)=false∧p.2=Na z.bs (c.take p.1)∧-(p.1:Int)*140737488355329≤p.2∧p.2≤(p.1:Int)*140737488355329) (fun (p:Nat×Int)=>c.length-p.1) ((0,0)) ?_ (GS.weaken ⟨rfl,rfl,rfl,rfl,rfl,rfl,trivial⟩ (.refl _)) ?_
    · exact ⟨Nat.zero_le _,by simp,rfl,by simp,by simp⟩
    ·
     rintro p hR
     refine Ah (Qp Co (Ag (AW.seq (A4 (fun hc4=>?_) fun hc4=>?_))))
     ·
      obtain ⟨i,hi⟩:=B5 hc4
      have hlt:=Bh hi
      have hv:=oM hc3 hi
      obtain ⟨i2,hi2,ht0,hat⟩:=pU hlt
      have hv2:=oM hc3 hi2
      have hbm:=hm _ (List.mem_of_getElem? hv.2.2)
      have hlen:c.length≤256:=tS hc2
      have hbig:H6=140737488355329:=rfl
      refine Bx (AW.seq (AW.block (Ah (Qp Az ?_))))
      refine Qp (Af (c:=[Iq _]) Aj rfl rfl rfl rfl rfl rfl (by omega) (tB hi)) ?_
      refine Qp B2 (Qp Aq (Qp Aq (Ag (AW.seq ?_))))
      refine AW.draw mixed (fun _=>True) trivial (by kernel_rfl) ?_
      refine Qn 0 rfl (Qf [_]) (Qn 1 rfl D1 (Qn 2 rfl Az ?_))
      refine Qn 3 rfl (Af (c:=[Iq _,Iq _,Iq _]) Aj rfl rfl rfl rfl rfl rfl (hv.1) (B1 hv.2.2)) ?_
      refine Qn 4 rfl (C8 [Iq _,Iq _,Iq _]) (Qn 5 rfl (Qf [_]) (Qn 6 rfl D1 (Qn 7 rfl Dm (Qn 8 rfl Az (Qn 9 rfl Fb (Qn 10 rfl Dm ?_))))))
      refine Qn 11 rfl (Al (n:=c.length) Aj rfl rfl rfl (by simp)) ?_
      refine Qn 12 rfl (P_rem rfl rfl (by omega)) ?_
      refine Qn 13 rfl (Af (c:=[Iq _]) Aj rfl rfl rfl rfl rfl rfl (ht0) (hat)) ?_
      refine Qn 14 rfl B2 ?_
      refine Qn 15 rfl (Af (c:=[Iq _,Iq _,Iq _]) Aj rfl rfl rfl rfl rfl rfl (hv2.1) (B1 hv2.2.2)) ?_
      refine Qn 16 rfl (C8 [Iq _,Iq _,Iq _]) ?_
      refine Iu.two _ _ 17 18 _ _ _ _ rfl rfl (by kernel_rfl) rfl rfl rfl rfl (A0 (l:=[.int .i64 0,.int .i64 0,.int .i64 0]) (by kernel_rfl)) (A0 (l:=[.int .i64 0,.int .i64 0,.int .i64 0]) (by kernel_rfl)) (by rintro _ _ ⟨b9,rfl,rfl⟩;trivial) (by rintro _ _ ⟨b10,rfl,rfl⟩;trivial) ?_ ?_
      ·
       rintro _ _ ⟨b9,rfl,rfl⟩
       refine Iu.eff _ _ 18 _ _ rfl (by kernel_rfl) rfl rfl (A0 (l:=[.int .i64 0,.int .i64 0,.int .i64 0]) (by kernel_rfl)) (fun _ _ _=>trivial) ?_
       rintro _ _ ⟨b10,rfl,rfl⟩
       refine Iu.eff _ _ 19 _ _ rfl (by kernel_rfl) rfl rfl (Dc (k:=1) (v:=.agg _) (cs':=[Iq _,Iq _,Iq _]) (H2:=_::_::_) Aj rfl rfl rfl rfl (rfl) rfl rfl rfl rfl) (fun _ _ _=>trivial) ?_
       rintro _ _ ⟨rfl,rfl⟩
       refine Iu.eff _ _ 20 _ _ rfl (by kernel_rfl) rfl rfl (Dc (k:=0) (v:=.agg _) (cs':=[Iq _,Iq _,Iq _]) (H2:=_::_::_) Aj rfl rfl rfl rfl (rfl) rfl rfl rfl rfl) (fun _ _ _=>trivial) ?_
       rintro _ _ ⟨rfl,rfl⟩
       refine Iu.done _ _ (by kernel_rfl) ?_
       refine Ad ?_
       refine AW.ghost (GS.Aa2 (t:=10) 0 rfl rfl) ?_
       refine AW.ghost (GS.Aa2 (t:=9) 0 rfl rfl) ?_
       refine AW.seq (Ah (Qp (Qf [Iq _,Iq _]) (Qp B2 (Qp (Qf [Iq _,Iq _,Iq _]) (Qp B2 (Qp C1 (Ag (A4 (fun hc5=>?_) fun hc5=>?_))))))))
       ·
        refine Ah (Qp Aq (Ag (D4 (A6 (Ai (Ai (A6 (Ai ?_))))))))
        refine Qr (Iq _) ?_
        first
         | exact Eq.trans rfl (congrArg (fun q:Int=>AV.int .i64 q) (Wg hc1)).symm
         | exact Eq.trans rfl (congrArg (fun q:Int=>AV.int .i64 q) (Uu hc1 hc2)).symm
         | exact Eq.trans rfl (congrArg (fun q:Int=>AV.int .i64 q) (Vb hc1 hc2 hc3)).symm
         | exact Eq.trans rfl (congrArg (fun q:Int=>AV.int .i64 q) (Ua hc1 hc2 hc3 (Mc hlt ((Jx hi hi2).trans (by assumption))))).symm
         | exact Eq.trans rfl (congrArg (fun q:Int=>AV.int .i64 q) (Vk hc1 hc2 hc3 hall2 (by rw [←hsm];assumption))).symm
         | exact Eq.trans rfl (congrArg (fun q:Int=>AV.int .i64 q) (Uo hc1 hc2 hc3 hall2 (by rw [←hsm];assumption))).symm
       ·
        refine Bx (AW.region (Qp Az (Qp (Qf [Iq _]) (Qp B2 ?_))))
        refine Qp (Xj rfl rfl rfl (by have h4:=hR.2.2.2;constructor <;> omega)) ?_
        refine Qp Aq (AOL.nil (Bn (Ad (AW.region (Qp Fb (Qp Az (Ag ?_)))))))
        refine ⟨(p.1+1,p.2+(Re z.bs i).most),?_,?_,GS.weaken ⟨rfl,rfl,rfl,rfl,rfl,rfl,trivial⟩ (.refl _)⟩
        · exact ⟨hlt,Ik hR.2.1 (Xb hlt) (by rw [Jx hi hi2];first | exact hc5 | exact hc6 | assumption),by simp only;rw [jR hi,hR.2.2.1],by have h4:=hR.2.2.2;simp only;push_cast;omega,by have h4:=hR.2.2.2;simp only;push_cast;omega⟩
        · simp only;omega
      ·
       rintro _ _ ⟨b10,rfl,rfl⟩
       refine Iu.eff _ _ 17 _ _ rfl (by kernel_rfl) rfl rfl (A0 (l:=[.int .i64 0,.int .i64 0,.int .i64 0]) (by kernel_rfl)) (fun _ _ _=>trivial) ?_
       rintro _ _ ⟨b9,rfl,rfl⟩
       refine Iu.eff _ _ 19 _ _ rfl (by kernel_rfl) rfl rfl (Dc (k:=0) (v:=.agg _) (cs':=[Iq _,Iq _,Iq _]) (H2:=_::_::_) Aj rfl rfl rfl rfl (rfl) rfl rfl rfl rfl) (fun _ _ _=>trivial) ?_
       rintro _ _ ⟨rfl,rfl⟩
       refine Iu.eff _ _ 20 _ _ rfl (by kernel_rfl) rfl rfl (Dc (k:=1) (v:=.agg _) (cs':=[Iq _,Iq _,Iq _]) (H2:=_::_::_) Aj rfl rfl rfl rfl (rfl) rfl rfl rfl rfl) (fun _ _ _=>trivial) ?_
       rintro _ _ ⟨rfl,rfl⟩
       refine Iu.done _ _ (by kernel_rfl) ?_
       refine Ad ?_
       refine AW.ghost (GS.Aa2 (t:=9) 0 rfl rfl) ?_
       refine AW.ghost (GS.Aa2 (t:=10) 0 rfl rfl) ?_
       refine AW.seq (Ah (Qp (Qf [Iq _,Iq _]) (Qp B2 (Qp (Qf [Iq _,Iq _,Iq _]) (Qp B2 (Qp C1 (Ag (A4 (fun hc6=>?_) fun hc6=>?_))))))))
       ·
        refine Ah (Qp Aq (Ag (D4 (A6 (Ai (Ai (A6 (Ai ?_))))))))
        refine Qr (Iq _) ?_
        first
         | exact Eq.trans rfl (congrArg (fun q:Int=>AV.int .i64 q) (Wg hc1)).symm
         | exact Eq.trans rfl (congrArg (fun q:Int=>AV.int .i64 q) (Uu hc1 hc2)).symm
         | exact Eq.trans rfl (congrArg (fun q:Int=>AV.int .i64 q) (Vb hc1 hc2 hc3)).symm
         | exact Eq.trans rfl (congrArg (fun q:Int=>AV.int .i64 q) (Ua hc1 hc2 hc3 (Mc hlt ((Jx hi hi2).trans (by assumption))))).symm
         | exact Eq.trans rfl (congrArg (fun q:Int=>AV.int .i64 q) (Vk hc1 hc2 hc3 hall2 (by rw [←hsm];assumption))).symm
         | exact Eq.trans rfl (congrArg (fun q:Int=>AV.int .i64 q) (Uo hc1 hc2 hc3 hall2 (by rw [←hsm];assumption))).symm
       ·
        refine Bx (AW.region (Qp Az (Qp (Qf [Iq _]) (Qp B2 ?_))))
        refine Qp (Xj rfl rfl rfl (by have h4:=hR.2.2.2;constructor <;> omega)) ?_
        refine Qp Aq (AOL.nil (Bn (Ad (AW.region (Qp Fb (Qp Az (Ag ?_)))))))
        refine ⟨(p.1+1,p.2+(Re z.bs i).most),?_,?_,GS.weaken ⟨rfl,rfl,rfl,rfl,rfl,rfl,trivial⟩ (.refl _)⟩
        · exact ⟨hlt,Ik hR.2.1 (Xb hlt) (by rw [Jx hi hi2];first | exact hc5 | exact hc6 | assumption),by simp only;rw [jR hi,hR.2.2.1],by have h4:=hR.2.2.2;simp only;push_cast;omega,by have h4:=hR.2.2.2;simp only;push_cast;omega⟩
        · simp only;omega
     ·
      have hte:=Cg hc4
      have hall:=hR.2.1
      have hsm:=hR.2.2.1
      rw [hte] at hsm
      have hall2:=xU hc4 hall
      refine AW.exit ?_
      refine A2 (A2 (Bo (Ad (AW.seq (Ah (Qp Az (Qp Mq (Ag (A4 (fun hc7=>?_) fun hc7=>?_)))))))))
      ·
       refine Ah (Qp Aq (Ag (D4 ?_)))
       refine Qr (Iq _) ?_
       first
        | exact Eq.trans rfl (congrArg (fun q:Int=>AV.int .i64 q) (Wg hc1)).symm
        | exact Eq.trans rfl (congrArg (fun q:Int=>AV.int .i64 q) (Uu hc1 hc2)).symm
        | exact Eq.trans rfl (congrArg (fun q:Int=>AV.int .i64 q) (Vb hc1 hc2 hc3)).symm
        | exact Eq.trans rfl (congrArg (fun q:Int=>AV.int .i64 q) (Ua hc1 hc2 hc3 (Mc hlt ((Jx hi hi2).trans (by assumption))))).symm
        | exact Eq.trans rfl (congrArg (fun q:Int=>AV.int .i64 q) (Vk hc1 hc2 hc3 hall2 (by rw [←hsm];assumption))).symm
        | exact Eq.trans rfl (congrArg (fun q:Int=>AV.int .i64 q) (Uo hc1 hc2 hc3 hall2 (by rw [←hsm];assumption))).symm
      ·
       refine Bx (Ah (Qp Aq (Ag (AW.ret ?_))))
       refine Qr (Iq _) ?_
       first
        | exact Eq.trans rfl (congrArg (fun q:Int=>AV.int .i64 q) (Wg hc1)).symm
        | exact Eq.trans rfl (congrArg (fun q:Int=>AV.int .i64 q) (Uu hc1 hc2)).symm
        | exact Eq.trans rfl (congrArg (fun q:Int=>AV.int .i64 q) (Vb hc1 hc2 hc3)).symm
        | exact Eq.trans rfl (congrArg (fun q:Int=>AV.int .i64 q) (Ua hc1 hc2 hc3 (Mc hlt ((Jx hi hi2).trans (by assumption))))).symm
        | exact Eq.trans rfl (congrArg (fun q:Int=>AV.int .i64 q) (Vk hc1 hc2 hc3 hall2 (by rw [←hsm];assumption))).symm
        | exact Eq.trans rfl (congrArg (fun q:Int=>AV.int .i64 q) (Uo hc1 hc2 hc3 hall2 (by rw [←hsm];assumption))).symm

set_option maxHeartbeats 25600000
set_option maxRecDepth 20000

theorem zM (e:Ex):[e].map Gq = [cE e]:=by simp only [List.map_cons,List.map_nil,Ko]
theorem aC (T:List Sc)(hl:T.length≤1048576)(hst:∀s∈T,Is s)(V:List Va)(hvl:V.length≤1048576)(e:Ex)(hs:Av e≤1048576):A1 Tryz.prog 7 [.agg (B9 T V),.sl 8 [cE e]] (.bool (Ks T V [e])):=by
 have h:=eY T hl hst V hvl [e] (show 1≤1048576 by decide) (vV hs)
 rw [zM] at h
 exact h
theorem uI (T:List Sc)(hl:T.length≤1048576)(hst:∀s∈T,Is s)(V:List Va)(hvl:V.length≤1048576)(c:List Lit)(h:ClOK T V c):A1 Tryz.prog 12 [.sl 2 (T.map N5),.sl 2 (V.map Tp),.sl 9 (c.map Fy)] (.tuple [.agg (Ss (A7 T V c)),.sl 8 (((Bz T V c).ts.map Hs).map Gq),.int .i64 0]):=by
 have h1:=zZ T hl hst V hvl c h.cl h.cs
 rw [h.zone] at h1
 exact h1
theorem O8 (T:List Sc)(hl:T.length≤1048576)(hst:∀s∈T,Is s)(V:List Va)(hvl:V.length≤1048576)(e:Ex)(hs:Av e≤1048576):A1 Tryz.prog 3 [.agg (B9 T V),.agg (cE e)] (.bool true):=by
 refine A1.body (n:=144) Aj Tryz.func3 rfl rfl rfl fun H=>?_
 refine Ah (Qp (It [_,_]) (Qp Mt (Qp Bb (Ag (AW.seq (Ah ?_))))))
 refine Qp (Qc rfl (sN)) ?_
 refine Qp Gj (Ag (A4 (fun hc1=>?_) fun hc1=>?_))
 ·
  exact absurd hc1 (by decide)
 ·
  refine Bx (AW.seq (Ah (Qp (C8 [_,_]) (Qp E2 ?_))))
  refine Qp (A3 (es:=[[Iq _,_,Iq _,Iq _,Iq _,Iq _,Iq _,.str _]]) Aj rfl rfl rfl rfl rfl rfl rfl rfl rfl) ?_
  refine Qp (Qc rfl (aC T hl hst V hvl e hs)) ?_
  refine Qp Gj (Ag (A4 (fun hc2=>?_) fun hc2=>?_))
  ·
   refine Ah (Qp Bb (Ag (D4 ?_)))
   refine Qr (.bool _) ?_
   rfl
  ·
   have hok:=tG hc2
   have hcz:=Q6 T V e
   refine Bx (Ah (Qp (Qf [_,_]) (Qp D1 (Qp (Qf [_]) (Qp D1 (Qp E2 ?_))))))
   refine Qp (Qc rfl (xT T hl hst V hvl e hs)) ?_
   refine Qp Om (Qp X9 (Qp Kn (Qp Bb (Qp Aq (Dv (Qp (Qf [_,_]) (Qp D1 (Qp (Qf [_]) (Qp D1 ?_)))))))))
   refine Qp E2 ?_
   refine Qp (Qc rfl (oE T hl hst V hvl e hs)) ?_
   refine Qp Om (Qp qE (Qp Kn (Qp Sx (Qp Aq (Dv (Qp (Qf [_,_]) (Qp D1 (Qp (Qf [_]) (Qp D1 ?_)))))))))
   refine Qp E2 ?_
   refine Qp (A3 (es:=[[Iq _,_,Iq _,Iq _,Iq _,Iq _,Iq _,.str _]]) Aj rfl rfl rfl rfl rfl rfl rfl rfl rfl) ?_
   refine Qp (Qc rfl (xD T hl hst V hvl e hs)) ?_
   refine Qp Om (Qp Kn (Qp qE (Qp Kn (Qp Aq (Qp Sx (Qp Aq (Ag (AW.seq (Ah ?_)))))))))
   refine Qp Az (Qp C1 (Qp Bt (Qg [] Qw Az (Qg [(63,_)] Qw C1 (Qp Ew (Ag (A4 (fun hc3=>?_) fun hc3=>?_)))))))
   ·
    exact absurd hc3 (by rw [dI hok,oJ hok];simp)
   ·
    refine Bx (AW.seq (Ah (Qp Az (Qp C1 (Qp Bt (Qg [] Qw Bt (Qg [(69,_)] Qw Gj (Qp Ew (Ag (A4 (fun hc4=>?_) fun hc4=>?_))))))))))
    ·
     refine Ah (Qp Az (Qp Ba (Qp Bt (Qg [] Qw Az (Qg [(75,_)] Qw Ba (Qp Ew (Qp Bb (Ag (D4 ?_)))))))))
     refine Qr (.bool _) ?_
     exact congrArg AV.bool (eA hok)
    ·
     refine Bx (Ah (Qp Bb (Ag (AW.seq (Ah (Qp Dm ?_))))))
     refine Qp (Al (n:=(Cp T V e).1.length) Aj rfl rfl rfl (by simp)) ?_
     refine Qp Az (Ag (AW.block ?_))
     refine AW.Aa3 (fun (p:Nat×Bool)=>(⟨[(2,.ptr (B9 T V)),(9,.int .i64 (B6 T V [e]).1),(12,.bool p.2),(78,.sl 1 ((Cp T V e).1.map Ra)),(79,.int .i64 (Cp T V e).1.length),(80,.int .i64 (p.1:Int))],H,144⟩:St)) (fun (p:Nat×Bool)=>p.1≤(Cp T V e).1.length∧p.2=Sh T V ((Cp T V e).1.take p.1)∧∀x∈(Cp T V e).1.take p.1,x.any (Ow T V)=false) (fun (p:Nat×Bool)=>(Cp T V e).1.length-p.1) ((0,false)) ?_ (GS.weaken ⟨rfl,rfl,rfl,rfl,rfl,rfl,trivial⟩ (.refl _)) ?_
     · exact ⟨Nat.zero_le _,rfl,fun x hx=>by simp at hx⟩
     ·
      rintro p hR
      have hcl0:=hcz.1
      refine Ah (Qp Co (Ag (AW.seq (A4 (fun hc5=>?_) fun hc5=>?_))))
      ·
       obtain ⟨c,hc⟩:=B5 hc5
       have hlt:=Bh hc
       have hcl:=lY hok (List.mem_of_getElem? hc)
       refine Bx (AW.seq (AW.block (Ah ?_)))
       refine Qp (Af (c:=[_]) Aj rfl rfl rfl rfl rfl rfl (by omega) (B1 hc)) ?_
       refine Qp D1 (Qp Sx (Ag (AW.seq (Ah (Qp (C8 [_,_]) (Qp Dm ?_))))))
       refine Qp (Qc rfl (Wl T hl hst V hvl c hcl.cl hcl.cs)) ?_
       refine Ag (A4 (fun hc6=>?_) fun hc6=>?_)
       ·
        refine Ah (Qp Bb (Ag (D4 (A6 (Ai (Ai (A6 (Ai ?_))))))))
        refine Qr (.bool _) ?_
        rfl
       ·
        refine Bx (Ah (Qp (Qf [_,_]) (Qp D1 (Qp (Qf [_]) (Qp D1 (Qp Dm ?_))))))
        refine Qp (Qc rfl (uI T hl hst V hvl c hcl)) ?_
        refine Qp Om ?_
        refine Qp (Dt (v:=.agg [Iq _,_]) rfl rfl) ?_
        refine Qp qE (Qp Kn ?_)
        refine Qe (A0 (l:=[.int .i64 0,.sl 3 []]) (by kernel_rfl)) ?_
        rintro _ _ ⟨b15,rfl,rfl⟩
        refine Eu 0 [Iq _,_] (_::_) ?_
        refine Qp Sx (Qp Aq ?_)
        refine AOL.ghost (GS.Aa2 (t:=15) 0 rfl rfl) ?_
        refine Dv (Qp (C8 [Iq _,_]) ?_)
        refine Qp (Qc rfl (cR T V c hcl.lok (cB T V c))) ?_
        refine Qp Om (Qp X9 (Qp qE (Qp qE (Qp Kn (Qp Bb (Qp Sx (Qp Sx (Qp Aq (Ag ?_)))))))))
        refine AW.seq (Ah (Qp Az (Qp C1 (Qp Bt (Qg [] Qw Az (Qg [(107,_)] Qw C1 (Qp Ew (Ag (A4 (fun hc7=>?_) fun hc7=>?_)))))))))
        ·
         exact absurd hc7 (by rw [hcl.err];decide)
        ·
         refine Bx (AW.seq (Ah (Qp Bt (Ag (A4 (fun hc8=>?_) fun hc8=>?_)))))
         ·
          refine Ah (Qp (C8 [Iq _,_]) (Qp Dm ?_))
          refine Qp (Qc rfl (wK (A7 T V c) hcl.zl _ hcl.vl)) ?_
          refine Qp Om (Qp X9 (Qp Kn (Qp Bb (Qp Aq (Dv (Qp Az (Qp C1 (Qp Bt (Qg [] Qw Bt ?_)))))))))
          refine Qg [(120,_)] Qw Gj (Qp Ew (Ag (A4 (fun hc9=>?_) fun hc9=>?_)))
          ·
           exact absurd hc9 (by rw [hcl.holds hc8];decide)
          ·
           refine Bx (AW.region (Qp Bt (Qp Bt (Qg [] Qw Bt (Qp Ew (Qp Bb (AOL.nil (Bn (Ad ?_)))))))))
           refine AW.region (Qp Fb (Qp Az (Ag ?_)))
           refine ⟨(p.1+1,p.2||(Bl (A7 T V c)).ok),?_,?_,GS.weaken ⟨rfl,rfl,rfl,rfl,rfl,rfl,trivial⟩ (.refl _)⟩
           · exact ⟨hlt,by simp only;rw [cC hc,hR.2.1],bJ hc hR.2.2 hc6⟩
           · simp only;omega
         ·
          refine Ah (Qp (C8 [Iq _,_]) (Qp Dm ?_))
          refine Qp (Qc rfl (qT (A7 T V c) hcl.zl (J5 hcl.lok) _ hcl.cyl)) ?_
          refine Qp C1 (Ag (A4 (fun hc10=>?_) fun hc10=>?_))
          ·
           exact absurd hc10 (by rw [hcl.verify hc8];decide)
          ·
           refine Bx (AW.region (Qp Bt (Qp Bt (Qg [] Qw Bt (Qp Ew (Qp Bb (AOL.nil (Bn (Ad ?_)))))))))
           refine AW.region (Qp Fb (Qp Az (Ag ?_)))
           refine ⟨(p.1+1,p.2||(Bl (A7 T V c)).ok),?_,?_,GS.weaken ⟨rfl,rfl,rfl,rfl,rfl,rfl,trivial⟩ (.refl _)⟩
           · exact ⟨hlt,by simp only;rw [cC hc,hR.2.1],bJ hc hR.2.2 hc6⟩
           · simp only;omega
      ·
       have hte:=Cg hc5
       have hall:=hR.2.1
       have hstr:=hR.2.2
       rw [hte] at hall hstr
       refine AW.exit ?_
       refine A2 (A2 (Bo (Ad (Ah (Qp Bt (Qp Az (Qp Ba ?_)))))))
       refine Qp (Lt Aj rfl rfl rfl rfl) ?_
       refine Qp Bt (Qg [] Qw Az (Qg [(137,_)] Qw Ba (Qg [(138,_)] Qw Bt (Qg [] Qw Az (Qg [(140,_)] Qw Ba (Qg [(139,_),(141,_)] Qw Ew (Qp G1 (Qp Bb (Ag ?_)))))))))
       refine AW.ret ?_
       refine Qr (.bool _) ?_
       exact congrArg AV.bool (uA hok hc4 hall hstr)

open Go Go.Aw Go.ChangeShapes Go.WideShapes Go.ChangeAt Go.RowKit
set_option maxRecDepth 100000

theorem laid:laidOutB Tryz.prog=true:=by kernel_rfl
theorem own:ownKnob Tryz.prog.godebug=none:=by kernel_rfl
def Rc:List Int:=[1,10,100,1000,10000,100000,1000000,10000000,100000000,1000000000,10000000000,100000000000,1000000000000,10000000000000,100000000000000,1000000000000000,10000000000000000,100000000000000000,1000000000000000000,10000000000000000000]
theorem pow_of {W : World} (h : laidMet Tryz.prog Rows.topClausesDecideRow.laid W) : Lib.TabIs Tryz.prog W "internal/strconv.uint64pow10" .u64 Rc := by
 obtain ⟨ps,⟨_,_,_,_,_,_,_,_,_,_,⟨_,_,_,_,_,_,_,_,_,_,⟨g',t',cs,fuel,p,q,hg',ht',hvar,hd,_,_⟩,_⟩,_⟩,_⟩:=h
 obtain rfl := Option.some.inj ((show Tryz.prog.globalNamed "internal/strconv.uint64pow10" = some 0 by kernel_rfl).symm.trans hg')
 obtain rfl:=Option.some.inj ((show (Tryz.prog.globals[0]?).map (·.type)=some 245 by kernel_rfl).symm.trans ht')
 have:=Lib.cells_of_tab (k:=.u64) (zs:=Rc) (n:=20) (e:=216) (by kernel_rfl) (by kernel_rfl) (by kernel_rfl) (by kernel_rfl) hd
 unfold Lib.TabIs
 rw [hvar,←this]
theorem oW {W : World} (h : Lib.TabIs Tryz.prog W "internal/strconv.uint64pow10" .u64 Rc) : ∃ T fr, W.heap[0]? = some (.cells (Rc.map fun z => Value.int .u64 z).toArray T fr) := by
 have e : Tryz.prog.globalNamed "internal/strconv.uint64pow10" = some 0 := by kernel_rfl
 unfold Lib.TabIs World.var? at h
 rw [e] at h
 have hk:∀(X:Array Value) (o:Option Obj),(match o with | some (Obj.cells cs _ _)=>some cs | _=>none)=some X→∃T fr,o=some (Obj.cells X T fr):=by
  intro X o h
  match o,h with
  | some (Obj.cells cs T fr),h=>exact ⟨T,fr,by rw [Option.some.inj h]⟩
 exact hk _ _ h
theorem globOK {W:World}(h:laidMet Tryz.prog Rows.topClausesDecideRow.laid W)(hS:W.ShapedOpen Tryz.prog):GlobOK g0 W:=by
  have ht:=pow_of h
  refine ⟨fun p hp=>?_,fun p hp=>?_⟩
  · obtain rfl:=List.mem_singleton.1 hp
    refine ⟨O6,rfl,?_⟩
    have hcell : ∀ j, W.cell? ⟨0, j, none⟩ = (Rc.map fun z => Value.int .u64 z).toArray[j]? := fun j => World.var?_cell (show Tryz.prog.globalNamed "internal/strconv.uint64pow10" = some 0 by kernel_rfl) ht j
    have hs:O6=Rc.map fun z=>AV.int .u64 z:=rfl
    rw [hs]
    refine .ptr 0 0 _ (fun j=>Value.int .u64 (Rc.getD j 0)) (fun j x hj=>?_) (fun j x hj=>?_)
    · rw [List.getElem?_map] at hj
      cases hq:Rc[j]? with
      | none=>rw [hq] at hj;cases hj
      | some y=>
        refine ⟨trivial,?_⟩
        rw [Nat.zero_add,hcell j]
        simp [hq,List.getD_eq_getElem?_getD]
    · rw [List.getElem?_map] at hj
      cases hq:Rc[j]? with
      | none=>rw [hq] at hj;cases hj
      | some y=>
        rw [hq] at hj
        simp only [Option.map_some,Option.some.injEq] at hj
        subst hj
        have e:Rc.getD j 0=y:=by rw [List.getD_eq_getElem?_getD,hq];rfl
        rw [e]
        exact .int _ _
  · obtain rfl:=List.mem_singleton.1 hp
    exact ⟨rfl,oW ht⟩
def gF (k:IntKind)(l:List Int):Obj→Obj
 | .cells _ t frozen=>.cells (l.map fun z=>Value.int k z).toArray t frozen
 | o=>o
def yQ (d:DataW Unit):List Int:=match d with
 | .agg l=>l.map fun | .lit (.int _ n)=>n | _=>0
 | _=>[]
noncomputable def laidWorld (os:Os):World:=
 { World.holding Tryz.prog os ⟨#[],#[],[]⟩ with heap:=(((World.holding Tryz.prog os ⟨#[],#[],[]⟩).heap.modify 0 (gF .u64 Rc)).modify 1 (gF .u8 (yQ Rows.laid_math_bits_deBruijn32tab))).modify 2 (gF .u8 (yQ Rows.laid_math_bits_deBruijn64tab)) }
end Go.Proofs.YtjedflcpjlgokaaGreatDoor

namespace Go.Aw
open Go
section
variable {H:Type} {enc:TypeId×Value→H} {P:Program} {w:World} {sp:Nat→Bool} {hd:Bool} {B:DataW H→Nat} {BA:List (DataW H)→Nat}
end
end Go.Aw
