/-
  Several texts in one: Y5d, Y6, Y1. No condition.
-/
import Derived.Test.YtjedflcpjlgokaaGreatDoorAz
import Derived.Test.YtjedflcpjlgokaaGreatDoorK16
import Derived.Test.YtjedflcpjlgokaaGreatDoorY5c
import Derived.KernelRfl
import Derived.Test.YtjedflcpjlgokaaGreatDoorK04
import Derived.Test.YtjedflcpjlgokaaGreatDoorK08
import Derived.Test.YtjedflcpjlgokaaGreatDoorK12
import Derived.Test.YtjedflcpjlgokaaGreatDoorW25
set_option linter.unusedVariables false
set_option linter.unusedSimpArgs false
namespace Go.Proofs.YtjedflcpjlgokaaGreatDoor
open Go Go.Aw
set_option maxHeartbeats 1600000
set_option maxRecDepth 20000

theorem zK (T:List Sc)(hl:T.length≤1048576)(hst:∀s∈T,Ig s)(V:List Va)(hvl:V.length≤1048576)(e:Ex)(hk:KC T V e):Ax Tryz.prog 49 [.sl 2 (T.map Ob),.sl 2 (V.map S4),.agg (cE e)] (.int .i64 (An T V e)):=by
 have h:=r_kind T hl hst V hvl e (Nat.le_trans (Jy hk) (by decide))
 rw [Rk hk] at h
 exact h
theorem sQ (T:List Sc)(hl:T.length≤1048576)(hst:∀s∈T,Ig s)(V:List Va)(hvl:V.length≤1048576)(e:Ex)(hk:KC T V e):Ax Tryz.prog 21 [.sl 2 (T.map Ob),.sl 2 (V.map S4),.agg (cE e)] (.bool (Ck T V e)):=by
 refine Ax.body (n:=58) Ah Tryz.func21 rfl rfl rfl fun H=>?_
 refine Ai (Qp Kx (Qp Bl (Ag (AW.seq (Ai (Qp Jl (Qp Bp (Qp A9 (Ag (A6 (fun hc1=>?_) fun hc1=>?_))))))))))
 ·
  refine Ai (Qp Bl (Ag (Dw ?_)))
  refine Qr (.bool _) ?_
  exact Eq.trans rfl (congrArg (fun q:Bool=>AV.bool q) (dD hc1)).symm
 ·
  refine By (AW.seq (Ai (Qp Jl (Qp Bp (Qp Cr (Qp B0 (Qg [] Qw Jl (Qg [(16,_)] Qw Bp (Qg [(17,_)] Qw Cr ?_)))))))))
  refine Qp F7 (Qp B0 (Qg [] Qw Jl (Qg [(21,_)] Qw Bp (Qg [(22,_)] Qw Cr (Qp F7 (Ag (A6 (fun hc2=>?_) fun hc2=>?_)))))))
  ·
   refine Ai (Qp Bl (Ag (Dw ?_)))
   refine Qr (.bool _) ?_
   exact Eq.trans rfl (congrArg (fun q:Bool=>AV.bool q) (rsim_2 hc1 hc2)).symm
  ·
   refine By (AW.seq (AW.seq ?_))
   have hcmp:=Xl hc2
   have h2:=Je hk.kok hcmp
   have h00:0<e.args.length:=by omega
   have hsz:=Db h2
   have hks:=Jy hk
   have hk0:=iA hk (A0 h00)
   have hk1:=iA hk (Bk h2)
   refine AW.region (Qp Dx (Qp Dx (Qp Lp (Qp Dy ?_))))
   refine Qp (Af (c:=[Iq _,_,Iq _,Iq _,Iq _,Iq _,Iq _,.str _]) Ah rfl rfl rfl rfl rfl rfl (by decide) (E4 h00)) ?_
   refine Qp El ?_
   refine Qp (Qc rfl (zK T hl hst V hvl _ hk0)) ?_
   refine Qp A9 (Ag (A6 (fun hc3=>?_) fun hc3=>?_))
   ·
    refine Ai (Qp Lp (Qp Dy ?_))
    refine Qp (Af (c:=[Iq _,_,Iq _,Iq _,Iq _,Iq _,Iq _,.str _]) Ah rfl rfl rfl rfl rfl rfl (by decide) (E4 h00)) ?_
    refine Qp El ?_
    refine Qp (Qc rfl (Yx (Av e))) ?_
    refine Qp B0 (Qg [] Qw Lp (Qg [(39,_)] Qw Dy ?_))
    refine AOL.Aar (y:=.ptr _) _ [(40,_)] rfl (nC.all ⟨Ent.Aam _ _,trivial⟩) (fun hG=>Af (c:=[Iq _,_,Iq _,Iq _,Iq _,Iq _,Iq _,.str _]) Ah rfl rfl rfl rfl rfl rfl (by decide) (H7 h2)) rfl ?_
    refine Qg [(41,_)] Qw El ?_
    refine Qg [(42,_)] Qw (Qc rfl (Yx (Cc e))) ?_
    refine Qp F7 (Qp Bl (Ag (Dw ?_)))
    refine Qr (.bool _) ?_
    exact Eq.trans rfl (congrArg (fun q:Bool=>AV.bool q) (rsim_3 hk.kok hc1 hc2 hc3)).symm
   ·
    refine By (AW.seq ?_)
    refine AW.draw mixed (fun _=>True) trivial (by kernel_rfl) ?_
    refine Qn 0 rfl Lp (Qn 1 rfl Dy ?_)
    refine Qn 2 rfl (Af (c:=[Iq _,_,Iq _,Iq _,Iq _,Iq _,Iq _,.str _]) Ah rfl rfl rfl rfl rfl rfl (by decide) (E4 h00)) ?_
    refine Qn 3 rfl El (Qn 4 rfl Lp (Qn 5 rfl Dy ?_))
    refine Qn 6 rfl (Af (c:=[Iq _,_,Iq _,Iq _,Iq _,Iq _,Iq _,.str _]) Ah rfl rfl rfl rfl rfl rfl (by decide) (H7 h2)) ?_
    refine Qn 7 rfl El ?_
    refine Qn 8 rfl (Qc rfl (aP _ _ hk0.kok.nodes hk1.kok.nodes (by omega))) ?_
    refine Qn 9 rfl N6 ?_
    refine Qn 10 rfl (Ci (v:=.agg [_,_,Iq _]) rfl rfl) ?_
    refine Qn 11 rfl bB ?_
    refine Jn.eff _ _ 12 _ _ rfl (by kernel_rfl) rfl rfl (Ak (l:=[.sl 8 [],.sl 8 [],.int .i64 0]) (by kernel_rfl)) (fun _ _ _=>trivial) ?_
    rintro _ _ ⟨b7,rfl,rfl⟩
    refine Jn.eff _ _ 13 _ _ rfl (by kernel_rfl) rfl rfl (B2 (k:=0) (v:=.agg _) (cs':=[_,_,Iq _]) (H2:=_::_) Ah rfl rfl rfl rfl (rfl) rfl rfl rfl rfl) (fun _ _ _=>trivial) ?_
    rintro _ _ ⟨rfl,rfl⟩
    refine Qn 14 rfl Bl ?_
    refine Jn.done _ _ (by kernel_rfl) ?_
    refine Ad ?_
    refine AW.ghost (GS.Aan (t:=7) 0 rfl rfl) ?_
    refine Ai (Qp B0 (Qp Bl (Ag (AW.ret ?_))))
    refine Qr (.bool _) ?_
    exact Eq.trans rfl (congrArg (fun q:Bool=>AV.bool q) (rsim_4 hk.kok hc1 hc2 hc3 (hN hk0.kok.nodes hk1.kok.nodes))).symm
set_option maxHeartbeats 3200000
set_option maxRecDepth 20000

theorem pE (a b:List (List Lit))(hla:a.length≤512)(hlb:b.length≤512)(ha:∀x∈a,x.length≤1048576)(hb:∀x∈b,x.length≤1048576):Ax Tryz.prog 64 [.sl 1 (a.map P1),.sl 1 (b.map P1)] (.tuple [.sl 1 ((Lh a b).1.map P1),.bool (Lh a b).2]):=by
 refine Ax.body (n:=40) Ah Tryz.func64 rfl rfl rfl fun H=>?_
 refine Ai ?_
 refine Qp (Bz (z:=1) rfl) ?_
 refine Qp Bl (Ag (AW.seq (Ai (Qp Dx ?_))))
 refine Qp (Al (n:=a.length) Ah rfl rfl rfl (by simp)) ?_
 refine Qp Dx ?_
 refine Qp (Al (n:=b.length) Ah rfl rfl rfl (by simp)) ?_
 refine Qp (mG rfl rfl rfl (by constructor <;> (have h1:(0:Int)≤(a.length:Int)*(b.length:Int):=Int.mul_nonneg (by omega) (by omega);have h2:(a.length:Int)*(b.length:Int)≤512*512:=Int.mul_le_mul (by omega) (by omega) (by omega) (by omega);omega))) ?_
 refine Qp Ha (Ag (A6 (fun hc1=>?_) fun hc1=>?_))
 ·
  refine Ai ?_
  refine Qp (Bz (z:=1) rfl) ?_
  refine Qp Bl (Ag (Dw ?_))
  refine La (.sl _ _) (.bool _) ?_
  exact Eq.trans rfl (congrArg (fun q:Cs=>AV.tuple [.sl 1 (q.1.map P1),.bool q.2]) (yY hc1)).symm
 ·
  refine By (Ai (Qp N4 ?_))
  refine AOL.ghost (GS.row (t:=6) 42 1 rfl) ?_
  refine Ag (AW.seq (Ai (Qp Dx ?_)))
  refine Qp (Al (n:=a.length) Ah rfl rfl rfl (by simp)) ?_
  refine Qp Az (Ag (AW.block ?_))
  refine AW.Aao (fun (p:Nat×List (List AV)×Value)=>(⟨[(0,.sl 1 (a.map P1)),(1,.sl 1 (b.map P1)),(5,.bool false),(6,.row p.2.2 1 p.2.1),(17,.sl 1 (a.map P1)),(18,.int .i64 a.length),(19,.int .i64 (p.1:Int))],.row p.2.2 p.2.1.length 42 1::H,40⟩:St)) (fun (p:Nat×List (List AV)×Value)=>p.1≤a.length∧p.2.1=((a.take p.1).flatMap fun x=>b.map fun y=>x++y).map P1) (fun (p:Nat×List (List AV)×Value)=>a.length-p.1) ((0,[],.slice none 0 0)) ?_ (GS.weaken ⟨rfl,rfl,rfl,rfl,rfl,rfl,rfl,trivial⟩ (.refl _)) ?_
  · exact ⟨Nat.zero_le _,rfl⟩
  ·
   rintro p hR
   refine Ai (Qp Ch (Ag (AW.seq (A6 (fun hc2=>?_) fun hc2=>?_))))
   ·
    obtain ⟨x,hx⟩:=B5 hc2
    have hlx:=A4 hx
    have hxl:=ha x (List.mem_of_getElem? hx)
    refine By (AW.seq (AW.block (Ai ?_)))
    refine Qp (Af (c:=[_]) Ah rfl rfl rfl rfl rfl rfl (by omega) (Bi hx)) ?_
    refine Qp Dy (Qp Sr (Dm (Qp Dx ?_)))
    refine Qp (Al (n:=b.length) Ah rfl rfl rfl (by simp)) ?_
    refine Qp Az (Ag (AW.block ?_))
    refine AW.Aao (fun (q:Nat×List (List AV)×Value)=>(⟨[(0,.sl 1 (a.map P1)),(1,.sl 1 (b.map P1)),(5,.bool false),(6,.row q.2.2 1 q.2.1),(8,.sl 9 (x.map F0)),(17,.sl 1 (a.map P1)),(18,.int .i64 a.length),(19,.int .i64 (p.1:Int)),(23,.sl 1 (b.map P1)),(24,.int .i64 b.length),(25,.int .i64 (q.1:Int))],.row q.2.2 q.2.1.length 42 1::H,40⟩:St)) (fun (q:Nat×List (List AV)×Value)=>q.1≤b.length∧q.2.1=(((a.take p.1).flatMap fun x=>b.map fun y=>x++y)++(b.take q.1).map fun y=>x++y).map P1∧True) (fun (q:Nat×List (List AV)×Value)=>b.length-q.1) ((0,p.2.1,p.2.2)) ?_ (GS.weaken ⟨rfl,rfl,rfl,rfl,rfl,rfl,rfl,rfl,rfl,rfl,rfl,trivial⟩ (.refl _)) ?_
    · exact ⟨Nat.zero_le _,by simp only [List.take_zero,List.map_nil,List.append_nil];exact hR.2,trivial⟩
    ·
     rintro q hQ
     refine Ai (Qp Ch (Ag (AW.seq (A6 (fun hc3=>?_) fun hc3=>?_))))
     ·
      obtain ⟨y,hy⟩:=B5 hc3
      have hly:=A4 hy
      have hyl:=hb y (List.mem_of_getElem? hy)
      have hple:=wR hlx hly hc1
      refine By (AW.seq (AW.block (Ai ?_)))
      refine Qp (Af (c:=[_]) Ah rfl rfl rfl rfl rfl rfl (by omega) (Bi hy)) ?_
      refine Qp Dy (Qp Sr (Ag ?_))
      have hsx:∀c∈(x.map F0),Be c=true:=Ed fun _=>rfl
      have hsy:∀c∈(y.map F0),Be c=true:=Ed fun _=>rfl
      have hscx:∀c∈(x.map F0++y.map F0),Be c=true:=fun c hc=>(List.mem_append.1 hc).elim (hsx c) (hsy c)
      have hso:∀c∈q.2.1,Be c=true:=by rw [hQ.2.1];exact Ed fun _=>rfl
      have hql:q.2.1.length<256:=by rw [hQ.2.1,List.length_map,List.length_append,eD,List.length_map,List.length_take,List.length_take,Nat.min_eq_left (Nat.le_of_lt hlx),Nat.min_eq_left (Nat.le_of_lt hly)];exact hple
      refine AW.region ?_
      refine Qp (Bm (v:=.row _ _ _) rfl) ?_
      refine Qe (Rh (es:=[]) Ah rfl rfl rfl rfl rfl rfl rfl rfl rfl) ?_
      rintro _ _ ⟨v30,rfl,rfl⟩
      refine Qp Dx ?_
      refine Qe (C3 (k:=0) Ah rfl rfl rfl rfl rfl rfl rfl rfl (hsx) (rK) (by simp;omega) (by simp [maxLen];omega)) ?_
      rintro _ _ ⟨v32,rfl,rfl⟩
      refine Qp Dx ?_
      refine Qe (C3 (k:=0) Ah rfl rfl rfl rfl rfl rfl rfl rfl (hsy) (hsx) (by simp;omega) (by simp [maxLen];omega)) ?_
      rintro _ _ ⟨v34,rfl,rfl⟩
      refine AOL.ghost (GS.unrow 34 rfl) ?_
      refine Qp (A1 (es:=[[_]]) Ah rfl rfl rfl rfl rfl rfl rfl rfl rfl) ?_
      refine Qe (C3 (k:=1) Ah rfl rfl rfl rfl rfl rfl rfl rfl (Ff rfl) (hso) (by simp;omega) (by simp [maxLen];omega)) ?_
      rintro _ _ ⟨v36,rfl,rfl⟩
      refine Qp (Dg (v:=.row _ _ _) rfl) ?_
      refine AOL.nil (Bu (Ad (AW.region (Qp Ey (Qp Az (Ag ?_))))))
      refine ⟨(q.1+1,q.2.1 ++ [[.sl 9 (x.map F0++y.map F0)]],v36),?_,?_,GS.weaken ⟨rfl,rfl,rfl,rfl,rfl,rfl,rfl,rfl,rfl,rfl,rfl,trivial⟩ (.cons _ (.refl _))⟩
      · exact ⟨hly,by simp only;rw [C4 hy,hQ.2.1];simp [P1],trivial⟩
      · simp only;omega
     ·
      have hte:=Cu hc3
      have hall:=hQ.2.1
      rw [hte] at hall
      refine AW.exit ?_
      refine A5 (A5 (Bq (Bu (Ad (AW.region (Qp Ey (Qp Az (Ag ?_))))))))
      refine ⟨(p.1+1,q.2.1,q.2.2),?_,?_,GS.weaken ⟨rfl,rfl,rfl,rfl,rfl,rfl,rfl,trivial⟩ (.refl _)⟩
      · exact ⟨hlx,by simp only;rw [pD hx];exact hall⟩
      · simp only;omega
   ·
    have hte:=Cu hc2
    have hall:=hR.2
    rw [hte] at hall
    refine AW.exit ?_
    refine A5 (A5 (Bq (Ad (Ai ?_))))
    refine Qp (Bm (v:=.row _ _ _) rfl) ?_
    refine AOL.ghost (GS.unrow 39 rfl) ?_
    refine Qp Sr (Qp Bl (Ag (AW.ret ?_)))
    refine ⟨.inr rfl,[.sl _ _,.bool _],.cons (.tmp _ _ rfl) <| .cons (.tmp _ _ rfl) <| .nil,.cons _ (.refl _),?_⟩
    rw [hall]
    exact Eq.trans rfl (congrArg (fun q:Cs=>AV.tuple [.sl 1 (q.1.map P1),.bool q.2]) (sS hc1)).symm
set_option maxHeartbeats 400000
set_option maxRecDepth 20000

theorem d_two (op:Int)(x y:Ex):Ax Tryz.prog 62 [.int .i64 op,.agg (cE x),.agg (cE y)] (.agg (cE (two op x y))):=by
 refine Ax.body (n:=12) Ah Tryz.func62 rfl rfl rfl fun H=>?_
 refine Ai (Qp Kx (Qp Kx ?_))
 refine Qe (Ak (l:=[.int .i64 0,.sl 8 [],.int .i64 0,.int .i64 0,.int .i64 0,.int .i64 0,.int .i64 0,.str []]) (by kernel_rfl)) ?_
 rintro _ _ ⟨b6,rfl,rfl⟩
 refine Dm (Qp Az (Qp El (Qp El ?_)))
 refine Qp (A1 (es:=[[Iq _,_,Iq _,Iq _,Iq _,Iq _,Iq _,.str _],[Iq _,_,Iq _,Iq _,Iq _,Iq _,Iq _,.str _]]) Ah rfl rfl rfl rfl rfl rfl rfl rfl rfl) ?_
 refine Qp (Fz [Iq _,_,Iq _,Iq _,Iq _,Iq _,Iq _,.str _]) ?_
 refine Cv 0 [Iq _,_,Iq _,Iq _,Iq _,Iq _,Iq _,.str _] (_::_) ?_
 refine Ag (AW.ret ?_)
 refine ⟨.inr rfl,[.agg [Iq _,_,Iq _,Iq _,Iq _,Iq _,Iq _,.str _]],.cons (.box _ _ _ 0 _ _ _ _ rfl rfl rfl rfl rfl rfl) <| .nil,.cons _ (.refl _),?_⟩
 rw [nB];rfl
theorem wO (x:Bool):Ax Tryz.prog 93 [.bool x] (.agg (cE (Fy x))):=by
 refine Ax.body (n:=6) Ah Tryz.func93 rfl rfl rfl fun H=>?_
 refine Ai ?_
 refine Qe (Ak (l:=[.int .i64 0,.sl 8 [],.int .i64 0,.int .i64 0,.int .i64 0,.int .i64 0,.int .i64 0,.str []]) (by kernel_rfl)) ?_
 rintro _ _ ⟨b2,rfl,rfl⟩
 refine Dm (Qp B0 ?_)
 refine Qp (Qc rfl (c75 x)) ?_
 refine Qp (Fz [Iq _,_,Iq _,Iq _,Iq _,Iq _,Iq _,.str _]) ?_
 refine Cv 0 [Iq _,_,Iq _,Iq _,Iq _,Iq _,Iq _,.str _] (_::_) ?_
 refine Ag (AW.ret ?_)
 refine ⟨.inr rfl,[.agg [Iq _,_,Iq _,Iq _,Iq _,Iq _,Iq _,.str _]],.cons (.box _ _ _ 0 _ _ _ _ rfl rfl rfl rfl rfl rfl) <| .nil,.cons _ (.refl _),?_⟩
 rfl
end Go.Proofs.YtjedflcpjlgokaaGreatDoor
