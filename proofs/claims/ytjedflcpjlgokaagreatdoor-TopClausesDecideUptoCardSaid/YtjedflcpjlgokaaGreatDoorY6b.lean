/-
  Walks of layer 11: clauses. No condition.
-/
import Derived.Test.YtjedflcpjlgokaaGreatDoorAz
import Derived.Test.YtjedflcpjlgokaaGreatDoorK12
import Derived.Test.YtjedflcpjlgokaaGreatDoorK25
import Derived.KernelRfl
namespace Go.Proofs.YtjedflcpjlgokaaGreatDoor
open Go Go.Aw
set_option maxHeartbeats 6400000
set_option maxRecDepth 20000
set_option linter.unusedVariables false
set_option linter.unusedSimpArgs false

theorem Qi (a b:Cs)(n m:Nat)(ha:csOK n a)(hb:csOK m b)(hn:n≤1048576)(hm:m≤1048576):A1 Tryz.prog 31 [.agg (Dx a),.agg (Dx b)] (.agg (Dx (Dy a b))):=by
 have hla:=ha.len
 have hlb:=hb.len
 have hxa:=fun x hx=>Nat.le_trans (ha.lits x hx) hn
 have hxb:=fun x hx=>Nat.le_trans (hb.lits x hx) hm
 refine A1.body (n:=27) Aj Tryz.func31 rfl rfl rfl fun H=>?_
 refine Ah (Qp (It [_,.bool _]) (Qp (It [_,.bool _]) ?_))
 refine Qe (A0 (l:=[.sl 1 [],.bool false]) (by kernel_rfl)) ?_
 rintro _ _ ⟨b4,rfl,rfl⟩
 refine Ag (AW.seq (Ah (Qp (Qf [.bool _]) (Qp kM (Qp Gj (Qp Bt (Qg [] Qw (Qf [.bool _]) (Qg [(11,_)] Qw kM (Qg [(12,_)] Qw Gj ?_)))))))))
 refine Qp Ew (Ag (A4 (fun hc1=>?_) fun hc1=>?_))
 ·
  refine Ah (Qp (Ij [_,.bool _]) ?_)
  refine Eu 0 [_,.bool _] (_::_) ?_
  refine Ag (D4 ?_)
  refine ⟨.inr rfl,[.agg [_,.bool _]],.cons (.box _ _ _ 0 _ _ _ _ rfl rfl rfl rfl rfl rfl) <| .nil,.cons _ (.refl _),?_⟩
  exact Eq.trans rfl (congrArg (fun q:Cs=>AV.agg (Dx q)) (sZ hc1)).symm
 ·
  refine Bx (Ah (Qp (Qf [_,.bool _]) (Qp D1 (Qp (Qf [_,.bool _]) (Qp D1 ?_)))))
  refine Qp (Qc rfl (nO a.1 b.1 (by omega) (by omega) hxa hxb)) ?_
  refine Qp Om (Qp qE (Qp X9 (Qp Sx (Qp Bb (Dv (Qp Dm (Qp Bt (Qp (Ij [_,.bool _]) ?_))))))))
  refine Eu 0 [_,.bool _] (_::_) ?_
  refine Ag (AW.ret ?_)
  refine ⟨.inr rfl,[.agg [_,.bool _]],.cons (.box _ _ _ 0 _ _ _ _ rfl rfl rfl rfl rfl rfl) <| .nil,.cons _ (.refl _),?_⟩
  exact Eq.trans rfl (congrArg (fun q:Cs=>AV.agg (Dx q)) (Xk hc1)).symm
theorem gU (a b:Cs)(n m:Nat)(ha:csOK n a)(hb:csOK m b)(hn:n≤1048576)(hm:m≤1048576):A1 Tryz.prog 59 [.agg (Dx a),.agg (Dx b)] (.agg (Dx (Hf a b))):=by
 have hla:=ha.len
 have hlb:=hb.len
 have hxa:=fun x hx=>Nat.le_trans (ha.lits x hx) hn
 have hxb:=fun x hx=>Nat.le_trans (hb.lits x hx) hm
 have hb2:Hl [(!a.2 || !b.2,false)]→True:=fun _=>trivial
 have hsa:∀c∈(a.1.map Ra),Bg c=true:=F2 fun _=>rfl
 have hsb:∀c∈(b.1.map Ra),Bg c=true:=F2 fun _=>rfl
 have hsab:∀c∈(a.1.map Ra++b.1.map Ra),Bg c=true:=fun c hc=>(List.mem_append.1 hc).elim (hsa c) (hsb c)
 refine A1.body (n:=32) Aj Tryz.func59 rfl rfl rfl fun H=>?_
 refine Ah (Qp (It [_,.bool _]) (Qp (It [_,.bool _]) ?_))
 refine Qe (A0 (l:=[.sl 1 [],.bool false]) (by kernel_rfl)) ?_
 rintro _ _ ⟨b4,rfl,rfl⟩
 refine Ag (AW.seq (Ah (Qp (Qf [.bool _]) (Qp kM (Qp Gj (Qp Bt (Qg [] Qw (Qf [.bool _]) (Qg [(9,_)] Qw kM (Qg [(10,_)] Qw Gj ?_)))))))))
 refine Qp Ew (Qp Bt (Qg [] Qw (Qf [_,.bool _]) (Qg [(14,_)] Qw D1 ?_)))
 refine AOL.Aa5 (y:=Iq _) _ [(15,_)] rfl (nI.all ⟨Ent.Aa1 _ _,trivial⟩) (fun hG=>Al (n:=a.1.length) Aj rfl rfl rfl (by simp)) rfl ?_
 refine Qg [] Qw (Qf [_,.bool _]) (Qg [(17,_)] Qw D1 ?_)
 refine AOL.Aa5 (y:=Iq _) _ [(18,_)] rfl (nI.all ⟨Ent.Aa1 _ _,trivial⟩) (fun hG=>Al (n:=b.1.length) Aj rfl rfl rfl (by simp)) rfl ?_
 refine AOL.Aa5 (y:=Iq _) _ [(16,_),(19,_)] rfl (nI.all ⟨Ent.Aa1 _ _,Ent.Aa1 _ _,trivial⟩) (fun hG=>Xj rfl rfl rfl (by constructor <;> omega)) rfl ?_
 refine Qg [(20,_)] Qw Gl (Qp Ew (Ag (A4 (fun hc1=>?_) fun hc1=>?_)))
 ·
  refine Ah (Qp (Ij [_,.bool _]) ?_)
  refine Eu 0 [_,.bool _] (_::_) ?_
  refine Ag (D4 ?_)
  refine ⟨.inr rfl,[.agg [_,.bool _]],.cons (.box _ _ _ 0 _ _ _ _ rfl rfl rfl rfl rfl rfl) <| .nil,.cons _ (.refl _),?_⟩
  exact Eq.trans rfl (congrArg (fun q:Cs=>AV.agg (Dx q)) (uE hc1)).symm
 ·
  refine Bx (AW.seq ?_)
  refine AW.draw mixed (fun _=>True) trivial (by kernel_rfl) ?_
  refine Qn 1 rfl (Qf [_,.bool _]) (Qn 2 rfl D1 (Qn 4 rfl (Qf [_,.bool _]) (Qn 5 rfl D1 ?_)))
  refine Iu.eff _ _ 0 _ _ rfl (by kernel_rfl) rfl rfl (Qt (es:=[]) Aj rfl rfl rfl rfl rfl rfl rfl rfl rfl) (fun _ _ _=>trivial) ?_
  rintro _ _ ⟨v24,rfl,rfl⟩
  refine Iu.eff _ _ 3 _ _ rfl (by kernel_rfl) rfl rfl (Dr (k:=0) Aj rfl rfl rfl rfl rfl rfl rfl rfl (hsa) (oU) (by simp;omega) (by simp [maxLen];omega)) (fun _ _ _=>trivial) ?_
  rintro _ _ ⟨v27,rfl,rfl⟩
  refine Iu.eff _ _ 6 _ _ rfl (by kernel_rfl) rfl rfl (Dr (k:=0) Aj rfl rfl rfl rfl rfl rfl rfl rfl (hsb) (hsa) (by simp;omega) (by simp [maxLen];omega)) (fun _ _ _=>trivial) ?_
  rintro _ _ ⟨v30,rfl,rfl⟩
  refine Qn 7 rfl (Ij [_,.bool _]) ?_
  refine Iu.eff _ _ 8 _ _ rfl (by kernel_rfl) rfl rfl (Dc (k:=1) (v:=.agg _) (cs':=[_,.bool _]) (H2:=_::_::_) Aj rfl rfl rfl rfl (rfl) rfl rfl rfl rfl) (fun _ _ _=>trivial) ?_
  rintro _ _ ⟨rfl,rfl⟩
  refine Iu.done _ _ (by kernel_rfl) ?_
  refine Ad ?_
  refine AW.ghost (GS.cell (H2:=_::_::_) 1 0 rfl rfl rfl rfl Gt) ?_
  refine AW.ret ?_
  refine ⟨.inr rfl,[.agg [_,.bool _]],.cons (.box _ _ _ 1 _ _ _ _ rfl rfl rfl rfl rfl rfl) <| .nil,.cons _ (.cons _ (.refl _)),?_⟩
  rw [List.nil_append,←List.map_append]
  exact Eq.trans rfl (congrArg (fun q:Cs=>AV.agg (Dx q)) (rU hc1)).symm
theorem Ux (l:List Lit)(hl:l.length≤256):A1 Tryz.prog 61 [.sl 9 (l.map Fy)] (.agg (Dx (Dn l))):=by
 refine A1.body (n:=22) Aj Tryz.func61 rfl rfl rfl fun H=>?_
 refine Ah ?_
 refine Qe (A0 (l:=[.sl 1 [],.bool false]) (by kernel_rfl)) ?_
 rintro _ _ ⟨b2,rfl,rfl⟩
 refine Dv ?_
 refine Qp (Nr (l0:=[.val (.slice none 0 0),.bool false]) (l:=[_,_]) Aj rfl rfl (by kernel_rfl) rfl) ?_
 refine Qe (A0 (l:=[.sl 1 [],.bool false]) (by kernel_rfl)) ?_
 rintro _ _ ⟨b3,rfl,rfl⟩
 refine Eu 0 [_,.bool _] (_::_::_) ?_
 refine AOL.ghost (GS.cellRow 0 0 42 1 rfl rfl rfl rfl) ?_
 refine Ag (AW.seq (Ah (Qp Dm ?_)))
 refine Qp (Al (n:=l.length) Aj rfl rfl rfl (by simp)) ?_
 refine Qp Az (Ag (AW.block ?_))
 refine AW.Aa3 (fun (p:Nat×List (List AV)×Value)=>(⟨[(2,.val (.pointer (some ⟨b2,0,none⟩))),(3,.val (.pointer (some ⟨b3,0,none⟩))),(7,.sl 9 (l.map Fy)),(8,.int .i64 l.length),(9,.int .i64 (p.1:Int))],.row p.2.2 p.2.1.length 42 1 :: .box b3 88 [.row p.2.2 1 p.2.1,.bool true] :: .box b2 88 [.sl 1 [],.bool false]::H,22⟩:St)) (fun (p:Nat×List (List AV)×Value)=>p.1≤l.length∧p.2.1=((l.take p.1).map fun x=>[x]).map Ra) (fun (p:Nat×List (List AV)×Value)=>l.length-p.1) ((0,[],.slice none 0 0)) ?_ (GS.weaken ⟨rfl,rfl,rfl,rfl,rfl,trivial⟩ (.refl _)) ?_
 · exact ⟨Nat.zero_le _,rfl⟩
 ·
  rintro p hR
  have hsc:∀c∈p.2.1,Bg c=true:=by rw [hR.2];exact F2 fun _=>rfl
  have hpl:p.2.1.length≤p.1:=by rw [hR.2];simp;omega
  refine Ah (Qp Co (Ag (AW.seq (A4 (fun hc1=>?_) fun hc1=>?_))))
  ·
   obtain ⟨x,hx⟩:=B5 hc1
   have hlx:=Bh hx
   refine Bx (AW.seq (AW.block (Ah ?_)))
   refine Qp (Af (c:=[Iq _,_,Iq _,Iq _,Iq _,Iq _,Iq _,.str _,.bool _]) Aj rfl rfl rfl rfl rfl rfl (by omega) (B1 hx)) ?_
   refine Qp (C8 [Iq _,_,Iq _,Iq _,Iq _,Iq _,Iq _,.str _,.bool _]) ?_
   refine Qe (A0 (l:=[.int .i64 0,.sl 8 [],.int .i64 0,.int .i64 0,.int .i64 0,.int .i64 0,.int .i64 0,.str [],.bool false]) (by kernel_rfl)) ?_
   rintro _ _ ⟨b5,rfl,rfl⟩
   refine Eu 0 [Iq _,_,Iq _,Iq _,Iq _,Iq _,Iq _,.str _,.bool _] (_::_::_::_::_) ?_
   refine AOL.ghost (GS.Aa2 (t:=5) 0 rfl rfl) ?_
   refine Ag (AW.region (Qp Ia ?_))
   refine AOL.Aa7 (Am (k:=1) (c:=.row _ _ _) Aj rfl rfl rfl rfl) rfl rfl ?_
   refine Qp (C8 [Iq _,_,Iq _,Iq _,Iq _,Iq _,Iq _,.str _,.bool _]) ?_
   refine Qp (A3 (es:=[[Iq _,_,Iq _,Iq _,Iq _,Iq _,Iq _,.str _,.bool _]]) Aj rfl rfl rfl rfl rfl rfl rfl rfl rfl) ?_
   refine Qp (A3 (es:=[[_]]) Aj rfl rfl rfl rfl rfl rfl rfl rfl rfl) ?_
   refine Qe (Dr (k:=0) Aj rfl rfl rfl rfl rfl rfl rfl rfl (Hw rfl) (hsc) (by simp;omega) (by simp [maxLen];omega)) ?_
   rintro _ _ ⟨v18,rfl,rfl⟩
   refine Qp Ia ?_
   refine Eu 1 [_,.bool _] (_::_::_::_) ?_
   refine AOL.nil (Bn (Ad (AW.region (Qp Fb (Qp Az (Ag ?_))))))
   refine ⟨(p.1+1,p.2.1 ++ [[.sl 9 [Fy x]]],v18),?_,?_,GS.weaken ⟨rfl,rfl,rfl,rfl,rfl,trivial⟩ (.refl _)⟩
   · exact ⟨hlx,by simp only;rw [Cx hx,hR.2];simp [Ra]⟩
   · simp only;omega
  ·
   have hte:=Cg hc1
   have hall:=hR.2
   rw [hte] at hall
   refine AW.exit ?_
   refine A2 (A2 (Bo (Ad (Ah ?_))))
   refine AOL.ghost (GS.cell (H2:=_::_::_::_) 1 0 rfl rfl rfl rfl Gt) ?_
   refine AOL.Aa7 (Cb (k:=1) (l:=[_,.bool _]) Aj rfl rfl rfl rfl rfl) rfl rfl ?_
   refine Eu 2 [_,.bool _] (_::_::_::_) ?_
   refine Ag (AW.ret ?_)
   refine ⟨.inr rfl,[.agg [_,.bool _]],.cons (.box _ _ _ 2 _ _ _ _ rfl rfl rfl rfl rfl rfl) <| .nil,.cons _ (.cons _ (.cons _ (.refl _))),?_⟩
   rw [hall];rfl
theorem Eo (T:List Sc)(V:List Va)(e:Ex)(ih:∀a∈e.args,∀s,A1 Tryz.prog 29 [.agg (B9 T V),.agg (cE a),.bool s] (.agg (Dx (Bw T V a s))))(i:Nat)(a:Ex)(ha:e.args[i]? = some a)(s:Bool):A1 Tryz.prog 58 [.int .i64 (i:Int),.bool s,.ptr (B9 T V),.ptr (cE e)] (.agg (Dx (Bw T V a s))):=by
 refine A1.body (n:=15) Aj Tryz.func58 rfl rfl rfl fun H=>?_
 refine Ah ?_
 refine Qe (A0 (l:=[.sl 1 [],.bool false]) (by kernel_rfl)) ?_
 rintro _ _ ⟨b6,rfl,rfl⟩
 refine Ag (AW.seq ?_)
 refine AW.draw mixed (fun _=>True) trivial (by kernel_rfl) ?_
 refine Qn 0 rfl (C8 [_,_]) (Qn 1 rfl Oi (Qn 2 rfl D1 (Qn 3 rfl Az ?_)))
 refine Qn 4 rfl (Af (c:=[Iq _,_,Iq _,Iq _,Iq _,Iq _,Iq _,.str _]) Aj rfl rfl rfl rfl rfl rfl (by omega) (Fg ha)) ?_
 refine Qn 5 rfl E2 (Qn 6 rfl Bt ?_)
 refine Qn 7 rfl (Qc rfl (ih a (List.mem_of_getElem? ha) s)) ?_
 refine Iu.eff _ _ 8 _ _ rfl (by kernel_rfl) rfl rfl (Dc (k:=0) (v:=.agg _) (cs':=[_,.bool _]) (H2:=_::_) Aj rfl rfl rfl rfl (rfl) rfl rfl rfl rfl) (fun _ _ _=>trivial) ?_
 rintro _ _ ⟨rfl,rfl⟩
 refine Iu.done _ _ (by kernel_rfl) ?_
 refine Ad (AW.ret ?_)
 refine ⟨.inr rfl,[.agg [_,.bool _]],.cons (.box _ _ _ 0 _ _ _ _ rfl rfl rfl rfl rfl rfl) <| .nil,.cons _ (.refl _),?_⟩
 rfl
theorem eJ (T:List Sc)(V:List Va)(e:Ex)(hk:KOK T V e)(hse:Av e≤64)(s:Bool):A1 Tryz.prog 29 [.agg (B9 T V),.agg (cE e),.bool s] (.agg (Dx (Bw T V e s))):=by
 revert s hk hse
 induction e using Ex.Aa8
 rename_i e ih0
 intro hk hse s
 have ih:∀a∈e.args,∀s,A1 Tryz.prog 29 [.agg (B9 T V),.agg (cE a),.bool s] (.agg (Dx (Bw T V a s))):=fun a ha s=>ih0 a ha (An hk ha) (Nat.le_trans (Nat.le_of_lt (E9 ha)) hse) s
 have hz:=A9 hk.nodes
 refine A1.body (n:=111) Aj Tryz.func29 rfl rfl rfl fun H=>?_
 refine Ah (Qp (It [_,_]) (Qp Mt ?_))
 refine Qe (A0 (l:=[.sl 1 [],.bool false]) (by kernel_rfl)) ?_
 rintro _ _ ⟨b6,rfl,rfl⟩
 refine Dv ?_
 refine Qp (Gr (l:=[]) (l':=[.ptr _,.ptr _]) rfl rfl) ?_
 refine Qp (Di (v:=.fn _ _ _) rfl) ?_
 refine Ag (AW.seq (Ah (Qp Lm (Qp B2 (Ag (AW.block (Ah (Qp Ba (Qp Bb ?_)))))))))
 refine Ag (A4 (fun hc1=>?_) fun hc1=>?_)
 ·
  refine AW.seq (Ah (Qp Mv (Qp mK (Qp B2 (Qp Ba (Qp Bt ?_))))))
  refine Qp (Lt Aj rfl rfl rfl rfl) ?_
  refine Ag (A4 (fun hc2=>?_) fun hc2=>?_)
  ·
   refine Ah ?_
   refine Qp (C3.weakV (A3 (es:=[[_]]) Aj rfl rfl rfl rfl rfl rfl rfl rfl rfl) cQ) ?_
   refine Qp (Ij [_,.bool _]) ?_
   refine Eu 0 [_,.bool _] (_::_) ?_
   refine Ag (D4 (A6 (Ai ?_)))
   refine ⟨.inr rfl,[.agg [_,.bool _]],.cons (.box _ _ _ 0 _ _ _ _ rfl rfl rfl rfl rfl rfl) <| .nil,.cons _ (.refl _),?_⟩
   first
    | exact absurd (‹(e.op==10)=true›.symm.trans ‹(e.op==10)=false›) (by decide)
    | exact absurd (‹(e.op==11)=true›.symm.trans ‹(e.op==11)=false›) (by decide)
    | exact absurd (‹(e.op==9)=true›.symm.trans ‹(e.op==9)=false›) (by decide)
    | exact Eq.trans rfl (congrArg (fun q:Cs=>AV.agg (Dx q)) (Eh ‹(e.op==0)=true› ‹((e.val.num==1)==s)=true›)).symm
    | exact Eq.trans rfl (congrArg (fun q:Cs=>AV.agg (Dx q)) (Ef ‹(e.op==0)=true› ‹((e.val.num==1)==s)=false›)).symm
    | exact Eq.trans rfl (congrArg (fun q:Cs=>AV.agg (Dx q)) (Ed h00 ‹(e.op==12)=true›)).symm
    | exact Eq.trans rfl (congrArg (fun q:Cs=>AV.agg (Dx q)) (Ei hl2 h10 ‹((e.op==10)==s)=true›)).symm
    | exact Eq.trans rfl (congrArg (fun q:Cs=>AV.agg (Dx q)) (Eg hl2 h10 ‹((e.op==10)==s)=false›)).symm
    | exact Eq.trans rfl (congrArg (fun q:Cs=>AV.agg (Dx q)) (Ej hl2 h9 ‹(Ak T V (Ap e)==1)=true›)).symm
    | exact Eq.trans rfl (congrArg (fun q:Cs=>AV.agg (Dx q)) (Ee h9 ‹(Ak T V (Ap e)==1)=false› ‹(Ak T V (Ap e)==0 && !s)=true›)).symm
    | exact Eq.trans rfl (congrArg (fun q:Cs=>AV.agg (Dx q)) (Hq h9 ‹(Ak T V (Ap e)==1)=false› ‹(Ak T V (Ap e)==0 && !s)=false›)).symm
    | exact Eq.trans rfl (congrArg (fun q:Cs=>AV.agg (Dx q)) (Jk ‹(e.op==0)=false› ‹(e.op==12)=false› (Zo ‹(e.op==10)=false› ‹(e.op==11)=false›) ‹(e.op==9)=false›)).symm
  ·
   refine Bx (Ah (Qp (Ij [_,.bool _]) ?_))
   refine Eu 0 [_,.bool _] (_::_) ?_
   refine AOL.ghost (GS.cell (H2:=_::_) 0 0 rfl rfl rfl rfl (tC (z:=1))) ?_
   refine Ag (AW.ret (A6 (Ai ?_)))
   refine ⟨.inr rfl,[.agg [_,.bool _]],.cons (.box _ _ _ 0 _ _ _ _ rfl rfl rfl rfl rfl rfl) <| .nil,.cons _ (.refl _),?_⟩
   first
    | exact absurd (‹(e.op==10)=true›.symm.trans ‹(e.op==10)=false›) (by decide)
    | exact absurd (‹(e.op==11)=true›.symm.trans ‹(e.op==11)=false›) (by decide)
    | exact absurd (‹(e.op==9)=true›.symm.trans ‹(e.op==9)=false›) (by decide)
    | exact Eq.trans rfl (congrArg (fun q:Cs=>AV.agg (Dx q)) (Eh ‹(e.op==0)=true› ‹((e.val.num==1)==s)=true›)).symm
    | exact Eq.trans rfl (congrArg (fun q:Cs=>AV.agg (Dx q)) (Ef ‹(e.op==0)=true› ‹((e.val.num==1)==s)=false›)).symm
    | exact Eq.trans rfl (congrArg (fun q:Cs=>AV.agg (Dx q)) (Ed h00 ‹(e.op==12)=true›)).symm
    | exact Eq.trans rfl (congrArg (fun q:Cs=>AV.agg (Dx q)) (Ei hl2 h10 ‹((e.op==10)==s)=true›)).symm
    | exact Eq.trans rfl (congrArg (fun q:Cs=>AV.agg (Dx q)) (Eg hl2 h10 ‹((e.op==10)==s)=false›)).symm
    | exact Eq.trans rfl (congrArg (fun q:Cs=>AV.agg (Dx q)) (Ej hl2 h9 ‹(Ak T V (Ap e)==1)=true›)).symm
    | exact Eq.trans rfl (congrArg (fun q:Cs=>AV.agg (Dx q)) (Ee h9 ‹(Ak T V (Ap e)==1)=false› ‹(Ak T V (Ap e)==0 && !s)=true›)).symm
    | exact Eq.trans rfl (congrArg (fun q:Cs=>AV.agg (Dx q)) (Hq h9 ‹(Ak T V (Ap e)==1)=false› ‹(Ak T V (Ap e)==0 && !s)=false›)).symm
    | exact Eq.trans rfl (congrArg (fun q:Cs=>AV.agg (Dx q)) (Jk ‹(e.op==0)=false› ‹(e.op==12)=false› (Zo ‹(e.op==10)=false› ‹(e.op==11)=false›) ‹(e.op==9)=false›)).symm
 ·
  refine Ah (Qp Ba (Qp Bb (Ag (A4 (fun hc3=>?_) fun hc3=>?_))))
  ·
   refine AW.seq ?_
   have h00:=kU hz.1 (eq_of_beq ‹(e.op==12)=true›)
   have ha0:=N7 h00
   refine AW.region ?_
   refine Qp (Bk (v:=.fn _ _ _) rfl) ?_
   refine Qp Bt (Qp Gj ?_)
   refine Qp (Fq (by kernel_rfl) rfl rfl rfl (Eo T V e ih 0 (Ap e) ha0 (!s))) ?_
   refine Eu 0 [_,.bool _] (_::_) ?_
   refine Ag (AW.ret (A6 (Ai ?_)))
   refine ⟨.inr rfl,[.agg [_,.bool _]],.cons (.box _ _ _ 0 _ _ _ _ rfl rfl rfl rfl rfl rfl) <| .nil,.cons _ (.refl _),?_⟩
   first
    | exact absurd (‹(e.op==10)=true›.symm.trans ‹(e.op==10)=false›) (by decide)
    | exact absurd (‹(e.op==11)=true›.symm.trans ‹(e.op==11)=false›) (by decide)
    | exact absurd (‹(e.op==9)=true›.symm.trans ‹(e.op==9)=false›) (by decide)
    | exact Eq.trans rfl (congrArg (fun q:Cs=>AV.agg (Dx q)) (Eh ‹(e.op==0)=true› ‹((e.val.num==1)==s)=true›)).symm
    | exact Eq.trans rfl (congrArg (fun q:Cs=>AV.agg (Dx q)) (Ef ‹(e.op==0)=true› ‹((e.val.num==1)==s)=false›)).symm
    | exact Eq.trans rfl (congrArg (fun q:Cs=>AV.agg (Dx q)) (Ed h00 ‹(e.op==12)=true›)).symm
    | exact Eq.trans rfl (congrArg (fun q:Cs=>AV.agg (Dx q)) (Ei hl2 h10 ‹((e.op==10)==s)=true›)).symm
    | exact Eq.trans rfl (congrArg (fun q:Cs=>AV.agg (Dx q)) (Eg hl2 h10 ‹((e.op==10)==s)=false›)).symm
    | exact Eq.trans rfl (congrArg (fun q:Cs=>AV.agg (Dx q)) (Ej hl2 h9 ‹(Ak T V (Ap e)==1)=true›)).symm
    | exact Eq.trans rfl (congrArg (fun q:Cs=>AV.agg (Dx q)) (Ee h9 ‹(Ak T V (Ap e)==1)=false› ‹(Ak T V (Ap e)==0 && !s)=true›)).symm
    | exact Eq.trans rfl (congrArg (fun q:Cs=>AV.agg (Dx q)) (Hq h9 ‹(Ak T V (Ap e)==1)=false› ‹(Ak T V (Ap e)==0 && !s)=false›)).symm
    | exact Eq.trans rfl (congrArg (fun q:Cs=>AV.agg (Dx q)) (Jk ‹(e.op==0)=false› ‹(e.op==12)=false› (Zo ‹(e.op==10)=false› ‹(e.op==11)=false›) ‹(e.op==9)=false›)).symm
  ·
   refine AW.seq (Ah (Qp Ba (Qp Bb (Ag (A4 (fun hc4=>?_) fun hc4=>?_)))))
   ·
    refine Bx (A4 (fun hc5=>?_) fun hc5=>?_)
    ·
     refine AW.seq (Ah (Qp Lm (Qp B2 (Qp Ba (Qp Bt ?_)))))
     refine Qp (Lt Aj rfl rfl rfl rfl) ?_
     refine Ag (A4 (fun hc6=>?_) fun hc6=>?_)
     ·
      refine AW.seq ?_
      have h10:(e.op==10||e.op==11)=true:=by first | exact Yk ‹(e.op==10)=true› | exact Yo ‹(e.op==11)=true›
      have hl2:=Ea hz.1 (by simp at h10;omega)
      have h00:0<e.args.length:=by omega
      have ha0:=N7 h00
      have ha1:=Ql hl2
      have m0:=Ax h00
      have m1:=Bf hl2
      have k0:=Ge _ (An hk m0)
      have k1:=Ge _ (An hk m1)
      have hs01:=Da hl2
      refine AW.region ?_
      refine Qp (Bk (v:=.fn _ _ _) rfl) ?_
      refine Qp Bt ?_
      refine Qp (Fq (by kernel_rfl) rfl rfl rfl (Eo T V e ih 0 (Ap e) ha0 s)) ?_
      refine Qp (Bk (v:=.fn _ _ _) rfl) ?_
      refine Qp Bt ?_
      refine Qp (Fq (by kernel_rfl) rfl rfl rfl (Eo T V e ih 1 (B3 e) ha1 s)) ?_
      refine Qp (Qc rfl (Qi _ _ _ _ (k0 s) (k1 s) (by omega) (by omega))) ?_
      refine Eu 0 [_,.bool _] (_::_) ?_
      refine Ag (D4 (A6 (Ai ?_)))
      refine ⟨.inr rfl,[.agg [_,.bool _]],.cons (.box _ _ _ 0 _ _ _ _ rfl rfl rfl rfl rfl rfl) <| .nil,.cons _ (.refl _),?_⟩
      first
       | exact absurd (‹(e.op==10)=true›.symm.trans ‹(e.op==10)=false›) (by decide)
       | exact absurd (‹(e.op==11)=true›.symm.trans ‹(e.op==11)=false›) (by decide)
       | exact absurd (‹(e.op==9)=true›.symm.trans ‹(e.op==9)=false›) (by decide)
       | exact Eq.trans rfl (congrArg (fun q:Cs=>AV.agg (Dx q)) (Eh ‹(e.op==0)=true› ‹((e.val.num==1)==s)=true›)).symm
       | exact Eq.trans rfl (congrArg (fun q:Cs=>AV.agg (Dx q)) (Ef ‹(e.op==0)=true› ‹((e.val.num==1)==s)=false›)).symm
       | exact Eq.trans rfl (congrArg (fun q:Cs=>AV.agg (Dx q)) (Ed h00 ‹(e.op==12)=true›)).symm
       | exact Eq.trans rfl (congrArg (fun q:Cs=>AV.agg (Dx q)) (Ei hl2 h10 ‹((e.op==10)==s)=true›)).symm
       | exact Eq.trans rfl (congrArg (fun q:Cs=>AV.agg (Dx q)) (Eg hl2 h10 ‹((e.op==10)==s)=false›)).symm
       | exact Eq.trans rfl (congrArg (fun q:Cs=>AV.agg (Dx q)) (Ej hl2 h9 ‹(Ak T V (Ap e)==1)=true›)).symm
       | exact Eq.trans rfl (congrArg (fun q:Cs=>AV.agg (Dx q)) (Ee h9 ‹(Ak T V (Ap e)==1)=false› ‹(Ak T V (Ap e)==0 && !s)=true›)).symm
       | exact Eq.trans rfl (congrArg (fun q:Cs=>AV.agg (Dx q)) (Hq h9 ‹(Ak T V (Ap e)==1)=false› ‹(Ak T V (Ap e)==0 && !s)=false›)).symm
       | exact Eq.trans rfl (congrArg (fun q:Cs=>AV.agg (Dx q)) (Jk ‹(e.op==0)=false› ‹(e.op==12)=false› (Zo ‹(e.op==10)=false› ‹(e.op==11)=false›) ‹(e.op==9)=false›)).symm
     ·
      refine Bx (AW.seq ?_)
      have h10:(e.op==10||e.op==11)=true:=by first | exact Yk ‹(e.op==10)=true› | exact Yo ‹(e.op==11)=true›
      have hl2:=Ea hz.1 (by simp at h10;omega)
      have h00:0<e.args.length:=by omega
      have ha0:=N7 h00
      have ha1:=Ql hl2
      have m0:=Ax h00
      have m1:=Bf hl2
      have k0:=Ge _ (An hk m0)
      have k1:=Ge _ (An hk m1)
      have hs01:=Da hl2
      refine AW.region ?_
      refine Qp (Bk (v:=.fn _ _ _) rfl) ?_
      refine Qp Bt ?_
      refine Qp (Fq (by kernel_rfl) rfl rfl rfl (Eo T V e ih 0 (Ap e) ha0 s)) ?_
      refine Qp (Bk (v:=.fn _ _ _) rfl) ?_
      refine Qp Bt ?_
      refine Qp (Fq (by kernel_rfl) rfl rfl rfl (Eo T V e ih 1 (B3 e) ha1 s)) ?_
      refine Qp (Qc rfl (gU _ _ _ _ ((k0 s).mono (Nat.le_trans (by omega) hse)) ((k1 s).mono (Nat.le_trans (by omega) hse)) (by omega) (by omega))) ?_
      refine Eu 0 [_,.bool _] (_::_) ?_
      refine Ag (AW.ret (A6 (Ai ?_)))
      refine ⟨.inr rfl,[.agg [_,.bool _]],.cons (.box _ _ _ 0 _ _ _ _ rfl rfl rfl rfl rfl rfl) <| .nil,.cons _ (.refl _),?_⟩
      first
       | exact absurd (‹(e.op==10)=true›.symm.trans ‹(e.op==10)=false›) (by decide)
       | exact absurd (‹(e.op==11)=true›.symm.trans ‹(e.op==11)=false›) (by decide)
       | exact absurd (‹(e.op==9)=true›.symm.trans ‹(e.op==9)=false›) (by decide)
       | exact Eq.trans rfl (congrArg (fun q:Cs=>AV.agg (Dx q)) (Eh ‹(e.op==0)=true› ‹((e.val.num==1)==s)=true›)).symm
       | exact Eq.trans rfl (congrArg (fun q:Cs=>AV.agg (Dx q)) (Ef ‹(e.op==0)=true› ‹((e.val.num==1)==s)=false›)).symm
       | exact Eq.trans rfl (congrArg (fun q:Cs=>AV.agg (Dx q)) (Ed h00 ‹(e.op==12)=true›)).symm
       | exact Eq.trans rfl (congrArg (fun q:Cs=>AV.agg (Dx q)) (Ei hl2 h10 ‹((e.op==10)==s)=true›)).symm
       | exact Eq.trans rfl (congrArg (fun q:Cs=>AV.agg (Dx q)) (Eg hl2 h10 ‹((e.op==10)==s)=false›)).symm
       | exact Eq.trans rfl (congrArg (fun q:Cs=>AV.agg (Dx q)) (Ej hl2 h9 ‹(Ak T V (Ap e)==1)=true›)).symm
       | exact Eq.trans rfl (congrArg (fun q:Cs=>AV.agg (Dx q)) (Ee h9 ‹(Ak T V (Ap e)==1)=false› ‹(Ak T V (Ap e)==0 && !s)=true›)).symm
       | exact Eq.trans rfl (congrArg (fun q:Cs=>AV.agg (Dx q)) (Hq h9 ‹(Ak T V (Ap e)==1)=false› ‹(Ak T V (Ap e)==0 && !s)=false›)).symm
       | exact Eq.trans rfl (congrArg (fun q:Cs=>AV.agg (Dx q)) (Jk ‹(e.op==0)=false› ‹(e.op==12)=false› (Zo ‹(e.op==10)=false› ‹(e.op==11)=false›) ‹(e.op==9)=false›)).symm
    ·
     exact absurd (hc5.symm.trans hc4) (by decide)
   ·
    refine AW.region (Qp Ba (Qp Bb (Ag (A4 (fun hc7=>?_) fun hc7=>?_))))
    ·
     refine AW.seq (Ah (Qp Lm (Qp B2 (Qp Ba (Qp Bt ?_)))))
     refine Qp (Lt Aj rfl rfl rfl rfl) ?_
     refine Ag (A4 (fun hc8=>?_) fun hc8=>?_)
     ·
      refine AW.seq ?_
      have h10:(e.op==10||e.op==11)=true:=by first | exact Yk ‹(e.op==10)=true› | exact Yo ‹(e.op==11)=true›
      have hl2:=Ea hz.1 (by simp at h10;omega)
      have h00:0<e.args.length:=by omega
      have ha0:=N7 h00
      have ha1:=Ql hl2
      have m0:=Ax h00
      have m1:=Bf hl2
      have k0:=Ge _ (An hk m0)
      have k1:=Ge _ (An hk m1)
      have hs01:=Da hl2
      refine AW.region ?_
      refine Qp (Bk (v:=.fn _ _ _) rfl) ?_
      refine Qp Bt ?_
      refine Qp (Fq (by kernel_rfl) rfl rfl rfl (Eo T V e ih 0 (Ap e) ha0 s)) ?_
      refine Qp (Bk (v:=.fn _ _ _) rfl) ?_
      refine Qp Bt ?_
      refine Qp (Fq (by kernel_rfl) rfl rfl rfl (Eo T V e ih 1 (B3 e) ha1 s)) ?_
      refine Qp (Qc rfl (Qi _ _ _ _ (k0 s) (k1 s) (by omega) (by omega))) ?_
      refine Eu 0 [_,.bool _] (_::_) ?_
      refine Ag (D4 (A6 (Ai ?_)))
      refine ⟨.inr rfl,[.agg [_,.bool _]],.cons (.box _ _ _ 0 _ _ _ _ rfl rfl rfl rfl rfl rfl) <| .nil,.cons _ (.refl _),?_⟩
      first
       | exact absurd (‹(e.op==10)=true›.symm.trans ‹(e.op==10)=false›) (by decide)
       | exact absurd (‹(e.op==11)=true›.symm.trans ‹(e.op==11)=false›) (by decide)
       | exact absurd (‹(e.op==9)=true›.symm.trans ‹(e.op==9)=false›) (by decide)
       | exact Eq.trans rfl (congrArg (fun q:Cs=>AV.agg (Dx q)) (Eh ‹(e.op==0)=true› ‹((e.val.num==1)==s)=true›)).symm
       | exact Eq.trans rfl (congrArg (fun q:Cs=>AV.agg (Dx q)) (Ef ‹(e.op==0)=true› ‹((e.val.num==1)==s)=false›)).symm
       | exact Eq.trans rfl (congrArg (fun q:Cs=>AV.agg (Dx q)) (Ed h00 ‹(e.op==12)=true›)).symm
       | exact Eq.trans rfl (congrArg (fun q:Cs=>AV.agg (Dx q)) (Ei hl2 h10 ‹((e.op==10)==s)=true›)).symm
       | exact Eq.trans rfl (congrArg (fun q:Cs=>AV.agg (Dx q)) (Eg hl2 h10 ‹((e.op==10)==s)=false›)).symm
       | exact Eq.trans rfl (congrArg (fun q:Cs=>AV.agg (Dx q)) (Ej hl2 h9 ‹(Ak T V (Ap e)==1)=true›)).symm
       | exact Eq.trans rfl (congrArg (fun q:Cs=>AV.agg (Dx q)) (Ee h9 ‹(Ak T V (Ap e)==1)=false› ‹(Ak T V (Ap e)==0 && !s)=true›)).symm
       | exact Eq.trans rfl (congrArg (fun q:Cs=>AV.agg (Dx q)) (Hq h9 ‹(Ak T V (Ap e)==1)=false› ‹(Ak T V (Ap e)==0 && !s)=false›)).symm
       | exact Eq.trans rfl (congrArg (fun q:Cs=>AV.agg (Dx q)) (Jk ‹(e.op==0)=false› ‹(e.op==12)=false› (Zo ‹(e.op==10)=false› ‹(e.op==11)=false›) ‹(e.op==9)=false›)).symm
     ·
      refine Bx (AW.seq ?_)
      have h10:(e.op==10||e.op==11)=true:=by first | exact Yk ‹(e.op==10)=true› | exact Yo ‹(e.op==11)=true›
      have hl2:=Ea hz.1 (by simp at h10;omega)
      have h00:0<e.args.length:=by omega
      have ha0:=N7 h00
      have ha1:=Ql hl2
      have m0:=Ax h00
      have m1:=Bf hl2
      have k0:=Ge _ (An hk m0)
      have k1:=Ge _ (An hk m1)
      have hs01:=Da hl2
      refine AW.region ?_
      refine Qp (Bk (v:=.fn _ _ _) rfl) ?_
      refine Qp Bt ?_
      refine Qp (Fq (by kernel_rfl) rfl rfl rfl (Eo T V e ih 0 (Ap e) ha0 s)) ?_
      refine Qp (Bk (v:=.fn _ _ _) rfl) ?_
      refine Qp Bt ?_
      refine Qp (Fq (by kernel_rfl) rfl rfl rfl (Eo T V e ih 1 (B3 e) ha1 s)) ?_
      refine Qp (Qc rfl (gU _ _ _ _ ((k0 s).mono (Nat.le_trans (by omega) hse)) ((k1 s).mono (Nat.le_trans (by omega) hse)) (by omega) (by omega))) ?_
      refine Eu 0 [_,.bool _] (_::_) ?_
      refine Ag (AW.ret (A6 (Ai ?_)))
      refine ⟨.inr rfl,[.agg [_,.bool _]],.cons (.box _ _ _ 0 _ _ _ _ rfl rfl rfl rfl rfl rfl) <| .nil,.cons _ (.refl _),?_⟩
      first
       | exact absurd (‹(e.op==10)=true›.symm.trans ‹(e.op==10)=false›) (by decide)
       | exact absurd (‹(e.op==11)=true›.symm.trans ‹(e.op==11)=false›) (by decide)
       | exact absurd (‹(e.op==9)=true›.symm.trans ‹(e.op==9)=false›) (by decide)
       | exact Eq.trans rfl (congrArg (fun q:Cs=>AV.agg (Dx q)) (Eh ‹(e.op==0)=true› ‹((e.val.num==1)==s)=true›)).symm
       | exact Eq.trans rfl (congrArg (fun q:Cs=>AV.agg (Dx q)) (Ef ‹(e.op==0)=true› ‹((e.val.num==1)==s)=false›)).symm
       | exact Eq.trans rfl (congrArg (fun q:Cs=>AV.agg (Dx q)) (Ed h00 ‹(e.op==12)=true›)).symm
       | exact Eq.trans rfl (congrArg (fun q:Cs=>AV.agg (Dx q)) (Ei hl2 h10 ‹((e.op==10)==s)=true›)).symm
       | exact Eq.trans rfl (congrArg (fun q:Cs=>AV.agg (Dx q)) (Eg hl2 h10 ‹((e.op==10)==s)=false›)).symm
       | exact Eq.trans rfl (congrArg (fun q:Cs=>AV.agg (Dx q)) (Ej hl2 h9 ‹(Ak T V (Ap e)==1)=true›)).symm
       | exact Eq.trans rfl (congrArg (fun q:Cs=>AV.agg (Dx q)) (Ee h9 ‹(Ak T V (Ap e)==1)=false› ‹(Ak T V (Ap e)==0 && !s)=true›)).symm
       | exact Eq.trans rfl (congrArg (fun q:Cs=>AV.agg (Dx q)) (Hq h9 ‹(Ak T V (Ap e)==1)=false› ‹(Ak T V (Ap e)==0 && !s)=false›)).symm
       | exact Eq.trans rfl (congrArg (fun q:Cs=>AV.agg (Dx q)) (Jk ‹(e.op==0)=false› ‹(e.op==12)=false› (Zo ‹(e.op==10)=false› ‹(e.op==11)=false›) ‹(e.op==9)=false›)).symm
    ·
     refine Ah (Qp Ba (Qp Bb (Ag (A4 (fun hc9=>?_) fun hc9=>?_))))
     ·
      refine AW.seq ?_
      have h9:(e.op==9)=true:=‹(e.op==9)=true›
      have hl2:=Ea hz.1 (by simp at h9;omega)
      have h00:0<e.args.length:=by omega
      have ha0:=N7 h00
      have ha1:=Ql hl2
      have m0:=Ax h00
      have m1:=Bf hl2
      have k0:=Ge _ (An hk m0)
      have k1:=Ge _ (An hk m1)
      have hs01:=Da hl2
      refine AW.draw mixed (fun _=>True) trivial (by kernel_rfl) ?_
      refine Qn 0 rfl (C8 [_,_]) (Qn 1 rfl Oi (Qn 2 rfl D1 ?_))
      refine Qn 3 rfl (Af (c:=[Iq _,_,Iq _,Iq _,Iq _,Iq _,Iq _,.str _]) Aj rfl rfl rfl rfl rfl rfl (by decide) (Gf h00)) ?_
      refine Qn 4 rfl E2 ?_
      refine Qn 5 rfl (Qc rfl (Us T V _ (An hk m0))) ?_
      refine Qn 6 rfl Aq ?_
      refine Iu.done _ _ (by kernel_rfl) ?_
      refine Ad (AW.block (Ah (Qp Az (Qp Ba (Qp Bb (Ag (A4 (fun hc10=>?_) fun hc10=>?_)))))))
      ·
       refine Ah ?_
       refine Qp (Bk (v:=.fn _ _ _) rfl) ?_
       refine Qp (Fq (by kernel_rfl) rfl rfl rfl (Eo T V e ih 0 (Ap e) ha0 true)) ?_
       refine Qp (Bk (v:=.fn _ _ _) rfl) ?_
       refine Qp Bt ?_
       refine Qp (Fq (by kernel_rfl) rfl rfl rfl (Eo T V e ih 1 (B3 e) ha1 s)) ?_
       refine Qp (Qc rfl (Qi _ _ _ _ (k0 true) (k1 s) (by omega) (by omega))) ?_
       refine Qp (Bk (v:=.fn _ _ _) rfl) ?_
       refine Qp (Fq (by kernel_rfl) rfl rfl rfl (Eo T V e ih 0 (Ap e) ha0 false)) ?_
       refine Qp (Bk (v:=.fn _ _ _) rfl) ?_
       refine Qp Bt (Qp Gj ?_)
       refine Qp (Fq (by kernel_rfl) rfl rfl rfl (Eo T V e ih 1 (B3 e) ha1 (!s))) ?_
       refine Qp (Qc rfl (Qi _ _ _ _ (k0 false) (k1 (!s)) (by omega) (by omega))) ?_
       refine Qp (Qc rfl (gU _ _ _ _ ((K8 (k0 true) (k1 s)).mono (Nat.le_trans (by omega) hse)) ((K8 (k0 false) (k1 (!s))).mono (Nat.le_trans (by omega) hse)) (by omega) (by omega))) ?_
       refine Eu 0 [_,.bool _] (_::_) ?_
       refine Ag (AW.ret (A6 (A6 (Ai ?_))))
       refine ⟨.inr rfl,[.agg [_,.bool _]],.cons (.box _ _ _ 0 _ _ _ _ rfl rfl rfl rfl rfl rfl) <| .nil,.cons _ (.refl _),?_⟩
       first
        | exact absurd (‹(e.op==10)=true›.symm.trans ‹(e.op==10)=false›) (by decide)
        | exact absurd (‹(e.op==11)=true›.symm.trans ‹(e.op==11)=false›) (by decide)
        | exact absurd (‹(e.op==9)=true›.symm.trans ‹(e.op==9)=false›) (by decide)
        | exact Eq.trans rfl (congrArg (fun q:Cs=>AV.agg (Dx q)) (Eh ‹(e.op==0)=true› ‹((e.val.num==1)==s)=true›)).symm
        | exact Eq.trans rfl (congrArg (fun q:Cs=>AV.agg (Dx q)) (Ef ‹(e.op==0)=true› ‹((e.val.num==1)==s)=false›)).symm
        | exact Eq.trans rfl (congrArg (fun q:Cs=>AV.agg (Dx q)) (Ed h00 ‹(e.op==12)=true›)).symm
        | exact Eq.trans rfl (congrArg (fun q:Cs=>AV.agg (Dx q)) (Ei hl2 h10 ‹((e.op==10)==s)=true›)).symm
        | exact Eq.trans rfl (congrArg (fun q:Cs=>AV.agg (Dx q)) (Eg hl2 h10 ‹((e.op==10)==s)=false›)).symm
        | exact Eq.trans rfl (congrArg (fun q:Cs=>AV.agg (Dx q)) (Ej hl2 h9 ‹(Ak T V (Ap e)==1)=true›)).symm
        | exact Eq.trans rfl (congrArg (fun q:Cs=>AV.agg (Dx q)) (Ee h9 ‹(Ak T V (Ap e)==1)=false› ‹(Ak T V (Ap e)==0 && !s)=true›)).symm
        | exact Eq.trans rfl (congrArg (fun q:Cs=>AV.agg (Dx q)) (Hq h9 ‹(Ak T V (Ap e)==1)=false› ‹(Ak T V (Ap e)==0 && !s)=false›)).symm
        | exact Eq.trans rfl (congrArg (fun q:Cs=>AV.agg (Dx q)) (Jk ‹(e.op==0)=false› ‹(e.op==12)=false› (Zo ‹(e.op==10)=false› ‹(e.op==11)=false›) ‹(e.op==9)=false›)).symm
      ·
       refine Ah (Qp Az (Qp Ba (Qp Bt (Qg [] Qw Bt (Qg [(80,_)] Qw Gj (Qp G1 (Qp Bb (Ag (A4 (fun hc11=>?_) fun hc11=>?_)))))))))
       ·
        refine AW.seq ?_
        refine AW.draw mixed (fun _=>True) trivial (by kernel_rfl) ?_
        refine Qn 0 rfl Oi (Qn 1 rfl D1 ?_)
        refine Qn 2 rfl (Af (c:=[Iq _,_,Iq _,Iq _,Iq _,Iq _,Iq _,.str _]) Aj rfl rfl rfl rfl rfl rfl (by decide) (Gf h00)) ?_
        refine Qn 3 rfl E2 (Qn 4 rfl Oi (Qn 5 rfl D1 ?_))
        refine Qn 6 rfl (Af (c:=[Iq _,_,Iq _,Iq _,Iq _,Iq _,Iq _,.str _]) Aj rfl rfl rfl rfl rfl rfl (by decide) (Jw hl2)) ?_
        refine Qn 7 rfl E2 ?_
        refine Qn 8 rfl (Qc rfl (yY 7 _ _)) ?_
        refine Qn 9 rfl (Ij [Iq _,_,Iq _,Iq _,Iq _,Iq _,Iq _,.str _,.bool _]) (Qn 10 rfl Oi (Qn 11 rfl D1 ?_))
        refine Qn 12 rfl (Af (c:=[Iq _,_,Iq _,Iq _,Iq _,Iq _,Iq _,.str _]) Aj rfl rfl rfl rfl rfl rfl (by decide) (Jw hl2)) ?_
        refine Qn 13 rfl E2 (Qn 14 rfl Oi (Qn 15 rfl D1 ?_))
        refine Qn 16 rfl (Af (c:=[Iq _,_,Iq _,Iq _,Iq _,Iq _,Iq _,.str _]) Aj rfl rfl rfl rfl rfl rfl (by decide) (Gf h00)) ?_
        refine Qn 17 rfl E2 ?_
        refine Qn 18 rfl (Qc rfl (yY 7 _ _)) ?_
        refine Qn 19 rfl (Ij [Iq _,_,Iq _,Iq _,Iq _,Iq _,Iq _,.str _,.bool _]) ?_
        refine Qn 20 rfl (A3 (es:=[[Iq _,_,Iq _,Iq _,Iq _,Iq _,Iq _,.str _,.bool _],[Iq _,_,Iq _,Iq _,Iq _,Iq _,Iq _,.str _,.bool _]]) Aj rfl rfl rfl rfl rfl rfl rfl rfl rfl) ?_
        refine Qn 21 rfl (Qc rfl (Ux [⟨two 7 (Ap e) (B3 e),false⟩,⟨two 7 (B3 e) (Ap e),false⟩] (show 2≤256 by decide))) ?_
        refine Iu.eff _ _ 22 _ _ rfl (by kernel_rfl) rfl rfl (Dc (k:=0) (v:=.agg _) (cs':=[_,.bool _]) (H2:=_::_) Aj rfl rfl rfl rfl (rfl) rfl rfl rfl rfl) (fun _ _ _=>trivial) ?_
        rintro _ _ ⟨rfl,rfl⟩
        refine Iu.done _ _ (by kernel_rfl) ?_
        refine Ad (AW.ret (A6 (A6 (Ai ?_))))
        refine ⟨.inr rfl,[.agg [_,.bool _]],.cons (.box _ _ _ 0 _ _ _ _ rfl rfl rfl rfl rfl rfl) <| .nil,.cons _ (.refl _),?_⟩
        first
         | exact absurd (‹(e.op==10)=true›.symm.trans ‹(e.op==10)=false›) (by decide)
         | exact absurd (‹(e.op==11)=true›.symm.trans ‹(e.op==11)=false›) (by decide)
         | exact absurd (‹(e.op==9)=true›.symm.trans ‹(e.op==9)=false›) (by decide)
         | exact Eq.trans rfl (congrArg (fun q:Cs=>AV.agg (Dx q)) (Eh ‹(e.op==0)=true› ‹((e.val.num==1)==s)=true›)).symm
         | exact Eq.trans rfl (congrArg (fun q:Cs=>AV.agg (Dx q)) (Ef ‹(e.op==0)=true› ‹((e.val.num==1)==s)=false›)).symm
         | exact Eq.trans rfl (congrArg (fun q:Cs=>AV.agg (Dx q)) (Ed h00 ‹(e.op==12)=true›)).symm
         | exact Eq.trans rfl (congrArg (fun q:Cs=>AV.agg (Dx q)) (Ei hl2 h10 ‹((e.op==10)==s)=true›)).symm
         | exact Eq.trans rfl (congrArg (fun q:Cs=>AV.agg (Dx q)) (Eg hl2 h10 ‹((e.op==10)==s)=false›)).symm
         | exact Eq.trans rfl (congrArg (fun q:Cs=>AV.agg (Dx q)) (Ej hl2 h9 ‹(Ak T V (Ap e)==1)=true›)).symm
         | exact Eq.trans rfl (congrArg (fun q:Cs=>AV.agg (Dx q)) (Ee h9 ‹(Ak T V (Ap e)==1)=false› ‹(Ak T V (Ap e)==0 && !s)=true›)).symm
         | exact Eq.trans rfl (congrArg (fun q:Cs=>AV.agg (Dx q)) (Hq h9 ‹(Ak T V (Ap e)==1)=false› ‹(Ak T V (Ap e)==0 && !s)=false›)).symm
         | exact Eq.trans rfl (congrArg (fun q:Cs=>AV.agg (Dx q)) (Jk ‹(e.op==0)=false› ‹(e.op==12)=false› (Zo ‹(e.op==10)=false› ‹(e.op==11)=false›) ‹(e.op==9)=false›)).symm
       ·
        refine AW.skip (Bn (Bn (Ad (Ah (Qp E2 (Qp Bt (Qp Gj (Qp (Ij [Iq _,_,Iq _,Iq _,Iq _,Iq _,Iq _,.str _,.bool _]) ?_))))))))
        refine Qp (A3 (es:=[[Iq _,_,Iq _,Iq _,Iq _,Iq _,Iq _,.str _,.bool _]]) Aj rfl rfl rfl rfl rfl rfl rfl rfl rfl) ?_
        refine Qp (Qc rfl (Ux [⟨e,!s⟩] (show 1≤256 by decide))) ?_
        refine Eu 0 [_,.bool _] (_::_) ?_
        refine Ag (AW.ret ?_)
        refine ⟨.inr rfl,[.agg [_,.bool _]],.cons (.box _ _ _ 0 _ _ _ _ rfl rfl rfl rfl rfl rfl) <| .nil,.cons _ (.refl _),?_⟩
        first
         | exact absurd (‹(e.op==10)=true›.symm.trans ‹(e.op==10)=false›) (by decide)
         | exact absurd (‹(e.op==11)=true›.symm.trans ‹(e.op==11)=false›) (by decide)
         | exact absurd (‹(e.op==9)=true›.symm.trans ‹(e.op==9)=false›) (by decide)
         | exact Eq.trans rfl (congrArg (fun q:Cs=>AV.agg (Dx q)) (Eh ‹(e.op==0)=true› ‹((e.val.num==1)==s)=true›)).symm
         | exact Eq.trans rfl (congrArg (fun q:Cs=>AV.agg (Dx q)) (Ef ‹(e.op==0)=true› ‹((e.val.num==1)==s)=false›)).symm
         | exact Eq.trans rfl (congrArg (fun q:Cs=>AV.agg (Dx q)) (Ed h00 ‹(e.op==12)=true›)).symm
         | exact Eq.trans rfl (congrArg (fun q:Cs=>AV.agg (Dx q)) (Ei hl2 h10 ‹((e.op==10)==s)=true›)).symm
         | exact Eq.trans rfl (congrArg (fun q:Cs=>AV.agg (Dx q)) (Eg hl2 h10 ‹((e.op==10)==s)=false›)).symm
         | exact Eq.trans rfl (congrArg (fun q:Cs=>AV.agg (Dx q)) (Ej hl2 h9 ‹(Ak T V (Ap e)==1)=true›)).symm
         | exact Eq.trans rfl (congrArg (fun q:Cs=>AV.agg (Dx q)) (Ee h9 ‹(Ak T V (Ap e)==1)=false› ‹(Ak T V (Ap e)==0 && !s)=true›)).symm
         | exact Eq.trans rfl (congrArg (fun q:Cs=>AV.agg (Dx q)) (Hq h9 ‹(Ak T V (Ap e)==1)=false› ‹(Ak T V (Ap e)==0 && !s)=false›)).symm
         | exact Eq.trans rfl (congrArg (fun q:Cs=>AV.agg (Dx q)) (Jk ‹(e.op==0)=false› ‹(e.op==12)=false› (Zo ‹(e.op==10)=false› ‹(e.op==11)=false›) ‹(e.op==9)=false›)).symm
     ·
      refine AW.skip (Bn (Ad (Ah (Qp E2 (Qp Bt (Qp Gj (Qp (Ij [Iq _,_,Iq _,Iq _,Iq _,Iq _,Iq _,.str _,.bool _]) ?_)))))))
      refine Qp (A3 (es:=[[Iq _,_,Iq _,Iq _,Iq _,Iq _,Iq _,.str _,.bool _]]) Aj rfl rfl rfl rfl rfl rfl rfl rfl rfl) ?_
      refine Qp (Qc rfl (Ux [⟨e,!s⟩] (show 1≤256 by decide))) ?_
      refine Eu 0 [_,.bool _] (_::_) ?_
      refine Ag (AW.ret ?_)
      refine ⟨.inr rfl,[.agg [_,.bool _]],.cons (.box _ _ _ 0 _ _ _ _ rfl rfl rfl rfl rfl rfl) <| .nil,.cons _ (.refl _),?_⟩
      first
       | exact absurd (‹(e.op==10)=true›.symm.trans ‹(e.op==10)=false›) (by decide)
       | exact absurd (‹(e.op==11)=true›.symm.trans ‹(e.op==11)=false›) (by decide)
       | exact absurd (‹(e.op==9)=true›.symm.trans ‹(e.op==9)=false›) (by decide)
       | exact Eq.trans rfl (congrArg (fun q:Cs=>AV.agg (Dx q)) (Eh ‹(e.op==0)=true› ‹((e.val.num==1)==s)=true›)).symm
       | exact Eq.trans rfl (congrArg (fun q:Cs=>AV.agg (Dx q)) (Ef ‹(e.op==0)=true› ‹((e.val.num==1)==s)=false›)).symm
       | exact Eq.trans rfl (congrArg (fun q:Cs=>AV.agg (Dx q)) (Ed h00 ‹(e.op==12)=true›)).symm
       | exact Eq.trans rfl (congrArg (fun q:Cs=>AV.agg (Dx q)) (Ei hl2 h10 ‹((e.op==10)==s)=true›)).symm
       | exact Eq.trans rfl (congrArg (fun q:Cs=>AV.agg (Dx q)) (Eg hl2 h10 ‹((e.op==10)==s)=false›)).symm
       | exact Eq.trans rfl (congrArg (fun q:Cs=>AV.agg (Dx q)) (Ej hl2 h9 ‹(Ak T V (Ap e)==1)=true›)).symm
       | exact Eq.trans rfl (congrArg (fun q:Cs=>AV.agg (Dx q)) (Ee h9 ‹(Ak T V (Ap e)==1)=false› ‹(Ak T V (Ap e)==0 && !s)=true›)).symm
       | exact Eq.trans rfl (congrArg (fun q:Cs=>AV.agg (Dx q)) (Hq h9 ‹(Ak T V (Ap e)==1)=false› ‹(Ak T V (Ap e)==0 && !s)=false›)).symm
       | exact Eq.trans rfl (congrArg (fun q:Cs=>AV.agg (Dx q)) (Jk ‹(e.op==0)=false› ‹(e.op==12)=false› (Zo ‹(e.op==10)=false› ‹(e.op==11)=false›) ‹(e.op==9)=false›)).symm
theorem oE (T:List Sc)(hl:T.length≤1048576)(hst:∀s∈T,Is s)(V:List Va)(hvl:V.length≤1048576)(e:Ex)(hse:Av e≤1048576):A1 Tryz.prog 9 [.sl 2 (T.map N5),.sl 2 (V.map Tp),.agg (cE e)] (.tuple [.sl 1 ((Cp T V e).1.map Ra),.int .i64 (Cp T V e).2]):=by
 refine A1.body (n:=28) Aj Tryz.func9 rfl rfl rfl fun H=>?_
 refine Ah (Qp Mt ?_)
 refine Qp (Br (z:=1) rfl) ?_
 refine Qp Aq (Dv (Qp Dm (Qp Dm (Qp (Ij [_,_]) ?_))))
 refine Qe (A0 (l:=[.sl 2 [],.sl 2 []]) (by kernel_rfl)) ?_
 rintro _ _ ⟨b8,rfl,rfl⟩
 refine Eu 0 [_,_] (_::_) ?_
 refine AOL.ghost (GS.Aa2 (t:=8) 0 rfl rfl) ?_
 refine Ag (AW.seq (Ah (Qp (C8 [_,_]) (Qp E2 ?_))))
 refine Qp (Qc rfl (Kq T hl hst V hvl e hse)) ?_
 refine Qp Aq (Dv (Qp Az (Qp C1 (Ag (A4 (fun hc1=>?_) fun hc1=>?_)))))
 ·
  refine Ah (Qp Az ?_)
  refine Qp (Br (z:=1) rfl) ?_
  refine Qp Aq (Ag (D4 ?_))
  refine Iw (.sl _ _) (Iq _) ?_
  exact Eq.trans rfl (congrArg (fun q:List (List Lit)×Int=>AV.tuple [.sl 1 (q.1.map Ra),.int .i64 q.2]) (Yu hc1)).symm
 ·
  have hk:=(Nh hc1).1
  refine Bx (Ah (Qp (C8 [_,_]) (Qp E2 ?_)))
  refine Qp (Qc rfl (eJ T V e hk.kok (Kv hk) true)) ?_
  refine Qe (A0 (l:=[.sl 1 [],.bool false]) (by kernel_rfl)) ?_
  rintro _ _ ⟨b10,rfl,rfl⟩
  refine Eu 0 [_,.bool _] (_::_) ?_
  refine AOL.ghost (GS.Aa2 (t:=10) 0 rfl rfl) ?_
  refine Ag (AW.seq (Ah (Qp (Qf [.bool _]) (Qp kM (Qp Gj (Ag (A4 (fun hc2=>?_) fun hc2=>?_)))))))
  ·
   refine Ah ?_
   refine Qp (Br (z:=1) rfl) ?_
   refine Qp Aq (Ag (D4 ?_))
   refine Iw (.sl _ _) (Iq _) ?_
   exact Eq.trans rfl (congrArg (fun q:List (List Lit)×Int=>AV.tuple [.sl 1 (q.1.map Ra),.int .i64 q.2]) (Xv hc1 hc2)).symm
  ·
   refine Bx (Ah (Qp (Qf [_,.bool _]) (Qp D1 (Qp Sx (Qp Aq (Ag (AW.ret ?_)))))))
   refine Iw (.sl _ _) (Iq _) ?_
   exact Eq.trans rfl (congrArg (fun q:List (List Lit)×Int=>AV.tuple [.sl 1 (q.1.map Ra),.int .i64 q.2]) (Wz hc1 hc2)).symm

end Go.Proofs.YtjedflcpjlgokaaGreatDoor
