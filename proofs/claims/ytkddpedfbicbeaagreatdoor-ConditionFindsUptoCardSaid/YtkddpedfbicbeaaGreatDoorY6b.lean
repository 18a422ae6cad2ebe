/-
  Walks of layer 11: clauses. No condition.
-/
import Derived.Test.YtkddpedfbicbeaaGreatDoorAz
import Derived.Test.YtkddpedfbicbeaaGreatDoorK15
import Derived.Test.YtkddpedfbicbeaaGreatDoorK29
import Derived.Test.YtkddpedfbicbeaaGreatDoorY1
import Derived.KernelRfl
namespace Go.Proofs.YtkddpedfbicbeaaGreatDoor
open Go Go.Aw
set_option maxHeartbeats 6400000
set_option maxRecDepth 20000
set_option linter.unusedVariables false
set_option linter.unusedSimpArgs false

theorem Pt (a b:Cs)(n m:Nat)(ha:csOK n a)(hb:csOK m b)(hn:n≤1048576)(hm:m≤1048576):Av Tryz.prog 65 [.agg (Ej a),.agg (Ej b)] (.agg (Ej (El a b))):=by
 have hla:=ha.len
 have hlb:=hb.len
 have hxa:=fun x hx=>Nat.le_trans (ha.lits x hx) hn
 have hxb:=fun x hx=>Nat.le_trans (hb.lits x hx) hm
 refine Av.body (n:=27) Ai Tryz.func65 rfl rfl rfl fun H=>?_
 refine Ah (Qp (F5 [_,.bool _]) (Qp (F5 [_,.bool _]) ?_))
 refine Qe (Al (l:=[.sl 1 [],.bool false]) (by kernel_rfl)) ?_
 rintro _ _ ⟨b4,rfl,rfl⟩
 refine Ag (AW.seq (Ah (Qp (Qf [.bool _]) (Qp jV (Qp Ge (Qp Bp (Qg [] Qw (Qf [.bool _]) (Qg [(11,_)] Qw jV (Qg [(12,_)] Qw Ge ?_)))))))))
 refine Qp E2 (Ag (A3 (fun hc1=>?_) fun hc1=>?_))
 ·
  refine Ah (Qp (Ep [_,.bool _]) ?_)
  refine Cm 0 [_,.bool _] (_::_) ?_
  refine Ag (Dr ?_)
  refine ⟨.inr rfl,[.agg [_,.bool _]],.cons (.box _ _ _ 0 _ _ _ _ rfl rfl rfl rfl rfl rfl) <| .nil,.cons _ (.refl _),?_⟩
  exact Eq.trans rfl (congrArg (fun q:Cs=>AV.agg (Ej q)) (jT hc1)).symm
 ·
  refine Bx (Ah (Qp (Qf [_,.bool _]) (Qp Dk (Qp (Qf [_,.bool _]) (Qp Dk ?_)))))
  refine Qp (Qc rfl (sA a.1 b.1 (by omega) (by omega) hxa hxb)) ?_
  refine Qp Mv (Qp Qxs (Qp eN (Qp Wj (Qp Be (Df (Qp C4 (Qp Bp (Qp (Ep [_,.bool _]) ?_))))))))
  refine Cm 0 [_,.bool _] (_::_) ?_
  refine Ag (AW.ret ?_)
  refine ⟨.inr rfl,[.agg [_,.bool _]],.cons (.box _ _ _ 0 _ _ _ _ rfl rfl rfl rfl rfl rfl) <| .nil,.cons _ (.refl _),?_⟩
  exact Eq.trans rfl (congrArg (fun q:Cs=>AV.agg (Ej q)) (Zs hc1)).symm
theorem lU (a b:Cs)(n m:Nat)(ha:csOK n a)(hb:csOK m b)(hn:n≤1048576)(hm:m≤1048576):Av Tryz.prog 88 [.agg (Ej a),.agg (Ej b)] (.agg (Ej (Jf a b))):=by
 have hla:=ha.len
 have hlb:=hb.len
 have hxa:=fun x hx=>Nat.le_trans (ha.lits x hx) hn
 have hxb:=fun x hx=>Nat.le_trans (hb.lits x hx) hm
 have hb2:Im [(!a.2 || !b.2,false)]→True:=fun _=>trivial
 have hsa:∀c∈(a.1.map Pu),Bf c=true:=Fm fun _=>rfl
 have hsb:∀c∈(b.1.map Pu),Bf c=true:=Fm fun _=>rfl
 have hsab:∀c∈(a.1.map Pu++b.1.map Pu),Bf c=true:=fun c hc=>(List.mem_append.1 hc).elim (hsa c) (hsb c)
 refine Av.body (n:=32) Ai Tryz.func88 rfl rfl rfl fun H=>?_
 refine Ah (Qp (F5 [_,.bool _]) (Qp (F5 [_,.bool _]) ?_))
 refine Qe (Al (l:=[.sl 1 [],.bool false]) (by kernel_rfl)) ?_
 rintro _ _ ⟨b4,rfl,rfl⟩
 refine Ag (AW.seq (Ah (Qp (Qf [.bool _]) (Qp jV (Qp Ge (Qp Bp (Qg [] Qw (Qf [.bool _]) (Qg [(9,_)] Qw jV (Qg [(10,_)] Qw Ge ?_)))))))))
 refine Qp E2 (Qp Bp (Qg [] Qw (Qf [_,.bool _]) (Qg [(14,_)] Qw Dk ?_)))
 refine AOL.Aaf (y:=Iq _) _ [(15,_)] rfl (rX.all ⟨Ent.Aac _ _,trivial⟩) (fun hG=>Ak (n:=a.1.length) Ai rfl rfl rfl (by simp)) rfl ?_
 refine Qg [] Qw (Qf [_,.bool _]) (Qg [(17,_)] Qw Dk ?_)
 refine AOL.Aaf (y:=Iq _) _ [(18,_)] rfl (rX.all ⟨Ent.Aac _ _,trivial⟩) (fun hG=>Ak (n:=b.1.length) Ai rfl rfl rfl (by simp)) rfl ?_
 refine AOL.Aaf (y:=Iq _) _ [(16,_),(19,_)] rfl (rX.all ⟨Ent.Aac _ _,Ent.Aac _ _,trivial⟩) (fun hG=>gM rfl rfl rfl (by constructor <;> omega)) rfl ?_
 refine Qg [(20,_)] Qw Hg (Qp E2 (Ag (A3 (fun hc1=>?_) fun hc1=>?_)))
 ·
  refine Ah (Qp (Ep [_,.bool _]) ?_)
  refine Cm 0 [_,.bool _] (_::_) ?_
  refine Ag (Dr ?_)
  refine ⟨.inr rfl,[.agg [_,.bool _]],.cons (.box _ _ _ 0 _ _ _ _ rfl rfl rfl rfl rfl rfl) <| .nil,.cons _ (.refl _),?_⟩
  exact Eq.trans rfl (congrArg (fun q:Cs=>AV.agg (Ej q)) (nF hc1)).symm
 ·
  refine Bx (AW.seq ?_)
  refine AW.draw mixed (fun _=>True) trivial (by kernel_rfl) ?_
  refine Qn 1 rfl (Qf [_,.bool _]) (Qn 2 rfl Dk (Qn 4 rfl (Qf [_,.bool _]) (Qn 5 rfl Dk ?_)))
  refine Jv.eff _ _ 0 _ _ rfl (by kernel_rfl) rfl rfl (S7 (es:=[]) Ai rfl rfl rfl rfl rfl rfl rfl rfl rfl) (fun _ _ _=>trivial) ?_
  rintro _ _ ⟨v24,rfl,rfl⟩
  refine Jv.eff _ _ 3 _ _ rfl (by kernel_rfl) rfl rfl (Dm (k:=0) Ai rfl rfl rfl rfl rfl rfl rfl rfl (hsa) (uI) (by simp;omega) (by simp [maxLen];omega)) (fun _ _ _=>trivial) ?_
  rintro _ _ ⟨v27,rfl,rfl⟩
  refine Jv.eff _ _ 6 _ _ rfl (by kernel_rfl) rfl rfl (Dm (k:=0) Ai rfl rfl rfl rfl rfl rfl rfl rfl (hsb) (hsa) (by simp;omega) (by simp [maxLen];omega)) (fun _ _ _=>trivial) ?_
  rintro _ _ ⟨v30,rfl,rfl⟩
  refine Qn 7 rfl (Ep [_,.bool _]) ?_
  refine Jv.eff _ _ 8 _ _ rfl (by kernel_rfl) rfl rfl (C6 (k:=1) (v:=.agg _) (cs':=[_,.bool _]) (H2:=_::_::_) Ai rfl rfl rfl rfl (rfl) rfl rfl rfl rfl) (fun _ _ _=>trivial) ?_
  rintro _ _ ⟨rfl,rfl⟩
  refine Jv.done _ _ (by kernel_rfl) ?_
  refine Ae ?_
  refine AW.ghost (GS.cell (H2:=_::_::_) 1 0 rfl rfl rfl rfl G8) ?_
  refine AW.ret ?_
  refine ⟨.inr rfl,[.agg [_,.bool _]],.cons (.box _ _ _ 1 _ _ _ _ rfl rfl rfl rfl rfl rfl) <| .nil,.cons _ (.cons _ (.refl _)),?_⟩
  rw [List.nil_append,←List.map_append]
  exact Eq.trans rfl (congrArg (fun q:Cs=>AV.agg (Ej q)) (eP hc1)).symm
theorem Wu (l:List Lit)(hl:l.length≤256):Av Tryz.prog 90 [.sl 9 (l.map G3)] (.agg (Ej (Eg l))):=by
 refine Av.body (n:=22) Ai Tryz.func90 rfl rfl rfl fun H=>?_
 refine Ah ?_
 refine Qe (Al (l:=[.sl 1 [],.bool false]) (by kernel_rfl)) ?_
 rintro _ _ ⟨b2,rfl,rfl⟩
 refine Df ?_
 refine Qp (O7 (l0:=[.val (.slice none 0 0),.bool false]) (l:=[_,_]) Ai rfl rfl (by kernel_rfl) rfl) ?_
 refine Qe (Al (l:=[.sl 1 [],.bool false]) (by kernel_rfl)) ?_
 rintro _ _ ⟨b3,rfl,rfl⟩
 refine Cm 0 [_,.bool _] (_::_::_) ?_
 refine AOL.ghost (GS.cellRow 0 0 71 1 rfl rfl rfl rfl) ?_
 refine Ag (AW.seq (Ah (Qp C4 ?_)))
 refine Qp (Ak (n:=l.length) Ai rfl rfl rfl (by simp)) ?_
 refine Qp A0 (Ag (AW.block ?_))
 refine AW.Aae (fun (p:Nat×List (List AV)×Value)=>(⟨[(2,.val (.pointer (some ⟨b2,0,none⟩))),(3,.val (.pointer (some ⟨b3,0,none⟩))),(7,.sl 9 (l.map G3)),(8,.int .i64 l.length),(9,.int .i64 (p.1:Int))],.row p.2.2 p.2.1.length 71 1 :: .box b3 103 [.row p.2.2 1 p.2.1,.bool true] :: .box b2 103 [.sl 1 [],.bool false]::H,22⟩:St)) (fun (p:Nat×List (List AV)×Value)=>p.1≤l.length∧p.2.1=((l.take p.1).map fun x=>[x]).map Pu) (fun (p:Nat×List (List AV)×Value)=>l.length-p.1) ((0,[],.slice none 0 0)) ?_ (GS.weaken ⟨rfl,rfl,rfl,rfl,rfl,trivial⟩ (.refl _)) ?_
 · exact ⟨Nat.zero_le _,rfl⟩
 ·
  rintro p hR
  have hsc:∀c∈p.2.1,Bf c=true:=by rw [hR.2];exact Fm fun _=>rfl
  have hpl:p.2.1.length≤p.1:=by rw [hR.2];simp;omega
  refine Ah (Qp Cj (Ag (AW.seq (A3 (fun hc1=>?_) fun hc1=>?_))))
  ·
   obtain ⟨x,hx⟩:=B2 hc1
   have hlx:=A9 hx
   refine Bx (AW.seq (AW.block (Ah ?_)))
   refine Qp (Af (c:=[Iq _,_,Iq _,Iq _,Iq _,Iq _,Iq _,.str _,.bool _]) Ai rfl rfl rfl rfl rfl rfl (by omega) (Bh hx)) ?_
   refine Qp (Ck [Iq _,_,Iq _,Iq _,Iq _,Iq _,Iq _,.str _,.bool _]) ?_
   refine Qe (Al (l:=[.int .i64 0,.sl 8 [],.int .i64 0,.int .i64 0,.int .i64 0,.int .i64 0,.int .i64 0,.str [],.bool false]) (by kernel_rfl)) ?_
   rintro _ _ ⟨b5,rfl,rfl⟩
   refine Cm 0 [Iq _,_,Iq _,Iq _,Iq _,Iq _,Iq _,.str _,.bool _] (_::_::_::_::_) ?_
   refine AOL.ghost (GS.Aad (t:=5) 0 rfl rfl) ?_
   refine Ag (AW.region (Qp Ir ?_))
   refine AOL.Aai (Ax (k:=1) (c:=.row _ _ _) Ai rfl rfl rfl rfl) rfl rfl ?_
   refine Qp (Ck [Iq _,_,Iq _,Iq _,Iq _,Iq _,Iq _,.str _,.bool _]) ?_
   refine Qp (Az (es:=[[Iq _,_,Iq _,Iq _,Iq _,Iq _,Iq _,.str _,.bool _]]) Ai rfl rfl rfl rfl rfl rfl rfl rfl rfl) ?_
   refine Qp (Az (es:=[[_]]) Ai rfl rfl rfl rfl rfl rfl rfl rfl rfl) ?_
   refine Qe (Dm (k:=0) Ai rfl rfl rfl rfl rfl rfl rfl rfl (Hd rfl) (hsc) (by simp;omega) (by simp [maxLen];omega)) ?_
   rintro _ _ ⟨v18,rfl,rfl⟩
   refine Qp Ir ?_
   refine Cm 1 [_,.bool _] (_::_::_::_) ?_
   refine AOL.nil (Bq (Ae (AW.region (Qp Fv (Qp A0 (Ag ?_))))))
   refine ⟨(p.1+1,p.2.1 ++ [[.sl 9 [G3 x]]],v18),?_,?_,GS.weaken ⟨rfl,rfl,rfl,rfl,rfl,trivial⟩ (.refl _)⟩
   · exact ⟨hlx,by simp only;rw [Cq hx,hR.2];simp [Pu]⟩
   · simp only;omega
  ·
   have hte:=C3 hc1
   have hall:=hR.2
   rw [hte] at hall
   refine AW.exit ?_
   refine A6 (A6 (Bv (Ae (Ah ?_))))
   refine AOL.ghost (GS.cell (H2:=_::_::_::_) 1 0 rfl rfl rfl rfl G8) ?_
   refine AOL.Aai (Bz (k:=1) (l:=[_,.bool _]) Ai rfl rfl rfl rfl rfl) rfl rfl ?_
   refine Cm 2 [_,.bool _] (_::_::_::_) ?_
   refine Ag (AW.ret ?_)
   refine ⟨.inr rfl,[.agg [_,.bool _]],.cons (.box _ _ _ 2 _ _ _ _ rfl rfl rfl rfl rfl rfl) <| .nil,.cons _ (.cons _ (.cons _ (.refl _))),?_⟩
   rw [hall];rfl
theorem Ff (T:List Sc)(V:List Va)(e:Ex)(ih:∀a∈e.args,∀s,Av Tryz.prog 53 [.agg (Co T V),.agg (cE a),.bool s] (.agg (Ej (Da T V a s))))(i:Nat)(a:Ex)(ha:e.args[i]? = some a)(s:Bool):Av Tryz.prog 87 [.int .i64 (i:Int),.bool s,.ptr (Co T V),.ptr (cE e)] (.agg (Ej (Da T V a s))):=by
 refine Av.body (n:=15) Ai Tryz.func87 rfl rfl rfl fun H=>?_
 refine Ah ?_
 refine Qe (Al (l:=[.sl 1 [],.bool false]) (by kernel_rfl)) ?_
 rintro _ _ ⟨b6,rfl,rfl⟩
 refine Ag (AW.seq ?_)
 refine AW.draw mixed (fun _=>True) trivial (by kernel_rfl) ?_
 refine Qn 0 rfl (Ck [_,_]) (Qn 1 rfl K5 (Qn 2 rfl Dk (Qn 3 rfl A0 ?_)))
 refine Qn 4 rfl (Af (c:=[Iq _,_,Iq _,Iq _,Iq _,Iq _,Iq _,.str _]) Ai rfl rfl rfl rfl rfl rfl (by omega) (E9 ha)) ?_
 refine Qn 5 rfl D0 (Qn 6 rfl Bp ?_)
 refine Qn 7 rfl (Qc rfl (ih a (List.mem_of_getElem? ha) s)) ?_
 refine Jv.eff _ _ 8 _ _ rfl (by kernel_rfl) rfl rfl (C6 (k:=0) (v:=.agg _) (cs':=[_,.bool _]) (H2:=_::_) Ai rfl rfl rfl rfl (rfl) rfl rfl rfl rfl) (fun _ _ _=>trivial) ?_
 rintro _ _ ⟨rfl,rfl⟩
 refine Jv.done _ _ (by kernel_rfl) ?_
 refine Ae (AW.ret ?_)
 refine ⟨.inr rfl,[.agg [_,.bool _]],.cons (.box _ _ _ 0 _ _ _ _ rfl rfl rfl rfl rfl rfl) <| .nil,.cons _ (.refl _),?_⟩
 rfl
theorem Sd (T:List Sc)(V:List Va)(e:Ex)(hk:KOK T V e)(hse:Ar e≤64)(s:Bool):Av Tryz.prog 53 [.agg (Co T V),.agg (cE e),.bool s] (.agg (Ej (Da T V e s))):=by
 revert s hk hse
 induction e using Ex.Aak
 rename_i e ih0
 intro hk hse s
 have ih:∀a∈e.args,∀s,Av Tryz.prog 53 [.agg (Co T V),.agg (cE a),.bool s] (.agg (Ej (Da T V a s))):=fun a ha s=>ih0 a ha (A1 hk ha) (Nat.le_trans (Nat.le_of_lt (Gv ha)) hse) s
 have hz:=Bb hk.nodes
 refine Av.body (n:=111) Ai Tryz.func53 rfl rfl rfl fun H=>?_
 refine Ah (Qp (F5 [_,_]) (Qp K8 ?_))
 refine Qe (Al (l:=[.sl 1 [],.bool false]) (by kernel_rfl)) ?_
 rintro _ _ ⟨b6,rfl,rfl⟩
 refine Df ?_
 refine Qp (Bc (l:=[]) (l':=[.ptr _,.ptr _]) rfl rfl) ?_
 refine Qp (C2 (v:=.fn _ _ _) rfl) ?_
 refine Ag (AW.seq (Ah (Qp Ks (Qp Bs (Ag (AW.block (Ah (Qp A5 (Qp Be ?_)))))))))
 refine Ag (A3 (fun hc1=>?_) fun hc1=>?_)
 ·
  refine AW.seq (Ah (Qp Jp (Qp Wi (Qp Bs (Qp A5 (Qp Bp ?_))))))
  refine Qp (Rg Ai rfl rfl rfl rfl) ?_
  refine Ag (A3 (fun hc2=>?_) fun hc2=>?_)
  ·
   refine Ah ?_
   refine Qp (Dj.weakV (Az (es:=[[_]]) Ai rfl rfl rfl rfl rfl rfl rfl rfl rfl) fN) ?_
   refine Qp (Ep [_,.bool _]) ?_
   refine Cm 0 [_,.bool _] (_::_) ?_
   refine Ag (Dr (Ba (Aj ?_)))
   refine ⟨.inr rfl,[.agg [_,.bool _]],.cons (.box _ _ _ 0 _ _ _ _ rfl rfl rfl rfl rfl rfl) <| .nil,.cons _ (.refl _),?_⟩
   first
    | exact absurd (‹(e.op==10)=true›.symm.trans ‹(e.op==10)=false›) (by decide)
    | exact absurd (‹(e.op==11)=true›.symm.trans ‹(e.op==11)=false›) (by decide)
    | exact absurd (‹(e.op==9)=true›.symm.trans ‹(e.op==9)=false›) (by decide)
    | exact Eq.trans rfl (congrArg (fun q:Cs=>AV.agg (Ej q)) (Gg ‹(e.op==0)=true› ‹((e.val.num==1)==s)=true›)).symm
    | exact Eq.trans rfl (congrArg (fun q:Cs=>AV.agg (Ej q)) (Gr ‹(e.op==0)=true› ‹((e.val.num==1)==s)=false›)).symm
    | exact Eq.trans rfl (congrArg (fun q:Cs=>AV.agg (Ej q)) (Gd h00 ‹(e.op==12)=true›)).symm
    | exact Eq.trans rfl (congrArg (fun q:Cs=>AV.agg (Ej q)) (Gk hl2 h10 ‹((e.op==10)==s)=true›)).symm
    | exact Eq.trans rfl (congrArg (fun q:Cs=>AV.agg (Ej q)) (Gq hl2 h10 ‹((e.op==10)==s)=false›)).symm
    | exact Eq.trans rfl (congrArg (fun q:Cs=>AV.agg (Ej q)) (Gb hl2 h9 ‹(Am T V (Ao e)==1)=true›)).symm
    | exact Eq.trans rfl (congrArg (fun q:Cs=>AV.agg (Ej q)) (Gl h9 ‹(Am T V (Ao e)==1)=false› ‹(Am T V (Ao e)==0 && !s)=true›)).symm
    | exact Eq.trans rfl (congrArg (fun q:Cs=>AV.agg (Ej q)) (Ip h9 ‹(Am T V (Ao e)==1)=false› ‹(Am T V (Ao e)==0 && !s)=false›)).symm
    | exact Eq.trans rfl (congrArg (fun q:Cs=>AV.agg (Ej q)) (Kp ‹(e.op==0)=false› ‹(e.op==12)=false› (bH ‹(e.op==10)=false› ‹(e.op==11)=false›) ‹(e.op==9)=false›)).symm
  ·
   refine Bx (Ah (Qp (Ep [_,.bool _]) ?_))
   refine Cm 0 [_,.bool _] (_::_) ?_
   refine AOL.ghost (GS.cell (H2:=_::_) 0 0 rfl rfl rfl rfl (uN (z:=1))) ?_
   refine Ag (AW.ret (Ba (Aj ?_)))
   refine ⟨.inr rfl,[.agg [_,.bool _]],.cons (.box _ _ _ 0 _ _ _ _ rfl rfl rfl rfl rfl rfl) <| .nil,.cons _ (.refl _),?_⟩
   first
    | exact absurd (‹(e.op==10)=true›.symm.trans ‹(e.op==10)=false›) (by decide)
    | exact absurd (‹(e.op==11)=true›.symm.trans ‹(e.op==11)=false›) (by decide)
    | exact absurd (‹(e.op==9)=true›.symm.trans ‹(e.op==9)=false›) (by decide)
    | exact Eq.trans rfl (congrArg (fun q:Cs=>AV.agg (Ej q)) (Gg ‹(e.op==0)=true› ‹((e.val.num==1)==s)=true›)).symm
    | exact Eq.trans rfl (congrArg (fun q:Cs=>AV.agg (Ej q)) (Gr ‹(e.op==0)=true› ‹((e.val.num==1)==s)=false›)).symm
    | exact Eq.trans rfl (congrArg (fun q:Cs=>AV.agg (Ej q)) (Gd h00 ‹(e.op==12)=true›)).symm
    | exact Eq.trans rfl (congrArg (fun q:Cs=>AV.agg (Ej q)) (Gk hl2 h10 ‹((e.op==10)==s)=true›)).symm
    | exact Eq.trans rfl (congrArg (fun q:Cs=>AV.agg (Ej q)) (Gq hl2 h10 ‹((e.op==10)==s)=false›)).symm
    | exact Eq.trans rfl (congrArg (fun q:Cs=>AV.agg (Ej q)) (Gb hl2 h9 ‹(Am T V (Ao e)==1)=true›)).symm
    | exact Eq.trans rfl (congrArg (fun q:Cs=>AV.agg (Ej q)) (Gl h9 ‹(Am T V (Ao e)==1)=false› ‹(Am T V (Ao e)==0 && !s)=true›)).symm
    | exact Eq.trans rfl (congrArg (fun q:Cs=>AV.agg (Ej q)) (Ip h9 ‹(Am T V (Ao e)==1)=false› ‹(Am T V (Ao e)==0 && !s)=false›)).symm
    | exact Eq.trans rfl (congrArg (fun q:Cs=>AV.agg (Ej q)) (Kp ‹(e.op==0)=false› ‹(e.op==12)=false› (bH ‹(e.op==10)=false› ‹(e.op==11)=false›) ‹(e.op==9)=false›)).symm
 ·
  refine Ah (Qp A5 (Qp Be (Ag (A3 (fun hc3=>?_) fun hc3=>?_))))
  ·
   refine AW.seq ?_
   have h00:=V7 hz.1 (eq_of_beq ‹(e.op==12)=true›)
   have ha0:=P2 h00
   refine AW.region ?_
   refine Qp (Bj (v:=.fn _ _ _) rfl) ?_
   refine Qp Bp (Qp Ge ?_)
   refine Qp (Dz (by kernel_rfl) rfl rfl rfl (Ff T V e ih 0 (Ao e) ha0 (!s))) ?_
   refine Cm 0 [_,.bool _] (_::_) ?_
   refine Ag (AW.ret (Ba (Aj ?_)))
   refine ⟨.inr rfl,[.agg [_,.bool _]],.cons (.box _ _ _ 0 _ _ _ _ rfl rfl rfl rfl rfl rfl) <| .nil,.cons _ (.refl _),?_⟩
   first
    | exact absurd (‹(e.op==10)=true›.symm.trans ‹(e.op==10)=false›) (by decide)
    | exact absurd (‹(e.op==11)=true›.symm.trans ‹(e.op==11)=false›) (by decide)
    | exact absurd (‹(e.op==9)=true›.symm.trans ‹(e.op==9)=false›) (by decide)
    | exact Eq.trans rfl (congrArg (fun q:Cs=>AV.agg (Ej q)) (Gg ‹(e.op==0)=true› ‹((e.val.num==1)==s)=true›)).symm
    | exact Eq.trans rfl (congrArg (fun q:Cs=>AV.agg (Ej q)) (Gr ‹(e.op==0)=true› ‹((e.val.num==1)==s)=false›)).symm
    | exact Eq.trans rfl (congrArg (fun q:Cs=>AV.agg (Ej q)) (Gd h00 ‹(e.op==12)=true›)).symm
    | exact Eq.trans rfl (congrArg (fun q:Cs=>AV.agg (Ej q)) (Gk hl2 h10 ‹((e.op==10)==s)=true›)).symm
    | exact Eq.trans rfl (congrArg (fun q:Cs=>AV.agg (Ej q)) (Gq hl2 h10 ‹((e.op==10)==s)=false›)).symm
    | exact Eq.trans rfl (congrArg (fun q:Cs=>AV.agg (Ej q)) (Gb hl2 h9 ‹(Am T V (Ao e)==1)=true›)).symm
    | exact Eq.trans rfl (congrArg (fun q:Cs=>AV.agg (Ej q)) (Gl h9 ‹(Am T V (Ao e)==1)=false› ‹(Am T V (Ao e)==0 && !s)=true›)).symm
    | exact Eq.trans rfl (congrArg (fun q:Cs=>AV.agg (Ej q)) (Ip h9 ‹(Am T V (Ao e)==1)=false› ‹(Am T V (Ao e)==0 && !s)=false›)).symm
    | exact Eq.trans rfl (congrArg (fun q:Cs=>AV.agg (Ej q)) (Kp ‹(e.op==0)=false› ‹(e.op==12)=false› (bH ‹(e.op==10)=false› ‹(e.op==11)=false›) ‹(e.op==9)=false›)).symm
  ·
   refine AW.seq (Ah (Qp A5 (Qp Be (Ag (A3 (fun hc4=>?_) fun hc4=>?_)))))
   ·
    refine Bx (A3 (fun hc5=>?_) fun hc5=>?_)
    ·
     refine AW.seq (Ah (Qp Ks (Qp Bs (Qp A5 (Qp Bp ?_)))))
     refine Qp (Rg Ai rfl rfl rfl rfl) ?_
     refine Ag (A3 (fun hc6=>?_) fun hc6=>?_)
     ·
      refine AW.seq ?_
      have h10:(e.op==10||e.op==11)=true:=by first | exact bB ‹(e.op==10)=true› | exact aW ‹(e.op==11)=true›
      have hl2:=Dg hz.1 (by simp at h10;omega)
      have h00:0<e.args.length:=by omega
      have ha0:=P2 h00
      have ha1:=R5 hl2
      have m0:=A4 h00
      have m1:=Bi hl2
      have k0:=Gj _ (A1 hk m0)
      have k1:=Gj _ (A1 hk m1)
      have hs01:=Dx hl2
      refine AW.region ?_
      refine Qp (Bj (v:=.fn _ _ _) rfl) ?_
      refine Qp Bp ?_
      refine Qp (Dz (by kernel_rfl) rfl rfl rfl (Ff T V e ih 0 (Ao e) ha0 s)) ?_
      refine Qp (Bj (v:=.fn _ _ _) rfl) ?_
      refine Qp Bp ?_
      refine Qp (Dz (by kernel_rfl) rfl rfl rfl (Ff T V e ih 1 (Bg e) ha1 s)) ?_
      refine Qp (Qc rfl (Pt _ _ _ _ (k0 s) (k1 s) (by omega) (by omega))) ?_
      refine Cm 0 [_,.bool _] (_::_) ?_
      refine Ag (Dr (Ba (Aj ?_)))
      refine ⟨.inr rfl,[.agg [_,.bool _]],.cons (.box _ _ _ 0 _ _ _ _ rfl rfl rfl rfl rfl rfl) <| .nil,.cons _ (.refl _),?_⟩
      first
       | exact absurd (‹(e.op==10)=true›.symm.trans ‹(e.op==10)=false›) (by decide)
       | exact absurd (‹(e.op==11)=true›.symm.trans ‹(e.op==11)=false›) (by decide)
       | exact absurd (‹(e.op==9)=true›.symm.trans ‹(e.op==9)=false›) (by decide)
       | exact Eq.trans rfl (congrArg (fun q:Cs=>AV.agg (Ej q)) (Gg ‹(e.op==0)=true› ‹((e.val.num==1)==s)=true›)).symm
       | exact Eq.trans rfl (congrArg (fun q:Cs=>AV.agg (Ej q)) (Gr ‹(e.op==0)=true› ‹((e.val.num==1)==s)=false›)).symm
       | exact Eq.trans rfl (congrArg (fun q:Cs=>AV.agg (Ej q)) (Gd h00 ‹(e.op==12)=true›)).symm
       | exact Eq.trans rfl (congrArg (fun q:Cs=>AV.agg (Ej q)) (Gk hl2 h10 ‹((e.op==10)==s)=true›)).symm
       | exact Eq.trans rfl (congrArg (fun q:Cs=>AV.agg (Ej q)) (Gq hl2 h10 ‹((e.op==10)==s)=false›)).symm
       | exact Eq.trans rfl (congrArg (fun q:Cs=>AV.agg (Ej q)) (Gb hl2 h9 ‹(Am T V (Ao e)==1)=true›)).symm
       | exact Eq.trans rfl (congrArg (fun q:Cs=>AV.agg (Ej q)) (Gl h9 ‹(Am T V (Ao e)==1)=false› ‹(Am T V (Ao e)==0 && !s)=true›)).symm
       | exact Eq.trans rfl (congrArg (fun q:Cs=>AV.agg (Ej q)) (Ip h9 ‹(Am T V (Ao e)==1)=false› ‹(Am T V (Ao e)==0 && !s)=false›)).symm
       | exact Eq.trans rfl (congrArg (fun q:Cs=>AV.agg (Ej q)) (Kp ‹(e.op==0)=false› ‹(e.op==12)=false› (bH ‹(e.op==10)=false› ‹(e.op==11)=false›) ‹(e.op==9)=false›)).symm
     ·
      refine Bx (AW.seq ?_)
      have h10:(e.op==10||e.op==11)=true:=by first | exact bB ‹(e.op==10)=true› | exact aW ‹(e.op==11)=true›
      have hl2:=Dg hz.1 (by simp at h10;omega)
      have h00:0<e.args.length:=by omega
      have ha0:=P2 h00
      have ha1:=R5 hl2
      have m0:=A4 h00
      have m1:=Bi hl2
      have k0:=Gj _ (A1 hk m0)
      have k1:=Gj _ (A1 hk m1)
      have hs01:=Dx hl2
      refine AW.region ?_
      refine Qp (Bj (v:=.fn _ _ _) rfl) ?_
      refine Qp Bp ?_
      refine Qp (Dz (by kernel_rfl) rfl rfl rfl (Ff T V e ih 0 (Ao e) ha0 s)) ?_
      refine Qp (Bj (v:=.fn _ _ _) rfl) ?_
      refine Qp Bp ?_
      refine Qp (Dz (by kernel_rfl) rfl rfl rfl (Ff T V e ih 1 (Bg e) ha1 s)) ?_
      refine Qp (Qc rfl (lU _ _ _ _ ((k0 s).mono (Nat.le_trans (by omega) hse)) ((k1 s).mono (Nat.le_trans (by omega) hse)) (by omega) (by omega))) ?_
      refine Cm 0 [_,.bool _] (_::_) ?_
      refine Ag (AW.ret (Ba (Aj ?_)))
      refine ⟨.inr rfl,[.agg [_,.bool _]],.cons (.box _ _ _ 0 _ _ _ _ rfl rfl rfl rfl rfl rfl) <| .nil,.cons _ (.refl _),?_⟩
      first
       | exact absurd (‹(e.op==10)=true›.symm.trans ‹(e.op==10)=false›) (by decide)
       | exact absurd (‹(e.op==11)=true›.symm.trans ‹(e.op==11)=false›) (by decide)
       | exact absurd (‹(e.op==9)=true›.symm.trans ‹(e.op==9)=false›) (by decide)
       | exact Eq.trans rfl (congrArg (fun q:Cs=>AV.agg (Ej q)) (Gg ‹(e.op==0)=true› ‹((e.val.num==1)==s)=true›)).symm
       | exact Eq.trans rfl (congrArg (fun q:Cs=>AV.agg (Ej q)) (Gr ‹(e.op==0)=true› ‹((e.val.num==1)==s)=false›)).symm
       | exact Eq.trans rfl (congrArg (fun q:Cs=>AV.agg (Ej q)) (Gd h00 ‹(e.op==12)=true›)).symm
       | exact Eq.trans rfl (congrArg (fun q:Cs=>AV.agg (Ej q)) (Gk hl2 h10 ‹((e.op==10)==s)=true›)).symm
       | exact Eq.trans rfl (congrArg (fun q:Cs=>AV.agg (Ej q)) (Gq hl2 h10 ‹((e.op==10)==s)=false›)).symm
       | exact Eq.trans rfl (congrArg (fun q:Cs=>AV.agg (Ej q)) (Gb hl2 h9 ‹(Am T V (Ao e)==1)=true›)).symm
       | exact Eq.trans rfl (congrArg (fun q:Cs=>AV.agg (Ej q)) (Gl h9 ‹(Am T V (Ao e)==1)=false› ‹(Am T V (Ao e)==0 && !s)=true›)).symm
       | exact Eq.trans rfl (congrArg (fun q:Cs=>AV.agg (Ej q)) (Ip h9 ‹(Am T V (Ao e)==1)=false› ‹(Am T V (Ao e)==0 && !s)=false›)).symm
       | exact Eq.trans rfl (congrArg (fun q:Cs=>AV.agg (Ej q)) (Kp ‹(e.op==0)=false› ‹(e.op==12)=false› (bH ‹(e.op==10)=false› ‹(e.op==11)=false›) ‹(e.op==9)=false›)).symm
    ·
     exact absurd (hc5.symm.trans hc4) (by decide)
   ·
    refine AW.region (Qp A5 (Qp Be (Ag (A3 (fun hc7=>?_) fun hc7=>?_))))
    ·
     refine AW.seq (Ah (Qp Ks (Qp Bs (Qp A5 (Qp Bp ?_)))))
     refine Qp (Rg Ai rfl rfl rfl rfl) ?_
     refine Ag (A3 (fun hc8=>?_) fun hc8=>?_)
     ·
      refine AW.seq ?_
      have h10:(e.op==10||e.op==11)=true:=by first | exact bB ‹(e.op==10)=true› | exact aW ‹(e.op==11)=true›
      have hl2:=Dg hz.1 (by simp at h10;omega)
      have h00:0<e.args.length:=by omega
      have ha0:=P2 h00
      have ha1:=R5 hl2
      have m0:=A4 h00
      have m1:=Bi hl2
      have k0:=Gj _ (A1 hk m0)
      have k1:=Gj _ (A1 hk m1)
      have hs01:=Dx hl2
      refine AW.region ?_
      refine Qp (Bj (v:=.fn _ _ _) rfl) ?_
      refine Qp Bp ?_
      refine Qp (Dz (by kernel_rfl) rfl rfl rfl (Ff T V e ih 0 (Ao e) ha0 s)) ?_
      refine Qp (Bj (v:=.fn _ _ _) rfl) ?_
      refine Qp Bp ?_
      refine Qp (Dz (by kernel_rfl) rfl rfl rfl (Ff T V e ih 1 (Bg e) ha1 s)) ?_
      refine Qp (Qc rfl (Pt _ _ _ _ (k0 s) (k1 s) (by omega) (by omega))) ?_
      refine Cm 0 [_,.bool _] (_::_) ?_
      refine Ag (Dr (Ba (Aj ?_)))
      refine ⟨.inr rfl,[.agg [_,.bool _]],.cons (.box _ _ _ 0 _ _ _ _ rfl rfl rfl rfl rfl rfl) <| .nil,.cons _ (.refl _),?_⟩
      first
       | exact absurd (‹(e.op==10)=true›.symm.trans ‹(e.op==10)=false›) (by decide)
       | exact absurd (‹(e.op==11)=true›.symm.trans ‹(e.op==11)=false›) (by decide)
       | exact absurd (‹(e.op==9)=true›.symm.trans ‹(e.op==9)=false›) (by decide)
       | exact Eq.trans rfl (congrArg (fun q:Cs=>AV.agg (Ej q)) (Gg ‹(e.op==0)=true› ‹((e.val.num==1)==s)=true›)).symm
       | exact Eq.trans rfl (congrArg (fun q:Cs=>AV.agg (Ej q)) (Gr ‹(e.op==0)=true› ‹((e.val.num==1)==s)=false›)).symm
       | exact Eq.trans rfl (congrArg (fun q:Cs=>AV.agg (Ej q)) (Gd h00 ‹(e.op==12)=true›)).symm
       | exact Eq.trans rfl (congrArg (fun q:Cs=>AV.agg (Ej q)) (Gk hl2 h10 ‹((e.op==10)==s)=true›)).symm
       | exact Eq.trans rfl (congrArg (fun q:Cs=>AV.agg (Ej q)) (Gq hl2 h10 ‹((e.op==10)==s)=false›)).symm
       | exact Eq.trans rfl (congrArg (fun q:Cs=>AV.agg (Ej q)) (Gb hl2 h9 ‹(Am T V (Ao e)==1)=true›)).symm
       | exact Eq.trans rfl (congrArg (fun q:Cs=>AV.agg (Ej q)) (Gl h9 ‹(Am T V (Ao e)==1)=false› ‹(Am T V (Ao e)==0 && !s)=true›)).symm
       | exact Eq.trans rfl (congrArg (fun q:Cs=>AV.agg (Ej q)) (Ip h9 ‹(Am T V (Ao e)==1)=false› ‹(Am T V (Ao e)==0 && !s)=false›)).symm
       | exact Eq.trans rfl (congrArg (fun q:Cs=>AV.agg (Ej q)) (Kp ‹(e.op==0)=false› ‹(e.op==12)=false› (bH ‹(e.op==10)=false› ‹(e.op==11)=false›) ‹(e.op==9)=false›)).symm
     ·
      refine Bx (AW.seq ?_)
      have h10:(e.op==10||e.op==11)=true:=by first | exact bB ‹(e.op==10)=true› | exact aW ‹(e.op==11)=true›
      have hl2:=Dg hz.1 (by simp at h10;omega)
      have h00:0<e.args.length:=by omega
      have ha0:=P2 h00
      have ha1:=R5 hl2
      have m0:=A4 h00
      have m1:=Bi hl2
      have k0:=Gj _ (A1 hk m0)
      have k1:=Gj _ (A1 hk m1)
      have hs01:=Dx hl2
      refine AW.region ?_
      refine Qp (Bj (v:=.fn _ _ _) rfl) ?_
      refine Qp Bp ?_
      refine Qp (Dz (by kernel_rfl) rfl rfl rfl (Ff T V e ih 0 (Ao e) ha0 s)) ?_
      refine Qp (Bj (v:=.fn _ _ _) rfl) ?_
      refine Qp Bp ?_
      refine Qp (Dz (by kernel_rfl) rfl rfl rfl (Ff T V e ih 1 (Bg e) ha1 s)) ?_
      refine Qp (Qc rfl (lU _ _ _ _ ((k0 s).mono (Nat.le_trans (by omega) hse)) ((k1 s).mono (Nat.le_trans (by omega) hse)) (by omega) (by omega))) ?_
      refine Cm 0 [_,.bool _] (_::_) ?_
      refine Ag (AW.ret (Ba (Aj ?_)))
      refine ⟨.inr rfl,[.agg [_,.bool _]],.cons (.box _ _ _ 0 _ _ _ _ rfl rfl rfl rfl rfl rfl) <| .nil,.cons _ (.refl _),?_⟩
      first
       | exact absurd (‹(e.op==10)=true›.symm.trans ‹(e.op==10)=false›) (by decide)
       | exact absurd (‹(e.op==11)=true›.symm.trans ‹(e.op==11)=false›) (by decide)
       | exact absurd (‹(e.op==9)=true›.symm.trans ‹(e.op==9)=false›) (by decide)
       | exact Eq.trans rfl (congrArg (fun q:Cs=>AV.agg (Ej q)) (Gg ‹(e.op==0)=true› ‹((e.val.num==1)==s)=true›)).symm
       | exact Eq.trans rfl (congrArg (fun q:Cs=>AV.agg (Ej q)) (Gr ‹(e.op==0)=true› ‹((e.val.num==1)==s)=false›)).symm
       | exact Eq.trans rfl (congrArg (fun q:Cs=>AV.agg (Ej q)) (Gd h00 ‹(e.op==12)=true›)).symm
       | exact Eq.trans rfl (congrArg (fun q:Cs=>AV.agg (Ej q)) (Gk hl2 h10 ‹((e.op==10)==s)=true›)).symm
       | exact Eq.trans rfl (congrArg (fun q:Cs=>AV.agg (Ej q)) (Gq hl2 h10 ‹((e.op==10)==s)=false›)).symm
       | exact Eq.trans rfl (congrArg (fun q:Cs=>AV.agg (Ej q)) (Gb hl2 h9 ‹(Am T V (Ao e)==1)=true›)).symm
       | exact Eq.trans rfl (congrArg (fun q:Cs=>AV.agg (Ej q)) (Gl h9 ‹(Am T V (Ao e)==1)=false› ‹(Am T V (Ao e)==0 && !s)=true›)).symm
       | exact Eq.trans rfl (congrArg (fun q:Cs=>AV.agg (Ej q)) (Ip h9 ‹(Am T V (Ao e)==1)=false› ‹(Am T V (Ao e)==0 && !s)=false›)).symm
       | exact Eq.trans rfl (congrArg (fun q:Cs=>AV.agg (Ej q)) (Kp ‹(e.op==0)=false› ‹(e.op==12)=false› (bH ‹(e.op==10)=false› ‹(e.op==11)=false›) ‹(e.op==9)=false›)).symm
    ·
     refine Ah (Qp A5 (Qp Be (Ag (A3 (fun hc9=>?_) fun hc9=>?_))))
     ·
      refine AW.seq ?_
      have h9:(e.op==9)=true:=‹(e.op==9)=true›
      have hl2:=Dg hz.1 (by simp at h9;omega)
      have h00:0<e.args.length:=by omega
      have ha0:=P2 h00
      have ha1:=R5 hl2
      have m0:=A4 h00
      have m1:=Bi hl2
      have k0:=Gj _ (A1 hk m0)
      have k1:=Gj _ (A1 hk m1)
      have hs01:=Dx hl2
      refine AW.draw mixed (fun _=>True) trivial (by kernel_rfl) ?_
      refine Qn 0 rfl (Ck [_,_]) (Qn 1 rfl K5 (Qn 2 rfl Dk ?_))
      refine Qn 3 rfl (Af (c:=[Iq _,_,Iq _,Iq _,Iq _,Iq _,Iq _,.str _]) Ai rfl rfl rfl rfl rfl rfl (by decide) (Fp h00)) ?_
      refine Qn 4 rfl D0 ?_
      refine Qn 5 rfl (Qc rfl (Xx T V _ (A1 hk m0))) ?_
      refine Qn 6 rfl At ?_
      refine Jv.done _ _ (by kernel_rfl) ?_
      refine Ae (AW.block (Ah (Qp A0 (Qp A5 (Qp Be (Ag (A3 (fun hc10=>?_) fun hc10=>?_)))))))
      ·
       refine Ah ?_
       refine Qp (Bj (v:=.fn _ _ _) rfl) ?_
       refine Qp (Dz (by kernel_rfl) rfl rfl rfl (Ff T V e ih 0 (Ao e) ha0 true)) ?_
       refine Qp (Bj (v:=.fn _ _ _) rfl) ?_
       refine Qp Bp ?_
       refine Qp (Dz (by kernel_rfl) rfl rfl rfl (Ff T V e ih 1 (Bg e) ha1 s)) ?_
       refine Qp (Qc rfl (Pt _ _ _ _ (k0 true) (k1 s) (by omega) (by omega))) ?_
       refine Qp (Bj (v:=.fn _ _ _) rfl) ?_
       refine Qp (Dz (by kernel_rfl) rfl rfl rfl (Ff T V e ih 0 (Ao e) ha0 false)) ?_
       refine Qp (Bj (v:=.fn _ _ _) rfl) ?_
       refine Qp Bp (Qp Ge ?_)
       refine Qp (Dz (by kernel_rfl) rfl rfl rfl (Ff T V e ih 1 (Bg e) ha1 (!s))) ?_
       refine Qp (Qc rfl (Pt _ _ _ _ (k0 false) (k1 (!s)) (by omega) (by omega))) ?_
       refine Qp (Qc rfl (lU _ _ _ _ ((Lq (k0 true) (k1 s)).mono (Nat.le_trans (by omega) hse)) ((Lq (k0 false) (k1 (!s))).mono (Nat.le_trans (by omega) hse)) (by omega) (by omega))) ?_
       refine Cm 0 [_,.bool _] (_::_) ?_
       refine Ag (AW.ret (Ba (Ba (Aj ?_))))
       refine ⟨.inr rfl,[.agg [_,.bool _]],.cons (.box _ _ _ 0 _ _ _ _ rfl rfl rfl rfl rfl rfl) <| .nil,.cons _ (.refl _),?_⟩
       first
        | exact absurd (‹(e.op==10)=true›.symm.trans ‹(e.op==10)=false›) (by decide)
        | exact absurd (‹(e.op==11)=true›.symm.trans ‹(e.op==11)=false›) (by decide)
        | exact absurd (‹(e.op==9)=true›.symm.trans ‹(e.op==9)=false›) (by decide)
        | exact Eq.trans rfl (congrArg (fun q:Cs=>AV.agg (Ej q)) (Gg ‹(e.op==0)=true› ‹((e.val.num==1)==s)=true›)).symm
        | exact Eq.trans rfl (congrArg (fun q:Cs=>AV.agg (Ej q)) (Gr ‹(e.op==0)=true› ‹((e.val.num==1)==s)=false›)).symm
        | exact Eq.trans rfl (congrArg (fun q:Cs=>AV.agg (Ej q)) (Gd h00 ‹(e.op==12)=true›)).symm
        | exact Eq.trans rfl (congrArg (fun q:Cs=>AV.agg (Ej q)) (Gk hl2 h10 ‹((e.op==10)==s)=true›)).symm
        | exact Eq.trans rfl (congrArg (fun q:Cs=>AV.agg (Ej q)) (Gq hl2 h10 ‹((e.op==10)==s)=false›)).symm
        | exact Eq.trans rfl (congrArg (fun q:Cs=>AV.agg (Ej q)) (Gb hl2 h9 ‹(Am T V (Ao e)==1)=true›)).symm
        | exact Eq.trans rfl (congrArg (fun q:Cs=>AV.agg (Ej q)) (Gl h9 ‹(Am T V (Ao e)==1)=false› ‹(Am T V (Ao e)==0 && !s)=true›)).symm
        | exact Eq.trans rfl (congrArg (fun q:Cs=>AV.agg (Ej q)) (Ip h9 ‹(Am T V (Ao e)==1)=false› ‹(Am T V (Ao e)==0 && !s)=false›)).symm
        | exact Eq.trans rfl (congrArg (fun q:Cs=>AV.agg (Ej q)) (Kp ‹(e.op==0)=false› ‹(e.op==12)=false› (bH ‹(e.op==10)=false› ‹(e.op==11)=false›) ‹(e.op==9)=false›)).symm
      ·
       refine Ah (Qp A0 (Qp A5 (Qp Bp (Qg [] Qw Bp (Qg [(80,_)] Qw Ge (Qp E1 (Qp Be (Ag (A3 (fun hc11=>?_) fun hc11=>?_)))))))))
       ·
        refine AW.seq ?_
        refine AW.draw mixed (fun _=>True) trivial (by kernel_rfl) ?_
        refine Qn 0 rfl K5 (Qn 1 rfl Dk ?_)
        refine Qn 2 rfl (Af (c:=[Iq _,_,Iq _,Iq _,Iq _,Iq _,Iq _,.str _]) Ai rfl rfl rfl rfl rfl rfl (by decide) (Fp h00)) ?_
        refine Qn 3 rfl D0 (Qn 4 rfl K5 (Qn 5 rfl Dk ?_))
        refine Qn 6 rfl (Af (c:=[Iq _,_,Iq _,Iq _,Iq _,Iq _,Iq _,.str _]) Ai rfl rfl rfl rfl rfl rfl (by decide) (Ie hl2)) ?_
        refine Qn 7 rfl D0 ?_
        refine Qn 8 rfl (Qc rfl (aR 7 _ _)) ?_
        refine Qn 9 rfl (Ep [Iq _,_,Iq _,Iq _,Iq _,Iq _,Iq _,.str _,.bool _]) (Qn 10 rfl K5 (Qn 11 rfl Dk ?_))
        refine Qn 12 rfl (Af (c:=[Iq _,_,Iq _,Iq _,Iq _,Iq _,Iq _,.str _]) Ai rfl rfl rfl rfl rfl rfl (by decide) (Ie hl2)) ?_
        refine Qn 13 rfl D0 (Qn 14 rfl K5 (Qn 15 rfl Dk ?_))
        refine Qn 16 rfl (Af (c:=[Iq _,_,Iq _,Iq _,Iq _,Iq _,Iq _,.str _]) Ai rfl rfl rfl rfl rfl rfl (by decide) (Fp h00)) ?_
        refine Qn 17 rfl D0 ?_
        refine Qn 18 rfl (Qc rfl (aR 7 _ _)) ?_
        refine Qn 19 rfl (Ep [Iq _,_,Iq _,Iq _,Iq _,Iq _,Iq _,.str _,.bool _]) ?_
        refine Qn 20 rfl (Az (es:=[[Iq _,_,Iq _,Iq _,Iq _,Iq _,Iq _,.str _,.bool _],[Iq _,_,Iq _,Iq _,Iq _,Iq _,Iq _,.str _,.bool _]]) Ai rfl rfl rfl rfl rfl rfl rfl rfl rfl) ?_
        refine Qn 21 rfl (Qc rfl (Wu [⟨two 7 (Ao e) (Bg e),false⟩,⟨two 7 (Bg e) (Ao e),false⟩] (show 2≤256 by decide))) ?_
        refine Jv.eff _ _ 22 _ _ rfl (by kernel_rfl) rfl rfl (C6 (k:=0) (v:=.agg _) (cs':=[_,.bool _]) (H2:=_::_) Ai rfl rfl rfl rfl (rfl) rfl rfl rfl rfl) (fun _ _ _=>trivial) ?_
        rintro _ _ ⟨rfl,rfl⟩
        refine Jv.done _ _ (by kernel_rfl) ?_
        refine Ae (AW.ret (Ba (Ba (Aj ?_))))
        refine ⟨.inr rfl,[.agg [_,.bool _]],.cons (.box _ _ _ 0 _ _ _ _ rfl rfl rfl rfl rfl rfl) <| .nil,.cons _ (.refl _),?_⟩
        first
         | exact absurd (‹(e.op==10)=true›.symm.trans ‹(e.op==10)=false›) (by decide)
         | exact absurd (‹(e.op==11)=true›.symm.trans ‹(e.op==11)=false›) (by decide)
         | exact absurd (‹(e.op==9)=true›.symm.trans ‹(e.op==9)=false›) (by decide)
         | exact Eq.trans rfl (congrArg (fun q:Cs=>AV.agg (Ej q)) (Gg ‹(e.op==0)=true› ‹((e.val.num==1)==s)=true›)).symm
         | exact Eq.trans rfl (congrArg (fun q:Cs=>AV.agg (Ej q)) (Gr ‹(e.op==0)=true› ‹((e.val.num==1)==s)=false›)).symm
         | exact Eq.trans rfl (congrArg (fun q:Cs=>AV.agg (Ej q)) (Gd h00 ‹(e.op==12)=true›)).symm
         | exact Eq.trans rfl (congrArg (fun q:Cs=>AV.agg (Ej q)) (Gk hl2 h10 ‹((e.op==10)==s)=true›)).symm
         | exact Eq.trans rfl (congrArg (fun q:Cs=>AV.agg (Ej q)) (Gq hl2 h10 ‹((e.op==10)==s)=false›)).symm
         | exact Eq.trans rfl (congrArg (fun q:Cs=>AV.agg (Ej q)) (Gb hl2 h9 ‹(Am T V (Ao e)==1)=true›)).symm
         | exact Eq.trans rfl (congrArg (fun q:Cs=>AV.agg (Ej q)) (Gl h9 ‹(Am T V (Ao e)==1)=false› ‹(Am T V (Ao e)==0 && !s)=true›)).symm
         | exact Eq.trans rfl (congrArg (fun q:Cs=>AV.agg (Ej q)) (Ip h9 ‹(Am T V (Ao e)==1)=false› ‹(Am T V (Ao e)==0 && !s)=false›)).symm
         | exact Eq.trans rfl (congrArg (fun q:Cs=>AV.agg (Ej q)) (Kp ‹(e.op==0)=false› ‹(e.op==12)=false› (bH ‹(e.op==10)=false› ‹(e.op==11)=false›) ‹(e.op==9)=false›)).symm
       ·
        refine AW.skip (Bq (Bq (Ae (Ah (Qp D0 (Qp Bp (Qp Ge (Qp (Ep [Iq _,_,Iq _,Iq _,Iq _,Iq _,Iq _,.str _,.bool _]) ?_))))))))
        refine Qp (Az (es:=[[Iq _,_,Iq _,Iq _,Iq _,Iq _,Iq _,.str _,.bool _]]) Ai rfl rfl rfl rfl rfl rfl rfl rfl rfl) ?_
        refine Qp (Qc rfl (Wu [⟨e,!s⟩] (show 1≤256 by decide))) ?_
        refine Cm 0 [_,.bool _] (_::_) ?_
        refine Ag (AW.ret ?_)
        refine ⟨.inr rfl,[.agg [_,.bool _]],.cons (.box _ _ _ 0 _ _ _ _ rfl rfl rfl rfl rfl rfl) <| .nil,.cons _ (.refl _),?_⟩
        first
         | exact absurd (‹(e.op==10)=true›.symm.trans ‹(e.op==10)=false›) (by decide)
         | exact absurd (‹(e.op==11)=true›.symm.trans ‹(e.op==11)=false›) (by decide)
         | exact absurd (‹(e.op==9)=true›.symm.trans ‹(e.op==9)=false›) (by decide)
         | exact Eq.trans rfl (congrArg (fun q:Cs=>AV.agg (Ej q)) (Gg ‹(e.op==0)=true› ‹((e.val.num==1)==s)=true›)).symm
         | exact Eq.trans rfl (congrArg (fun q:Cs=>AV.agg (Ej q)) (Gr ‹(e.op==0)=true› ‹((e.val.num==1)==s)=false›)).symm
         | exact Eq.trans rfl (congrArg (fun q:Cs=>AV.agg (Ej q)) (Gd h00 ‹(e.op==12)=true›)).symm
         | exact Eq.trans rfl (congrArg (fun q:Cs=>AV.agg (Ej q)) (Gk hl2 h10 ‹((e.op==10)==s)=true›)).symm
         | exact Eq.trans rfl (congrArg (fun q:Cs=>AV.agg (Ej q)) (Gq hl2 h10 ‹((e.op==10)==s)=false›)).symm
         | exact Eq.trans rfl (congrArg (fun q:Cs=>AV.agg (Ej q)) (Gb hl2 h9 ‹(Am T V (Ao e)==1)=true›)).symm
         | exact Eq.trans rfl (congrArg (fun q:Cs=>AV.agg (Ej q)) (Gl h9 ‹(Am T V (Ao e)==1)=false› ‹(Am T V (Ao e)==0 && !s)=true›)).symm
         | exact Eq.trans rfl (congrArg (fun q:Cs=>AV.agg (Ej q)) (Ip h9 ‹(Am T V (Ao e)==1)=false› ‹(Am T V (Ao e)==0 && !s)=false›)).symm
         | exact Eq.trans rfl (congrArg (fun q:Cs=>AV.agg (Ej q)) (Kp ‹(e.op==0)=false› ‹(e.op==12)=false› (bH ‹(e.op==10)=false› ‹(e.op==11)=false›) ‹(e.op==9)=false›)).symm
     ·
      refine AW.skip (Bq (Ae (Ah (Qp D0 (Qp Bp (Qp Ge (Qp (Ep [Iq _,_,Iq _,Iq _,Iq _,Iq _,Iq _,.str _,.bool _]) ?_)))))))
      refine Qp (Az (es:=[[Iq _,_,Iq _,Iq _,Iq _,Iq _,Iq _,.str _,.bool _]]) Ai rfl rfl rfl rfl rfl rfl rfl rfl rfl) ?_
      refine Qp (Qc rfl (Wu [⟨e,!s⟩] (show 1≤256 by decide))) ?_
      refine Cm 0 [_,.bool _] (_::_) ?_
      refine Ag (AW.ret ?_)
      refine ⟨.inr rfl,[.agg [_,.bool _]],.cons (.box _ _ _ 0 _ _ _ _ rfl rfl rfl rfl rfl rfl) <| .nil,.cons _ (.refl _),?_⟩
      first
       | exact absurd (‹(e.op==10)=true›.symm.trans ‹(e.op==10)=false›) (by decide)
       | exact absurd (‹(e.op==11)=true›.symm.trans ‹(e.op==11)=false›) (by decide)
       | exact absurd (‹(e.op==9)=true›.symm.trans ‹(e.op==9)=false›) (by decide)
       | exact Eq.trans rfl (congrArg (fun q:Cs=>AV.agg (Ej q)) (Gg ‹(e.op==0)=true› ‹((e.val.num==1)==s)=true›)).symm
       | exact Eq.trans rfl (congrArg (fun q:Cs=>AV.agg (Ej q)) (Gr ‹(e.op==0)=true› ‹((e.val.num==1)==s)=false›)).symm
       | exact Eq.trans rfl (congrArg (fun q:Cs=>AV.agg (Ej q)) (Gd h00 ‹(e.op==12)=true›)).symm
       | exact Eq.trans rfl (congrArg (fun q:Cs=>AV.agg (Ej q)) (Gk hl2 h10 ‹((e.op==10)==s)=true›)).symm
       | exact Eq.trans rfl (congrArg (fun q:Cs=>AV.agg (Ej q)) (Gq hl2 h10 ‹((e.op==10)==s)=false›)).symm
       | exact Eq.trans rfl (congrArg (fun q:Cs=>AV.agg (Ej q)) (Gb hl2 h9 ‹(Am T V (Ao e)==1)=true›)).symm
       | exact Eq.trans rfl (congrArg (fun q:Cs=>AV.agg (Ej q)) (Gl h9 ‹(Am T V (Ao e)==1)=false› ‹(Am T V (Ao e)==0 && !s)=true›)).symm
       | exact Eq.trans rfl (congrArg (fun q:Cs=>AV.agg (Ej q)) (Ip h9 ‹(Am T V (Ao e)==1)=false› ‹(Am T V (Ao e)==0 && !s)=false›)).symm
       | exact Eq.trans rfl (congrArg (fun q:Cs=>AV.agg (Ej q)) (Kp ‹(e.op==0)=false› ‹(e.op==12)=false› (bH ‹(e.op==10)=false› ‹(e.op==11)=false›) ‹(e.op==9)=false›)).symm
theorem qY (T:List Sc)(hl:T.length≤1048576)(hst:∀s∈T,Jk s)(V:List Va)(hvl:V.length≤1048576)(e:Ex)(hse:Ar e≤1048576):Av Tryz.prog 13 [.sl 2 (T.map Nz),.sl 2 (V.map Un),.agg (cE e)] (.tuple [.sl 1 ((Jb T V e).1.map Pu),.int .i64 (Jb T V e).2]):=by
 refine Av.body (n:=28) Ai Tryz.func13 rfl rfl rfl fun H=>?_
 refine Ah (Qp K8 ?_)
 refine Qp (B0 (z:=1) rfl) ?_
 refine Qp At (Df (Qp C4 (Qp C4 (Qp (Ep [_,_]) ?_))))
 refine Qe (Al (l:=[.sl 2 [],.sl 2 []]) (by kernel_rfl)) ?_
 rintro _ _ ⟨b8,rfl,rfl⟩
 refine Cm 0 [_,_] (_::_) ?_
 refine AOL.ghost (GS.Aad (t:=8) 0 rfl rfl) ?_
 refine Ag (AW.seq (Ah (Qp (Ck [_,_]) (Qp D0 ?_))))
 refine Qp (Qc rfl (Pf T hl hst V hvl e hse)) ?_
 refine Qp At (Df (Qp A0 (Qp Cr (Ag (A3 (fun hc1=>?_) fun hc1=>?_)))))
 ·
  refine Ah (Qp A0 ?_)
  refine Qp (B0 (z:=1) rfl) ?_
  refine Qp At (Ag (Dr ?_))
  refine Km (.sl _ _) (Iq _) ?_
  exact Eq.trans rfl (congrArg (fun q:List (List Lit)×Int=>AV.tuple [.sl 1 (q.1.map Pu),.int .i64 q.2]) (tG hc1)).symm
 ·
  have hk:=(R0 hc1).1
  refine Bx (Ah (Qp (Ck [_,_]) (Qp D0 ?_)))
  refine Qp (Qc rfl (Sd T V e hk.kok (Is hk) true)) ?_
  refine Qe (Al (l:=[.sl 1 [],.bool false]) (by kernel_rfl)) ?_
  rintro _ _ ⟨b10,rfl,rfl⟩
  refine Cm 0 [_,.bool _] (_::_) ?_
  refine AOL.ghost (GS.Aad (t:=10) 0 rfl rfl) ?_
  refine Ag (AW.seq (Ah (Qp (Qf [.bool _]) (Qp jV (Qp Ge (Ag (A3 (fun hc2=>?_) fun hc2=>?_)))))))
  ·
   refine Ah ?_
   refine Qp (B0 (z:=1) rfl) ?_
   refine Qp At (Ag (Dr ?_))
   refine Km (.sl _ _) (Iq _) ?_
   exact Eq.trans rfl (congrArg (fun q:List (List Lit)×Int=>AV.tuple [.sl 1 (q.1.map Pu),.int .i64 q.2]) (qN hc1 hc2)).symm
  ·
   refine Bx (Ah (Qp (Qf [_,.bool _]) (Qp Dk (Qp Wj (Qp At (Ag (AW.ret ?_)))))))
   refine Km (.sl _ _) (Iq _) ?_
   exact Eq.trans rfl (congrArg (fun q:List (List Lit)×Int=>AV.tuple [.sl 1 (q.1.map Pu),.int .i64 q.2]) (rU hc1 hc2)).symm

end Go.Proofs.YtkddpedfbicbeaaGreatDoor
