/-
  Walks of layer 11: clauses. No condition.
-/
import Derived.Test.YtkddpedfbicbeaaGreatDoorAz
import Derived.Test.YtkddpedfbicbeaaGreatDoorK16
import Derived.Test.YtkddpedfbicbeaaGreatDoorK31
import Derived.KernelRfl
namespace Go.Proofs.YtkddpedfbicbeaaGreatDoor
open Go Go.Aw
set_option maxHeartbeats 6400000
set_option maxRecDepth 20000
set_option linter.unusedVariables false
set_option linter.unusedSimpArgs false

theorem P9 (a b:Cs)(n m:Nat)(ha:csOK n a)(hb:csOK m b)(hn:n≤1048576)(hm:m≤1048576):Ar Tryz.prog 65 [.agg (Ea a),.agg (Ea b)] (.agg (Ea (Ee a b))):=by
 have hla:=ha.len
 have hlb:=hb.len
 have hxa:=fun x hx=>Nat.le_trans (ha.lits x hx) hn
 have hxb:=fun x hx=>Nat.le_trans (hb.lits x hx) hm
 refine Ar.body (n:=27) Ai Tryz.func65 rfl rfl rfl fun H=>?_
 refine Ah (Qp (Fx [_,.bool _]) (Qp (Fx [_,.bool _]) ?_))
 refine Qe (Aj (l:=[.sl 1 [],.bool false]) (by kernel_rfl)) ?_
 rintro _ _ ⟨b4,rfl,rfl⟩
 refine Ag (AW.seq (Ah (Qp (Qf [.bool _]) (Qp jS (Qp Ge (Qp Bm (Qg [] Qw (Qf [.bool _]) (Qg [(11,_)] Qw jS (Qg [(12,_)] Qw Ge ?_)))))))))
 refine Qp Ek (Ag (A2 (fun hc1=>?_) fun hc1=>?_))
 ·
  refine Ah (Qp (El [_,.bool _]) ?_)
  refine Cq 0 [_,.bool _] (_::_) ?_
  refine Ag (Dq ?_)
  refine ⟨.inr rfl,[.agg [_,.bool _]],.cons (.box _ _ _ 0 _ _ _ _ rfl rfl rfl rfl rfl rfl) <| .nil,.cons _ (.refl _),?_⟩
  exact Eq.trans rfl (congrArg (fun q:Cs=>AV.agg (Ea q)) (gH hc1)).symm
 ·
  refine Bv (Ah (Qp (Qf [_,.bool _]) (Qp Dg (Qp (Qf [_,.bool _]) (Qp Dg ?_)))))
  refine Qp (Qc rfl (tI a.1 b.1 (by omega) (by omega) hxa hxb)) ?_
  refine Qp Lv (Qp Qxs (Qp dK (Qp Xa (Qp Bc (Db (Qp C5 (Qp Bm (Qp (El [_,.bool _]) ?_))))))))
  refine Cq 0 [_,.bool _] (_::_) ?_
  refine Ag (AW.ret ?_)
  refine ⟨.inr rfl,[.agg [_,.bool _]],.cons (.box _ _ _ 0 _ _ _ _ rfl rfl rfl rfl rfl rfl) <| .nil,.cons _ (.refl _),?_⟩
  exact Eq.trans rfl (congrArg (fun q:Cs=>AV.agg (Ea q)) (Tq hc1)).symm
theorem kE (a b:Cs)(n m:Nat)(ha:csOK n a)(hb:csOK m b)(hn:n≤1048576)(hm:m≤1048576):Ar Tryz.prog 88 [.agg (Ea a),.agg (Ea b)] (.agg (Ea (Ii a b))):=by
 have hla:=ha.len
 have hlb:=hb.len
 have hxa:=fun x hx=>Nat.le_trans (ha.lits x hx) hn
 have hxb:=fun x hx=>Nat.le_trans (hb.lits x hx) hm
 have hb2:Il [(!a.2 || !b.2,false)]→True:=fun _=>trivial
 have hsa:∀c∈(a.1.map P2),Bf c=true:=Ff fun _=>rfl
 have hsb:∀c∈(b.1.map P2),Bf c=true:=Ff fun _=>rfl
 have hsab:∀c∈(a.1.map P2++b.1.map P2),Bf c=true:=fun c hc=>(List.mem_append.1 hc).elim (hsa c) (hsb c)
 refine Ar.body (n:=32) Ai Tryz.func88 rfl rfl rfl fun H=>?_
 refine Ah (Qp (Fx [_,.bool _]) (Qp (Fx [_,.bool _]) ?_))
 refine Qe (Aj (l:=[.sl 1 [],.bool false]) (by kernel_rfl)) ?_
 rintro _ _ ⟨b4,rfl,rfl⟩
 refine Ag (AW.seq (Ah (Qp (Qf [.bool _]) (Qp jS (Qp Ge (Qp Bm (Qg [] Qw (Qf [.bool _]) (Qg [(9,_)] Qw jS (Qg [(10,_)] Qw Ge ?_)))))))))
 refine Qp Ek (Qp Bm (Qg [] Qw (Qf [_,.bool _]) (Qg [(14,_)] Qw Dg ?_)))
 refine AOL.Aav (y:=Iq _) _ [(15,_)] rfl (sB.all ⟨tO.self _ _,trivial⟩) (fun hG=>Ak (n:=a.1.length) Ai rfl rfl rfl (by simp)) rfl ?_
 refine Qg [] Qw (Qf [_,.bool _]) (Qg [(17,_)] Qw Dg ?_)
 refine AOL.Aav (y:=Iq _) _ [(18,_)] rfl (sB.all ⟨tO.self _ _,trivial⟩) (fun hG=>Ak (n:=b.1.length) Ai rfl rfl rfl (by simp)) rfl ?_
 refine AOL.Aav (y:=Iq _) _ [(16,_),(19,_)] rfl (sB.all ⟨tO.self _ _,tO.self _ _,trivial⟩) (fun hG=>jE rfl rfl rfl (by constructor <;> omega)) rfl ?_
 refine Qg [(20,_)] Qw Hb (Qp Ek (Ag (A2 (fun hc1=>?_) fun hc1=>?_)))
 ·
  refine Ah (Qp (El [_,.bool _]) ?_)
  refine Cq 0 [_,.bool _] (_::_) ?_
  refine Ag (Dq ?_)
  refine ⟨.inr rfl,[.agg [_,.bool _]],.cons (.box _ _ _ 0 _ _ _ _ rfl rfl rfl rfl rfl rfl) <| .nil,.cons _ (.refl _),?_⟩
  exact Eq.trans rfl (congrArg (fun q:Cs=>AV.agg (Ea q)) (oY hc1)).symm
 ·
  refine Bv (AW.seq ?_)
  refine AW.draw mixed (fun _=>True) trivial (by kernel_rfl) ?_
  refine Qn 1 rfl (Qf [_,.bool _]) (Qn 2 rfl Dg (Qn 4 rfl (Qf [_,.bool _]) (Qn 5 rfl Dg ?_)))
  refine Js.eff _ _ 0 _ _ rfl (by kernel_rfl) rfl rfl (R0 (es:=[]) Ai rfl rfl rfl rfl rfl rfl rfl rfl rfl) (fun _ _ _=>trivial) ?_
  rintro _ _ ⟨v24,rfl,rfl⟩
  refine Js.eff _ _ 3 _ _ rfl (by kernel_rfl) rfl rfl (Dj (k:=0) Ai rfl rfl rfl rfl rfl rfl rfl rfl (hsa) (zA) (by simp;omega) (by simp [maxLen];omega)) (fun _ _ _=>trivial) ?_
  rintro _ _ ⟨v27,rfl,rfl⟩
  refine Js.eff _ _ 6 _ _ rfl (by kernel_rfl) rfl rfl (Dj (k:=0) Ai rfl rfl rfl rfl rfl rfl rfl rfl (hsb) (hsa) (by simp;omega) (by simp [maxLen];omega)) (fun _ _ _=>trivial) ?_
  rintro _ _ ⟨v30,rfl,rfl⟩
  refine Qn 7 rfl (El [_,.bool _]) ?_
  refine Js.eff _ _ 8 _ _ rfl (by kernel_rfl) rfl rfl (C6 (k:=1) (v:=.agg _) (cs':=[_,.bool _]) (H2:=_::_::_) Ai rfl rfl rfl rfl (rfl) rfl rfl rfl rfl) (fun _ _ _=>trivial) ?_
  rintro _ _ ⟨rfl,rfl⟩
  refine Js.done _ _ (by kernel_rfl) ?_
  refine Ae ?_
  refine AW.ghost (GS.cell (H2:=_::_::_) 1 0 rfl rfl rfl rfl G1) ?_
  refine AW.ret ?_
  refine ⟨.inr rfl,[.agg [_,.bool _]],.cons (.box _ _ _ 1 _ _ _ _ rfl rfl rfl rfl rfl rfl) <| .nil,.cons _ (.cons _ (.refl _)),?_⟩
  rw [List.nil_append,←List.map_append]
  exact Eq.trans rfl (congrArg (fun q:Cs=>AV.agg (Ea q)) (Yh hc1)).symm
theorem Xx (l:List Lit)(hl:l.length≤256):Ar Tryz.prog 90 [.sl 9 (l.map Gw)] (.agg (Ea (Dz l))):=by
 refine Ar.body (n:=22) Ai Tryz.func90 rfl rfl rfl fun H=>?_
 refine Ah ?_
 refine Qe (Aj (l:=[.sl 1 [],.bool false]) (by kernel_rfl)) ?_
 rintro _ _ ⟨b2,rfl,rfl⟩
 refine Db ?_
 refine Qp (Pa (l0:=[.val (.slice none 0 0),.bool false]) (l:=[_,_]) Ai rfl rfl (by kernel_rfl) rfl) ?_
 refine Qe (Aj (l:=[.sl 1 [],.bool false]) (by kernel_rfl)) ?_
 rintro _ _ ⟨b3,rfl,rfl⟩
 refine Cq 0 [_,.bool _] (_::_::_) ?_
 refine AOL.ghost (GS.cellRow 0 0 71 1 rfl rfl rfl rfl) ?_
 refine Ag (AW.seq (Ah (Qp C5 ?_)))
 refine Qp (Ak (n:=l.length) Ai rfl rfl rfl (by simp)) ?_
 refine Qp Az (Ag (AW.block ?_))
 refine AW.Aau (fun (p:Nat×List (List AV)×Value)=>(⟨[(2,.val (.pointer (some ⟨b2,0,none⟩))),(3,.val (.pointer (some ⟨b3,0,none⟩))),(7,.sl 9 (l.map Gw)),(8,.int .i64 l.length),(9,.int .i64 (p.1:Int))],.row p.2.2 p.2.1.length 71 1 :: .box b3 103 [.row p.2.2 1 p.2.1,.bool true] :: .box b2 103 [.sl 1 [],.bool false]::H,22⟩:St)) (fun (p:Nat×List (List AV)×Value)=>p.1≤l.length∧p.2.1=((l.take p.1).map fun x=>[x]).map P2) (fun (p:Nat×List (List AV)×Value)=>l.length-p.1) ((0,[],.slice none 0 0)) ?_ (GS.weaken ⟨rfl,rfl,rfl,rfl,rfl,trivial⟩ (.refl _)) ?_
 · exact ⟨Nat.zero_le _,rfl⟩
 ·
  rintro p hR
  have hsc:∀c∈p.2.1,Bf c=true:=by rw [hR.2];exact Ff fun _=>rfl
  have hpl:p.2.1.length≤p.1:=by rw [hR.2];simp;omega
  refine Ah (Qp Cf (Ag (AW.seq (A2 (fun hc1=>?_) fun hc1=>?_))))
  ·
   obtain ⟨x,hx⟩:=B1 hc1
   have hlx:=A8 hx
   refine Bv (AW.seq (AW.block (Ah ?_)))
   refine Qp (Af (c:=[Iq _,_,Iq _,Iq _,Iq _,Iq _,Iq _,.str _,.bool _]) Ai rfl rfl rfl rfl rfl rfl (by omega) (Bg hx)) ?_
   refine Qp (Cd [Iq _,_,Iq _,Iq _,Iq _,Iq _,Iq _,.str _,.bool _]) ?_
   refine Qe (Aj (l:=[.int .i64 0,.sl 8 [],.int .i64 0,.int .i64 0,.int .i64 0,.int .i64 0,.int .i64 0,.str [],.bool false]) (by kernel_rfl)) ?_
   rintro _ _ ⟨b5,rfl,rfl⟩
   refine Cq 0 [Iq _,_,Iq _,Iq _,Iq _,Iq _,Iq _,.str _,.bool _] (_::_::_::_::_) ?_
   refine AOL.ghost (GS.Aat (t:=5) 0 rfl rfl) ?_
   refine Ag (AW.region (Qp Iu ?_))
   refine AOL.Aay (At (k:=1) (c:=.row _ _ _) Ai rfl rfl rfl rfl) rfl rfl ?_
   refine Qp (Cd [Iq _,_,Iq _,Iq _,Iq _,Iq _,Iq _,.str _,.bool _]) ?_
   refine Qp (A0 (es:=[[Iq _,_,Iq _,Iq _,Iq _,Iq _,Iq _,.str _,.bool _]]) Ai rfl rfl rfl rfl rfl rfl rfl rfl rfl) ?_
   refine Qp (A0 (es:=[[_]]) Ai rfl rfl rfl rfl rfl rfl rfl rfl rfl) ?_
   refine Qe (Dj (k:=0) Ai rfl rfl rfl rfl rfl rfl rfl rfl (G2 rfl) (hsc) (by simp;omega) (by simp [maxLen];omega)) ?_
   rintro _ _ ⟨v18,rfl,rfl⟩
   refine Qp Iu ?_
   refine Cq 1 [_,.bool _] (_::_::_::_) ?_
   refine AOL.nil (Bp (Ae (AW.region (Qp Fu (Qp Az (Ag ?_))))))
   refine ⟨(p.1+1,p.2.1 ++ [[.sl 9 [Gw x]]],v18),?_,?_,GS.weaken ⟨rfl,rfl,rfl,rfl,rfl,trivial⟩ (.refl _)⟩
   · exact ⟨hlx,by simp only;rw [Cm hx,hR.2];simp [P2]⟩
   · simp only;omega
  ·
   have hte:=Cv hc1
   have hall:=hR.2
   rw [hte] at hall
   refine AW.exit ?_
   refine A3 (A3 (Bq (Ae (Ah ?_))))
   refine AOL.ghost (GS.cell (H2:=_::_::_::_) 1 0 rfl rfl rfl rfl G1) ?_
   refine AOL.Aay (By (k:=1) (l:=[_,.bool _]) Ai rfl rfl rfl rfl rfl) rfl rfl ?_
   refine Cq 2 [_,.bool _] (_::_::_::_) ?_
   refine Ag (AW.ret ?_)
   refine ⟨.inr rfl,[.agg [_,.bool _]],.cons (.box _ _ _ 2 _ _ _ _ rfl rfl rfl rfl rfl rfl) <| .nil,.cons _ (.cons _ (.cons _ (.refl _))),?_⟩
   rw [hall];rfl
theorem E9 (T:List Sc)(V:List Va)(e:Ex)(ih:∀a∈e.args,∀s,Ar Tryz.prog 53 [.agg (Cj T V),.agg (cE a),.bool s] (.agg (Ea (C4 T V a s))))(i:Nat)(a:Ex)(ha:e.args[i]? = some a)(s:Bool):Ar Tryz.prog 87 [.int .i64 (i:Int),.bool s,.ptr (Cj T V),.ptr (cE e)] (.agg (Ea (C4 T V a s))):=by
 refine Ar.body (n:=15) Ai Tryz.func87 rfl rfl rfl fun H=>?_
 refine Ah ?_
 refine Qe (Aj (l:=[.sl 1 [],.bool false]) (by kernel_rfl)) ?_
 rintro _ _ ⟨b6,rfl,rfl⟩
 refine Ag (AW.seq ?_)
 refine AW.draw mixed (fun _=>True) trivial (by kernel_rfl) ?_
 refine Qn 0 rfl (Cd [_,_]) (Qn 1 rfl Mr (Qn 2 rfl Dg (Qn 3 rfl Az ?_)))
 refine Qn 4 rfl (Af (c:=[Iq _,_,Iq _,Iq _,Iq _,Iq _,Iq _,.str _]) Ai rfl rfl rfl rfl rfl rfl (by omega) (E0 ha)) ?_
 refine Qn 5 rfl Dh (Qn 6 rfl Bm ?_)
 refine Qn 7 rfl (Qc rfl (ih a (List.mem_of_getElem? ha) s)) ?_
 refine Js.eff _ _ 8 _ _ rfl (by kernel_rfl) rfl rfl (C6 (k:=0) (v:=.agg _) (cs':=[_,.bool _]) (H2:=_::_) Ai rfl rfl rfl rfl (rfl) rfl rfl rfl rfl) (fun _ _ _=>trivial) ?_
 rintro _ _ ⟨rfl,rfl⟩
 refine Js.done _ _ (by kernel_rfl) ?_
 refine Ae (AW.ret ?_)
 refine ⟨.inr rfl,[.agg [_,.bool _]],.cons (.box _ _ _ 0 _ _ _ _ rfl rfl rfl rfl rfl rfl) <| .nil,.cons _ (.refl _),?_⟩
 rfl
theorem Sl (T:List Sc)(V:List Va)(e:Ex)(hk:KOK T V e)(hse:Av e≤64)(s:Bool):Ar Tryz.prog 53 [.agg (Cj T V),.agg (cE e),.bool s] (.agg (Ea (C4 T V e s))):=by
 revert s hk hse
 induction e using Ex.Aa0
 rename_i e ih0
 intro hk hse s
 have ih:∀a∈e.args,∀s,Ar Tryz.prog 53 [.agg (Cj T V),.agg (cE a),.bool s] (.agg (Ea (C4 T V a s))):=fun a ha s=>ih0 a ha (Ax hk ha) (Nat.le_trans (Nat.le_of_lt (F0 ha)) hse) s
 have hz:=Ba hk.nodes
 refine Ar.body (n:=111) Ai Tryz.func53 rfl rfl rfl fun H=>?_
 refine Ah (Qp (Fx [_,_]) (Qp K3 ?_))
 refine Qe (Aj (l:=[.sl 1 [],.bool false]) (by kernel_rfl)) ?_
 rintro _ _ ⟨b6,rfl,rfl⟩
 refine Db ?_
 refine Qp (Be (l:=[]) (l':=[.ptr _,.ptr _]) rfl rfl) ?_
 refine Qp (C8 (v:=.fn _ _ _) rfl) ?_
 refine Ag (AW.seq (Ah (Qp Kw (Qp Br (Ag (AW.block (Ah (Qp A6 (Qp Bc ?_)))))))))
 refine Ag (A2 (fun hc1=>?_) fun hc1=>?_)
 ·
  refine AW.seq (Ah (Qp J2 (Qp Ys (Qp Br (Qp A6 (Qp Bm ?_))))))
  refine Qp (Q4 Ai rfl rfl rfl rfl) ?_
  refine Ag (A2 (fun hc2=>?_) fun hc2=>?_)
  ·
   refine Ah ?_
   refine Qp (Di.weakV (A0 (es:=[[_]]) Ai rfl rfl rfl rfl rfl rfl rfl rfl rfl) iB) ?_
   refine Qp (El [_,.bool _]) ?_
   refine Cq 0 [_,.bool _] (_::_) ?_
   refine Ag (Dq (A9 (Al ?_)))
   refine ⟨.inr rfl,[.agg [_,.bool _]],.cons (.box _ _ _ 0 _ _ _ _ rfl rfl rfl rfl rfl rfl) <| .nil,.cons _ (.refl _),?_⟩
   first
    | exact absurd (‹(e.op==10)=true›.symm.trans ‹(e.op==10)=false›) (by decide)
    | exact absurd (‹(e.op==11)=true›.symm.trans ‹(e.op==11)=false›) (by decide)
    | exact absurd (‹(e.op==9)=true›.symm.trans ‹(e.op==9)=false›) (by decide)
    | exact Eq.trans rfl (congrArg (fun q:Cs=>AV.agg (Ea q)) (Fl ‹(e.op==0)=true› ‹((e.val.num==1)==s)=true›)).symm
    | exact Eq.trans rfl (congrArg (fun q:Cs=>AV.agg (Ea q)) (Fh ‹(e.op==0)=true› ‹((e.val.num==1)==s)=false›)).symm
    | exact Eq.trans rfl (congrArg (fun q:Cs=>AV.agg (Ea q)) (Fo h00 ‹(e.op==12)=true›)).symm
    | exact Eq.trans rfl (congrArg (fun q:Cs=>AV.agg (Ea q)) (Fk hl2 h10 ‹((e.op==10)==s)=true›)).symm
    | exact Eq.trans rfl (congrArg (fun q:Cs=>AV.agg (Ea q)) (Fg hl2 h10 ‹((e.op==10)==s)=false›)).symm
    | exact Eq.trans rfl (congrArg (fun q:Cs=>AV.agg (Ea q)) (Fj hl2 h9 ‹(Am T V (Ao e)==1)=true›)).symm
    | exact Eq.trans rfl (congrArg (fun q:Cs=>AV.agg (Ea q)) (Fq h9 ‹(Am T V (Ao e)==1)=false› ‹(Am T V (Ao e)==0 && !s)=true›)).symm
    | exact Eq.trans rfl (congrArg (fun q:Cs=>AV.agg (Ea q)) (Io h9 ‹(Am T V (Ao e)==1)=false› ‹(Am T V (Ao e)==0 && !s)=false›)).symm
    | exact Eq.trans rfl (congrArg (fun q:Cs=>AV.agg (Ea q)) (Kq ‹(e.op==0)=false› ‹(e.op==12)=false› (bT ‹(e.op==10)=false› ‹(e.op==11)=false›) ‹(e.op==9)=false›)).symm
  ·
   refine Bv (Ah (Qp (El [_,.bool _]) ?_))
   refine Cq 0 [_,.bool _] (_::_) ?_
   refine AOL.ghost (GS.cell (H2:=_::_) 0 0 rfl rfl rfl rfl (yB (z:=1))) ?_
   refine Ag (AW.ret (A9 (Al ?_)))
   refine ⟨.inr rfl,[.agg [_,.bool _]],.cons (.box _ _ _ 0 _ _ _ _ rfl rfl rfl rfl rfl rfl) <| .nil,.cons _ (.refl _),?_⟩
   first
    | exact absurd (‹(e.op==10)=true›.symm.trans ‹(e.op==10)=false›) (by decide)
    | exact absurd (‹(e.op==11)=true›.symm.trans ‹(e.op==11)=false›) (by decide)
    | exact absurd (‹(e.op==9)=true›.symm.trans ‹(e.op==9)=false›) (by decide)
    | exact Eq.trans rfl (congrArg (fun q:Cs=>AV.agg (Ea q)) (Fl ‹(e.op==0)=true› ‹((e.val.num==1)==s)=true›)).symm
    | exact Eq.trans rfl (congrArg (fun q:Cs=>AV.agg (Ea q)) (Fh ‹(e.op==0)=true› ‹((e.val.num==1)==s)=false›)).symm
    | exact Eq.trans rfl (congrArg (fun q:Cs=>AV.agg (Ea q)) (Fo h00 ‹(e.op==12)=true›)).symm
    | exact Eq.trans rfl (congrArg (fun q:Cs=>AV.agg (Ea q)) (Fk hl2 h10 ‹((e.op==10)==s)=true›)).symm
    | exact Eq.trans rfl (congrArg (fun q:Cs=>AV.agg (Ea q)) (Fg hl2 h10 ‹((e.op==10)==s)=false›)).symm
    | exact Eq.trans rfl (congrArg (fun q:Cs=>AV.agg (Ea q)) (Fj hl2 h9 ‹(Am T V (Ao e)==1)=true›)).symm
    | exact Eq.trans rfl (congrArg (fun q:Cs=>AV.agg (Ea q)) (Fq h9 ‹(Am T V (Ao e)==1)=false› ‹(Am T V (Ao e)==0 && !s)=true›)).symm
    | exact Eq.trans rfl (congrArg (fun q:Cs=>AV.agg (Ea q)) (Io h9 ‹(Am T V (Ao e)==1)=false› ‹(Am T V (Ao e)==0 && !s)=false›)).symm
    | exact Eq.trans rfl (congrArg (fun q:Cs=>AV.agg (Ea q)) (Kq ‹(e.op==0)=false› ‹(e.op==12)=false› (bT ‹(e.op==10)=false› ‹(e.op==11)=false›) ‹(e.op==9)=false›)).symm
 ·
  refine Ah (Qp A6 (Qp Bc (Ag (A2 (fun hc3=>?_) fun hc3=>?_))))
  ·
   refine AW.seq ?_
   have h00:=mP hz.1 (eq_of_beq ‹(e.op==12)=true›)
   have ha0:=Qa h00
   refine AW.region ?_
   refine Qp (Bk (v:=.fn _ _ _) rfl) ?_
   refine Qp Bm (Qp Ge ?_)
   refine Qp (D4 (by kernel_rfl) rfl rfl rfl (E9 T V e ih 0 (Ao e) ha0 (!s))) ?_
   refine Cq 0 [_,.bool _] (_::_) ?_
   refine Ag (AW.ret (A9 (Al ?_)))
   refine ⟨.inr rfl,[.agg [_,.bool _]],.cons (.box _ _ _ 0 _ _ _ _ rfl rfl rfl rfl rfl rfl) <| .nil,.cons _ (.refl _),?_⟩
   first
    | exact absurd (‹(e.op==10)=true›.symm.trans ‹(e.op==10)=false›) (by decide)
    | exact absurd (‹(e.op==11)=true›.symm.trans ‹(e.op==11)=false›) (by decide)
    | exact absurd (‹(e.op==9)=true›.symm.trans ‹(e.op==9)=false›) (by decide)
    | exact Eq.trans rfl (congrArg (fun q:Cs=>AV.agg (Ea q)) (Fl ‹(e.op==0)=true› ‹((e.val.num==1)==s)=true›)).symm
    | exact Eq.trans rfl (congrArg (fun q:Cs=>AV.agg (Ea q)) (Fh ‹(e.op==0)=true› ‹((e.val.num==1)==s)=false›)).symm
    | exact Eq.trans rfl (congrArg (fun q:Cs=>AV.agg (Ea q)) (Fo h00 ‹(e.op==12)=true›)).symm
    | exact Eq.trans rfl (congrArg (fun q:Cs=>AV.agg (Ea q)) (Fk hl2 h10 ‹((e.op==10)==s)=true›)).symm
    | exact Eq.trans rfl (congrArg (fun q:Cs=>AV.agg (Ea q)) (Fg hl2 h10 ‹((e.op==10)==s)=false›)).symm
    | exact Eq.trans rfl (congrArg (fun q:Cs=>AV.agg (Ea q)) (Fj hl2 h9 ‹(Am T V (Ao e)==1)=true›)).symm
    | exact Eq.trans rfl (congrArg (fun q:Cs=>AV.agg (Ea q)) (Fq h9 ‹(Am T V (Ao e)==1)=false› ‹(Am T V (Ao e)==0 && !s)=true›)).symm
    | exact Eq.trans rfl (congrArg (fun q:Cs=>AV.agg (Ea q)) (Io h9 ‹(Am T V (Ao e)==1)=false› ‹(Am T V (Ao e)==0 && !s)=false›)).symm
    | exact Eq.trans rfl (congrArg (fun q:Cs=>AV.agg (Ea q)) (Kq ‹(e.op==0)=false› ‹(e.op==12)=false› (bT ‹(e.op==10)=false› ‹(e.op==11)=false›) ‹(e.op==9)=false›)).symm
  ·
   refine AW.seq (Ah (Qp A6 (Qp Bc (Ag (A2 (fun hc4=>?_) fun hc4=>?_)))))
   ·
    refine Bv (A2 (fun hc5=>?_) fun hc5=>?_)
    ·
     refine AW.seq (Ah (Qp Kw (Qp Br (Qp A6 (Qp Bm ?_)))))
     refine Qp (Q4 Ai rfl rfl rfl rfl) ?_
     refine Ag (A2 (fun hc6=>?_) fun hc6=>?_)
     ·
      refine AW.seq ?_
      have h10:(e.op==10||e.op==11)=true:=by first | exact bB ‹(e.op==10)=true› | exact aT ‹(e.op==11)=true›
      have hl2:=E1 hz.1 (by simp at h10;omega)
      have h00:0<e.args.length:=by omega
      have ha0:=Qa h00
      have ha1:=Si hl2
      have m0:=A4 h00
      have m1:=Bn hl2
      have k0:=Fm _ (Ax hk m0)
      have k1:=Fm _ (Ax hk m1)
      have hs01:=Dd hl2
      refine AW.region ?_
      refine Qp (Bk (v:=.fn _ _ _) rfl) ?_
      refine Qp Bm ?_
      refine Qp (D4 (by kernel_rfl) rfl rfl rfl (E9 T V e ih 0 (Ao e) ha0 s)) ?_
      refine Qp (Bk (v:=.fn _ _ _) rfl) ?_
      refine Qp Bm ?_
      refine Qp (D4 (by kernel_rfl) rfl rfl rfl (E9 T V e ih 1 (Bj e) ha1 s)) ?_
      refine Qp (Qc rfl (P9 _ _ _ _ (k0 s) (k1 s) (by omega) (by omega))) ?_
      refine Cq 0 [_,.bool _] (_::_) ?_
      refine Ag (Dq (A9 (Al ?_)))
      refine ⟨.inr rfl,[.agg [_,.bool _]],.cons (.box _ _ _ 0 _ _ _ _ rfl rfl rfl rfl rfl rfl) <| .nil,.cons _ (.refl _),?_⟩
      first
       | exact absurd (‹(e.op==10)=true›.symm.trans ‹(e.op==10)=false›) (by decide)
       | exact absurd (‹(e.op==11)=true›.symm.trans ‹(e.op==11)=false›) (by decide)
       | exact absurd (‹(e.op==9)=true›.symm.trans ‹(e.op==9)=false›) (by decide)
       | exact Eq.trans rfl (congrArg (fun q:Cs=>AV.agg (Ea q)) (Fl ‹(e.op==0)=true› ‹((e.val.num==1)==s)=true›)).symm
       | exact Eq.trans rfl (congrArg (fun q:Cs=>AV.agg (Ea q)) (Fh ‹(e.op==0)=true› ‹((e.val.num==1)==s)=false›)).symm
       | exact Eq.trans rfl (congrArg (fun q:Cs=>AV.agg (Ea q)) (Fo h00 ‹(e.op==12)=true›)).symm
       | exact Eq.trans rfl (congrArg (fun q:Cs=>AV.agg (Ea q)) (Fk hl2 h10 ‹((e.op==10)==s)=true›)).symm
       | exact Eq.trans rfl (congrArg (fun q:Cs=>AV.agg (Ea q)) (Fg hl2 h10 ‹((e.op==10)==s)=false›)).symm
       | exact Eq.trans rfl (congrArg (fun q:Cs=>AV.agg (Ea q)) (Fj hl2 h9 ‹(Am T V (Ao e)==1)=true›)).symm
       | exact Eq.trans rfl (congrArg (fun q:Cs=>AV.agg (Ea q)) (Fq h9 ‹(Am T V (Ao e)==1)=false› ‹(Am T V (Ao e)==0 && !s)=true›)).symm
       | exact Eq.trans rfl (congrArg (fun q:Cs=>AV.agg (Ea q)) (Io h9 ‹(Am T V (Ao e)==1)=false› ‹(Am T V (Ao e)==0 && !s)=false›)).symm
       | exact Eq.trans rfl (congrArg (fun q:Cs=>AV.agg (Ea q)) (Kq ‹(e.op==0)=false› ‹(e.op==12)=false› (bT ‹(e.op==10)=false› ‹(e.op==11)=false›) ‹(e.op==9)=false›)).symm
     ·
      refine Bv (AW.seq ?_)
      have h10:(e.op==10||e.op==11)=true:=by first | exact bB ‹(e.op==10)=true› | exact aT ‹(e.op==11)=true›
      have hl2:=E1 hz.1 (by simp at h10;omega)
      have h00:0<e.args.length:=by omega
      have ha0:=Qa h00
      have ha1:=Si hl2
      have m0:=A4 h00
      have m1:=Bn hl2
      have k0:=Fm _ (Ax hk m0)
      have k1:=Fm _ (Ax hk m1)
      have hs01:=Dd hl2
      refine AW.region ?_
      refine Qp (Bk (v:=.fn _ _ _) rfl) ?_
      refine Qp Bm ?_
      refine Qp (D4 (by kernel_rfl) rfl rfl rfl (E9 T V e ih 0 (Ao e) ha0 s)) ?_
      refine Qp (Bk (v:=.fn _ _ _) rfl) ?_
      refine Qp Bm ?_
      refine Qp (D4 (by kernel_rfl) rfl rfl rfl (E9 T V e ih 1 (Bj e) ha1 s)) ?_
      refine Qp (Qc rfl (kE _ _ _ _ ((k0 s).mono (Nat.le_trans (by omega) hse)) ((k1 s).mono (Nat.le_trans (by omega) hse)) (by omega) (by omega))) ?_
      refine Cq 0 [_,.bool _] (_::_) ?_
      refine Ag (AW.ret (A9 (Al ?_)))
      refine ⟨.inr rfl,[.agg [_,.bool _]],.cons (.box _ _ _ 0 _ _ _ _ rfl rfl rfl rfl rfl rfl) <| .nil,.cons _ (.refl _),?_⟩
      first
       | exact absurd (‹(e.op==10)=true›.symm.trans ‹(e.op==10)=false›) (by decide)
       | exact absurd (‹(e.op==11)=true›.symm.trans ‹(e.op==11)=false›) (by decide)
       | exact absurd (‹(e.op==9)=true›.symm.trans ‹(e.op==9)=false›) (by decide)
       | exact Eq.trans rfl (congrArg (fun q:Cs=>AV.agg (Ea q)) (Fl ‹(e.op==0)=true› ‹((e.val.num==1)==s)=true›)).symm
       | exact Eq.trans rfl (congrArg (fun q:Cs=>AV.agg (Ea q)) (Fh ‹(e.op==0)=true› ‹((e.val.num==1)==s)=false›)).symm
       | exact Eq.trans rfl (congrArg (fun q:Cs=>AV.agg (Ea q)) (Fo h00 ‹(e.op==12)=true›)).symm
       | exact Eq.trans rfl (congrArg (fun q:Cs=>AV.agg (Ea q)) (Fk hl2 h10 ‹((e.op==10)==s)=true›)).symm
       | exact Eq.trans rfl (congrArg (fun q:Cs=>AV.agg (Ea q)) (Fg hl2 h10 ‹((e.op==10)==s)=false›)).symm
       | exact Eq.trans rfl (congrArg (fun q:Cs=>AV.agg (Ea q)) (Fj hl2 h9 ‹(Am T V (Ao e)==1)=true›)).symm
       | exact Eq.trans rfl (congrArg (fun q:Cs=>AV.agg (Ea q)) (Fq h9 ‹(Am T V (Ao e)==1)=false› ‹(Am T V (Ao e)==0 && !s)=true›)).symm
       | exact Eq.trans rfl (congrArg (fun q:Cs=>AV.agg (Ea q)) (Io h9 ‹(Am T V (Ao e)==1)=false› ‹(Am T V (Ao e)==0 && !s)=false›)).symm
       | exact Eq.trans rfl (congrArg (fun q:Cs=>AV.agg (Ea q)) (Kq ‹(e.op==0)=false› ‹(e.op==12)=false› (bT ‹(e.op==10)=false› ‹(e.op==11)=false›) ‹(e.op==9)=false›)).symm
    ·
     exact absurd (hc5.symm.trans hc4) (by decide)
   ·
    refine AW.region (Qp A6 (Qp Bc (Ag (A2 (fun hc7=>?_) fun hc7=>?_))))
    ·
     refine AW.seq (Ah (Qp Kw (Qp Br (Qp A6 (Qp Bm ?_)))))
     refine Qp (Q4 Ai rfl rfl rfl rfl) ?_
     refine Ag (A2 (fun hc8=>?_) fun hc8=>?_)
     ·
      refine AW.seq ?_
      have h10:(e.op==10||e.op==11)=true:=by first | exact bB ‹(e.op==10)=true› | exact aT ‹(e.op==11)=true›
      have hl2:=E1 hz.1 (by simp at h10;omega)
      have h00:0<e.args.length:=by omega
      have ha0:=Qa h00
      have ha1:=Si hl2
      have m0:=A4 h00
      have m1:=Bn hl2
      have k0:=Fm _ (Ax hk m0)
      have k1:=Fm _ (Ax hk m1)
      have hs01:=Dd hl2
      refine AW.region ?_
      refine Qp (Bk (v:=.fn _ _ _) rfl) ?_
      refine Qp Bm ?_
      refine Qp (D4 (by kernel_rfl) rfl rfl rfl (E9 T V e ih 0 (Ao e) ha0 s)) ?_
      refine Qp (Bk (v:=.fn _ _ _) rfl) ?_
      refine Qp Bm ?_
      refine Qp (D4 (by kernel_rfl) rfl rfl rfl (E9 T V e ih 1 (Bj e) ha1 s)) ?_
      refine Qp (Qc rfl (P9 _ _ _ _ (k0 s) (k1 s) (by omega) (by omega))) ?_
      refine Cq 0 [_,.bool _] (_::_) ?_
      refine Ag (Dq (A9 (Al ?_)))
      refine ⟨.inr rfl,[.agg [_,.bool _]],.cons (.box _ _ _ 0 _ _ _ _ rfl rfl rfl rfl rfl rfl) <| .nil,.cons _ (.refl _),?_⟩
      first
       | exact absurd (‹(e.op==10)=true›.symm.trans ‹(e.op==10)=false›) (by decide)
       | exact absurd (‹(e.op==11)=true›.symm.trans ‹(e.op==11)=false›) (by decide)
       | exact absurd (‹(e.op==9)=true›.symm.trans ‹(e.op==9)=false›) (by decide)
       | exact Eq.trans rfl (congrArg (fun q:Cs=>AV.agg (Ea q)) (Fl ‹(e.op==0)=true› ‹((e.val.num==1)==s)=true›)).symm
       | exact Eq.trans rfl (congrArg (fun q:Cs=>AV.agg (Ea q)) (Fh ‹(e.op==0)=true› ‹((e.val.num==1)==s)=false›)).symm
       | exact Eq.trans rfl (congrArg (fun q:Cs=>AV.agg (Ea q)) (Fo h00 ‹(e.op==12)=true›)).symm
       | exact Eq.trans rfl (congrArg (fun q:Cs=>AV.agg (Ea q)) (Fk hl2 h10 ‹((e.op==10)==s)=true›)).symm
       | exact Eq.trans rfl (congrArg (fun q:Cs=>AV.agg (Ea q)) (Fg hl2 h10 ‹((e.op==10)==s)=false›)).symm
       | exact Eq.trans rfl (congrArg (fun q:Cs=>AV.agg (Ea q)) (Fj hl2 h9 ‹(Am T V (Ao e)==1)=true›)).symm
       | exact Eq.trans rfl (congrArg (fun q:Cs=>AV.agg (Ea q)) (Fq h9 ‹(Am T V (Ao e)==1)=false› ‹(Am T V (Ao e)==0 && !s)=true›)).symm
       | exact Eq.trans rfl (congrArg (fun q:Cs=>AV.agg (Ea q)) (Io h9 ‹(Am T V (Ao e)==1)=false› ‹(Am T V (Ao e)==0 && !s)=false›)).symm
       | exact Eq.trans rfl (congrArg (fun q:Cs=>AV.agg (Ea q)) (Kq ‹(e.op==0)=false› ‹(e.op==12)=false› (bT ‹(e.op==10)=false› ‹(e.op==11)=false›) ‹(e.op==9)=false›)).symm
     ·
      refine Bv (AW.seq ?_)
      have h10:(e.op==10||e.op==11)=true:=by first | exact bB ‹(e.op==10)=true› | exact aT ‹(e.op==11)=true›
      have hl2:=E1 hz.1 (by simp at h10;omega)
      have h00:0<e.args.length:=by omega
      have ha0:=Qa h00
      have ha1:=Si hl2
      have m0:=A4 h00
      have m1:=Bn hl2
      have k0:=Fm _ (Ax hk m0)
      have k1:=Fm _ (Ax hk m1)
      have hs01:=Dd hl2
      refine AW.region ?_
      refine Qp (Bk (v:=.fn _ _ _) rfl) ?_
      refine Qp Bm ?_
      refine Qp (D4 (by kernel_rfl) rfl rfl rfl (E9 T V e ih 0 (Ao e) ha0 s)) ?_
      refine Qp (Bk (v:=.fn _ _ _) rfl) ?_
      refine Qp Bm ?_
      refine Qp (D4 (by kernel_rfl) rfl rfl rfl (E9 T V e ih 1 (Bj e) ha1 s)) ?_
      refine Qp (Qc rfl (kE _ _ _ _ ((k0 s).mono (Nat.le_trans (by omega) hse)) ((k1 s).mono (Nat.le_trans (by omega) hse)) (by omega) (by omega))) ?_
      refine Cq 0 [_,.bool _] (_::_) ?_
      refine Ag (AW.ret (A9 (Al ?_)))
      refine ⟨.inr rfl,[.agg [_,.bool _]],.cons (.box _ _ _ 0 _ _ _ _ rfl rfl rfl rfl rfl rfl) <| .nil,.cons _ (.refl _),?_⟩
      first
       | exact absurd (‹(e.op==10)=true›.symm.trans ‹(e.op==10)=false›) (by decide)
       | exact absurd (‹(e.op==11)=true›.symm.trans ‹(e.op==11)=false›) (by decide)
       | exact absurd (‹(e.op==9)=true›.symm.trans ‹(e.op==9)=false›) (by decide)
       | exact Eq.trans rfl (congrArg (fun q:Cs=>AV.agg (Ea q)) (Fl ‹(e.op==0)=true› ‹((e.val.num==1)==s)=true›)).symm
       | exact Eq.trans rfl (congrArg (fun q:Cs=>AV.agg (Ea q)) (Fh ‹(e.op==0)=true› ‹((e.val.num==1)==s)=false›)).symm
       | exact Eq.trans rfl (congrArg (fun q:Cs=>AV.agg (Ea q)) (Fo h00 ‹(e.op==12)=true›)).symm
       | exact Eq.trans rfl (congrArg (fun q:Cs=>AV.agg (Ea q)) (Fk hl2 h10 ‹((e.op==10)==s)=true›)).symm
       | exact Eq.trans rfl (congrArg (fun q:Cs=>AV.agg (Ea q)) (Fg hl2 h10 ‹((e.op==10)==s)=false›)).symm
       | exact Eq.trans rfl (congrArg (fun q:Cs=>AV.agg (Ea q)) (Fj hl2 h9 ‹(Am T V (Ao e)==1)=true›)).symm
       | exact Eq.trans rfl (congrArg (fun q:Cs=>AV.agg (Ea q)) (Fq h9 ‹(Am T V (Ao e)==1)=false› ‹(Am T V (Ao e)==0 && !s)=true›)).symm
       | exact Eq.trans rfl (congrArg (fun q:Cs=>AV.agg (Ea q)) (Io h9 ‹(Am T V (Ao e)==1)=false› ‹(Am T V (Ao e)==0 && !s)=false›)).symm
       | exact Eq.trans rfl (congrArg (fun q:Cs=>AV.agg (Ea q)) (Kq ‹(e.op==0)=false› ‹(e.op==12)=false› (bT ‹(e.op==10)=false› ‹(e.op==11)=false›) ‹(e.op==9)=false›)).symm
    ·
     refine Ah (Qp A6 (Qp Bc (Ag (A2 (fun hc9=>?_) fun hc9=>?_))))
     ·
      refine AW.seq ?_
      have h9:(e.op==9)=true:=‹(e.op==9)=true›
      have hl2:=E1 hz.1 (by simp at h9;omega)
      have h00:0<e.args.length:=by omega
      have ha0:=Qa h00
      have ha1:=Si hl2
      have m0:=A4 h00
      have m1:=Bn hl2
      have k0:=Fm _ (Ax hk m0)
      have k1:=Fm _ (Ax hk m1)
      have hs01:=Dd hl2
      refine AW.draw mixed (fun _=>True) trivial (by kernel_rfl) ?_
      refine Qn 0 rfl (Cd [_,_]) (Qn 1 rfl Mr (Qn 2 rfl Dg ?_))
      refine Qn 3 rfl (Af (c:=[Iq _,_,Iq _,Iq _,Iq _,Iq _,Iq _,.str _]) Ai rfl rfl rfl rfl rfl rfl (by decide) (Id h00)) ?_
      refine Qn 4 rfl Dh ?_
      refine Qn 5 rfl (Qc rfl (Yq T V _ (Ax hk m0))) ?_
      refine Qn 6 rfl Ap ?_
      refine Js.done _ _ (by kernel_rfl) ?_
      refine Ae (AW.block (Ah (Qp Az (Qp A6 (Qp Bc (Ag (A2 (fun hc10=>?_) fun hc10=>?_)))))))
      ·
       refine Ah ?_
       refine Qp (Bk (v:=.fn _ _ _) rfl) ?_
       refine Qp (D4 (by kernel_rfl) rfl rfl rfl (E9 T V e ih 0 (Ao e) ha0 true)) ?_
       refine Qp (Bk (v:=.fn _ _ _) rfl) ?_
       refine Qp Bm ?_
       refine Qp (D4 (by kernel_rfl) rfl rfl rfl (E9 T V e ih 1 (Bj e) ha1 s)) ?_
       refine Qp (Qc rfl (P9 _ _ _ _ (k0 true) (k1 s) (by omega) (by omega))) ?_
       refine Qp (Bk (v:=.fn _ _ _) rfl) ?_
       refine Qp (D4 (by kernel_rfl) rfl rfl rfl (E9 T V e ih 0 (Ao e) ha0 false)) ?_
       refine Qp (Bk (v:=.fn _ _ _) rfl) ?_
       refine Qp Bm (Qp Ge ?_)
       refine Qp (D4 (by kernel_rfl) rfl rfl rfl (E9 T V e ih 1 (Bj e) ha1 (!s))) ?_
       refine Qp (Qc rfl (P9 _ _ _ _ (k0 false) (k1 (!s)) (by omega) (by omega))) ?_
       refine Qp (Qc rfl (kE _ _ _ _ ((Kg (k0 true) (k1 s)).mono (Nat.le_trans (by omega) hse)) ((Kg (k0 false) (k1 (!s))).mono (Nat.le_trans (by omega) hse)) (by omega) (by omega))) ?_
       refine Cq 0 [_,.bool _] (_::_) ?_
       refine Ag (AW.ret (A9 (A9 (Al ?_))))
       refine ⟨.inr rfl,[.agg [_,.bool _]],.cons (.box _ _ _ 0 _ _ _ _ rfl rfl rfl rfl rfl rfl) <| .nil,.cons _ (.refl _),?_⟩
       first
        | exact absurd (‹(e.op==10)=true›.symm.trans ‹(e.op==10)=false›) (by decide)
        | exact absurd (‹(e.op==11)=true›.symm.trans ‹(e.op==11)=false›) (by decide)
        | exact absurd (‹(e.op==9)=true›.symm.trans ‹(e.op==9)=false›) (by decide)
        | exact Eq.trans rfl (congrArg (fun q:Cs=>AV.agg (Ea q)) (Fl ‹(e.op==0)=true› ‹((e.val.num==1)==s)=true›)).symm
        | exact Eq.trans rfl (congrArg (fun q:Cs=>AV.agg (Ea q)) (Fh ‹(e.op==0)=true› ‹((e.val.num==1)==s)=false›)).symm
        | exact Eq.trans rfl (congrArg (fun q:Cs=>AV.agg (Ea q)) (Fo h00 ‹(e.op==12)=true›)).symm
        | exact Eq.trans rfl (congrArg (fun q:Cs=>AV.agg (Ea q)) (Fk hl2 h10 ‹((e.op==10)==s)=true›)).symm
        | exact Eq.trans rfl (congrArg (fun q:Cs=>AV.agg (Ea q)) (Fg hl2 h10 ‹((e.op==10)==s)=false›)).symm
        | exact Eq.trans rfl (congrArg (fun q:Cs=>AV.agg (Ea q)) (Fj hl2 h9 ‹(Am T V (Ao e)==1)=true›)).symm
        | exact Eq.trans rfl (congrArg (fun q:Cs=>AV.agg (Ea q)) (Fq h9 ‹(Am T V (Ao e)==1)=false› ‹(Am T V (Ao e)==0 && !s)=true›)).symm
        | exact Eq.trans rfl (congrArg (fun q:Cs=>AV.agg (Ea q)) (Io h9 ‹(Am T V (Ao e)==1)=false› ‹(Am T V (Ao e)==0 && !s)=false›)).symm
        | exact Eq.trans rfl (congrArg (fun q:Cs=>AV.agg (Ea q)) (Kq ‹(e.op==0)=false› ‹(e.op==12)=false› (bT ‹(e.op==10)=false› ‹(e.op==11)=false›) ‹(e.op==9)=false›)).symm
      ·
       refine Ah (Qp Az (Qp A6 (Qp Bm (Qg [] Qw Bm (Qg [(80,_)] Qw Ge (Qp Em (Qp Bc (Ag (A2 (fun hc11=>?_) fun hc11=>?_)))))))))
       ·
        refine AW.seq ?_
        refine AW.draw mixed (fun _=>True) trivial (by kernel_rfl) ?_
        refine Qn 0 rfl Mr (Qn 1 rfl Dg ?_)
        refine Qn 2 rfl (Af (c:=[Iq _,_,Iq _,Iq _,Iq _,Iq _,Iq _,.str _]) Ai rfl rfl rfl rfl rfl rfl (by decide) (Id h00)) ?_
        refine Qn 3 rfl Dh (Qn 4 rfl Mr (Qn 5 rfl Dg ?_))
        refine Qn 6 rfl (Af (c:=[Iq _,_,Iq _,Iq _,Iq _,Iq _,Iq _,.str _]) Ai rfl rfl rfl rfl rfl rfl (by decide) (Ky hl2)) ?_
        refine Qn 7 rfl Dh ?_
        refine Qn 8 rfl (Qc rfl (d_two 7 _ _)) ?_
        refine Qn 9 rfl (El [Iq _,_,Iq _,Iq _,Iq _,Iq _,Iq _,.str _,.bool _]) (Qn 10 rfl Mr (Qn 11 rfl Dg ?_))
        refine Qn 12 rfl (Af (c:=[Iq _,_,Iq _,Iq _,Iq _,Iq _,Iq _,.str _]) Ai rfl rfl rfl rfl rfl rfl (by decide) (Ky hl2)) ?_
        refine Qn 13 rfl Dh (Qn 14 rfl Mr (Qn 15 rfl Dg ?_))
        refine Qn 16 rfl (Af (c:=[Iq _,_,Iq _,Iq _,Iq _,Iq _,Iq _,.str _]) Ai rfl rfl rfl rfl rfl rfl (by decide) (Id h00)) ?_
        refine Qn 17 rfl Dh ?_
        refine Qn 18 rfl (Qc rfl (d_two 7 _ _)) ?_
        refine Qn 19 rfl (El [Iq _,_,Iq _,Iq _,Iq _,Iq _,Iq _,.str _,.bool _]) ?_
        refine Qn 20 rfl (A0 (es:=[[Iq _,_,Iq _,Iq _,Iq _,Iq _,Iq _,.str _,.bool _],[Iq _,_,Iq _,Iq _,Iq _,Iq _,Iq _,.str _,.bool _]]) Ai rfl rfl rfl rfl rfl rfl rfl rfl rfl) ?_
        refine Qn 21 rfl (Qc rfl (Xx [⟨two 7 (Ao e) (Bj e),false⟩,⟨two 7 (Bj e) (Ao e),false⟩] (show 2≤256 by decide))) ?_
        refine Js.eff _ _ 22 _ _ rfl (by kernel_rfl) rfl rfl (C6 (k:=0) (v:=.agg _) (cs':=[_,.bool _]) (H2:=_::_) Ai rfl rfl rfl rfl (rfl) rfl rfl rfl rfl) (fun _ _ _=>trivial) ?_
        rintro _ _ ⟨rfl,rfl⟩
        refine Js.done _ _ (by kernel_rfl) ?_
        refine Ae (AW.ret (A9 (A9 (Al ?_))))
        refine ⟨.inr rfl,[.agg [_,.bool _]],.cons (.box _ _ _ 0 _ _ _ _ rfl rfl rfl rfl rfl rfl) <| .nil,.cons _ (.refl _),?_⟩
        first
         | exact absurd (‹(e.op==10)=true›.symm.trans ‹(e.op==10)=false›) (by decide)
         | exact absurd (‹(e.op==11)=true›.symm.trans ‹(e.op==11)=false›) (by decide)
         | exact absurd (‹(e.op==9)=true›.symm.trans ‹(e.op==9)=false›) (by decide)
         | exact Eq.trans rfl (congrArg (fun q:Cs=>AV.agg (Ea q)) (Fl ‹(e.op==0)=true› ‹((e.val.num==1)==s)=true›)).symm
         | exact Eq.trans rfl (congrArg (fun q:Cs=>AV.agg (Ea q)) (Fh ‹(e.op==0)=true› ‹((e.val.num==1)==s)=false›)).symm
         | exact Eq.trans rfl (congrArg (fun q:Cs=>AV.agg (Ea q)) (Fo h00 ‹(e.op==12)=true›)).symm
         | exact Eq.trans rfl (congrArg (fun q:Cs=>AV.agg (Ea q)) (Fk hl2 h10 ‹((e.op==10)==s)=true›)).symm
         | exact Eq.trans rfl (congrArg (fun q:Cs=>AV.agg (Ea q)) (Fg hl2 h10 ‹((e.op==10)==s)=false›)).symm
         | exact Eq.trans rfl (congrArg (fun q:Cs=>AV.agg (Ea q)) (Fj hl2 h9 ‹(Am T V (Ao e)==1)=true›)).symm
         | exact Eq.trans rfl (congrArg (fun q:Cs=>AV.agg (Ea q)) (Fq h9 ‹(Am T V (Ao e)==1)=false› ‹(Am T V (Ao e)==0 && !s)=true›)).symm
         | exact Eq.trans rfl (congrArg (fun q:Cs=>AV.agg (Ea q)) (Io h9 ‹(Am T V (Ao e)==1)=false› ‹(Am T V (Ao e)==0 && !s)=false›)).symm
         | exact Eq.trans rfl (congrArg (fun q:Cs=>AV.agg (Ea q)) (Kq ‹(e.op==0)=false› ‹(e.op==12)=false› (bT ‹(e.op==10)=false› ‹(e.op==11)=false›) ‹(e.op==9)=false›)).symm
       ·
        refine AW.skip (Bp (Bp (Ae (Ah (Qp Dh (Qp Bm (Qp Ge (Qp (El [Iq _,_,Iq _,Iq _,Iq _,Iq _,Iq _,.str _,.bool _]) ?_))))))))
        refine Qp (A0 (es:=[[Iq _,_,Iq _,Iq _,Iq _,Iq _,Iq _,.str _,.bool _]]) Ai rfl rfl rfl rfl rfl rfl rfl rfl rfl) ?_
        refine Qp (Qc rfl (Xx [⟨e,!s⟩] (show 1≤256 by decide))) ?_
        refine Cq 0 [_,.bool _] (_::_) ?_
        refine Ag (AW.ret ?_)
        refine ⟨.inr rfl,[.agg [_,.bool _]],.cons (.box _ _ _ 0 _ _ _ _ rfl rfl rfl rfl rfl rfl) <| .nil,.cons _ (.refl _),?_⟩
        first
         | exact absurd (‹(e.op==10)=true›.symm.trans ‹(e.op==10)=false›) (by decide)
         | exact absurd (‹(e.op==11)=true›.symm.trans ‹(e.op==11)=false›) (by decide)
         | exact absurd (‹(e.op==9)=true›.symm.trans ‹(e.op==9)=false›) (by decide)
         | exact Eq.trans rfl (congrArg (fun q:Cs=>AV.agg (Ea q)) (Fl ‹(e.op==0)=true› ‹((e.val.num==1)==s)=true›)).symm
         | exact Eq.trans rfl (congrArg (fun q:Cs=>AV.agg (Ea q)) (Fh ‹(e.op==0)=true› ‹((e.val.num==1)==s)=false›)).symm
         | exact Eq.trans rfl (congrArg (fun q:Cs=>AV.agg (Ea q)) (Fo h00 ‹(e.op==12)=true›)).symm
         | exact Eq.trans rfl (congrArg (fun q:Cs=>AV.agg (Ea q)) (Fk hl2 h10 ‹((e.op==10)==s)=true›)).symm
         | exact Eq.trans rfl (congrArg (fun q:Cs=>AV.agg (Ea q)) (Fg hl2 h10 ‹((e.op==10)==s)=false›)).symm
         | exact Eq.trans rfl (congrArg (fun q:Cs=>AV.agg (Ea q)) (Fj hl2 h9 ‹(Am T V (Ao e)==1)=true›)).symm
         | exact Eq.trans rfl (congrArg (fun q:Cs=>AV.agg (Ea q)) (Fq h9 ‹(Am T V (Ao e)==1)=false› ‹(Am T V (Ao e)==0 && !s)=true›)).symm
         | exact Eq.trans rfl (congrArg (fun q:Cs=>AV.agg (Ea q)) (Io h9 ‹(Am T V (Ao e)==1)=false› ‹(Am T V (Ao e)==0 && !s)=false›)).symm
         | exact Eq.trans rfl (congrArg (fun q:Cs=>AV.agg (Ea q)) (Kq ‹(e.op==0)=false› ‹(e.op==12)=false› (bT ‹(e.op==10)=false› ‹(e.op==11)=false›) ‹(e.op==9)=false›)).symm
     ·
      refine AW.skip (Bp (Ae (Ah (Qp Dh (Qp Bm (Qp Ge (Qp (El [Iq _,_,Iq _,Iq _,Iq _,Iq _,Iq _,.str _,.bool _]) ?_)))))))
      refine Qp (A0 (es:=[[Iq _,_,Iq _,Iq _,Iq _,Iq _,Iq _,.str _,.bool _]]) Ai rfl rfl rfl rfl rfl rfl rfl rfl rfl) ?_
      refine Qp (Qc rfl (Xx [⟨e,!s⟩] (show 1≤256 by decide))) ?_
      refine Cq 0 [_,.bool _] (_::_) ?_
      refine Ag (AW.ret ?_)
      refine ⟨.inr rfl,[.agg [_,.bool _]],.cons (.box _ _ _ 0 _ _ _ _ rfl rfl rfl rfl rfl rfl) <| .nil,.cons _ (.refl _),?_⟩
      first
       | exact absurd (‹(e.op==10)=true›.symm.trans ‹(e.op==10)=false›) (by decide)
       | exact absurd (‹(e.op==11)=true›.symm.trans ‹(e.op==11)=false›) (by decide)
       | exact absurd (‹(e.op==9)=true›.symm.trans ‹(e.op==9)=false›) (by decide)
       | exact Eq.trans rfl (congrArg (fun q:Cs=>AV.agg (Ea q)) (Fl ‹(e.op==0)=true› ‹((e.val.num==1)==s)=true›)).symm
       | exact Eq.trans rfl (congrArg (fun q:Cs=>AV.agg (Ea q)) (Fh ‹(e.op==0)=true› ‹((e.val.num==1)==s)=false›)).symm
       | exact Eq.trans rfl (congrArg (fun q:Cs=>AV.agg (Ea q)) (Fo h00 ‹(e.op==12)=true›)).symm
       | exact Eq.trans rfl (congrArg (fun q:Cs=>AV.agg (Ea q)) (Fk hl2 h10 ‹((e.op==10)==s)=true›)).symm
       | exact Eq.trans rfl (congrArg (fun q:Cs=>AV.agg (Ea q)) (Fg hl2 h10 ‹((e.op==10)==s)=false›)).symm
       | exact Eq.trans rfl (congrArg (fun q:Cs=>AV.agg (Ea q)) (Fj hl2 h9 ‹(Am T V (Ao e)==1)=true›)).symm
       | exact Eq.trans rfl (congrArg (fun q:Cs=>AV.agg (Ea q)) (Fq h9 ‹(Am T V (Ao e)==1)=false› ‹(Am T V (Ao e)==0 && !s)=true›)).symm
       | exact Eq.trans rfl (congrArg (fun q:Cs=>AV.agg (Ea q)) (Io h9 ‹(Am T V (Ao e)==1)=false› ‹(Am T V (Ao e)==0 && !s)=false›)).symm
       | exact Eq.trans rfl (congrArg (fun q:Cs=>AV.agg (Ea q)) (Kq ‹(e.op==0)=false› ‹(e.op==12)=false› (bT ‹(e.op==10)=false› ‹(e.op==11)=false›) ‹(e.op==9)=false›)).symm
theorem rG (T:List Sc)(hl:T.length≤1048576)(hst:∀s∈T,I9 s)(V:List Va)(hvl:V.length≤1048576)(e:Ex)(hse:Av e≤1048576):Ar Tryz.prog 13 [.sl 2 (T.map Nf),.sl 2 (V.map Ub),.agg (cE e)] (.tuple [.sl 1 ((Jl T V e).1.map P2),.int .i64 (Jl T V e).2]):=by
 refine Ar.body (n:=28) Ai Tryz.func13 rfl rfl rfl fun H=>?_
 refine Ah (Qp K3 ?_)
 refine Qp (Bz (z:=1) rfl) ?_
 refine Qp Ap (Db (Qp C5 (Qp C5 (Qp (El [_,_]) ?_))))
 refine Qe (Aj (l:=[.sl 2 [],.sl 2 []]) (by kernel_rfl)) ?_
 rintro _ _ ⟨b8,rfl,rfl⟩
 refine Cq 0 [_,_] (_::_) ?_
 refine AOL.ghost (GS.Aat (t:=8) 0 rfl rfl) ?_
 refine Ag (AW.seq (Ah (Qp (Cd [_,_]) (Qp Dh ?_))))
 refine Qp (Qc rfl (Lz T hl hst V hvl e hse)) ?_
 refine Qp Ap (Db (Qp Az (Qp Ci (Ag (A2 (fun hc1=>?_) fun hc1=>?_)))))
 ·
  refine Ah (Qp Az ?_)
  refine Qp (Bz (z:=1) rfl) ?_
  refine Qp Ap (Ag (Dq ?_))
  refine J3 (.sl _ _) (Iq _) ?_
  exact Eq.trans rfl (congrArg (fun q:List (List Lit)×Int=>AV.tuple [.sl 1 (q.1.map P2),.int .i64 q.2]) (qS hc1)).symm
 ·
  have hk:=(Sr hc1).1
  refine Bv (Ah (Qp (Cd [_,_]) (Qp Dh ?_)))
  refine Qp (Qc rfl (Sl T V e hk.kok (Ip hk) true)) ?_
  refine Qe (Aj (l:=[.sl 1 [],.bool false]) (by kernel_rfl)) ?_
  rintro _ _ ⟨b10,rfl,rfl⟩
  refine Cq 0 [_,.bool _] (_::_) ?_
  refine AOL.ghost (GS.Aat (t:=10) 0 rfl rfl) ?_
  refine Ag (AW.seq (Ah (Qp (Qf [.bool _]) (Qp jS (Qp Ge (Ag (A2 (fun hc2=>?_) fun hc2=>?_)))))))
  ·
   refine Ah ?_
   refine Qp (Bz (z:=1) rfl) ?_
   refine Qp Ap (Ag (Dq ?_))
   refine J3 (.sl _ _) (Iq _) ?_
   exact Eq.trans rfl (congrArg (fun q:List (List Lit)×Int=>AV.tuple [.sl 1 (q.1.map P2),.int .i64 q.2]) (qC hc1 hc2)).symm
  ·
   refine Bv (Ah (Qp (Qf [_,.bool _]) (Qp Dg (Qp Xa (Qp Ap (Ag (AW.ret ?_)))))))
   refine J3 (.sl _ _) (Iq _) ?_
   exact Eq.trans rfl (congrArg (fun q:List (List Lit)×Int=>AV.tuple [.sl 1 (q.1.map P2),.int .i64 q.2]) (sN hc1 hc2)).symm

end Go.Proofs.YtkddpedfbicbeaaGreatDoor
