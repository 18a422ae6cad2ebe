/-
  Walks of layer 11: clauses. No condition.
-/
import Derived.Test.YtjedflcpjlgokaaGreatDoorAz
import Derived.Test.YtjedflcpjlgokaaGreatDoorK15
import Derived.Test.YtjedflcpjlgokaaGreatDoorK29
import Derived.KernelRfl
namespace Go.Proofs.YtjedflcpjlgokaaGreatDoor
open Go Go.Aw
set_option maxHeartbeats 6400000
set_option maxRecDepth 20000
set_option linter.unusedVariables false
set_option linter.unusedSimpArgs false

theorem O9 (a b:Cs)(n m:Nat)(ha:csOK n a)(hb:csOK m b)(hn:n≤1048576)(hm:m≤1048576):Ax Tryz.prog 31 [.agg (Ea a),.agg (Ea b)] (.agg (Ea (Eb a b))):=by
 have hla:=ha.len
 have hlb:=hb.len
 have hxa:=fun x hx=>Nat.le_trans (ha.lits x hx) hn
 have hxb:=fun x hx=>Nat.le_trans (hb.lits x hx) hm
 refine Ax.body (n:=27) Ai Tryz.func31 rfl rfl rfl fun H=>?_
 refine Ah (Qp (Gd [_,.bool _]) (Qp (Gd [_,.bool _]) ?_))
 refine Qe (Am (l:=[.sl 1 [],.bool false]) (by kernel_rfl)) ?_
 rintro _ _ ⟨b4,rfl,rfl⟩
 refine Ag (AW.seq (Ah (Qp (Qf [.bool _]) (Qp qQ (Qp Hp (Qp Bu (Qg [] Qw (Qf [.bool _]) (Qg [(11,_)] Qw qQ (Qg [(12,_)] Qw Hp ?_)))))))))
 refine Qp E2 (Ag (A3 (fun hc1=>?_) fun hc1=>?_))
 ·
  refine Ah (Qp (Fr [_,.bool _]) ?_)
  refine Cz 0 [_,.bool _] (_::_) ?_
  refine Ag (Du ?_)
  refine ⟨.inr rfl,[.agg [_,.bool _]],.cons (.box _ _ _ 0 _ _ _ _ rfl rfl rfl rfl rfl rfl) <| .nil,.cons _ (.refl _),?_⟩
  exact Eq.trans rfl (congrArg (fun q:Cs=>AV.agg (Ea q)) (eG hc1)).symm
 ·
  refine By (Ah (Qp (Qf [_,.bool _]) (Qp Ee (Qp (Qf [_,.bool _]) (Qp Ee ?_)))))
  refine Qp (Qc rfl (oH a.1 b.1 (by omega) (by omega) hxa hxb)) ?_
  refine Qp Nb (Qp yW (Qp eR (Qp Un (Qp Bm (Do (Qp Dt (Qp Bu (Qp (Fr [_,.bool _]) ?_))))))))
  refine Cz 0 [_,.bool _] (_::_) ?_
  refine Ag (AW.ret ?_)
  refine ⟨.inr rfl,[.agg [_,.bool _]],.cons (.box _ _ _ 0 _ _ _ _ rfl rfl rfl rfl rfl rfl) <| .nil,.cons _ (.refl _),?_⟩
  exact Eq.trans rfl (congrArg (fun q:Cs=>AV.agg (Ea q)) (Zb hc1)).symm
theorem iJ (a b:Cs)(n m:Nat)(ha:csOK n a)(hb:csOK m b)(hn:n≤1048576)(hm:m≤1048576):Ax Tryz.prog 59 [.agg (Ea a),.agg (Ea b)] (.agg (Ea (Iu a b))):=by
 have hla:=ha.len
 have hlb:=hb.len
 have hxa:=fun x hx=>Nat.le_trans (ha.lits x hx) hn
 have hxb:=fun x hx=>Nat.le_trans (hb.lits x hx) hm
 have hb2:Ig [(!a.2 || !b.2,false)]→True:=fun _=>trivial
 have hsa:∀c∈(a.1.map W0),Bc c=true:=Fc fun _=>rfl
 have hsb:∀c∈(b.1.map W0),Bc c=true:=Fc fun _=>rfl
 have hsab:∀c∈(a.1.map W0++b.1.map W0),Bc c=true:=fun c hc=>(List.mem_append.1 hc).elim (hsa c) (hsb c)
 refine Ax.body (n:=32) Ai Tryz.func59 rfl rfl rfl fun H=>?_
 refine Ah (Qp (Gd [_,.bool _]) (Qp (Gd [_,.bool _]) ?_))
 refine Qe (Am (l:=[.sl 1 [],.bool false]) (by kernel_rfl)) ?_
 rintro _ _ ⟨b4,rfl,rfl⟩
 refine Ag (AW.seq (Ah (Qp (Qf [.bool _]) (Qp qQ (Qp Hp (Qp Bu (Qg [] Qw (Qf [.bool _]) (Qg [(9,_)] Qw qQ (Qg [(10,_)] Qw Hp ?_)))))))))
 refine Qp E2 (Qp Bu (Qg [] Qw (Qf [_,.bool _]) (Qg [(14,_)] Qw Ee ?_)))
 refine AOL.Aaf (y:=Iq _) _ [(15,_)] rfl (oE.all ⟨Ent.Aab _ _,trivial⟩) (fun hG=>Al (n:=a.1.length) Ai rfl rfl rfl (by simp)) rfl ?_
 refine Qg [] Qw (Qf [_,.bool _]) (Qg [(17,_)] Qw Ee ?_)
 refine AOL.Aaf (y:=Iq _) _ [(18,_)] rfl (oE.all ⟨Ent.Aab _ _,trivial⟩) (fun hG=>Al (n:=b.1.length) Ai rfl rfl rfl (by simp)) rfl ?_
 refine AOL.Aaf (y:=Iq _) _ [(16,_),(19,_)] rfl (oE.all ⟨Ent.Aab _ _,Ent.Aab _ _,trivial⟩) (fun hG=>mR rfl rfl rfl (by constructor <;> omega)) rfl ?_
 refine Qg [(20,_)] Qw G6 (Qp E2 (Ag (A3 (fun hc1=>?_) fun hc1=>?_)))
 ·
  refine Ah (Qp (Fr [_,.bool _]) ?_)
  refine Cz 0 [_,.bool _] (_::_) ?_
  refine Ag (Du ?_)
  refine ⟨.inr rfl,[.agg [_,.bool _]],.cons (.box _ _ _ 0 _ _ _ _ rfl rfl rfl rfl rfl rfl) <| .nil,.cons _ (.refl _),?_⟩
  exact Eq.trans rfl (congrArg (fun q:Cs=>AV.agg (Ea q)) (mJ hc1)).symm
 ·
  refine By (AW.seq ?_)
  refine AW.draw mixed (fun _=>True) trivial (by kernel_rfl) ?_
  refine Qn 1 rfl (Qf [_,.bool _]) (Qn 2 rfl Ee (Qn 4 rfl (Qf [_,.bool _]) (Qn 5 rfl Ee ?_)))
  refine Jb.eff _ _ 0 _ _ rfl (by kernel_rfl) rfl rfl (Re (es:=[]) Ai rfl rfl rfl rfl rfl rfl rfl rfl rfl) (fun _ _ _=>trivial) ?_
  rintro _ _ ⟨v24,rfl,rfl⟩
  refine Jb.eff _ _ 3 _ _ rfl (by kernel_rfl) rfl rfl (Dh (k:=0) Ai rfl rfl rfl rfl rfl rfl rfl rfl (hsa) (rD) (by simp;omega) (by simp [maxLen];omega)) (fun _ _ _=>trivial) ?_
  rintro _ _ ⟨v27,rfl,rfl⟩
  refine Jb.eff _ _ 6 _ _ rfl (by kernel_rfl) rfl rfl (Dh (k:=0) Ai rfl rfl rfl rfl rfl rfl rfl rfl (hsb) (hsa) (by simp;omega) (by simp [maxLen];omega)) (fun _ _ _=>trivial) ?_
  rintro _ _ ⟨v30,rfl,rfl⟩
  refine Qn 7 rfl (Fr [_,.bool _]) ?_
  refine Jb.eff _ _ 8 _ _ rfl (by kernel_rfl) rfl rfl (Df (k:=1) (v:=.agg _) (cs':=[_,.bool _]) (H2:=_::_::_) Ai rfl rfl rfl rfl (rfl) rfl rfl rfl rfl) (fun _ _ _=>trivial) ?_
  rintro _ _ ⟨rfl,rfl⟩
  refine Jb.done _ _ (by kernel_rfl) ?_
  refine Ae ?_
  refine AW.ghost (GS.cell (H2:=_::_::_) 1 0 rfl rfl rfl rfl Gn) ?_
  refine AW.ret ?_
  refine ⟨.inr rfl,[.agg [_,.bool _]],.cons (.box _ _ _ 1 _ _ _ _ rfl rfl rfl rfl rfl rfl) <| .nil,.cons _ (.cons _ (.refl _)),?_⟩
  rw [List.nil_append,←List.map_append]
  exact Eq.trans rfl (congrArg (fun q:Cs=>AV.agg (Ea q)) (gQ hc1)).symm
theorem Xf (l:List Lit)(hl:l.length≤256):Ax Tryz.prog 61 [.sl 9 (l.map H7)] (.agg (Ea (D4 l))):=by
 refine Ax.body (n:=22) Ai Tryz.func61 rfl rfl rfl fun H=>?_
 refine Ah ?_
 refine Qe (Am (l:=[.sl 1 [],.bool false]) (by kernel_rfl)) ?_
 rintro _ _ ⟨b2,rfl,rfl⟩
 refine Do ?_
 refine Qp (Nr (l0:=[.val (.slice none 0 0),.bool false]) (l:=[_,_]) Ai rfl rfl (by kernel_rfl) rfl) ?_
 refine Qe (Am (l:=[.sl 1 [],.bool false]) (by kernel_rfl)) ?_
 rintro _ _ ⟨b3,rfl,rfl⟩
 refine Cz 0 [_,.bool _] (_::_::_) ?_
 refine AOL.ghost (GS.cellRow 0 0 42 1 rfl rfl rfl rfl) ?_
 refine Ag (AW.seq (Ah (Qp Dt ?_)))
 refine Qp (Al (n:=l.length) Ai rfl rfl rfl (by simp)) ?_
 refine Qp A0 (Ag (AW.block ?_))
 refine AW.Aad (fun (p:Nat×List (List AV)×Value)=>(⟨[(2,.val (.pointer (some ⟨b2,0,none⟩))),(3,.val (.pointer (some ⟨b3,0,none⟩))),(7,.sl 9 (l.map H7)),(8,.int .i64 l.length),(9,.int .i64 (p.1:Int))],.row p.2.2 p.2.1.length 42 1 :: .box b3 88 [.row p.2.2 1 p.2.1,.bool true] :: .box b2 88 [.sl 1 [],.bool false]::H,22⟩:St)) (fun (p:Nat×List (List AV)×Value)=>p.1≤l.length∧p.2.1=((l.take p.1).map fun x=>[x]).map W0) (fun (p:Nat×List (List AV)×Value)=>l.length-p.1) ((0,[],.slice none 0 0)) ?_ (GS.weaken ⟨rfl,rfl,rfl,rfl,rfl,trivial⟩ (.refl _)) ?_
 · exact ⟨Nat.zero_le _,rfl⟩
 ·
  rintro p hR
  have hsc:∀c∈p.2.1,Bc c=true:=by rw [hR.2];exact Fc fun _=>rfl
  have hpl:p.2.1.length≤p.1:=by rw [hR.2];simp;omega
  refine Ah (Qp Ck (Ag (AW.seq (A3 (fun hc1=>?_) fun hc1=>?_))))
  ·
   obtain ⟨x,hx⟩:=B7 hc1
   have hlx:=Bb hx
   refine By (AW.seq (AW.block (Ah ?_)))
   refine Qp (Af (c:=[Iq _,_,Iq _,Iq _,Iq _,Iq _,Iq _,.str _,.bool _]) Ai rfl rfl rfl rfl rfl rfl (by omega) (Bo hx)) ?_
   refine Qp (Cv [Iq _,_,Iq _,Iq _,Iq _,Iq _,Iq _,.str _,.bool _]) ?_
   refine Qe (Am (l:=[.int .i64 0,.sl 8 [],.int .i64 0,.int .i64 0,.int .i64 0,.int .i64 0,.int .i64 0,.str [],.bool false]) (by kernel_rfl)) ?_
   rintro _ _ ⟨b5,rfl,rfl⟩
   refine Cz 0 [Iq _,_,Iq _,Iq _,Iq _,Iq _,Iq _,.str _,.bool _] (_::_::_::_::_) ?_
   refine AOL.ghost (GS.Aac (t:=5) 0 rfl rfl) ?_
   refine Ag (AW.region (Qp H9 ?_))
   refine AOL.Aah (Ao (k:=1) (c:=.row _ _ _) Ai rfl rfl rfl rfl) rfl rfl ?_
   refine Qp (Cv [Iq _,_,Iq _,Iq _,Iq _,Iq _,Iq _,.str _,.bool _]) ?_
   refine Qp (A2 (es:=[[Iq _,_,Iq _,Iq _,Iq _,Iq _,Iq _,.str _,.bool _]]) Ai rfl rfl rfl rfl rfl rfl rfl rfl rfl) ?_
   refine Qp (A2 (es:=[[_]]) Ai rfl rfl rfl rfl rfl rfl rfl rfl rfl) ?_
   refine Qe (Dh (k:=0) Ai rfl rfl rfl rfl rfl rfl rfl rfl (G5 rfl) (hsc) (by simp;omega) (by simp [maxLen];omega)) ?_
   rintro _ _ ⟨v18,rfl,rfl⟩
   refine Qp H9 ?_
   refine Cz 1 [_,.bool _] (_::_::_::_) ?_
   refine AOL.nil (Bv (Ae (AW.region (Qp F7 (Qp A0 (Ag ?_))))))
   refine ⟨(p.1+1,p.2.1 ++ [[.sl 9 [H7 x]]],v18),?_,?_,GS.weaken ⟨rfl,rfl,rfl,rfl,rfl,trivial⟩ (.refl _)⟩
   · exact ⟨hlx,by simp only;rw [C9 hx,hR.2];simp [W0]⟩
   · simp only;omega
  ·
   have hte:=C5 hc1
   have hall:=hR.2
   rw [hte] at hall
   refine AW.exit ?_
   refine A5 (A5 (Bx (Ae (Ah ?_))))
   refine AOL.ghost (GS.cell (H2:=_::_::_::_) 1 0 rfl rfl rfl rfl Gn) ?_
   refine AOL.Aah (Bs (k:=1) (l:=[_,.bool _]) Ai rfl rfl rfl rfl rfl) rfl rfl ?_
   refine Cz 2 [_,.bool _] (_::_::_::_) ?_
   refine Ag (AW.ret ?_)
   refine ⟨.inr rfl,[.agg [_,.bool _]],.cons (.box _ _ _ 2 _ _ _ _ rfl rfl rfl rfl rfl rfl) <| .nil,.cons _ (.cons _ (.cons _ (.refl _))),?_⟩
   rw [hall];rfl
theorem Ez (T:List Sc)(V:List Va)(e:Ex)(ih:∀a∈e.args,∀s,Ax Tryz.prog 29 [.agg (Cw T V),.agg (cE a),.bool s] (.agg (Ea (C4 T V a s))))(i:Nat)(a:Ex)(ha:e.args[i]? = some a)(s:Bool):Ax Tryz.prog 58 [.int .i64 (i:Int),.bool s,.ptr (Cw T V),.ptr (cE e)] (.agg (Ea (C4 T V a s))):=by
 refine Ax.body (n:=15) Ai Tryz.func58 rfl rfl rfl fun H=>?_
 refine Ah ?_
 refine Qe (Am (l:=[.sl 1 [],.bool false]) (by kernel_rfl)) ?_
 rintro _ _ ⟨b6,rfl,rfl⟩
 refine Ag (AW.seq ?_)
 refine AW.draw mixed (fun _=>True) trivial (by kernel_rfl) ?_
 refine Qn 0 rfl (Cv [_,_]) (Qn 1 rfl Oy (Qn 2 rfl Ee (Qn 3 rfl A0 ?_)))
 refine Qn 4 rfl (Af (c:=[Iq _,_,Iq _,Iq _,Iq _,Iq _,Iq _,.str _]) Ai rfl rfl rfl rfl rfl rfl (by omega) (F2 ha)) ?_
 refine Qn 5 rfl E7 (Qn 6 rfl Bu ?_)
 refine Qn 7 rfl (Qc rfl (ih a (List.mem_of_getElem? ha) s)) ?_
 refine Jb.eff _ _ 8 _ _ rfl (by kernel_rfl) rfl rfl (Df (k:=0) (v:=.agg _) (cs':=[_,.bool _]) (H2:=_::_) Ai rfl rfl rfl rfl (rfl) rfl rfl rfl rfl) (fun _ _ _=>trivial) ?_
 rintro _ _ ⟨rfl,rfl⟩
 refine Jb.done _ _ (by kernel_rfl) ?_
 refine Ae (AW.ret ?_)
 refine ⟨.inr rfl,[.agg [_,.bool _]],.cons (.box _ _ _ 0 _ _ _ _ rfl rfl rfl rfl rfl rfl) <| .nil,.cons _ (.refl _),?_⟩
 rfl
theorem V7 (T:List Sc)(V:List Va)(e:Ex)(hk:KOK T V e)(hse:At e≤64)(s:Bool):Ax Tryz.prog 29 [.agg (Cw T V),.agg (cE e),.bool s] (.agg (Ea (C4 T V e s))):=by
 revert s hk hse
 induction e using Ex.Aaj
 rename_i e ih0
 intro hk hse s
 have ih:∀a∈e.args,∀s,Ax Tryz.prog 29 [.agg (Cw T V),.agg (cE a),.bool s] (.agg (Ea (C4 T V a s))):=fun a ha s=>ih0 a ha (Az hk ha) (Nat.le_trans (Nat.le_of_lt (G0 ha)) hse) s
 have hz:=A8 hk.nodes
 refine Ax.body (n:=111) Ai Tryz.func29 rfl rfl rfl fun H=>?_
 refine Ah (Qp (Gd [_,_]) (Qp Nc ?_))
 refine Qe (Am (l:=[.sl 1 [],.bool false]) (by kernel_rfl)) ?_
 rintro _ _ ⟨b6,rfl,rfl⟩
 refine Do ?_
 refine Qp (A9 (l:=[]) (l':=[.ptr _,.ptr _]) rfl rfl) ?_
 refine Qp (Da (v:=.fn _ _ _) rfl) ?_
 refine Ag (AW.seq (Ah (Qp K9 (Qp Bp (Ag (AW.block (Ah (Qp A6 (Qp Bm ?_)))))))))
 refine Ag (A3 (fun hc1=>?_) fun hc1=>?_)
 ·
  refine AW.seq (Ah (Qp J2 (Qp V1 (Qp Bp (Qp A6 (Qp Bu ?_))))))
  refine Qp (Pw Ai rfl rfl rfl rfl) ?_
  refine Ag (A3 (fun hc2=>?_) fun hc2=>?_)
  ·
   refine Ah ?_
   refine Qp (C6.weakV (A2 (es:=[[_]]) Ai rfl rfl rfl rfl rfl rfl rfl rfl rfl) fP) ?_
   refine Qp (Fr [_,.bool _]) ?_
   refine Cz 0 [_,.bool _] (_::_) ?_
   refine Ag (Du (A7 (Aj ?_)))
   refine ⟨.inr rfl,[.agg [_,.bool _]],.cons (.box _ _ _ 0 _ _ _ _ rfl rfl rfl rfl rfl rfl) <| .nil,.cons _ (.refl _),?_⟩
   first
    | exact absurd (‹(e.op==10)=true›.symm.trans ‹(e.op==10)=false›) (by decide)
    | exact absurd (‹(e.op==11)=true›.symm.trans ‹(e.op==11)=false›) (by decide)
    | exact absurd (‹(e.op==9)=true›.symm.trans ‹(e.op==9)=false›) (by decide)
    | exact Eq.trans rfl (congrArg (fun q:Cs=>AV.agg (Ea q)) (F0 ‹(e.op==0)=true› ‹((e.val.num==1)==s)=true›)).symm
    | exact Eq.trans rfl (congrArg (fun q:Cs=>AV.agg (Ea q)) (Fv ‹(e.op==0)=true› ‹((e.val.num==1)==s)=false›)).symm
    | exact Eq.trans rfl (congrArg (fun q:Cs=>AV.agg (Ea q)) (F5 h00 ‹(e.op==12)=true›)).symm
    | exact Eq.trans rfl (congrArg (fun q:Cs=>AV.agg (Ea q)) (Fz hl2 h10 ‹((e.op==10)==s)=true›)).symm
    | exact Eq.trans rfl (congrArg (fun q:Cs=>AV.agg (Ea q)) (Fw hl2 h10 ‹((e.op==10)==s)=false›)).symm
    | exact Eq.trans rfl (congrArg (fun q:Cs=>AV.agg (Ea q)) (F4 hl2 h9 ‹(Ak T V (Ap e)==1)=true›)).symm
    | exact Eq.trans rfl (congrArg (fun q:Cs=>AV.agg (Ea q)) (Ft h9 ‹(Ak T V (Ap e)==1)=false› ‹(Ak T V (Ap e)==0 && !s)=true›)).symm
    | exact Eq.trans rfl (congrArg (fun q:Cs=>AV.agg (Ea q)) (Id h9 ‹(Ak T V (Ap e)==1)=false› ‹(Ak T V (Ap e)==0 && !s)=false›)).symm
    | exact Eq.trans rfl (congrArg (fun q:Cs=>AV.agg (Ea q)) (J3 ‹(e.op==0)=false› ‹(e.op==12)=false› (aU ‹(e.op==10)=false› ‹(e.op==11)=false›) ‹(e.op==9)=false›)).symm
  ·
   refine By (Ah (Qp (Fr [_,.bool _]) ?_))
   refine Cz 0 [_,.bool _] (_::_) ?_
   refine AOL.ghost (GS.cell (H2:=_::_) 0 0 rfl rfl rfl rfl (uP (z:=1))) ?_
   refine Ag (AW.ret (A7 (Aj ?_)))
   refine ⟨.inr rfl,[.agg [_,.bool _]],.cons (.box _ _ _ 0 _ _ _ _ rfl rfl rfl rfl rfl rfl) <| .nil,.cons _ (.refl _),?_⟩
   first
    | exact absurd (‹(e.op==10)=true›.symm.trans ‹(e.op==10)=false›) (by decide)
    | exact absurd (‹(e.op==11)=true›.symm.trans ‹(e.op==11)=false›) (by decide)
    | exact absurd (‹(e.op==9)=true›.symm.trans ‹(e.op==9)=false›) (by decide)
    | exact Eq.trans rfl (congrArg (fun q:Cs=>AV.agg (Ea q)) (F0 ‹(e.op==0)=true› ‹((e.val.num==1)==s)=true›)).symm
    | exact Eq.trans rfl (congrArg (fun q:Cs=>AV.agg (Ea q)) (Fv ‹(e.op==0)=true› ‹((e.val.num==1)==s)=false›)).symm
    | exact Eq.trans rfl (congrArg (fun q:Cs=>AV.agg (Ea q)) (F5 h00 ‹(e.op==12)=true›)).symm
    | exact Eq.trans rfl (congrArg (fun q:Cs=>AV.agg (Ea q)) (Fz hl2 h10 ‹((e.op==10)==s)=true›)).symm
    | exact Eq.trans rfl (congrArg (fun q:Cs=>AV.agg (Ea q)) (Fw hl2 h10 ‹((e.op==10)==s)=false›)).symm
    | exact Eq.trans rfl (congrArg (fun q:Cs=>AV.agg (Ea q)) (F4 hl2 h9 ‹(Ak T V (Ap e)==1)=true›)).symm
    | exact Eq.trans rfl (congrArg (fun q:Cs=>AV.agg (Ea q)) (Ft h9 ‹(Ak T V (Ap e)==1)=false› ‹(Ak T V (Ap e)==0 && !s)=true›)).symm
    | exact Eq.trans rfl (congrArg (fun q:Cs=>AV.agg (Ea q)) (Id h9 ‹(Ak T V (Ap e)==1)=false› ‹(Ak T V (Ap e)==0 && !s)=false›)).symm
    | exact Eq.trans rfl (congrArg (fun q:Cs=>AV.agg (Ea q)) (J3 ‹(e.op==0)=false› ‹(e.op==12)=false› (aU ‹(e.op==10)=false› ‹(e.op==11)=false›) ‹(e.op==9)=false›)).symm
 ·
  refine Ah (Qp A6 (Qp Bm (Ag (A3 (fun hc3=>?_) fun hc3=>?_))))
  ·
   refine AW.seq ?_
   have h00:=kO hz.1 (eq_of_beq ‹(e.op==12)=true›)
   have ha0:=Oq h00
   refine AW.region ?_
   refine Qp (Bk (v:=.fn _ _ _) rfl) ?_
   refine Qp Bu (Qp Hp ?_)
   refine Qp (Ec (by kernel_rfl) rfl rfl rfl (Ez T V e ih 0 (Ap e) ha0 (!s))) ?_
   refine Cz 0 [_,.bool _] (_::_) ?_
   refine Ag (AW.ret (A7 (Aj ?_)))
   refine ⟨.inr rfl,[.agg [_,.bool _]],.cons (.box _ _ _ 0 _ _ _ _ rfl rfl rfl rfl rfl rfl) <| .nil,.cons _ (.refl _),?_⟩
   first
    | exact absurd (‹(e.op==10)=true›.symm.trans ‹(e.op==10)=false›) (by decide)
    | exact absurd (‹(e.op==11)=true›.symm.trans ‹(e.op==11)=false›) (by decide)
    | exact absurd (‹(e.op==9)=true›.symm.trans ‹(e.op==9)=false›) (by decide)
    | exact Eq.trans rfl (congrArg (fun q:Cs=>AV.agg (Ea q)) (F0 ‹(e.op==0)=true› ‹((e.val.num==1)==s)=true›)).symm
    | exact Eq.trans rfl (congrArg (fun q:Cs=>AV.agg (Ea q)) (Fv ‹(e.op==0)=true› ‹((e.val.num==1)==s)=false›)).symm
    | exact Eq.trans rfl (congrArg (fun q:Cs=>AV.agg (Ea q)) (F5 h00 ‹(e.op==12)=true›)).symm
    | exact Eq.trans rfl (congrArg (fun q:Cs=>AV.agg (Ea q)) (Fz hl2 h10 ‹((e.op==10)==s)=true›)).symm
    | exact Eq.trans rfl (congrArg (fun q:Cs=>AV.agg (Ea q)) (Fw hl2 h10 ‹((e.op==10)==s)=false›)).symm
    | exact Eq.trans rfl (congrArg (fun q:Cs=>AV.agg (Ea q)) (F4 hl2 h9 ‹(Ak T V (Ap e)==1)=true›)).symm
    | exact Eq.trans rfl (congrArg (fun q:Cs=>AV.agg (Ea q)) (Ft h9 ‹(Ak T V (Ap e)==1)=false› ‹(Ak T V (Ap e)==0 && !s)=true›)).symm
    | exact Eq.trans rfl (congrArg (fun q:Cs=>AV.agg (Ea q)) (Id h9 ‹(Ak T V (Ap e)==1)=false› ‹(Ak T V (Ap e)==0 && !s)=false›)).symm
    | exact Eq.trans rfl (congrArg (fun q:Cs=>AV.agg (Ea q)) (J3 ‹(e.op==0)=false› ‹(e.op==12)=false› (aU ‹(e.op==10)=false› ‹(e.op==11)=false›) ‹(e.op==9)=false›)).symm
  ·
   refine AW.seq (Ah (Qp A6 (Qp Bm (Ag (A3 (fun hc4=>?_) fun hc4=>?_)))))
   ·
    refine By (A3 (fun hc5=>?_) fun hc5=>?_)
    ·
     refine AW.seq (Ah (Qp K9 (Qp Bp (Qp A6 (Qp Bu ?_)))))
     refine Qp (Pw Ai rfl rfl rfl rfl) ?_
     refine Ag (A3 (fun hc6=>?_) fun hc6=>?_)
     ·
      refine AW.seq ?_
      have h10:(e.op==10||e.op==11)=true:=by first | exact X5 ‹(e.op==10)=true› | exact Zi ‹(e.op==11)=true›
      have hl2:=Fh hz.1 (by simp at h10;omega)
      have h00:0<e.args.length:=by omega
      have ha0:=Oq h00
      have ha1:=Rg hl2
      have m0:=Ba h00
      have m1:=Bw hl2
      have k0:=F1 _ (Az hk m0)
      have k1:=F1 _ (Az hk m1)
      have hs01:=Dl hl2
      refine AW.region ?_
      refine Qp (Bk (v:=.fn _ _ _) rfl) ?_
      refine Qp Bu ?_
      refine Qp (Ec (by kernel_rfl) rfl rfl rfl (Ez T V e ih 0 (Ap e) ha0 s)) ?_
      refine Qp (Bk (v:=.fn _ _ _) rfl) ?_
      refine Qp Bu ?_
      refine Qp (Ec (by kernel_rfl) rfl rfl rfl (Ez T V e ih 1 (Bj e) ha1 s)) ?_
      refine Qp (Qc rfl (O9 _ _ _ _ (k0 s) (k1 s) (by omega) (by omega))) ?_
      refine Cz 0 [_,.bool _] (_::_) ?_
      refine Ag (Du (A7 (Aj ?_)))
      refine ⟨.inr rfl,[.agg [_,.bool _]],.cons (.box _ _ _ 0 _ _ _ _ rfl rfl rfl rfl rfl rfl) <| .nil,.cons _ (.refl _),?_⟩
      first
       | exact absurd (‹(e.op==10)=true›.symm.trans ‹(e.op==10)=false›) (by decide)
       | exact absurd (‹(e.op==11)=true›.symm.trans ‹(e.op==11)=false›) (by decide)
       | exact absurd (‹(e.op==9)=true›.symm.trans ‹(e.op==9)=false›) (by decide)
       | exact Eq.trans rfl (congrArg (fun q:Cs=>AV.agg (Ea q)) (F0 ‹(e.op==0)=true› ‹((e.val.num==1)==s)=true›)).symm
       | exact Eq.trans rfl (congrArg (fun q:Cs=>AV.agg (Ea q)) (Fv ‹(e.op==0)=true› ‹((e.val.num==1)==s)=false›)).symm
       | exact Eq.trans rfl (congrArg (fun q:Cs=>AV.agg (Ea q)) (F5 h00 ‹(e.op==12)=true›)).symm
       | exact Eq.trans rfl (congrArg (fun q:Cs=>AV.agg (Ea q)) (Fz hl2 h10 ‹((e.op==10)==s)=true›)).symm
       | exact Eq.trans rfl (congrArg (fun q:Cs=>AV.agg (Ea q)) (Fw hl2 h10 ‹((e.op==10)==s)=false›)).symm
       | exact Eq.trans rfl (congrArg (fun q:Cs=>AV.agg (Ea q)) (F4 hl2 h9 ‹(Ak T V (Ap e)==1)=true›)).symm
       | exact Eq.trans rfl (congrArg (fun q:Cs=>AV.agg (Ea q)) (Ft h9 ‹(Ak T V (Ap e)==1)=false› ‹(Ak T V (Ap e)==0 && !s)=true›)).symm
       | exact Eq.trans rfl (congrArg (fun q:Cs=>AV.agg (Ea q)) (Id h9 ‹(Ak T V (Ap e)==1)=false› ‹(Ak T V (Ap e)==0 && !s)=false›)).symm
       | exact Eq.trans rfl (congrArg (fun q:Cs=>AV.agg (Ea q)) (J3 ‹(e.op==0)=false› ‹(e.op==12)=false› (aU ‹(e.op==10)=false› ‹(e.op==11)=false›) ‹(e.op==9)=false›)).symm
     ·
      refine By (AW.seq ?_)
      have h10:(e.op==10||e.op==11)=true:=by first | exact X5 ‹(e.op==10)=true› | exact Zi ‹(e.op==11)=true›
      have hl2:=Fh hz.1 (by simp at h10;omega)
      have h00:0<e.args.length:=by omega
      have ha0:=Oq h00
      have ha1:=Rg hl2
      have m0:=Ba h00
      have m1:=Bw hl2
      have k0:=F1 _ (Az hk m0)
      have k1:=F1 _ (Az hk m1)
      have hs01:=Dl hl2
      refine AW.region ?_
      refine Qp (Bk (v:=.fn _ _ _) rfl) ?_
      refine Qp Bu ?_
      refine Qp (Ec (by kernel_rfl) rfl rfl rfl (Ez T V e ih 0 (Ap e) ha0 s)) ?_
      refine Qp (Bk (v:=.fn _ _ _) rfl) ?_
      refine Qp Bu ?_
      refine Qp (Ec (by kernel_rfl) rfl rfl rfl (Ez T V e ih 1 (Bj e) ha1 s)) ?_
      refine Qp (Qc rfl (iJ _ _ _ _ ((k0 s).mono (Nat.le_trans (by omega) hse)) ((k1 s).mono (Nat.le_trans (by omega) hse)) (by omega) (by omega))) ?_
      refine Cz 0 [_,.bool _] (_::_) ?_
      refine Ag (AW.ret (A7 (Aj ?_)))
      refine ⟨.inr rfl,[.agg [_,.bool _]],.cons (.box _ _ _ 0 _ _ _ _ rfl rfl rfl rfl rfl rfl) <| .nil,.cons _ (.refl _),?_⟩
      first
       | exact absurd (‹(e.op==10)=true›.symm.trans ‹(e.op==10)=false›) (by decide)
       | exact absurd (‹(e.op==11)=true›.symm.trans ‹(e.op==11)=false›) (by decide)
       | exact absurd (‹(e.op==9)=true›.symm.trans ‹(e.op==9)=false›) (by decide)
       | exact Eq.trans rfl (congrArg (fun q:Cs=>AV.agg (Ea q)) (F0 ‹(e.op==0)=true› ‹((e.val.num==1)==s)=true›)).symm
       | exact Eq.trans rfl (congrArg (fun q:Cs=>AV.agg (Ea q)) (Fv ‹(e.op==0)=true› ‹((e.val.num==1)==s)=false›)).symm
       | exact Eq.trans rfl (congrArg (fun q:Cs=>AV.agg (Ea q)) (F5 h00 ‹(e.op==12)=true›)).symm
       | exact Eq.trans rfl (congrArg (fun q:Cs=>AV.agg (Ea q)) (Fz hl2 h10 ‹((e.op==10)==s)=true›)).symm
       | exact Eq.trans rfl (congrArg (fun q:Cs=>AV.agg (Ea q)) (Fw hl2 h10 ‹((e.op==10)==s)=false›)).symm
       | exact Eq.trans rfl (congrArg (fun q:Cs=>AV.agg (Ea q)) (F4 hl2 h9 ‹(Ak T V (Ap e)==1)=true›)).symm
       | exact Eq.trans rfl (congrArg (fun q:Cs=>AV.agg (Ea q)) (Ft h9 ‹(Ak T V (Ap e)==1)=false› ‹(Ak T V (Ap e)==0 && !s)=true›)).symm
       | exact Eq.trans rfl (congrArg (fun q:Cs=>AV.agg (Ea q)) (Id h9 ‹(Ak T V (Ap e)==1)=false› ‹(Ak T V (Ap e)==0 && !s)=false›)).symm
       | exact Eq.trans rfl (congrArg (fun q:Cs=>AV.agg (Ea q)) (J3 ‹(e.op==0)=false› ‹(e.op==12)=false› (aU ‹(e.op==10)=false› ‹(e.op==11)=false›) ‹(e.op==9)=false›)).symm
    ·
     exact absurd (hc5.symm.trans hc4) (by decide)
   ·
    refine AW.region (Qp A6 (Qp Bm (Ag (A3 (fun hc7=>?_) fun hc7=>?_))))
    ·
     refine AW.seq (Ah (Qp K9 (Qp Bp (Qp A6 (Qp Bu ?_)))))
     refine Qp (Pw Ai rfl rfl rfl rfl) ?_
     refine Ag (A3 (fun hc8=>?_) fun hc8=>?_)
     ·
      refine AW.seq ?_
      have h10:(e.op==10||e.op==11)=true:=by first | exact X5 ‹(e.op==10)=true› | exact Zi ‹(e.op==11)=true›
      have hl2:=Fh hz.1 (by simp at h10;omega)
      have h00:0<e.args.length:=by omega
      have ha0:=Oq h00
      have ha1:=Rg hl2
      have m0:=Ba h00
      have m1:=Bw hl2
      have k0:=F1 _ (Az hk m0)
      have k1:=F1 _ (Az hk m1)
      have hs01:=Dl hl2
      refine AW.region ?_
      refine Qp (Bk (v:=.fn _ _ _) rfl) ?_
      refine Qp Bu ?_
      refine Qp (Ec (by kernel_rfl) rfl rfl rfl (Ez T V e ih 0 (Ap e) ha0 s)) ?_
      refine Qp (Bk (v:=.fn _ _ _) rfl) ?_
      refine Qp Bu ?_
      refine Qp (Ec (by kernel_rfl) rfl rfl rfl (Ez T V e ih 1 (Bj e) ha1 s)) ?_
      refine Qp (Qc rfl (O9 _ _ _ _ (k0 s) (k1 s) (by omega) (by omega))) ?_
      refine Cz 0 [_,.bool _] (_::_) ?_
      refine Ag (Du (A7 (Aj ?_)))
      refine ⟨.inr rfl,[.agg [_,.bool _]],.cons (.box _ _ _ 0 _ _ _ _ rfl rfl rfl rfl rfl rfl) <| .nil,.cons _ (.refl _),?_⟩
      first
       | exact absurd (‹(e.op==10)=true›.symm.trans ‹(e.op==10)=false›) (by decide)
       | exact absurd (‹(e.op==11)=true›.symm.trans ‹(e.op==11)=false›) (by decide)
       | exact absurd (‹(e.op==9)=true›.symm.trans ‹(e.op==9)=false›) (by decide)
       | exact Eq.trans rfl (congrArg (fun q:Cs=>AV.agg (Ea q)) (F0 ‹(e.op==0)=true› ‹((e.val.num==1)==s)=true›)).symm
       | exact Eq.trans rfl (congrArg (fun q:Cs=>AV.agg (Ea q)) (Fv ‹(e.op==0)=true› ‹((e.val.num==1)==s)=false›)).symm
       | exact Eq.trans rfl (congrArg (fun q:Cs=>AV.agg (Ea q)) (F5 h00 ‹(e.op==12)=true›)).symm
       | exact Eq.trans rfl (congrArg (fun q:Cs=>AV.agg (Ea q)) (Fz hl2 h10 ‹((e.op==10)==s)=true›)).symm
       | exact Eq.trans rfl (congrArg (fun q:Cs=>AV.agg (Ea q)) (Fw hl2 h10 ‹((e.op==10)==s)=false›)).symm
       | exact Eq.trans rfl (congrArg (fun q:Cs=>AV.agg (Ea q)) (F4 hl2 h9 ‹(Ak T V (Ap e)==1)=true›)).symm
       | exact Eq.trans rfl (congrArg (fun q:Cs=>AV.agg (Ea q)) (Ft h9 ‹(Ak T V (Ap e)==1)=false› ‹(Ak T V (Ap e)==0 && !s)=true›)).symm
       | exact Eq.trans rfl (congrArg (fun q:Cs=>AV.agg (Ea q)) (Id h9 ‹(Ak T V (Ap e)==1)=false› ‹(Ak T V (Ap e)==0 && !s)=false›)).symm
       | exact Eq.trans rfl (congrArg (fun q:Cs=>AV.agg (Ea q)) (J3 ‹(e.op==0)=false› ‹(e.op==12)=false› (aU ‹(e.op==10)=false› ‹(e.op==11)=false›) ‹(e.op==9)=false›)).symm
     ·
      refine By (AW.seq ?_)
      have h10:(e.op==10||e.op==11)=true:=by first | exact X5 ‹(e.op==10)=true› | exact Zi ‹(e.op==11)=true›
      have hl2:=Fh hz.1 (by simp at h10;omega)
      have h00:0<e.args.length:=by omega
      have ha0:=Oq h00
      have ha1:=Rg hl2
      have m0:=Ba h00
      have m1:=Bw hl2
      have k0:=F1 _ (Az hk m0)
      have k1:=F1 _ (Az hk m1)
      have hs01:=Dl hl2
      refine AW.region ?_
      refine Qp (Bk (v:=.fn _ _ _) rfl) ?_
      refine Qp Bu ?_
      refine Qp (Ec (by kernel_rfl) rfl rfl rfl (Ez T V e ih 0 (Ap e) ha0 s)) ?_
      refine Qp (Bk (v:=.fn _ _ _) rfl) ?_
      refine Qp Bu ?_
      refine Qp (Ec (by kernel_rfl) rfl rfl rfl (Ez T V e ih 1 (Bj e) ha1 s)) ?_
      refine Qp (Qc rfl (iJ _ _ _ _ ((k0 s).mono (Nat.le_trans (by omega) hse)) ((k1 s).mono (Nat.le_trans (by omega) hse)) (by omega) (by omega))) ?_
      refine Cz 0 [_,.bool _] (_::_) ?_
      refine Ag (AW.ret (A7 (Aj ?_)))
      refine ⟨.inr rfl,[.agg [_,.bool _]],.cons (.box _ _ _ 0 _ _ _ _ rfl rfl rfl rfl rfl rfl) <| .nil,.cons _ (.refl _),?_⟩
      first
       | exact absurd (‹(e.op==10)=true›.symm.trans ‹(e.op==10)=false›) (by decide)
       | exact absurd (‹(e.op==11)=true›.symm.trans ‹(e.op==11)=false›) (by decide)
       | exact absurd (‹(e.op==9)=true›.symm.trans ‹(e.op==9)=false›) (by decide)
       | exact Eq.trans rfl (congrArg (fun q:Cs=>AV.agg (Ea q)) (F0 ‹(e.op==0)=true› ‹((e.val.num==1)==s)=true›)).symm
       | exact Eq.trans rfl (congrArg (fun q:Cs=>AV.agg (Ea q)) (Fv ‹(e.op==0)=true› ‹((e.val.num==1)==s)=false›)).symm
       | exact Eq.trans rfl (congrArg (fun q:Cs=>AV.agg (Ea q)) (F5 h00 ‹(e.op==12)=true›)).symm
       | exact Eq.trans rfl (congrArg (fun q:Cs=>AV.agg (Ea q)) (Fz hl2 h10 ‹((e.op==10)==s)=true›)).symm
       | exact Eq.trans rfl (congrArg (fun q:Cs=>AV.agg (Ea q)) (Fw hl2 h10 ‹((e.op==10)==s)=false›)).symm
       | exact Eq.trans rfl (congrArg (fun q:Cs=>AV.agg (Ea q)) (F4 hl2 h9 ‹(Ak T V (Ap e)==1)=true›)).symm
       | exact Eq.trans rfl (congrArg (fun q:Cs=>AV.agg (Ea q)) (Ft h9 ‹(Ak T V (Ap e)==1)=false› ‹(Ak T V (Ap e)==0 && !s)=true›)).symm
       | exact Eq.trans rfl (congrArg (fun q:Cs=>AV.agg (Ea q)) (Id h9 ‹(Ak T V (Ap e)==1)=false› ‹(Ak T V (Ap e)==0 && !s)=false›)).symm
       | exact Eq.trans rfl (congrArg (fun q:Cs=>AV.agg (Ea q)) (J3 ‹(e.op==0)=false› ‹(e.op==12)=false› (aU ‹(e.op==10)=false› ‹(e.op==11)=false›) ‹(e.op==9)=false›)).symm
    ·
     refine Ah (Qp A6 (Qp Bm (Ag (A3 (fun hc9=>?_) fun hc9=>?_))))
     ·
      refine AW.seq ?_
      have h9:(e.op==9)=true:=‹(e.op==9)=true›
      have hl2:=Fh hz.1 (by simp at h9;omega)
      have h00:0<e.args.length:=by omega
      have ha0:=Oq h00
      have ha1:=Rg hl2
      have m0:=Ba h00
      have m1:=Bw hl2
      have k0:=F1 _ (Az hk m0)
      have k1:=F1 _ (Az hk m1)
      have hs01:=Dl hl2
      refine AW.draw mixed (fun _=>True) trivial (by kernel_rfl) ?_
      refine Qn 0 rfl (Cv [_,_]) (Qn 1 rfl Oy (Qn 2 rfl Ee ?_))
      refine Qn 3 rfl (Af (c:=[Iq _,_,Iq _,Iq _,Iq _,Iq _,Iq _,.str _]) Ai rfl rfl rfl rfl rfl rfl (by decide) (I3 h00)) ?_
      refine Qn 4 rfl E7 ?_
      refine Qn 5 rfl (Qc rfl (gV T V _ (Az hk m0))) ?_
      refine Qn 6 rfl Ar ?_
      refine Jb.done _ _ (by kernel_rfl) ?_
      refine Ae (AW.block (Ah (Qp A0 (Qp A6 (Qp Bm (Ag (A3 (fun hc10=>?_) fun hc10=>?_)))))))
      ·
       refine Ah ?_
       refine Qp (Bk (v:=.fn _ _ _) rfl) ?_
       refine Qp (Ec (by kernel_rfl) rfl rfl rfl (Ez T V e ih 0 (Ap e) ha0 true)) ?_
       refine Qp (Bk (v:=.fn _ _ _) rfl) ?_
       refine Qp Bu ?_
       refine Qp (Ec (by kernel_rfl) rfl rfl rfl (Ez T V e ih 1 (Bj e) ha1 s)) ?_
       refine Qp (Qc rfl (O9 _ _ _ _ (k0 true) (k1 s) (by omega) (by omega))) ?_
       refine Qp (Bk (v:=.fn _ _ _) rfl) ?_
       refine Qp (Ec (by kernel_rfl) rfl rfl rfl (Ez T V e ih 0 (Ap e) ha0 false)) ?_
       refine Qp (Bk (v:=.fn _ _ _) rfl) ?_
       refine Qp Bu (Qp Hp ?_)
       refine Qp (Ec (by kernel_rfl) rfl rfl rfl (Ez T V e ih 1 (Bj e) ha1 (!s))) ?_
       refine Qp (Qc rfl (O9 _ _ _ _ (k0 false) (k1 (!s)) (by omega) (by omega))) ?_
       refine Qp (Qc rfl (iJ _ _ _ _ ((K6 (k0 true) (k1 s)).mono (Nat.le_trans (by omega) hse)) ((K6 (k0 false) (k1 (!s))).mono (Nat.le_trans (by omega) hse)) (by omega) (by omega))) ?_
       refine Cz 0 [_,.bool _] (_::_) ?_
       refine Ag (AW.ret (A7 (A7 (Aj ?_))))
       refine ⟨.inr rfl,[.agg [_,.bool _]],.cons (.box _ _ _ 0 _ _ _ _ rfl rfl rfl rfl rfl rfl) <| .nil,.cons _ (.refl _),?_⟩
       first
        | exact absurd (‹(e.op==10)=true›.symm.trans ‹(e.op==10)=false›) (by decide)
        | exact absurd (‹(e.op==11)=true›.symm.trans ‹(e.op==11)=false›) (by decide)
        | exact absurd (‹(e.op==9)=true›.symm.trans ‹(e.op==9)=false›) (by decide)
        | exact Eq.trans rfl (congrArg (fun q:Cs=>AV.agg (Ea q)) (F0 ‹(e.op==0)=true› ‹((e.val.num==1)==s)=true›)).symm
        | exact Eq.trans rfl (congrArg (fun q:Cs=>AV.agg (Ea q)) (Fv ‹(e.op==0)=true› ‹((e.val.num==1)==s)=false›)).symm
        | exact Eq.trans rfl (congrArg (fun q:Cs=>AV.agg (Ea q)) (F5 h00 ‹(e.op==12)=true›)).symm
        | exact Eq.trans rfl (congrArg (fun q:Cs=>AV.agg (Ea q)) (Fz hl2 h10 ‹((e.op==10)==s)=true›)).symm
        | exact Eq.trans rfl (congrArg (fun q:Cs=>AV.agg (Ea q)) (Fw hl2 h10 ‹((e.op==10)==s)=false›)).symm
        | exact Eq.trans rfl (congrArg (fun q:Cs=>AV.agg (Ea q)) (F4 hl2 h9 ‹(Ak T V (Ap e)==1)=true›)).symm
        | exact Eq.trans rfl (congrArg (fun q:Cs=>AV.agg (Ea q)) (Ft h9 ‹(Ak T V (Ap e)==1)=false› ‹(Ak T V (Ap e)==0 && !s)=true›)).symm
        | exact Eq.trans rfl (congrArg (fun q:Cs=>AV.agg (Ea q)) (Id h9 ‹(Ak T V (Ap e)==1)=false› ‹(Ak T V (Ap e)==0 && !s)=false›)).symm
        | exact Eq.trans rfl (congrArg (fun q:Cs=>AV.agg (Ea q)) (J3 ‹(e.op==0)=false› ‹(e.op==12)=false› (aU ‹(e.op==10)=false› ‹(e.op==11)=false›) ‹(e.op==9)=false›)).symm
      ·
       refine Ah (Qp A0 (Qp A6 (Qp Bu (Qg [] Qw Bu (Qg [(80,_)] Qw Hp (Qp Gg (Qp Bm (Ag (A3 (fun hc11=>?_) fun hc11=>?_)))))))))
       ·
        refine AW.seq ?_
        refine AW.draw mixed (fun _=>True) trivial (by kernel_rfl) ?_
        refine Qn 0 rfl Oy (Qn 1 rfl Ee ?_)
        refine Qn 2 rfl (Af (c:=[Iq _,_,Iq _,Iq _,Iq _,Iq _,Iq _,.str _]) Ai rfl rfl rfl rfl rfl rfl (by decide) (I3 h00)) ?_
        refine Qn 3 rfl E7 (Qn 4 rfl Oy (Qn 5 rfl Ee ?_))
        refine Qn 6 rfl (Af (c:=[Iq _,_,Iq _,Iq _,Iq _,Iq _,Iq _,.str _]) Ai rfl rfl rfl rfl rfl rfl (by decide) (Kh hl2)) ?_
        refine Qn 7 rfl E7 ?_
        refine Qn 8 rfl (Qc rfl (zM 7 _ _)) ?_
        refine Qn 9 rfl (Fr [Iq _,_,Iq _,Iq _,Iq _,Iq _,Iq _,.str _,.bool _]) (Qn 10 rfl Oy (Qn 11 rfl Ee ?_))
        refine Qn 12 rfl (Af (c:=[Iq _,_,Iq _,Iq _,Iq _,Iq _,Iq _,.str _]) Ai rfl rfl rfl rfl rfl rfl (by decide) (Kh hl2)) ?_
        refine Qn 13 rfl E7 (Qn 14 rfl Oy (Qn 15 rfl Ee ?_))
        refine Qn 16 rfl (Af (c:=[Iq _,_,Iq _,Iq _,Iq _,Iq _,Iq _,.str _]) Ai rfl rfl rfl rfl rfl rfl (by decide) (I3 h00)) ?_
        refine Qn 17 rfl E7 ?_
        refine Qn 18 rfl (Qc rfl (zM 7 _ _)) ?_
        refine Qn 19 rfl (Fr [Iq _,_,Iq _,Iq _,Iq _,Iq _,Iq _,.str _,.bool _]) ?_
        refine Qn 20 rfl (A2 (es:=[[Iq _,_,Iq _,Iq _,Iq _,Iq _,Iq _,.str _,.bool _],[Iq _,_,Iq _,Iq _,Iq _,Iq _,Iq _,.str _,.bool _]]) Ai rfl rfl rfl rfl rfl rfl rfl rfl rfl) ?_
        refine Qn 21 rfl (Qc rfl (Xf [⟨two 7 (Ap e) (Bj e),false⟩,⟨two 7 (Bj e) (Ap e),false⟩] (show 2≤256 by decide))) ?_
        refine Jb.eff _ _ 22 _ _ rfl (by kernel_rfl) rfl rfl (Df (k:=0) (v:=.agg _) (cs':=[_,.bool _]) (H2:=_::_) Ai rfl rfl rfl rfl (rfl) rfl rfl rfl rfl) (fun _ _ _=>trivial) ?_
        rintro _ _ ⟨rfl,rfl⟩
        refine Jb.done _ _ (by kernel_rfl) ?_
        refine Ae (AW.ret (A7 (A7 (Aj ?_))))
        refine ⟨.inr rfl,[.agg [_,.bool _]],.cons (.box _ _ _ 0 _ _ _ _ rfl rfl rfl rfl rfl rfl) <| .nil,.cons _ (.refl _),?_⟩
        first
         | exact absurd (‹(e.op==10)=true›.symm.trans ‹(e.op==10)=false›) (by decide)
         | exact absurd (‹(e.op==11)=true›.symm.trans ‹(e.op==11)=false›) (by decide)
         | exact absurd (‹(e.op==9)=true›.symm.trans ‹(e.op==9)=false›) (by decide)
         | exact Eq.trans rfl (congrArg (fun q:Cs=>AV.agg (Ea q)) (F0 ‹(e.op==0)=true› ‹((e.val.num==1)==s)=true›)).symm
         | exact Eq.trans rfl (congrArg (fun q:Cs=>AV.agg (Ea q)) (Fv ‹(e.op==0)=true› ‹((e.val.num==1)==s)=false›)).symm
         | exact Eq.trans rfl (congrArg (fun q:Cs=>AV.agg (Ea q)) (F5 h00 ‹(e.op==12)=true›)).symm
         | exact Eq.trans rfl (congrArg (fun q:Cs=>AV.agg (Ea q)) (Fz hl2 h10 ‹((e.op==10)==s)=true›)).symm
         | exact Eq.trans rfl (congrArg (fun q:Cs=>AV.agg (Ea q)) (Fw hl2 h10 ‹((e.op==10)==s)=false›)).symm
         | exact Eq.trans rfl (congrArg (fun q:Cs=>AV.agg (Ea q)) (F4 hl2 h9 ‹(Ak T V (Ap e)==1)=true›)).symm
         | exact Eq.trans rfl (congrArg (fun q:Cs=>AV.agg (Ea q)) (Ft h9 ‹(Ak T V (Ap e)==1)=false› ‹(Ak T V (Ap e)==0 && !s)=true›)).symm
         | exact Eq.trans rfl (congrArg (fun q:Cs=>AV.agg (Ea q)) (Id h9 ‹(Ak T V (Ap e)==1)=false› ‹(Ak T V (Ap e)==0 && !s)=false›)).symm
         | exact Eq.trans rfl (congrArg (fun q:Cs=>AV.agg (Ea q)) (J3 ‹(e.op==0)=false› ‹(e.op==12)=false› (aU ‹(e.op==10)=false› ‹(e.op==11)=false›) ‹(e.op==9)=false›)).symm
       ·
        refine AW.skip (Bv (Bv (Ae (Ah (Qp E7 (Qp Bu (Qp Hp (Qp (Fr [Iq _,_,Iq _,Iq _,Iq _,Iq _,Iq _,.str _,.bool _]) ?_))))))))
        refine Qp (A2 (es:=[[Iq _,_,Iq _,Iq _,Iq _,Iq _,Iq _,.str _,.bool _]]) Ai rfl rfl rfl rfl rfl rfl rfl rfl rfl) ?_
        refine Qp (Qc rfl (Xf [⟨e,!s⟩] (show 1≤256 by decide))) ?_
        refine Cz 0 [_,.bool _] (_::_) ?_
        refine Ag (AW.ret ?_)
        refine ⟨.inr rfl,[.agg [_,.bool _]],.cons (.box _ _ _ 0 _ _ _ _ rfl rfl rfl rfl rfl rfl) <| .nil,.cons _ (.refl _),?_⟩
        first
         | exact absurd (‹(e.op==10)=true›.symm.trans ‹(e.op==10)=false›) (by decide)
         | exact absurd (‹(e.op==11)=true›.symm.trans ‹(e.op==11)=false›) (by decide)
         | exact absurd (‹(e.op==9)=true›.symm.trans ‹(e.op==9)=false›) (by decide)
         | exact Eq.trans rfl (congrArg (fun q:Cs=>AV.agg (Ea q)) (F0 ‹(e.op==0)=true› ‹((e.val.num==1)==s)=true›)).symm
         | exact Eq.trans rfl (congrArg (fun q:Cs=>AV.agg (Ea q)) (Fv ‹(e.op==0)=true› ‹((e.val.num==1)==s)=false›)).symm
         | exact Eq.trans rfl (congrArg (fun q:Cs=>AV.agg (Ea q)) (F5 h00 ‹(e.op==12)=true›)).symm
         | exact Eq.trans rfl (congrArg (fun q:Cs=>AV.agg (Ea q)) (Fz hl2 h10 ‹((e.op==10)==s)=true›)).symm
         | exact Eq.trans rfl (congrArg (fun q:Cs=>AV.agg (Ea q)) (Fw hl2 h10 ‹((e.op==10)==s)=false›)).symm
         | exact Eq.trans rfl (congrArg (fun q:Cs=>AV.agg (Ea q)) (F4 hl2 h9 ‹(Ak T V (Ap e)==1)=true›)).symm
         | exact Eq.trans rfl (congrArg (fun q:Cs=>AV.agg (Ea q)) (Ft h9 ‹(Ak T V (Ap e)==1)=false› ‹(Ak T V (Ap e)==0 && !s)=true›)).symm
         | exact Eq.trans rfl (congrArg (fun q:Cs=>AV.agg (Ea q)) (Id h9 ‹(Ak T V (Ap e)==1)=false› ‹(Ak T V (Ap e)==0 && !s)=false›)).symm
         | exact Eq.trans rfl (congrArg (fun q:Cs=>AV.agg (Ea q)) (J3 ‹(e.op==0)=false› ‹(e.op==12)=false› (aU ‹(e.op==10)=false› ‹(e.op==11)=false›) ‹(e.op==9)=false›)).symm
     ·
      refine AW.skip (Bv (Ae (Ah (Qp E7 (Qp Bu (Qp Hp (Qp (Fr [Iq _,_,Iq _,Iq _,Iq _,Iq _,Iq _,.str _,.bool _]) ?_)))))))
      refine Qp (A2 (es:=[[Iq _,_,Iq _,Iq _,Iq _,Iq _,Iq _,.str _,.bool _]]) Ai rfl rfl rfl rfl rfl rfl rfl rfl rfl) ?_
      refine Qp (Qc rfl (Xf [⟨e,!s⟩] (show 1≤256 by decide))) ?_
      refine Cz 0 [_,.bool _] (_::_) ?_
      refine Ag (AW.ret ?_)
      refine ⟨.inr rfl,[.agg [_,.bool _]],.cons (.box _ _ _ 0 _ _ _ _ rfl rfl rfl rfl rfl rfl) <| .nil,.cons _ (.refl _),?_⟩
      first
       | exact absurd (‹(e.op==10)=true›.symm.trans ‹(e.op==10)=false›) (by decide)
       | exact absurd (‹(e.op==11)=true›.symm.trans ‹(e.op==11)=false›) (by decide)
       | exact absurd (‹(e.op==9)=true›.symm.trans ‹(e.op==9)=false›) (by decide)
       | exact Eq.trans rfl (congrArg (fun q:Cs=>AV.agg (Ea q)) (F0 ‹(e.op==0)=true› ‹((e.val.num==1)==s)=true›)).symm
       | exact Eq.trans rfl (congrArg (fun q:Cs=>AV.agg (Ea q)) (Fv ‹(e.op==0)=true› ‹((e.val.num==1)==s)=false›)).symm
       | exact Eq.trans rfl (congrArg (fun q:Cs=>AV.agg (Ea q)) (F5 h00 ‹(e.op==12)=true›)).symm
       | exact Eq.trans rfl (congrArg (fun q:Cs=>AV.agg (Ea q)) (Fz hl2 h10 ‹((e.op==10)==s)=true›)).symm
       | exact Eq.trans rfl (congrArg (fun q:Cs=>AV.agg (Ea q)) (Fw hl2 h10 ‹((e.op==10)==s)=false›)).symm
       | exact Eq.trans rfl (congrArg (fun q:Cs=>AV.agg (Ea q)) (F4 hl2 h9 ‹(Ak T V (Ap e)==1)=true›)).symm
       | exact Eq.trans rfl (congrArg (fun q:Cs=>AV.agg (Ea q)) (Ft h9 ‹(Ak T V (Ap e)==1)=false› ‹(Ak T V (Ap e)==0 && !s)=true›)).symm
       | exact Eq.trans rfl (congrArg (fun q:Cs=>AV.agg (Ea q)) (Id h9 ‹(Ak T V (Ap e)==1)=false› ‹(Ak T V (Ap e)==0 && !s)=false›)).symm
       | exact Eq.trans rfl (congrArg (fun q:Cs=>AV.agg (Ea q)) (J3 ‹(e.op==0)=false› ‹(e.op==12)=false› (aU ‹(e.op==10)=false› ‹(e.op==11)=false›) ‹(e.op==9)=false›)).symm
end Go.Proofs.YtjedflcpjlgokaaGreatDoor
