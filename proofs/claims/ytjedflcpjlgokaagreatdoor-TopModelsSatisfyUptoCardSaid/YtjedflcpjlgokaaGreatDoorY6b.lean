/-
  Walks of layer 11: clauses. No condition.
-/
import Derived.Test.YtjedflcpjlgokaaGreatDoorAz
import Derived.Test.YtjedflcpjlgokaaGreatDoorK16
import Derived.Test.YtjedflcpjlgokaaGreatDoorK31
import Derived.KernelRfl
namespace Go.Proofs.YtjedflcpjlgokaaGreatDoor
open Go Go.Aw
set_option maxHeartbeats 6400000
set_option maxRecDepth 20000
set_option linter.unusedVariables false
set_option linter.unusedSimpArgs false

theorem Ry (a b:Cs)(n m:Nat)(ha:csOK n a)(hb:csOK m b)(hn:n≤1048576)(hm:m≤1048576):Ax Tryz.prog 31 [.agg (Ec a),.agg (Ec b)] (.agg (Ec (Ek a b))):=by
 have hla:=ha.len
 have hlb:=hb.len
 have hxa:=fun x hx=>Nat.le_trans (ha.lits x hx) hn
 have hxb:=fun x hx=>Nat.le_trans (hb.lits x hx) hm
 refine Ax.body (n:=27) Ah Tryz.func31 rfl rfl rfl fun H=>?_
 refine Ai (Qp (Gd [_,.bool _]) (Qp (Gd [_,.bool _]) ?_))
 refine Qe (Ak (l:=[.sl 1 [],.bool false]) (by kernel_rfl)) ?_
 rintro _ _ ⟨b4,rfl,rfl⟩
 refine Ag (AW.seq (Ai (Qp (Qf [.bool _]) (Qp gV (Qp Hc (Qp B0 (Qg [] Qw (Qf [.bool _]) (Qg [(11,_)] Qw gV (Qg [(12,_)] Qw Hc ?_)))))))))
 refine Qp E1 (Ag (A6 (fun hc1=>?_) fun hc1=>?_))
 ·
  refine Ai (Qp (Fz [_,.bool _]) ?_)
  refine Cv 0 [_,.bool _] (_::_) ?_
  refine Ag (Dw ?_)
  refine ⟨.inr rfl,[.agg [_,.bool _]],.cons (.box _ _ _ 0 _ _ _ _ rfl rfl rfl rfl rfl rfl) <| .nil,.cons _ (.refl _),?_⟩
  exact Eq.trans rfl (congrArg (fun q:Cs=>AV.agg (Ec q)) (vV hc1)).symm
 ·
  refine By (Ai (Qp (Qf [_,.bool _]) (Qp Dy (Qp (Qf [_,.bool _]) (Qp Dy ?_)))))
  refine Qp (Qc rfl (pE a.1 b.1 (by omega) (by omega) hxa hxb)) ?_
  refine Qp N6 (Qp vY (Qp bB (Qp Sr (Qp Bl (Dm (Qp Dx (Qp B0 (Qp (Fz [_,.bool _]) ?_))))))))
  refine Cv 0 [_,.bool _] (_::_) ?_
  refine Ag (AW.ret ?_)
  refine ⟨.inr rfl,[.agg [_,.bool _]],.cons (.box _ _ _ 0 _ _ _ _ rfl rfl rfl rfl rfl rfl) <| .nil,.cons _ (.refl _),?_⟩
  exact Eq.trans rfl (congrArg (fun q:Cs=>AV.agg (Ec q)) (nF hc1)).symm
theorem iD (a b:Cs)(n m:Nat)(ha:csOK n a)(hb:csOK m b)(hn:n≤1048576)(hm:m≤1048576):Ax Tryz.prog 59 [.agg (Ec a),.agg (Ec b)] (.agg (Ec (Ie a b))):=by
 have hla:=ha.len
 have hlb:=hb.len
 have hxa:=fun x hx=>Nat.le_trans (ha.lits x hx) hn
 have hxb:=fun x hx=>Nat.le_trans (hb.lits x hx) hm
 have hb2:Ij [(!a.2 || !b.2,false)]→True:=fun _=>trivial
 have hsa:∀c∈(a.1.map P1),Be c=true:=Ed fun _=>rfl
 have hsb:∀c∈(b.1.map P1),Be c=true:=Ed fun _=>rfl
 have hsab:∀c∈(a.1.map P1++b.1.map P1),Be c=true:=fun c hc=>(List.mem_append.1 hc).elim (hsa c) (hsb c)
 refine Ax.body (n:=32) Ah Tryz.func59 rfl rfl rfl fun H=>?_
 refine Ai (Qp (Gd [_,.bool _]) (Qp (Gd [_,.bool _]) ?_))
 refine Qe (Ak (l:=[.sl 1 [],.bool false]) (by kernel_rfl)) ?_
 rintro _ _ ⟨b4,rfl,rfl⟩
 refine Ag (AW.seq (Ai (Qp (Qf [.bool _]) (Qp gV (Qp Hc (Qp B0 (Qg [] Qw (Qf [.bool _]) (Qg [(9,_)] Qw gV (Qg [(10,_)] Qw Hc ?_)))))))))
 refine Qp E1 (Qp B0 (Qg [] Qw (Qf [_,.bool _]) (Qg [(14,_)] Qw Dy ?_)))
 refine AOL.Aar (y:=Iq _) _ [(15,_)] rfl (nC.all ⟨Ent.Aam _ _,trivial⟩) (fun hG=>Al (n:=a.1.length) Ah rfl rfl rfl (by simp)) rfl ?_
 refine Qg [] Qw (Qf [_,.bool _]) (Qg [(17,_)] Qw Dy ?_)
 refine AOL.Aar (y:=Iq _) _ [(18,_)] rfl (nC.all ⟨Ent.Aam _ _,trivial⟩) (fun hG=>Al (n:=b.1.length) Ah rfl rfl rfl (by simp)) rfl ?_
 refine AOL.Aar (y:=Iq _) _ [(16,_),(19,_)] rfl (nC.all ⟨Ent.Aam _ _,Ent.Aam _ _,trivial⟩) (fun hG=>mU rfl rfl rfl (by constructor <;> omega)) rfl ?_
 refine Qg [(20,_)] Qw Ha (Qp E1 (Ag (A6 (fun hc1=>?_) fun hc1=>?_)))
 ·
  refine Ai (Qp (Fz [_,.bool _]) ?_)
  refine Cv 0 [_,.bool _] (_::_) ?_
  refine Ag (Dw ?_)
  refine ⟨.inr rfl,[.agg [_,.bool _]],.cons (.box _ _ _ 0 _ _ _ _ rfl rfl rfl rfl rfl rfl) <| .nil,.cons _ (.refl _),?_⟩
  exact Eq.trans rfl (congrArg (fun q:Cs=>AV.agg (Ec q)) (xK hc1)).symm
 ·
  refine By (AW.seq ?_)
  refine AW.draw mixed (fun _=>True) trivial (by kernel_rfl) ?_
  refine Qn 1 rfl (Qf [_,.bool _]) (Qn 2 rfl Dy (Qn 4 rfl (Qf [_,.bool _]) (Qn 5 rfl Dy ?_)))
  refine Jn.eff _ _ 0 _ _ rfl (by kernel_rfl) rfl rfl (Rh (es:=[]) Ah rfl rfl rfl rfl rfl rfl rfl rfl rfl) (fun _ _ _=>trivial) ?_
  rintro _ _ ⟨v24,rfl,rfl⟩
  refine Jn.eff _ _ 3 _ _ rfl (by kernel_rfl) rfl rfl (C3 (k:=0) Ah rfl rfl rfl rfl rfl rfl rfl rfl (hsa) (rK) (by simp;omega) (by simp [maxLen];omega)) (fun _ _ _=>trivial) ?_
  rintro _ _ ⟨v27,rfl,rfl⟩
  refine Jn.eff _ _ 6 _ _ rfl (by kernel_rfl) rfl rfl (C3 (k:=0) Ah rfl rfl rfl rfl rfl rfl rfl rfl (hsb) (hsa) (by simp;omega) (by simp [maxLen];omega)) (fun _ _ _=>trivial) ?_
  rintro _ _ ⟨v30,rfl,rfl⟩
  refine Qn 7 rfl (Fz [_,.bool _]) ?_
  refine Jn.eff _ _ 8 _ _ rfl (by kernel_rfl) rfl rfl (B2 (k:=1) (v:=.agg _) (cs':=[_,.bool _]) (H2:=_::_::_) Ah rfl rfl rfl rfl (rfl) rfl rfl rfl rfl) (fun _ _ _=>trivial) ?_
  rintro _ _ ⟨rfl,rfl⟩
  refine Jn.done _ _ (by kernel_rfl) ?_
  refine Ad ?_
  refine AW.ghost (GS.cell (H2:=_::_::_) 1 0 rfl rfl rfl rfl Ej) ?_
  refine AW.ret ?_
  refine ⟨.inr rfl,[.agg [_,.bool _]],.cons (.box _ _ _ 1 _ _ _ _ rfl rfl rfl rfl rfl rfl) <| .nil,.cons _ (.cons _ (.refl _)),?_⟩
  rw [List.nil_append,←List.map_append]
  exact Eq.trans rfl (congrArg (fun q:Cs=>AV.agg (Ec q)) (uY hc1)).symm
theorem Wg (l:List Lit)(hl:l.length≤256):Ax Tryz.prog 61 [.sl 9 (l.map F0)] (.agg (Ec (D9 l))):=by
 refine Ax.body (n:=22) Ah Tryz.func61 rfl rfl rfl fun H=>?_
 refine Ai ?_
 refine Qe (Ak (l:=[.sl 1 [],.bool false]) (by kernel_rfl)) ?_
 rintro _ _ ⟨b2,rfl,rfl⟩
 refine Dm ?_
 refine Qp (Lk (l0:=[.val (.slice none 0 0),.bool false]) (l:=[_,_]) Ah rfl rfl (by kernel_rfl) rfl) ?_
 refine Qe (Ak (l:=[.sl 1 [],.bool false]) (by kernel_rfl)) ?_
 rintro _ _ ⟨b3,rfl,rfl⟩
 refine Cv 0 [_,.bool _] (_::_::_) ?_
 refine AOL.ghost (GS.cellRow 0 0 42 1 rfl rfl rfl rfl) ?_
 refine Ag (AW.seq (Ai (Qp Dx ?_)))
 refine Qp (Al (n:=l.length) Ah rfl rfl rfl (by simp)) ?_
 refine Qp Az (Ag (AW.block ?_))
 refine AW.Aao (fun (p:Nat×List (List AV)×Value)=>(⟨[(2,.val (.pointer (some ⟨b2,0,none⟩))),(3,.val (.pointer (some ⟨b3,0,none⟩))),(7,.sl 9 (l.map F0)),(8,.int .i64 l.length),(9,.int .i64 (p.1:Int))],.row p.2.2 p.2.1.length 42 1 :: .box b3 88 [.row p.2.2 1 p.2.1,.bool true] :: .box b2 88 [.sl 1 [],.bool false]::H,22⟩:St)) (fun (p:Nat×List (List AV)×Value)=>p.1≤l.length∧p.2.1=((l.take p.1).map fun x=>[x]).map P1) (fun (p:Nat×List (List AV)×Value)=>l.length-p.1) ((0,[],.slice none 0 0)) ?_ (GS.weaken ⟨rfl,rfl,rfl,rfl,rfl,trivial⟩ (.refl _)) ?_
 · exact ⟨Nat.zero_le _,rfl⟩
 ·
  rintro p hR
  have hsc:∀c∈p.2.1,Be c=true:=by rw [hR.2];exact Ed fun _=>rfl
  have hpl:p.2.1.length≤p.1:=by rw [hR.2];simp;omega
  refine Ai (Qp Ch (Ag (AW.seq (A6 (fun hc1=>?_) fun hc1=>?_))))
  ·
   obtain ⟨x,hx⟩:=B5 hc1
   have hlx:=A4 hx
   refine By (AW.seq (AW.block (Ai ?_)))
   refine Qp (Af (c:=[Iq _,_,Iq _,Iq _,Iq _,Iq _,Iq _,.str _,.bool _]) Ah rfl rfl rfl rfl rfl rfl (by omega) (Bi hx)) ?_
   refine Qp (Cq [Iq _,_,Iq _,Iq _,Iq _,Iq _,Iq _,.str _,.bool _]) ?_
   refine Qe (Ak (l:=[.int .i64 0,.sl 8 [],.int .i64 0,.int .i64 0,.int .i64 0,.int .i64 0,.int .i64 0,.str [],.bool false]) (by kernel_rfl)) ?_
   rintro _ _ ⟨b5,rfl,rfl⟩
   refine Cv 0 [Iq _,_,Iq _,Iq _,Iq _,Iq _,Iq _,.str _,.bool _] (_::_::_::_::_) ?_
   refine AOL.ghost (GS.Aan (t:=5) 0 rfl rfl) ?_
   refine Ag (AW.region (Qp Gc ?_))
   refine AOL.Aas (Am (k:=1) (c:=.row _ _ _) Ah rfl rfl rfl rfl) rfl rfl ?_
   refine Qp (Cq [Iq _,_,Iq _,Iq _,Iq _,Iq _,Iq _,.str _,.bool _]) ?_
   refine Qp (A1 (es:=[[Iq _,_,Iq _,Iq _,Iq _,Iq _,Iq _,.str _,.bool _]]) Ah rfl rfl rfl rfl rfl rfl rfl rfl rfl) ?_
   refine Qp (A1 (es:=[[_]]) Ah rfl rfl rfl rfl rfl rfl rfl rfl rfl) ?_
   refine Qe (C3 (k:=0) Ah rfl rfl rfl rfl rfl rfl rfl rfl (Ff rfl) (hsc) (by simp;omega) (by simp [maxLen];omega)) ?_
   rintro _ _ ⟨v18,rfl,rfl⟩
   refine Qp Gc ?_
   refine Cv 1 [_,.bool _] (_::_::_::_) ?_
   refine AOL.nil (Bu (Ad (AW.region (Qp Ey (Qp Az (Ag ?_))))))
   refine ⟨(p.1+1,p.2.1 ++ [[.sl 9 [F0 x]]],v18),?_,?_,GS.weaken ⟨rfl,rfl,rfl,rfl,rfl,trivial⟩ (.refl _)⟩
   · exact ⟨hlx,by simp only;rw [C4 hx,hR.2];simp [P1]⟩
   · simp only;omega
  ·
   have hte:=Cu hc1
   have hall:=hR.2
   rw [hte] at hall
   refine AW.exit ?_
   refine A5 (A5 (Bq (Ad (Ai ?_))))
   refine AOL.ghost (GS.cell (H2:=_::_::_::_) 1 0 rfl rfl rfl rfl Ej) ?_
   refine AOL.Aas (A7 (k:=1) (l:=[_,.bool _]) Ah rfl rfl rfl rfl rfl) rfl rfl ?_
   refine Cv 2 [_,.bool _] (_::_::_::_) ?_
   refine Ag (AW.ret ?_)
   refine ⟨.inr rfl,[.agg [_,.bool _]],.cons (.box _ _ _ 2 _ _ _ _ rfl rfl rfl rfl rfl rfl) <| .nil,.cons _ (.cons _ (.cons _ (.refl _))),?_⟩
   rw [hall];rfl
theorem E8 (T:List Sc)(V:List Va)(e:Ex)(ih:∀a∈e.args,∀s,Ax Tryz.prog 29 [.agg (Cf T V),.agg (cE a),.bool s] (.agg (Ec (Cl T V a s))))(i:Nat)(a:Ex)(ha:e.args[i]? = some a)(s:Bool):Ax Tryz.prog 58 [.int .i64 (i:Int),.bool s,.ptr (Cf T V),.ptr (cE e)] (.agg (Ec (Cl T V a s))):=by
 refine Ax.body (n:=15) Ah Tryz.func58 rfl rfl rfl fun H=>?_
 refine Ai ?_
 refine Qe (Ak (l:=[.sl 1 [],.bool false]) (by kernel_rfl)) ?_
 rintro _ _ ⟨b6,rfl,rfl⟩
 refine Ag (AW.seq ?_)
 refine AW.draw mixed (fun _=>True) trivial (by kernel_rfl) ?_
 refine Qn 0 rfl (Cq [_,_]) (Qn 1 rfl Lp (Qn 2 rfl Dy (Qn 3 rfl Az ?_)))
 refine Qn 4 rfl (Af (c:=[Iq _,_,Iq _,Iq _,Iq _,Iq _,Iq _,.str _]) Ah rfl rfl rfl rfl rfl rfl (by omega) (Fo ha)) ?_
 refine Qn 5 rfl El (Qn 6 rfl B0 ?_)
 refine Qn 7 rfl (Qc rfl (ih a (List.mem_of_getElem? ha) s)) ?_
 refine Jn.eff _ _ 8 _ _ rfl (by kernel_rfl) rfl rfl (B2 (k:=0) (v:=.agg _) (cs':=[_,.bool _]) (H2:=_::_) Ah rfl rfl rfl rfl (rfl) rfl rfl rfl rfl) (fun _ _ _=>trivial) ?_
 rintro _ _ ⟨rfl,rfl⟩
 refine Jn.done _ _ (by kernel_rfl) ?_
 refine Ad (AW.ret ?_)
 refine ⟨.inr rfl,[.agg [_,.bool _]],.cons (.box _ _ _ 0 _ _ _ _ rfl rfl rfl rfl rfl rfl) <| .nil,.cons _ (.refl _),?_⟩
 rfl
theorem eR (T:List Sc)(V:List Va)(e:Ex)(hk:KOK T V e)(hse:Ar e≤64)(s:Bool):Ax Tryz.prog 29 [.agg (Cf T V),.agg (cE e),.bool s] (.agg (Ec (Cl T V e s))):=by
 revert s hk hse
 induction e using Ex.Aav
 rename_i e ih0
 intro hk hse s
 have ih:∀a∈e.args,∀s,Ax Tryz.prog 29 [.agg (Cf T V),.agg (cE a),.bool s] (.agg (Ec (Cl T V a s))):=fun a ha s=>ih0 a ha (A2 hk ha) (Nat.le_trans (Nat.le_of_lt (Fe ha)) hse) s
 have hz:=Bc hk.nodes
 refine Ax.body (n:=111) Ah Tryz.func29 rfl rfl rfl fun H=>?_
 refine Ai (Qp (Gd [_,_]) (Qp Kx ?_))
 refine Qe (Ak (l:=[.sl 1 [],.bool false]) (by kernel_rfl)) ?_
 rintro _ _ ⟨b6,rfl,rfl⟩
 refine Dm ?_
 refine Qp (Bj (l:=[]) (l':=[.ptr _,.ptr _]) rfl rfl) ?_
 refine Qp (Dg (v:=.fn _ _ _) rfl) ?_
 refine Ag (AW.seq (Ai (Qp Jl (Qp Bp (Ag (AW.block (Ai (Qp A9 (Qp Bl ?_)))))))))
 refine Ag (A6 (fun hc1=>?_) fun hc1=>?_)
 ·
  refine AW.seq (Ai (Qp Jq (Qp U7 (Qp Bp (Qp A9 (Qp B0 ?_))))))
  refine Qp (Mw Ah rfl rfl rfl rfl) ?_
  refine Ag (A6 (fun hc2=>?_) fun hc2=>?_)
  ·
   refine Ai ?_
   refine Qp (Dn.weakV (A1 (es:=[[_]]) Ah rfl rfl rfl rfl rfl rfl rfl rfl rfl) gC) ?_
   refine Qp (Fz [_,.bool _]) ?_
   refine Cv 0 [_,.bool _] (_::_) ?_
   refine Ag (Dw (Bb (Aj ?_)))
   refine ⟨.inr rfl,[.agg [_,.bool _]],.cons (.box _ _ _ 0 _ _ _ _ rfl rfl rfl rfl rfl rfl) <| .nil,.cons _ (.refl _),?_⟩
   first
    | exact absurd (‹(e.op==10)=true›.symm.trans ‹(e.op==10)=false›) (by decide)
    | exact absurd (‹(e.op==11)=true›.symm.trans ‹(e.op==11)=false›) (by decide)
    | exact absurd (‹(e.op==9)=true›.symm.trans ‹(e.op==9)=false›) (by decide)
    | exact Eq.trans rfl (congrArg (fun q:Cs=>AV.agg (Ec q)) (Fq ‹(e.op==0)=true› ‹((e.val.num==1)==s)=true›)).symm
    | exact Eq.trans rfl (congrArg (fun q:Cs=>AV.agg (Ec q)) (Fm ‹(e.op==0)=true› ‹((e.val.num==1)==s)=false›)).symm
    | exact Eq.trans rfl (congrArg (fun q:Cs=>AV.agg (Ec q)) (Fp h00 ‹(e.op==12)=true›)).symm
    | exact Eq.trans rfl (congrArg (fun q:Cs=>AV.agg (Ec q)) (Fs hl2 h10 ‹((e.op==10)==s)=true›)).symm
    | exact Eq.trans rfl (congrArg (fun q:Cs=>AV.agg (Ec q)) (Fl hl2 h10 ‹((e.op==10)==s)=false›)).symm
    | exact Eq.trans rfl (congrArg (fun q:Cs=>AV.agg (Ec q)) (Fr hl2 h9 ‹(An T V (Av e)==1)=true›)).symm
    | exact Eq.trans rfl (congrArg (fun q:Cs=>AV.agg (Ec q)) (Fk h9 ‹(An T V (Av e)==1)=false› ‹(An T V (Av e)==0 && !s)=true›)).symm
    | exact Eq.trans rfl (congrArg (fun q:Cs=>AV.agg (Ec q)) (Io h9 ‹(An T V (Av e)==1)=false› ‹(An T V (Av e)==0 && !s)=false›)).symm
    | exact Eq.trans rfl (congrArg (fun q:Cs=>AV.agg (Ec q)) (Kn ‹(e.op==0)=false› ‹(e.op==12)=false› (Ur ‹(e.op==10)=false› ‹(e.op==11)=false›) ‹(e.op==9)=false›)).symm
  ·
   refine By (Ai (Qp (Fz [_,.bool _]) ?_))
   refine Cv 0 [_,.bool _] (_::_) ?_
   refine AOL.ghost (GS.cell (H2:=_::_) 0 0 rfl rfl rfl rfl (vG (z:=1))) ?_
   refine Ag (AW.ret (Bb (Aj ?_)))
   refine ⟨.inr rfl,[.agg [_,.bool _]],.cons (.box _ _ _ 0 _ _ _ _ rfl rfl rfl rfl rfl rfl) <| .nil,.cons _ (.refl _),?_⟩
   first
    | exact absurd (‹(e.op==10)=true›.symm.trans ‹(e.op==10)=false›) (by decide)
    | exact absurd (‹(e.op==11)=true›.symm.trans ‹(e.op==11)=false›) (by decide)
    | exact absurd (‹(e.op==9)=true›.symm.trans ‹(e.op==9)=false›) (by decide)
    | exact Eq.trans rfl (congrArg (fun q:Cs=>AV.agg (Ec q)) (Fq ‹(e.op==0)=true› ‹((e.val.num==1)==s)=true›)).symm
    | exact Eq.trans rfl (congrArg (fun q:Cs=>AV.agg (Ec q)) (Fm ‹(e.op==0)=true› ‹((e.val.num==1)==s)=false›)).symm
    | exact Eq.trans rfl (congrArg (fun q:Cs=>AV.agg (Ec q)) (Fp h00 ‹(e.op==12)=true›)).symm
    | exact Eq.trans rfl (congrArg (fun q:Cs=>AV.agg (Ec q)) (Fs hl2 h10 ‹((e.op==10)==s)=true›)).symm
    | exact Eq.trans rfl (congrArg (fun q:Cs=>AV.agg (Ec q)) (Fl hl2 h10 ‹((e.op==10)==s)=false›)).symm
    | exact Eq.trans rfl (congrArg (fun q:Cs=>AV.agg (Ec q)) (Fr hl2 h9 ‹(An T V (Av e)==1)=true›)).symm
    | exact Eq.trans rfl (congrArg (fun q:Cs=>AV.agg (Ec q)) (Fk h9 ‹(An T V (Av e)==1)=false› ‹(An T V (Av e)==0 && !s)=true›)).symm
    | exact Eq.trans rfl (congrArg (fun q:Cs=>AV.agg (Ec q)) (Io h9 ‹(An T V (Av e)==1)=false› ‹(An T V (Av e)==0 && !s)=false›)).symm
    | exact Eq.trans rfl (congrArg (fun q:Cs=>AV.agg (Ec q)) (Kn ‹(e.op==0)=false› ‹(e.op==12)=false› (Ur ‹(e.op==10)=false› ‹(e.op==11)=false›) ‹(e.op==9)=false›)).symm
 ·
  refine Ai (Qp A9 (Qp Bl (Ag (A6 (fun hc3=>?_) fun hc3=>?_))))
  ·
   refine AW.seq ?_
   have h00:=lL hz.1 (eq_of_beq ‹(e.op==12)=true›)
   have ha0:=Pl h00
   refine AW.region ?_
   refine Qp (Bm (v:=.fn _ _ _) rfl) ?_
   refine Qp B0 (Qp Hc ?_)
   refine Qp (Eg (by kernel_rfl) rfl rfl rfl (E8 T V e ih 0 (Av e) ha0 (!s))) ?_
   refine Cv 0 [_,.bool _] (_::_) ?_
   refine Ag (AW.ret (Bb (Aj ?_)))
   refine ⟨.inr rfl,[.agg [_,.bool _]],.cons (.box _ _ _ 0 _ _ _ _ rfl rfl rfl rfl rfl rfl) <| .nil,.cons _ (.refl _),?_⟩
   first
    | exact absurd (‹(e.op==10)=true›.symm.trans ‹(e.op==10)=false›) (by decide)
    | exact absurd (‹(e.op==11)=true›.symm.trans ‹(e.op==11)=false›) (by decide)
    | exact absurd (‹(e.op==9)=true›.symm.trans ‹(e.op==9)=false›) (by decide)
    | exact Eq.trans rfl (congrArg (fun q:Cs=>AV.agg (Ec q)) (Fq ‹(e.op==0)=true› ‹((e.val.num==1)==s)=true›)).symm
    | exact Eq.trans rfl (congrArg (fun q:Cs=>AV.agg (Ec q)) (Fm ‹(e.op==0)=true› ‹((e.val.num==1)==s)=false›)).symm
    | exact Eq.trans rfl (congrArg (fun q:Cs=>AV.agg (Ec q)) (Fp h00 ‹(e.op==12)=true›)).symm
    | exact Eq.trans rfl (congrArg (fun q:Cs=>AV.agg (Ec q)) (Fs hl2 h10 ‹((e.op==10)==s)=true›)).symm
    | exact Eq.trans rfl (congrArg (fun q:Cs=>AV.agg (Ec q)) (Fl hl2 h10 ‹((e.op==10)==s)=false›)).symm
    | exact Eq.trans rfl (congrArg (fun q:Cs=>AV.agg (Ec q)) (Fr hl2 h9 ‹(An T V (Av e)==1)=true›)).symm
    | exact Eq.trans rfl (congrArg (fun q:Cs=>AV.agg (Ec q)) (Fk h9 ‹(An T V (Av e)==1)=false› ‹(An T V (Av e)==0 && !s)=true›)).symm
    | exact Eq.trans rfl (congrArg (fun q:Cs=>AV.agg (Ec q)) (Io h9 ‹(An T V (Av e)==1)=false› ‹(An T V (Av e)==0 && !s)=false›)).symm
    | exact Eq.trans rfl (congrArg (fun q:Cs=>AV.agg (Ec q)) (Kn ‹(e.op==0)=false› ‹(e.op==12)=false› (Ur ‹(e.op==10)=false› ‹(e.op==11)=false›) ‹(e.op==9)=false›)).symm
  ·
   refine AW.seq (Ai (Qp A9 (Qp Bl (Ag (A6 (fun hc4=>?_) fun hc4=>?_)))))
   ·
    refine By (A6 (fun hc5=>?_) fun hc5=>?_)
    ·
     refine AW.seq (Ai (Qp Jl (Qp Bp (Qp A9 (Qp B0 ?_)))))
     refine Qp (Mw Ah rfl rfl rfl rfl) ?_
     refine Ag (A6 (fun hc6=>?_) fun hc6=>?_)
     ·
      refine AW.seq ?_
      have h10:(e.op==10||e.op==11)=true:=by first | exact Xu ‹(e.op==10)=true› | exact Xt ‹(e.op==11)=true›
      have hl2:=Ei hz.1 (by simp at h10;omega)
      have h00:0<e.args.length:=by omega
      have ha0:=Pl h00
      have ha1:=Sf hl2
      have m0:=A0 h00
      have m1:=Bk hl2
      have k0:=H5 _ (A2 hk m0)
      have k1:=H5 _ (A2 hk m1)
      have hs01:=Db hl2
      refine AW.region ?_
      refine Qp (Bm (v:=.fn _ _ _) rfl) ?_
      refine Qp B0 ?_
      refine Qp (Eg (by kernel_rfl) rfl rfl rfl (E8 T V e ih 0 (Av e) ha0 s)) ?_
      refine Qp (Bm (v:=.fn _ _ _) rfl) ?_
      refine Qp B0 ?_
      refine Qp (Eg (by kernel_rfl) rfl rfl rfl (E8 T V e ih 1 (Cc e) ha1 s)) ?_
      refine Qp (Qc rfl (Ry _ _ _ _ (k0 s) (k1 s) (by omega) (by omega))) ?_
      refine Cv 0 [_,.bool _] (_::_) ?_
      refine Ag (Dw (Bb (Aj ?_)))
      refine ⟨.inr rfl,[.agg [_,.bool _]],.cons (.box _ _ _ 0 _ _ _ _ rfl rfl rfl rfl rfl rfl) <| .nil,.cons _ (.refl _),?_⟩
      first
       | exact absurd (‹(e.op==10)=true›.symm.trans ‹(e.op==10)=false›) (by decide)
       | exact absurd (‹(e.op==11)=true›.symm.trans ‹(e.op==11)=false›) (by decide)
       | exact absurd (‹(e.op==9)=true›.symm.trans ‹(e.op==9)=false›) (by decide)
       | exact Eq.trans rfl (congrArg (fun q:Cs=>AV.agg (Ec q)) (Fq ‹(e.op==0)=true› ‹((e.val.num==1)==s)=true›)).symm
       | exact Eq.trans rfl (congrArg (fun q:Cs=>AV.agg (Ec q)) (Fm ‹(e.op==0)=true› ‹((e.val.num==1)==s)=false›)).symm
       | exact Eq.trans rfl (congrArg (fun q:Cs=>AV.agg (Ec q)) (Fp h00 ‹(e.op==12)=true›)).symm
       | exact Eq.trans rfl (congrArg (fun q:Cs=>AV.agg (Ec q)) (Fs hl2 h10 ‹((e.op==10)==s)=true›)).symm
       | exact Eq.trans rfl (congrArg (fun q:Cs=>AV.agg (Ec q)) (Fl hl2 h10 ‹((e.op==10)==s)=false›)).symm
       | exact Eq.trans rfl (congrArg (fun q:Cs=>AV.agg (Ec q)) (Fr hl2 h9 ‹(An T V (Av e)==1)=true›)).symm
       | exact Eq.trans rfl (congrArg (fun q:Cs=>AV.agg (Ec q)) (Fk h9 ‹(An T V (Av e)==1)=false› ‹(An T V (Av e)==0 && !s)=true›)).symm
       | exact Eq.trans rfl (congrArg (fun q:Cs=>AV.agg (Ec q)) (Io h9 ‹(An T V (Av e)==1)=false› ‹(An T V (Av e)==0 && !s)=false›)).symm
       | exact Eq.trans rfl (congrArg (fun q:Cs=>AV.agg (Ec q)) (Kn ‹(e.op==0)=false› ‹(e.op==12)=false› (Ur ‹(e.op==10)=false› ‹(e.op==11)=false›) ‹(e.op==9)=false›)).symm
     ·
      refine By (AW.seq ?_)
      have h10:(e.op==10||e.op==11)=true:=by first | exact Xu ‹(e.op==10)=true› | exact Xt ‹(e.op==11)=true›
      have hl2:=Ei hz.1 (by simp at h10;omega)
      have h00:0<e.args.length:=by omega
      have ha0:=Pl h00
      have ha1:=Sf hl2
      have m0:=A0 h00
      have m1:=Bk hl2
      have k0:=H5 _ (A2 hk m0)
      have k1:=H5 _ (A2 hk m1)
      have hs01:=Db hl2
      refine AW.region ?_
      refine Qp (Bm (v:=.fn _ _ _) rfl) ?_
      refine Qp B0 ?_
      refine Qp (Eg (by kernel_rfl) rfl rfl rfl (E8 T V e ih 0 (Av e) ha0 s)) ?_
      refine Qp (Bm (v:=.fn _ _ _) rfl) ?_
      refine Qp B0 ?_
      refine Qp (Eg (by kernel_rfl) rfl rfl rfl (E8 T V e ih 1 (Cc e) ha1 s)) ?_
      refine Qp (Qc rfl (iD _ _ _ _ ((k0 s).mono (Nat.le_trans (by omega) hse)) ((k1 s).mono (Nat.le_trans (by omega) hse)) (by omega) (by omega))) ?_
      refine Cv 0 [_,.bool _] (_::_) ?_
      refine Ag (AW.ret (Bb (Aj ?_)))
      refine ⟨.inr rfl,[.agg [_,.bool _]],.cons (.box _ _ _ 0 _ _ _ _ rfl rfl rfl rfl rfl rfl) <| .nil,.cons _ (.refl _),?_⟩
      first
       | exact absurd (‹(e.op==10)=true›.symm.trans ‹(e.op==10)=false›) (by decide)
       | exact absurd (‹(e.op==11)=true›.symm.trans ‹(e.op==11)=false›) (by decide)
       | exact absurd (‹(e.op==9)=true›.symm.trans ‹(e.op==9)=false›) (by decide)
       | exact Eq.trans rfl (congrArg (fun q:Cs=>AV.agg (Ec q)) (Fq ‹(e.op==0)=true› ‹((e.val.num==1)==s)=true›)).symm
       | exact Eq.trans rfl (congrArg (fun q:Cs=>AV.agg (Ec q)) (Fm ‹(e.op==0)=true› ‹((e.val.num==1)==s)=false›)).symm
       | exact Eq.trans rfl (congrArg (fun q:Cs=>AV.agg (Ec q)) (Fp h00 ‹(e.op==12)=true›)).symm
       | exact Eq.trans rfl (congrArg (fun q:Cs=>AV.agg (Ec q)) (Fs hl2 h10 ‹((e.op==10)==s)=true›)).symm
       | exact Eq.trans rfl (congrArg (fun q:Cs=>AV.agg (Ec q)) (Fl hl2 h10 ‹((e.op==10)==s)=false›)).symm
       | exact Eq.trans rfl (congrArg (fun q:Cs=>AV.agg (Ec q)) (Fr hl2 h9 ‹(An T V (Av e)==1)=true›)).symm
       | exact Eq.trans rfl (congrArg (fun q:Cs=>AV.agg (Ec q)) (Fk h9 ‹(An T V (Av e)==1)=false› ‹(An T V (Av e)==0 && !s)=true›)).symm
       | exact Eq.trans rfl (congrArg (fun q:Cs=>AV.agg (Ec q)) (Io h9 ‹(An T V (Av e)==1)=false› ‹(An T V (Av e)==0 && !s)=false›)).symm
       | exact Eq.trans rfl (congrArg (fun q:Cs=>AV.agg (Ec q)) (Kn ‹(e.op==0)=false› ‹(e.op==12)=false› (Ur ‹(e.op==10)=false› ‹(e.op==11)=false›) ‹(e.op==9)=false›)).symm
    ·
     exact absurd (hc5.symm.trans hc4) (by decide)
   ·
    refine AW.region (Qp A9 (Qp Bl (Ag (A6 (fun hc7=>?_) fun hc7=>?_))))
    ·
     refine AW.seq (Ai (Qp Jl (Qp Bp (Qp A9 (Qp B0 ?_)))))
     refine Qp (Mw Ah rfl rfl rfl rfl) ?_
     refine Ag (A6 (fun hc8=>?_) fun hc8=>?_)
     ·
      refine AW.seq ?_
      have h10:(e.op==10||e.op==11)=true:=by first | exact Xu ‹(e.op==10)=true› | exact Xt ‹(e.op==11)=true›
      have hl2:=Ei hz.1 (by simp at h10;omega)
      have h00:0<e.args.length:=by omega
      have ha0:=Pl h00
      have ha1:=Sf hl2
      have m0:=A0 h00
      have m1:=Bk hl2
      have k0:=H5 _ (A2 hk m0)
      have k1:=H5 _ (A2 hk m1)
      have hs01:=Db hl2
      refine AW.region ?_
      refine Qp (Bm (v:=.fn _ _ _) rfl) ?_
      refine Qp B0 ?_
      refine Qp (Eg (by kernel_rfl) rfl rfl rfl (E8 T V e ih 0 (Av e) ha0 s)) ?_
      refine Qp (Bm (v:=.fn _ _ _) rfl) ?_
      refine Qp B0 ?_
      refine Qp (Eg (by kernel_rfl) rfl rfl rfl (E8 T V e ih 1 (Cc e) ha1 s)) ?_
      refine Qp (Qc rfl (Ry _ _ _ _ (k0 s) (k1 s) (by omega) (by omega))) ?_
      refine Cv 0 [_,.bool _] (_::_) ?_
      refine Ag (Dw (Bb (Aj ?_)))
      refine ⟨.inr rfl,[.agg [_,.bool _]],.cons (.box _ _ _ 0 _ _ _ _ rfl rfl rfl rfl rfl rfl) <| .nil,.cons _ (.refl _),?_⟩
      first
       | exact absurd (‹(e.op==10)=true›.symm.trans ‹(e.op==10)=false›) (by decide)
       | exact absurd (‹(e.op==11)=true›.symm.trans ‹(e.op==11)=false›) (by decide)
       | exact absurd (‹(e.op==9)=true›.symm.trans ‹(e.op==9)=false›) (by decide)
       | exact Eq.trans rfl (congrArg (fun q:Cs=>AV.agg (Ec q)) (Fq ‹(e.op==0)=true› ‹((e.val.num==1)==s)=true›)).symm
       | exact Eq.trans rfl (congrArg (fun q:Cs=>AV.agg (Ec q)) (Fm ‹(e.op==0)=true› ‹((e.val.num==1)==s)=false›)).symm
       | exact Eq.trans rfl (congrArg (fun q:Cs=>AV.agg (Ec q)) (Fp h00 ‹(e.op==12)=true›)).symm
       | exact Eq.trans rfl (congrArg (fun q:Cs=>AV.agg (Ec q)) (Fs hl2 h10 ‹((e.op==10)==s)=true›)).symm
       | exact Eq.trans rfl (congrArg (fun q:Cs=>AV.agg (Ec q)) (Fl hl2 h10 ‹((e.op==10)==s)=false›)).symm
       | exact Eq.trans rfl (congrArg (fun q:Cs=>AV.agg (Ec q)) (Fr hl2 h9 ‹(An T V (Av e)==1)=true›)).symm
       | exact Eq.trans rfl (congrArg (fun q:Cs=>AV.agg (Ec q)) (Fk h9 ‹(An T V (Av e)==1)=false› ‹(An T V (Av e)==0 && !s)=true›)).symm
       | exact Eq.trans rfl (congrArg (fun q:Cs=>AV.agg (Ec q)) (Io h9 ‹(An T V (Av e)==1)=false› ‹(An T V (Av e)==0 && !s)=false›)).symm
       | exact Eq.trans rfl (congrArg (fun q:Cs=>AV.agg (Ec q)) (Kn ‹(e.op==0)=false› ‹(e.op==12)=false› (Ur ‹(e.op==10)=false› ‹(e.op==11)=false›) ‹(e.op==9)=false›)).symm
     ·
      refine By (AW.seq ?_)
      have h10:(e.op==10||e.op==11)=true:=by first | exact Xu ‹(e.op==10)=true› | exact Xt ‹(e.op==11)=true›
      have hl2:=Ei hz.1 (by simp at h10;omega)
      have h00:0<e.args.length:=by omega
      have ha0:=Pl h00
      have ha1:=Sf hl2
      have m0:=A0 h00
      have m1:=Bk hl2
      have k0:=H5 _ (A2 hk m0)
      have k1:=H5 _ (A2 hk m1)
      have hs01:=Db hl2
      refine AW.region ?_
      refine Qp (Bm (v:=.fn _ _ _) rfl) ?_
      refine Qp B0 ?_
      refine Qp (Eg (by kernel_rfl) rfl rfl rfl (E8 T V e ih 0 (Av e) ha0 s)) ?_
      refine Qp (Bm (v:=.fn _ _ _) rfl) ?_
      refine Qp B0 ?_
      refine Qp (Eg (by kernel_rfl) rfl rfl rfl (E8 T V e ih 1 (Cc e) ha1 s)) ?_
      refine Qp (Qc rfl (iD _ _ _ _ ((k0 s).mono (Nat.le_trans (by omega) hse)) ((k1 s).mono (Nat.le_trans (by omega) hse)) (by omega) (by omega))) ?_
      refine Cv 0 [_,.bool _] (_::_) ?_
      refine Ag (AW.ret (Bb (Aj ?_)))
      refine ⟨.inr rfl,[.agg [_,.bool _]],.cons (.box _ _ _ 0 _ _ _ _ rfl rfl rfl rfl rfl rfl) <| .nil,.cons _ (.refl _),?_⟩
      first
       | exact absurd (‹(e.op==10)=true›.symm.trans ‹(e.op==10)=false›) (by decide)
       | exact absurd (‹(e.op==11)=true›.symm.trans ‹(e.op==11)=false›) (by decide)
       | exact absurd (‹(e.op==9)=true›.symm.trans ‹(e.op==9)=false›) (by decide)
       | exact Eq.trans rfl (congrArg (fun q:Cs=>AV.agg (Ec q)) (Fq ‹(e.op==0)=true› ‹((e.val.num==1)==s)=true›)).symm
       | exact Eq.trans rfl (congrArg (fun q:Cs=>AV.agg (Ec q)) (Fm ‹(e.op==0)=true› ‹((e.val.num==1)==s)=false›)).symm
       | exact Eq.trans rfl (congrArg (fun q:Cs=>AV.agg (Ec q)) (Fp h00 ‹(e.op==12)=true›)).symm
       | exact Eq.trans rfl (congrArg (fun q:Cs=>AV.agg (Ec q)) (Fs hl2 h10 ‹((e.op==10)==s)=true›)).symm
       | exact Eq.trans rfl (congrArg (fun q:Cs=>AV.agg (Ec q)) (Fl hl2 h10 ‹((e.op==10)==s)=false›)).symm
       | exact Eq.trans rfl (congrArg (fun q:Cs=>AV.agg (Ec q)) (Fr hl2 h9 ‹(An T V (Av e)==1)=true›)).symm
       | exact Eq.trans rfl (congrArg (fun q:Cs=>AV.agg (Ec q)) (Fk h9 ‹(An T V (Av e)==1)=false› ‹(An T V (Av e)==0 && !s)=true›)).symm
       | exact Eq.trans rfl (congrArg (fun q:Cs=>AV.agg (Ec q)) (Io h9 ‹(An T V (Av e)==1)=false› ‹(An T V (Av e)==0 && !s)=false›)).symm
       | exact Eq.trans rfl (congrArg (fun q:Cs=>AV.agg (Ec q)) (Kn ‹(e.op==0)=false› ‹(e.op==12)=false› (Ur ‹(e.op==10)=false› ‹(e.op==11)=false›) ‹(e.op==9)=false›)).symm
    ·
     refine Ai (Qp A9 (Qp Bl (Ag (A6 (fun hc9=>?_) fun hc9=>?_))))
     ·
      refine AW.seq ?_
      have h9:(e.op==9)=true:=‹(e.op==9)=true›
      have hl2:=Ei hz.1 (by simp at h9;omega)
      have h00:0<e.args.length:=by omega
      have ha0:=Pl h00
      have ha1:=Sf hl2
      have m0:=A0 h00
      have m1:=Bk hl2
      have k0:=H5 _ (A2 hk m0)
      have k1:=H5 _ (A2 hk m1)
      have hs01:=Db hl2
      refine AW.draw mixed (fun _=>True) trivial (by kernel_rfl) ?_
      refine Qn 0 rfl (Cq [_,_]) (Qn 1 rfl Lp (Qn 2 rfl Dy ?_))
      refine Qn 3 rfl (Af (c:=[Iq _,_,Iq _,Iq _,Iq _,Iq _,Iq _,.str _]) Ah rfl rfl rfl rfl rfl rfl (by decide) (E4 h00)) ?_
      refine Qn 4 rfl El ?_
      refine Qn 5 rfl (Qc rfl (Wu T V _ (A2 hk m0))) ?_
      refine Qn 6 rfl Ap ?_
      refine Jn.done _ _ (by kernel_rfl) ?_
      refine Ad (AW.block (Ai (Qp Az (Qp A9 (Qp Bl (Ag (A6 (fun hc10=>?_) fun hc10=>?_)))))))
      ·
       refine Ai ?_
       refine Qp (Bm (v:=.fn _ _ _) rfl) ?_
       refine Qp (Eg (by kernel_rfl) rfl rfl rfl (E8 T V e ih 0 (Av e) ha0 true)) ?_
       refine Qp (Bm (v:=.fn _ _ _) rfl) ?_
       refine Qp B0 ?_
       refine Qp (Eg (by kernel_rfl) rfl rfl rfl (E8 T V e ih 1 (Cc e) ha1 s)) ?_
       refine Qp (Qc rfl (Ry _ _ _ _ (k0 true) (k1 s) (by omega) (by omega))) ?_
       refine Qp (Bm (v:=.fn _ _ _) rfl) ?_
       refine Qp (Eg (by kernel_rfl) rfl rfl rfl (E8 T V e ih 0 (Av e) ha0 false)) ?_
       refine Qp (Bm (v:=.fn _ _ _) rfl) ?_
       refine Qp B0 (Qp Hc ?_)
       refine Qp (Eg (by kernel_rfl) rfl rfl rfl (E8 T V e ih 1 (Cc e) ha1 (!s))) ?_
       refine Qp (Qc rfl (Ry _ _ _ _ (k0 false) (k1 (!s)) (by omega) (by omega))) ?_
       refine Qp (Qc rfl (iD _ _ _ _ ((Ml (k0 true) (k1 s)).mono (Nat.le_trans (by omega) hse)) ((Ml (k0 false) (k1 (!s))).mono (Nat.le_trans (by omega) hse)) (by omega) (by omega))) ?_
       refine Cv 0 [_,.bool _] (_::_) ?_
       refine Ag (AW.ret (Bb (Bb (Aj ?_))))
       refine ⟨.inr rfl,[.agg [_,.bool _]],.cons (.box _ _ _ 0 _ _ _ _ rfl rfl rfl rfl rfl rfl) <| .nil,.cons _ (.refl _),?_⟩
       first
        | exact absurd (‹(e.op==10)=true›.symm.trans ‹(e.op==10)=false›) (by decide)
        | exact absurd (‹(e.op==11)=true›.symm.trans ‹(e.op==11)=false›) (by decide)
        | exact absurd (‹(e.op==9)=true›.symm.trans ‹(e.op==9)=false›) (by decide)
        | exact Eq.trans rfl (congrArg (fun q:Cs=>AV.agg (Ec q)) (Fq ‹(e.op==0)=true› ‹((e.val.num==1)==s)=true›)).symm
        | exact Eq.trans rfl (congrArg (fun q:Cs=>AV.agg (Ec q)) (Fm ‹(e.op==0)=true› ‹((e.val.num==1)==s)=false›)).symm
        | exact Eq.trans rfl (congrArg (fun q:Cs=>AV.agg (Ec q)) (Fp h00 ‹(e.op==12)=true›)).symm
        | exact Eq.trans rfl (congrArg (fun q:Cs=>AV.agg (Ec q)) (Fs hl2 h10 ‹((e.op==10)==s)=true›)).symm
        | exact Eq.trans rfl (congrArg (fun q:Cs=>AV.agg (Ec q)) (Fl hl2 h10 ‹((e.op==10)==s)=false›)).symm
        | exact Eq.trans rfl (congrArg (fun q:Cs=>AV.agg (Ec q)) (Fr hl2 h9 ‹(An T V (Av e)==1)=true›)).symm
        | exact Eq.trans rfl (congrArg (fun q:Cs=>AV.agg (Ec q)) (Fk h9 ‹(An T V (Av e)==1)=false› ‹(An T V (Av e)==0 && !s)=true›)).symm
        | exact Eq.trans rfl (congrArg (fun q:Cs=>AV.agg (Ec q)) (Io h9 ‹(An T V (Av e)==1)=false› ‹(An T V (Av e)==0 && !s)=false›)).symm
        | exact Eq.trans rfl (congrArg (fun q:Cs=>AV.agg (Ec q)) (Kn ‹(e.op==0)=false› ‹(e.op==12)=false› (Ur ‹(e.op==10)=false› ‹(e.op==11)=false›) ‹(e.op==9)=false›)).symm
      ·
       refine Ai (Qp Az (Qp A9 (Qp B0 (Qg [] Qw B0 (Qg [(80,_)] Qw Hc (Qp F7 (Qp Bl (Ag (A6 (fun hc11=>?_) fun hc11=>?_)))))))))
       ·
        refine AW.seq ?_
        refine AW.draw mixed (fun _=>True) trivial (by kernel_rfl) ?_
        refine Qn 0 rfl Lp (Qn 1 rfl Dy ?_)
        refine Qn 2 rfl (Af (c:=[Iq _,_,Iq _,Iq _,Iq _,Iq _,Iq _,.str _]) Ah rfl rfl rfl rfl rfl rfl (by decide) (E4 h00)) ?_
        refine Qn 3 rfl El (Qn 4 rfl Lp (Qn 5 rfl Dy ?_))
        refine Qn 6 rfl (Af (c:=[Iq _,_,Iq _,Iq _,Iq _,Iq _,Iq _,.str _]) Ah rfl rfl rfl rfl rfl rfl (by decide) (H7 hl2)) ?_
        refine Qn 7 rfl El ?_
        refine Qn 8 rfl (Qc rfl (d_two 7 _ _)) ?_
        refine Qn 9 rfl (Fz [Iq _,_,Iq _,Iq _,Iq _,Iq _,Iq _,.str _,.bool _]) (Qn 10 rfl Lp (Qn 11 rfl Dy ?_))
        refine Qn 12 rfl (Af (c:=[Iq _,_,Iq _,Iq _,Iq _,Iq _,Iq _,.str _]) Ah rfl rfl rfl rfl rfl rfl (by decide) (H7 hl2)) ?_
        refine Qn 13 rfl El (Qn 14 rfl Lp (Qn 15 rfl Dy ?_))
        refine Qn 16 rfl (Af (c:=[Iq _,_,Iq _,Iq _,Iq _,Iq _,Iq _,.str _]) Ah rfl rfl rfl rfl rfl rfl (by decide) (E4 h00)) ?_
        refine Qn 17 rfl El ?_
        refine Qn 18 rfl (Qc rfl (d_two 7 _ _)) ?_
        refine Qn 19 rfl (Fz [Iq _,_,Iq _,Iq _,Iq _,Iq _,Iq _,.str _,.bool _]) ?_
        refine Qn 20 rfl (A1 (es:=[[Iq _,_,Iq _,Iq _,Iq _,Iq _,Iq _,.str _,.bool _],[Iq _,_,Iq _,Iq _,Iq _,Iq _,Iq _,.str _,.bool _]]) Ah rfl rfl rfl rfl rfl rfl rfl rfl rfl) ?_
        refine Qn 21 rfl (Qc rfl (Wg [⟨two 7 (Av e) (Cc e),false⟩,⟨two 7 (Cc e) (Av e),false⟩] (show 2≤256 by decide))) ?_
        refine Jn.eff _ _ 22 _ _ rfl (by kernel_rfl) rfl rfl (B2 (k:=0) (v:=.agg _) (cs':=[_,.bool _]) (H2:=_::_) Ah rfl rfl rfl rfl (rfl) rfl rfl rfl rfl) (fun _ _ _=>trivial) ?_
        rintro _ _ ⟨rfl,rfl⟩
        refine Jn.done _ _ (by kernel_rfl) ?_
        refine Ad (AW.ret (Bb (Bb (Aj ?_))))
        refine ⟨.inr rfl,[.agg [_,.bool _]],.cons (.box _ _ _ 0 _ _ _ _ rfl rfl rfl rfl rfl rfl) <| .nil,.cons _ (.refl _),?_⟩
        first
         | exact absurd (‹(e.op==10)=true›.symm.trans ‹(e.op==10)=false›) (by decide)
         | exact absurd (‹(e.op==11)=true›.symm.trans ‹(e.op==11)=false›) (by decide)
         | exact absurd (‹(e.op==9)=true›.symm.trans ‹(e.op==9)=false›) (by decide)
         | exact Eq.trans rfl (congrArg (fun q:Cs=>AV.agg (Ec q)) (Fq ‹(e.op==0)=true› ‹((e.val.num==1)==s)=true›)).symm
         | exact Eq.trans rfl (congrArg (fun q:Cs=>AV.agg (Ec q)) (Fm ‹(e.op==0)=true› ‹((e.val.num==1)==s)=false›)).symm
         | exact Eq.trans rfl (congrArg (fun q:Cs=>AV.agg (Ec q)) (Fp h00 ‹(e.op==12)=true›)).symm
         | exact Eq.trans rfl (congrArg (fun q:Cs=>AV.agg (Ec q)) (Fs hl2 h10 ‹((e.op==10)==s)=true›)).symm
         | exact Eq.trans rfl (congrArg (fun q:Cs=>AV.agg (Ec q)) (Fl hl2 h10 ‹((e.op==10)==s)=false›)).symm
         | exact Eq.trans rfl (congrArg (fun q:Cs=>AV.agg (Ec q)) (Fr hl2 h9 ‹(An T V (Av e)==1)=true›)).symm
         | exact Eq.trans rfl (congrArg (fun q:Cs=>AV.agg (Ec q)) (Fk h9 ‹(An T V (Av e)==1)=false› ‹(An T V (Av e)==0 && !s)=true›)).symm
         | exact Eq.trans rfl (congrArg (fun q:Cs=>AV.agg (Ec q)) (Io h9 ‹(An T V (Av e)==1)=false› ‹(An T V (Av e)==0 && !s)=false›)).symm
         | exact Eq.trans rfl (congrArg (fun q:Cs=>AV.agg (Ec q)) (Kn ‹(e.op==0)=false› ‹(e.op==12)=false› (Ur ‹(e.op==10)=false› ‹(e.op==11)=false›) ‹(e.op==9)=false›)).symm
       ·
        refine AW.skip (Bu (Bu (Ad (Ai (Qp El (Qp B0 (Qp Hc (Qp (Fz [Iq _,_,Iq _,Iq _,Iq _,Iq _,Iq _,.str _,.bool _]) ?_))))))))
        refine Qp (A1 (es:=[[Iq _,_,Iq _,Iq _,Iq _,Iq _,Iq _,.str _,.bool _]]) Ah rfl rfl rfl rfl rfl rfl rfl rfl rfl) ?_
        refine Qp (Qc rfl (Wg [⟨e,!s⟩] (show 1≤256 by decide))) ?_
        refine Cv 0 [_,.bool _] (_::_) ?_
        refine Ag (AW.ret ?_)
        refine ⟨.inr rfl,[.agg [_,.bool _]],.cons (.box _ _ _ 0 _ _ _ _ rfl rfl rfl rfl rfl rfl) <| .nil,.cons _ (.refl _),?_⟩
        first
         | exact absurd (‹(e.op==10)=true›.symm.trans ‹(e.op==10)=false›) (by decide)
         | exact absurd (‹(e.op==11)=true›.symm.trans ‹(e.op==11)=false›) (by decide)
         | exact absurd (‹(e.op==9)=true›.symm.trans ‹(e.op==9)=false›) (by decide)
         | exact Eq.trans rfl (congrArg (fun q:Cs=>AV.agg (Ec q)) (Fq ‹(e.op==0)=true› ‹((e.val.num==1)==s)=true›)).symm
         | exact Eq.trans rfl (congrArg (fun q:Cs=>AV.agg (Ec q)) (Fm ‹(e.op==0)=true› ‹((e.val.num==1)==s)=false›)).symm
         | exact Eq.trans rfl (congrArg (fun q:Cs=>AV.agg (Ec q)) (Fp h00 ‹(e.op==12)=true›)).symm
         | exact Eq.trans rfl (congrArg (fun q:Cs=>AV.agg (Ec q)) (Fs hl2 h10 ‹((e.op==10)==s)=true›)).symm
         | exact Eq.trans rfl (congrArg (fun q:Cs=>AV.agg (Ec q)) (Fl hl2 h10 ‹((e.op==10)==s)=false›)).symm
         | exact Eq.trans rfl (congrArg (fun q:Cs=>AV.agg (Ec q)) (Fr hl2 h9 ‹(An T V (Av e)==1)=true›)).symm
         | exact Eq.trans rfl (congrArg (fun q:Cs=>AV.agg (Ec q)) (Fk h9 ‹(An T V (Av e)==1)=false› ‹(An T V (Av e)==0 && !s)=true›)).symm
         | exact Eq.trans rfl (congrArg (fun q:Cs=>AV.agg (Ec q)) (Io h9 ‹(An T V (Av e)==1)=false› ‹(An T V (Av e)==0 && !s)=false›)).symm
         | exact Eq.trans rfl (congrArg (fun q:Cs=>AV.agg (Ec q)) (Kn ‹(e.op==0)=false› ‹(e.op==12)=false› (Ur ‹(e.op==10)=false› ‹(e.op==11)=false›) ‹(e.op==9)=false›)).symm
     ·
      refine AW.skip (Bu (Ad (Ai (Qp El (Qp B0 (Qp Hc (Qp (Fz [Iq _,_,Iq _,Iq _,Iq _,Iq _,Iq _,.str _,.bool _]) ?_)))))))
      refine Qp (A1 (es:=[[Iq _,_,Iq _,Iq _,Iq _,Iq _,Iq _,.str _,.bool _]]) Ah rfl rfl rfl rfl rfl rfl rfl rfl rfl) ?_
      refine Qp (Qc rfl (Wg [⟨e,!s⟩] (show 1≤256 by decide))) ?_
      refine Cv 0 [_,.bool _] (_::_) ?_
      refine Ag (AW.ret ?_)
      refine ⟨.inr rfl,[.agg [_,.bool _]],.cons (.box _ _ _ 0 _ _ _ _ rfl rfl rfl rfl rfl rfl) <| .nil,.cons _ (.refl _),?_⟩
      first
       | exact absurd (‹(e.op==10)=true›.symm.trans ‹(e.op==10)=false›) (by decide)
       | exact absurd (‹(e.op==11)=true›.symm.trans ‹(e.op==11)=false›) (by decide)
       | exact absurd (‹(e.op==9)=true›.symm.trans ‹(e.op==9)=false›) (by decide)
       | exact Eq.trans rfl (congrArg (fun q:Cs=>AV.agg (Ec q)) (Fq ‹(e.op==0)=true› ‹((e.val.num==1)==s)=true›)).symm
       | exact Eq.trans rfl (congrArg (fun q:Cs=>AV.agg (Ec q)) (Fm ‹(e.op==0)=true› ‹((e.val.num==1)==s)=false›)).symm
       | exact Eq.trans rfl (congrArg (fun q:Cs=>AV.agg (Ec q)) (Fp h00 ‹(e.op==12)=true›)).symm
       | exact Eq.trans rfl (congrArg (fun q:Cs=>AV.agg (Ec q)) (Fs hl2 h10 ‹((e.op==10)==s)=true›)).symm
       | exact Eq.trans rfl (congrArg (fun q:Cs=>AV.agg (Ec q)) (Fl hl2 h10 ‹((e.op==10)==s)=false›)).symm
       | exact Eq.trans rfl (congrArg (fun q:Cs=>AV.agg (Ec q)) (Fr hl2 h9 ‹(An T V (Av e)==1)=true›)).symm
       | exact Eq.trans rfl (congrArg (fun q:Cs=>AV.agg (Ec q)) (Fk h9 ‹(An T V (Av e)==1)=false› ‹(An T V (Av e)==0 && !s)=true›)).symm
       | exact Eq.trans rfl (congrArg (fun q:Cs=>AV.agg (Ec q)) (Io h9 ‹(An T V (Av e)==1)=false› ‹(An T V (Av e)==0 && !s)=false›)).symm
       | exact Eq.trans rfl (congrArg (fun q:Cs=>AV.agg (Ec q)) (Kn ‹(e.op==0)=false› ‹(e.op==12)=false› (Ur ‹(e.op==10)=false› ‹(e.op==11)=false›) ‹(e.op==9)=false›)).symm
theorem nT (T:List Sc)(hl:T.length≤1048576)(hst:∀s∈T,Ig s)(V:List Va)(hvl:V.length≤1048576)(e:Ex)(hse:Ar e≤1048576):Ax Tryz.prog 9 [.sl 2 (T.map Ob),.sl 2 (V.map S4),.agg (cE e)] (.tuple [.sl 1 ((Ce T V e).1.map P1),.int .i64 (Ce T V e).2]):=by
 refine Ax.body (n:=28) Ah Tryz.func9 rfl rfl rfl fun H=>?_
 refine Ai (Qp Kx ?_)
 refine Qp (Bz (z:=1) rfl) ?_
 refine Qp Ap (Dm (Qp Dx (Qp Dx (Qp (Fz [_,_]) ?_))))
 refine Qe (Ak (l:=[.sl 2 [],.sl 2 []]) (by kernel_rfl)) ?_
 rintro _ _ ⟨b8,rfl,rfl⟩
 refine Cv 0 [_,_] (_::_) ?_
 refine AOL.ghost (GS.Aan (t:=8) 0 rfl rfl) ?_
 refine Ag (AW.seq (Ai (Qp (Cq [_,_]) (Qp El ?_))))
 refine Qp (Qc rfl (Oo T hl hst V hvl e hse)) ?_
 refine Qp Ap (Dm (Qp Az (Qp Cr (Ag (A6 (fun hc1=>?_) fun hc1=>?_)))))
 ·
  refine Ai (Qp Az ?_)
  refine Qp (Bz (z:=1) rfl) ?_
  refine Qp Ap (Ag (Dw ?_))
  refine La (.sl _ _) (Iq _) ?_
  exact Eq.trans rfl (congrArg (fun q:List (List Lit)×Int=>AV.tuple [.sl 1 (q.1.map P1),.int .i64 q.2]) (Yq hc1)).symm
 ·
  have hk:=(O3 hc1).1
  refine By (Ai (Qp (Cq [_,_]) (Qp El ?_)))
  refine Qp (Qc rfl (eR T V e hk.kok (Jy hk) true)) ?_
  refine Qe (Ak (l:=[.sl 1 [],.bool false]) (by kernel_rfl)) ?_
  rintro _ _ ⟨b10,rfl,rfl⟩
  refine Cv 0 [_,.bool _] (_::_) ?_
  refine AOL.ghost (GS.Aan (t:=10) 0 rfl rfl) ?_
  refine Ag (AW.seq (Ai (Qp (Qf [.bool _]) (Qp gV (Qp Hc (Ag (A6 (fun hc2=>?_) fun hc2=>?_)))))))
  ·
   refine Ai ?_
   refine Qp (Bz (z:=1) rfl) ?_
   refine Qp Ap (Ag (Dw ?_))
   refine La (.sl _ _) (Iq _) ?_
   exact Eq.trans rfl (congrArg (fun q:List (List Lit)×Int=>AV.tuple [.sl 1 (q.1.map P1),.int .i64 q.2]) (aC hc1 hc2)).symm
  ·
   refine By (Ai (Qp (Qf [_,.bool _]) (Qp Dy (Qp Sr (Qp Ap (Ag (AW.ret ?_)))))))
   refine La (.sl _ _) (Iq _) ?_
   exact Eq.trans rfl (congrArg (fun q:List (List Lit)×Int=>AV.tuple [.sl 1 (q.1.map P1),.int .i64 q.2]) (aE hc1 hc2)).symm

end Go.Proofs.YtjedflcpjlgokaaGreatDoor
