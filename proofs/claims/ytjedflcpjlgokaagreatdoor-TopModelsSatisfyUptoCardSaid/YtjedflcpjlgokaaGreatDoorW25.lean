/-
  Walks of layer 8: kinds, ExprKinds. No condition.
-/
import Derived.Test.YtjedflcpjlgokaaGreatDoorAz
import Derived.Test.YtjedflcpjlgokaaGreatDoorK08
import Derived.Test.YtjedflcpjlgokaaGreatDoorK12
import Derived.Test.YtjedflcpjlgokaaGreatDoorK03
import Derived.KernelRfl
namespace Go.Proofs.YtjedflcpjlgokaaGreatDoor
open Go Go.Aw
set_option maxHeartbeats 1600000
set_option maxRecDepth 20000
set_option linter.unusedVariables false
set_option linter.unusedSimpArgs false

def cT (types:List Sc)(vars:List Va):List AV:=[.sl 2 (types.map Ob),.sl 2 (vars.map S4)]
def Ki (types:List Sc)(vars:List Va):Prop:=∀v∈vars,0≤v.type∧v.type<(types.length:Int)
theorem oL {e:Ex}(h:B3 e=0)(h4:e.op=4):1≤e.kind∧e.kind≤5:=by
 unfold B3 at h
 split at h
 · cases h
 split at h
 · cases h
 split at h
 · cases h
 split at h
 · cases h
 rename_i h5
 simp [h4] at h5
 omega
theorem rs_es {e:Ex}(h:B3 e=0)(c:Bool)(v:Vl):(e.op==4&&(c || !Gf e.kind v))=(e.op==4&&(c || !Dz e.kind v)):=by
 by_cases h4:e.op=4
 ·
  have hk:=oL h h4
  have:Gf e.kind v=Dz e.kind v:=by
   unfold Gf Dz
   have:(e.kind==0)=false:=by simp;omega
   rw [this,Bool.or_false]
  rw [this]
 ·
  have:(e.op==4)=false:=by simp [h4]
  rw [this];rfl
theorem Wz {types:List Sc}{vars:List Va}(h:Iv types vars=0):Ao (Oc types.length) vars=0:=by
 unfold Iv at h
 split at h
 · cases h
 · exact h
theorem cJ {types:List Sc}{vars:List Va}(h:Ao (Oc types.length) vars=0):Ki types vars:=by
 intro v hv
 have:=Gy h v hv
 unfold Oc at this
 split at this
 · cases this
 · rename_i h1;simp at h1;omega

theorem c86 (types:List Sc)(vars:List Va)(hv:Ki types vars)(e:Ex)(hn:B3 e=0):Ax Tryz.prog 101 [.agg (cT types vars),.agg (cE e)] (.tuple [.int .i64 (F2 types vars e).1,.int .i64 (F2 types vars e).2]):=by
 have hvr:=Mm hn
 have hfr:=Jr hn
 refine Ax.body (n:=70) Ah Tryz.func101 rfl rfl rfl fun H=>?_
 refine Ai (Qp (Gd [_,_]) (Qp Kx (Qp Ap (Qp Ap (Ag (AW.seq (Ai (Qp Jl (Qp Bp ?_)))))))))
 refine Qp A9 (Ag (A6 (fun hc1=>?_) fun hc1=>?_))
 ·
  refine Ai (Qp Jq (Qp Jq (Qp Bp (Qp Ap (Qp Ap (Ag (Dw ?_)))))))
  refine La (Iq _) (Iq _) ?_
  simp only [Ae,F2]
  try simp only [hfl]
  try simp only [hka]
  (first | rw [if_pos hc1] | skip)
  first | done | rfl
 ·
  refine By (AW.seq (Ai (Qp Te (Qp Bp (Qp (Qf [_]) (Qp Dy ?_))))))
  refine Qp (Al (n:=vars.length) Ah rfl rfl rfl (by simp)) ?_
  refine Qp Nt (Ag (A6 (fun hc2=>?_) fun hc2=>?_))
  ·
   refine Ai (Qp Ap (Qp Ap (Ag (Dw ?_))))
   refine La (Iq _) (Iq _) ?_
   simp only [Ae,F2]
   try simp only [hfl]
   try simp only [hka]
   (first | rw [iN hc1] | skip);(first | rw [if_pos hc2] | skip)
   first | done | rfl
  ·
   refine By (AW.seq (Ai (Qp Jl (Qp Bp (Qp A9 (Qp B0 (Qg [] Qw Jl (Qg [(24,_)] Qw Bp (Qg [(25,_)] Qw A9 ?_)))))))))
   refine Qp E1 (Ag (A6 (fun hc3=>?_) fun hc3=>?_))
   ·
    refine Ai (Qp Ap (Qp Ap (Ag (Dw ?_))))
    refine La (Iq _) (Iq _) ?_
    simp only [Ae,F2]
    try simp only [hfl]
    try simp only [hka]
    (first | rw [iN hc1] | skip);(first | rw [iN hc2] | skip);(first | rw [if_pos hc3] | skip)
    first | done | rfl
   ·
    refine (Hi (l:=vars) hvr.1 (by simp at hc2;omega)).elim fun v hv1=>?_
    have hvt:=hv v (List.mem_of_getElem? hv1)
    refine (Hi (l:=types) hvt.1 hvt.2).elim fun s hs1=>?_
    have hfl:Ez types vars e.var=s.fields:=by simp [Ez,hv1,hs1]
    refine By (AW.seq ?_)
    refine AW.draw mixed (fun _=>True) trivial (by kernel_rfl) ?_
    refine Qn 0 rfl (Qf [_,_]) (Qn 1 rfl Dy (Qn 2 rfl (Qf [_]) (Qn 3 rfl Dy (Qn 4 rfl Te (Qn 5 rfl Bp ?_)))))
    refine Qn 6 rfl (Af (c:=[.str _,Iq _]) Ah rfl rfl rfl rfl rfl rfl (hvr.1) (Bi hv1)) ?_
    refine Qn 7 rfl (Qf [Iq _]) (Qn 8 rfl Bp ?_)
    refine Qn 9 rfl (Af (c:=[.str _,_]) Ah rfl rfl rfl rfl rfl rfl (hvt.1) (Bi hs1)) ?_
    refine Qn 10 rfl (Qf [_]) (Qn 11 rfl Dy (Qn 12 rfl Sr ?_))
    refine Jn.done _ _ (by kernel_rfl) ?_
    refine Ad (AW.seq (Ai (Qp Oq (Qp Bp (Qp Dx ?_)))))
    refine Qp (Al (n:=s.fields.length) Ah rfl rfl rfl (by simp)) ?_
    refine Qp Nt (Ag (A6 (fun hc4=>?_) fun hc4=>?_))
    ·
     refine Ai (Qp Ap (Qp Ap (Ag (Dw ?_))))
     refine La (Iq _) (Iq _) ?_
     simp only [Ae,F2]
     try simp only [hfl]
     try simp only [hka]
     (first | rw [iN hc1] | skip);(first | rw [iN hc2] | skip);(first | rw [iN hc3] | skip);(first | rw [if_pos hc4] | skip)
     first | done | rfl
    ·
     refine (Hi (l:=s.fields) hfr (by simp at hc4;omega)).elim fun f hf1=>?_
     have hka:Hg s.fields e.field=f.kind:=by simp [Hg,hf1]
     refine By (Ai (Qp Dx (Qp Oq (Qp Bp ?_))))
     refine Qp (Af (c:=[.str _,Iq _]) Ah rfl rfl rfl rfl rfl rfl (hfr) (Bi hf1)) ?_
     refine Qp (Qf [Iq _]) (Qp Bp (Qp Ap (Ag (AW.seq (Ai (Qp Jl (Qp Bp (Qp A9 (Qp B0 ?_)))))))))
     refine Qg [] Qw Az (Qg [] Qw Jq (Qg [(56,_)] Qw Jq (Qg [(57,_)] Qw Bp ?_)))
     refine AOL.Aar (y:=.bool _) _ [(55,_),(58,_)] rfl (nC.all ⟨Ent.Aam _ _,Ent.Aam _ _,trivial⟩) (fun hG=>P7 rfl rfl) rfl ?_
     refine Qg [(59,_)] Qw B0 (Qg [] Qw Sj (Qg [(61,_)] Qw Bp (Qg [] Qw Az (Qg [(63,_)] Qw (Fz [Iq _,Iq _,.str _]) ?_))))
     refine AOL.Aar (y:=.bool _) _ [(62,_),(64,_)] rfl (nC.all ⟨Ent.Aam _ _,Ent.Aam _ _,trivial⟩) (fun hG=>E3 (by kernel_rfl) rfl rfl (c99 _ ⟨_,_,_⟩)) rfl ?_
     refine Qg [(65,_)] Qw Hc (Qg [(60,_),(66,_)] Qw E1 (Qp F7 (Ag (A6 (fun hc5=>?_) fun hc5=>?_))))
     ·
      refine Ai (Qp Ap (Qp Ap (Ag (Dw ?_))))
      refine La (Iq _) (Iq _) ?_
      simp only [Ae,F2]
      try simp only [hfl]
      try simp only [hka]
      (first | rw [iN hc1] | skip);(first | rw [iN hc2] | skip);(first | rw [iN hc3] | skip);(first | rw [iN hc4] | skip);(first | rw [if_pos hc5] | skip)
      first | done | rfl
     ·
      refine By (Ai (Qp Az (Qp Ap (Qp Ap (Ag (AW.ret ?_))))))
      refine La (Iq _) (Iq _) ?_
      simp only [Ae,F2]
      try simp only [hfl]
      try simp only [hka]
      (first | rw [iN hc1] | skip);(first | rw [iN hc2] | skip);(first | rw [iN hc3] | skip);(first | rw [iN hc4] | skip);(first | rw [iN hc5] | skip)
      first | done | rfl
theorem c89 (types:List Sc)(vars:List Va)(hv:Ki types vars)(e:Ex)(hn:B3 e=0):Ax Tryz.prog 118 [.sl 2 (types.map Ob),.sl 2 (vars.map S4),.agg (cE e)] (.tuple [.int .i64 (F2 types vars e).1,.int .i64 (F2 types vars e).2]):=by
 have hvr:=Mm hn
 have hfr:=Jr hn
 refine Ax.body (n:=69) Ah Tryz.func118 rfl rfl rfl fun H=>?_
 refine Ai (Qp Kx (Qp Ap (Qp Ap (Ag (AW.seq (Ai (Qp Jl (Qp Bp (Qp A9 ?_)))))))))
 refine Ag (A6 (fun hc1=>?_) fun hc1=>?_)
 ·
  refine Ai (Qp Jq (Qp Jq (Qp Bp (Qp Ap (Qp Ap (Ag (Dw ?_)))))))
  refine La (Iq _) (Iq _) ?_
  simp only [Ae,F2]
  try simp only [hfl]
  try simp only [hka]
  (first | rw [if_pos hc1] | skip)
  first | done | rfl
 ·
  refine By (AW.seq (Ai (Qp Te (Qp Bp (Qp Dx ?_)))))
  refine Qp (Al (n:=vars.length) Ah rfl rfl rfl (by simp)) ?_
  refine Qp Nt (Ag (A6 (fun hc2=>?_) fun hc2=>?_))
  ·
   refine Ai (Qp Ap (Qp Ap (Ag (Dw ?_))))
   refine La (Iq _) (Iq _) ?_
   simp only [Ae,F2]
   try simp only [hfl]
   try simp only [hka]
   (first | rw [iN hc1] | skip);(first | rw [if_pos hc2] | skip)
   first | done | rfl
  ·
   refine By (AW.seq (Ai (Qp Jl (Qp Bp (Qp A9 (Qp B0 (Qg [] Qw Jl (Qg [(25,_)] Qw Bp (Qg [(26,_)] Qw A9 ?_)))))))))
   refine Qp E1 (Ag (A6 (fun hc3=>?_) fun hc3=>?_))
   ·
    refine Ai (Qp Ap (Qp Ap (Ag (Dw ?_))))
    refine La (Iq _) (Iq _) ?_
    simp only [Ae,F2]
    try simp only [hfl]
    try simp only [hka]
    (first | rw [iN hc1] | skip);(first | rw [iN hc2] | skip);(first | rw [if_pos hc3] | skip)
    first | done | rfl
   ·
    refine (Hi (l:=vars) hvr.1 (by simp at hc2;omega)).elim fun v hv1=>?_
    have hvt:=hv v (List.mem_of_getElem? hv1)
    refine (Hi (l:=types) hvt.1 hvt.2).elim fun s hs1=>?_
    have hfl:Ez types vars e.var=s.fields:=by simp [Ez,hv1,hs1]
    refine By (Ai (Qp Dx (Qp Dx (Qp Te (Qp Bp ?_)))))
    refine Qp (Af (c:=[.str _,Iq _]) Ah rfl rfl rfl rfl rfl rfl (hvr.1) (Bi hv1)) ?_
    refine Qp (Qf [Iq _]) (Qp Bp ?_)
    refine Qp (Af (c:=[.str _,_]) Ah rfl rfl rfl rfl rfl rfl (hvt.1) (Bi hs1)) ?_
    refine Qp (Qf [_]) (Qp Dy (Qp Sr (Ag (AW.seq (Ai (Qp Oq (Qp Bp (Qp Dx ?_))))))))
    refine Qp (Al (n:=s.fields.length) Ah rfl rfl rfl (by simp)) ?_
    refine Qp Nt (Ag (A6 (fun hc4=>?_) fun hc4=>?_))
    ·
     refine Ai (Qp Ap (Qp Ap (Ag (Dw ?_))))
     refine La (Iq _) (Iq _) ?_
     simp only [Ae,F2]
     try simp only [hfl]
     try simp only [hka]
     (first | rw [iN hc1] | skip);(first | rw [iN hc2] | skip);(first | rw [iN hc3] | skip);(first | rw [if_pos hc4] | skip)
     first | done | rfl
    ·
     refine (Hi (l:=s.fields) hfr (by simp at hc4;omega)).elim fun f hf1=>?_
     have hka:Hg s.fields e.field=f.kind:=by simp [Hg,hf1]
     refine By (Ai (Qp Dx (Qp Oq (Qp Bp ?_))))
     refine Qp (Af (c:=[.str _,Iq _]) Ah rfl rfl rfl rfl rfl rfl (hfr) (Bi hf1)) ?_
     refine Qp (Qf [Iq _]) (Qp Bp (Qp Ap (Ag (AW.seq (Ai (Qp Jl (Qp Bp (Qp A9 (Qp B0 ?_)))))))))
     refine Qg [] Qw Az (Qg [] Qw Jq (Qg [(55,_)] Qw Jq (Qg [(56,_)] Qw Bp ?_)))
     refine AOL.Aar (y:=.bool _) _ [(54,_),(57,_)] rfl (nC.all ⟨Ent.Aam _ _,Ent.Aam _ _,trivial⟩) (fun hG=>P7 rfl rfl) rfl ?_
     refine Qg [(58,_)] Qw B0 (Qg [] Qw Sj (Qg [(60,_)] Qw Bp (Qg [] Qw Az (Qg [(62,_)] Qw (Fz [Iq _,Iq _,.str _]) ?_))))
     refine AOL.Aar (y:=.bool _) _ [(61,_),(63,_)] rfl (nC.all ⟨Ent.Aam _ _,Ent.Aam _ _,trivial⟩) (fun hG=>E3 (by kernel_rfl) rfl rfl (c101 _ ⟨_,_,_⟩)) rfl ?_
     refine Qg [(64,_)] Qw Hc (Qg [(59,_),(65,_)] Qw E1 (Qp F7 (Ag (A6 (fun hc5=>?_) fun hc5=>?_))))
     ·
      rw [rs_es hn] at hc5
      refine Ai (Qp Ap (Qp Ap (Ag (Dw ?_))))
      refine La (Iq _) (Iq _) ?_
      simp only [Ae,F2]
      try simp only [hfl]
      try simp only [hka]
      (first | rw [iN hc1] | skip);(first | rw [iN hc2] | skip);(first | rw [iN hc3] | skip);(first | rw [iN hc4] | skip);(first | rw [if_pos hc5] | skip)
      first | done | rfl
     ·
      rw [rs_es hn] at hc5
      refine By (Ai (Qp Az (Qp Ap (Qp Ap (Ag (AW.ret ?_))))))
      refine La (Iq _) (Iq _) ?_
      simp only [Ae,F2]
      try simp only [hfl]
      try simp only [hka]
      (first | rw [iN hc1] | skip);(first | rw [iN hc2] | skip);(first | rw [iN hc3] | skip);(first | rw [iN hc4] | skip);(first | rw [iN hc5] | skip)
      first | done | rfl
theorem c90 (op:Int):Ax Tryz.prog 120 [.int .i64 op] (.int .i64 (Vk op)):=by
 refine Ax.body (n:=9) Ah Tryz.func120 rfl rfl rfl fun H=>?_
 refine Ai (Qp Ap (Ag (AW.seq (Ai (Qp Az (Qp A9 (Qp B0 (Qg [] Qw Az (Qg [(6,_)] Qw A9 ?_)))))))))
 refine Qp E1 (Ag (A6 (fun hc1=>?_) fun hc1=>?_))
 ·
  refine Ai (Qp Ap (Ag (Dw ?_)))
  refine Qr (Iq _) ?_
  simp only [Ae,Vk]
  (first | rw [if_pos hc1] | skip)
 ·
  refine By (Ai (Qp Ap (Ag (AW.ret ?_))))
  refine Qr (Iq _) ?_
  simp only [Ae,Vk]
  (first | rw [iN hc1] | skip)
theorem c58 (types:List Sc)(vars:List Va)(hv:Ki types vars)(e:Ex)(hn:Ca e=0)(hs:Ar e≤1048576):Ax Tryz.prog 70 [.agg (cT types vars),.agg (cE e)] (.tuple [.int .i64 (Cj types vars e).1,.int .i64 (Cj types vars e).2]):=by
 revert hn hs
 induction e using Ex.Aav
 rename_i e ih
 intro hn hs
 have hz:=Bc hn
 have hal:=Ng e hs
 refine Ax.body (n:=57) Ah Tryz.func70 rfl rfl rfl fun H=>?_
 refine Ai (Qp (Gd [_,_]) (Qp Kx (Qp Ap (Qp Ap (Ag (AW.seq (Ai (Qp Lp (Qp Dy ?_)))))))))
 refine Qp (Al (n:=e.args.length) Ah rfl rfl rfl (by simp)) ?_
 refine Qp A9 (Ag (A6 (fun hc1=>?_) fun hc1=>?_))
 ·
  refine Ai (Qp (Cq [_,_]) (Qp El ?_))
  refine Qp (Qc rfl (c86 types vars hv e hz.1)) ?_
  refine Qp Ke (Qp Ke (Qp Ap (Qp Ap (Ag (Dw ?_)))))
  refine La (Iq _) (Iq _) ?_
  rw [E0 types vars e,if_pos (by simpa [List.isEmpty_iff] using hc1)];rfl
 ·
  refine By (Ai (Qp N4 ?_))
  refine AOL.ghost (GS.row (t:=6) 3 1 rfl) ?_
  refine Ag (AW.seq (Ai (Qp Lp (Qp Dy ?_))))
  refine Qp (Al (n:=e.args.length) Ah rfl rfl rfl (by simp)) ?_
  refine Qp Az (Ag (AW.block ?_))
  refine AW.Aao (fun (p:Nat×List (List AV)×Value)=>(⟨[(2,.ptr (cT types vars)),(3,.ptr (cE e)),(6,.row p.2.2 1 p.2.1),(22,.sl 8 (e.args.map G8)),(23,.int .i64 e.args.length),(24,.int .i64 (p.1:Int))],.row p.2.2 p.2.1.length 3 1::H,57⟩:St)) (fun (p:Nat×List (List AV)×Value)=>p.1≤e.args.length∧Ao (fun a=>(Cj types vars a).2) e.args=Ao (fun a=>(Cj types vars a).2) (e.args.drop p.1)∧p.2.1=((e.args.take p.1).map (fun a=>(Cj types vars a).1)).map (fun k=>[AV.int .i64 k])) (fun (p:Nat×List (List AV)×Value)=>e.args.length-p.1) ((0,[],.slice none 0 0)) ?_ (GS.weaken ⟨rfl,rfl,rfl,rfl,rfl,rfl,trivial⟩ (.refl _)) ?_
  · exact ⟨Nat.zero_le _,by simp,by simp⟩
  ·
   rintro p hR
   refine Ai (Qp Ch (Ag (AW.seq (A6 (fun hc2=>?_) fun hc2=>?_))))
   ·
    obtain ⟨a,ha⟩:=B5 hc2
    have hlt:=A4 ha
    have hm:=List.mem_of_getElem? ha
    have hsc:∀c∈p.2.1,Be c=true:=by rw [hR.2.2];exact Ed fun _=>rfl
    refine By (AW.seq (AW.block (Ai ?_)))
    refine Qp (Af (c:=[Iq _,_,Iq _,Iq _,Iq _,Iq _,Iq _,.str _]) Ah rfl rfl rfl rfl rfl rfl (by omega) (Fo ha)) ?_
    refine Qp El ?_
    refine Qe (Ak (l:=[.int .i64 0,.sl 8 [],.int .i64 0,.int .i64 0,.int .i64 0,.int .i64 0,.int .i64 0,.str []]) (by kernel_rfl)) ?_
    rintro _ _ ⟨b8,rfl,rfl⟩
    refine Cv 0 [Iq _,_,Iq _,Iq _,Iq _,Iq _,Iq _,.str _] (_::_::_) ?_
    refine AOL.ghost (GS.Aan (t:=8) 0 rfl rfl) ?_
    refine Dm (Qp (Cq [_,_]) (Qp El ?_))
    refine Qp (Qc rfl (ih a hm (hz.2 a hm) (by have:=Fe hm;omega))) ?_
    refine Qp N6 (Qp Ke (Qp Ke (Qp Ap (Qp Ap (Ag (AW.seq (Ai (Qp Az (Qp Cr ?_)))))))))
    refine Ag (A6 (fun hc3=>?_) fun hc3=>?_)
    ·
     refine Ai (Qp Az (Qp Ap (Qp Ap (Ag (Dw (Bb (Aj (Aj (Bb ?_)))))))))
     refine Aj ?_
     refine ⟨.inr rfl,[Iq _,Iq _],.cons (.tmp _ _ rfl) <| .cons (.tmp _ _ rfl) <| .nil,.cons _ (.refl _),?_⟩
     have hne:¬e.args.isEmpty=true:=by simpa [List.isEmpty_iff] using hc1
     have hfe:Ao (fun a=>(Cj types vars a).2) e.args=(Cj types vars a).2:=by rw [hR.2.1,A8 ha,Ao,if_pos hc3]
     rw [E0 types vars e,if_neg hne,hfe,if_pos hc3];rfl
    ·
     refine By (AW.region ?_)
     refine Qp (Bm (v:=.row _ _ _) rfl) ?_
     refine Qp Az ?_
     refine Qp (A1 (es:=[[Iq _]]) Ah rfl rfl rfl rfl rfl rfl rfl rfl rfl) ?_
     refine Qe (C3 (k:=0) Ah rfl rfl rfl rfl rfl rfl rfl rfl (Ff rfl) (hsc) (by simp [hR.2.2];omega) (by simp [hR.2.2,maxLen];omega)) ?_
     rintro _ _ ⟨v40,rfl,rfl⟩
     refine Qp (Dg (v:=.row _ _ _) rfl) ?_
     refine AOL.nil (Bu (Ad (AW.region (Qp Ey (Qp Az (Ag ?_))))))
     refine ⟨(p.1+1,p.2.1 ++ [[.int .i64 (Cj types vars a).1]],v40),?_,?_,GS.weaken ⟨rfl,rfl,rfl,rfl,rfl,rfl,trivial⟩ (.refl _)⟩
     · simp only;exact ⟨hlt,by rw [hR.2.1,A8 ha,Ao,if_neg (by simpa using hc3)],by rw [C4 ha,hR.2.2];simp⟩
     · first | omega | (simp only;omega)
   ·
    have hte:=Cu hc2
    have hd:=Dc hc2
    have hf:Ao (fun a=>(Cj types vars a).2) e.args=0:=by rw [hR.2.1,hd];rfl
    obtain ⟨k,es,rv⟩:=p
    simp only at hR hte
    have h6:es=(e.args.map (fun a=>(Cj types vars a).1)).map (fun k=>[AV.int .i64 k]):=by rw [hR.2.2,hte]
    subst h6
    refine AW.exit ?_
    refine A5 (A5 (Bq (Ad (AW.seq (Ai (Qp Jl (Qp Bp ?_)))))))
    refine AOL.ghost (GS.unrow 6 rfl) ?_
    refine Qp Dx ?_
    refine Qp (Qc rfl (c71 e.op (e.args.map (fun a=>(Cj types vars a).1)))) ?_
    refine Qp Ap (Dm (Qp Az (Qp Cr (Ag (A6 (fun hc4=>?_) fun hc4=>?_)))))
    ·
     refine Ai (Qp Az (Qp Ap (Qp Ap (Ag (Dw ?_)))))
     refine ⟨.inr rfl,[Iq _,Iq _],.cons (.tmp _ _ rfl) <| .cons (.tmp _ _ rfl) <| .nil,.cons _ (.refl _),?_⟩
     have hne:¬e.args.isEmpty=true:=by simpa [List.isEmpty_iff] using hc1
     rw [E0 types vars e,if_neg hne,hf,if_neg (show ¬((0:Int) != 0)=true by decide),if_pos hc4];rfl
    ·
     refine By (AW.seq (Ai (Qp Jl (Qp Bp (Qp A9 (Qp B0 (Qg [] Qw Jl (Qg [(53,_)] Qw Bp (Qg [(54,_)] Qw A9 ?_)))))))))
     refine Qp E1 (Ag (A6 (fun hc5=>?_) fun hc5=>?_))
     ·
      refine Ai (Qp Ap (Qp Ap (Ag (Dw ?_))))
      refine ⟨.inr rfl,[Iq _,Iq _],.cons (.tmp _ _ rfl) <| .cons (.tmp _ _ rfl) <| .nil,.cons _ (.refl _),?_⟩
      have hne:¬e.args.isEmpty=true:=by simpa [List.isEmpty_iff] using hc1
      rw [E0 types vars e,if_neg hne,hf,if_neg (show ¬((0:Int) != 0)=true by decide),iN hc4];unfold Vk;first | (rw [if_pos hc5];rfl) | (rw [iN hc5];rfl)
     ·
      refine By (Ai (Qp Ap (Qp Ap (Ag (AW.ret ?_)))))
      refine ⟨.inr rfl,[Iq _,Iq _],.cons (.tmp _ _ rfl) <| .cons (.tmp _ _ rfl) <| .nil,.cons _ (.refl _),?_⟩
      have hne:¬e.args.isEmpty=true:=by simpa [List.isEmpty_iff] using hc1
      rw [E0 types vars e,if_neg hne,hf,if_neg (show ¬((0:Int) != 0)=true by decide),iN hc4];unfold Vk;first | (rw [if_pos hc5];rfl) | (rw [iN hc5];rfl)
theorem c61 (types:List Sc)(vars:List Va)(hv:Ki types vars)(e:Ex)(hn:Ca e=0)(hs:Ar e≤1048576):Ax Tryz.prog 88 [.sl 2 (types.map Ob),.sl 2 (vars.map S4),.agg (cE e)] (.tuple [.int .i64 (Cj types vars e).1,.int .i64 (Cj types vars e).2]):=by
 revert hn hs
 induction e using Ex.Aav
 rename_i e ih
 intro hn hs
 have hz:=Bc hn
 have hal:=Ng e hs
 refine Ax.body (n:=58) Ah Tryz.func88 rfl rfl rfl fun H=>?_
 refine Ai (Qp Kx (Qp Ap (Qp Ap (Ag (AW.seq (Ai (Qp Lp (Qp Dy ?_))))))))
 refine Qp (Al (n:=e.args.length) Ah rfl rfl rfl (by simp)) ?_
 refine Qp A9 (Ag (A6 (fun hc1=>?_) fun hc1=>?_))
 ·
  refine Ai (Qp Dx (Qp Dx (Qp El ?_)))
  refine Qp (Qc rfl (c89 types vars hv e hz.1)) ?_
  refine Qp Ke (Qp Ke (Qp Ap (Qp Ap (Ag (Dw ?_)))))
  refine La (Iq _) (Iq _) ?_
  rw [E0 types vars e,if_pos (by simpa [List.isEmpty_iff] using hc1)];rfl
 ·
  refine By (Ai (Qp N4 ?_))
  refine AOL.ghost (GS.row (t:=8) 3 1 rfl) ?_
  refine Ag (AW.seq (Ai (Qp Ap (Ag (AW.block ?_)))))
  refine AW.Aao (fun (p:Nat×List (List AV)×Value)=>(⟨[(0,.sl 2 (types.map Ob)),(1,.sl 2 (vars.map S4)),(5,.ptr (cE e)),(8,.row p.2.2 1 p.2.1),(9,.int .i64 (p.1:Int))],.row p.2.2 p.2.1.length 3 1::H,58⟩:St)) (fun (p:Nat×List (List AV)×Value)=>p.1≤e.args.length∧Ao (fun a=>(Cj types vars a).2) e.args=Ao (fun a=>(Cj types vars a).2) (e.args.drop p.1)∧p.2.1=((e.args.take p.1).map (fun a=>(Cj types vars a).1)).map (fun k=>[AV.int .i64 k])) (fun (p:Nat×List (List AV)×Value)=>e.args.length-p.1) ((0,[],.slice none 0 0)) ?_ (GS.weaken ⟨rfl,rfl,rfl,rfl,rfl,trivial⟩ (.refl _)) ?_
  · exact ⟨Nat.zero_le _,by simp,by simp⟩
  ·
   rintro p hR
   refine AW.seq (Ai (Qp Az (Qp Lp (Qp Dy ?_))))
   refine Qp (Al (n:=e.args.length) Ah rfl rfl rfl (by simp)) ?_
   refine Qp Ch (Ag (A6 (fun hc2=>?_) fun hc2=>?_))
   ·
    obtain ⟨a,ha⟩:=B5 hc2
    have hlt:=A4 ha
    have hm:=List.mem_of_getElem? ha
    have hsc:∀c∈p.2.1,Be c=true:=by rw [hR.2.2];exact Ed fun _=>rfl
    refine By (AW.seq (AW.block (Ai (Qp Dx (Qp Dx (Qp Lp (Qp Dy (Qp Az ?_))))))))
    refine Qp (Af (c:=[Iq _,_,Iq _,Iq _,Iq _,Iq _,Iq _,.str _]) Ah rfl rfl rfl rfl rfl rfl (by omega) (Fo ha)) ?_
    refine Qp El ?_
    refine Qp (Qc rfl (ih a hm (hz.2 a hm) (by have:=Fe hm;omega))) ?_
    refine Qp N6 (Qp Ke (Qp Ke (Qp Ap (Qp Ap (Ag (AW.seq (Ai (Qp Az (Qp Cr ?_)))))))))
    refine Ag (A6 (fun hc3=>?_) fun hc3=>?_)
    ·
     refine Ai (Qp Az (Qp Ap (Qp Ap (Ag (Dw (Bb (Aj (Aj (Bb ?_)))))))))
     refine Aj ?_
     refine ⟨.inr rfl,[Iq _,Iq _],.cons (.tmp _ _ rfl) <| .cons (.tmp _ _ rfl) <| .nil,.cons _ (.refl _),?_⟩
     have hne:¬e.args.isEmpty=true:=by simpa [List.isEmpty_iff] using hc1
     have hfe:Ao (fun a=>(Cj types vars a).2) e.args=(Cj types vars a).2:=by rw [hR.2.1,A8 ha,Ao,if_pos hc3]
     rw [E0 types vars e,if_neg hne,hfe,if_pos hc3];rfl
    ·
     refine By (AW.region ?_)
     refine Qp (Bm (v:=.row _ _ _) rfl) ?_
     refine Qp Az ?_
     refine Qp (A1 (es:=[[Iq _]]) Ah rfl rfl rfl rfl rfl rfl rfl rfl rfl) ?_
     refine Qe (C3 (k:=0) Ah rfl rfl rfl rfl rfl rfl rfl rfl (Ff rfl) (hsc) (by simp [hR.2.2];omega) (by simp [hR.2.2,maxLen];omega)) ?_
     rintro _ _ ⟨v47,rfl,rfl⟩
     refine Qp (Dg (v:=.row _ _ _) rfl) ?_
     refine AOL.nil (Bu (Ad (AW.region (Qp Az (Qp Ey (Qp Ap (Ag ?_)))))))
     refine ⟨(p.1+1,p.2.1 ++ [[.int .i64 (Cj types vars a).1]],v47),?_,?_,GS.weaken ⟨rfl,rfl,rfl,rfl,rfl,trivial⟩ (.refl _)⟩
     · simp only;exact ⟨hlt,by rw [hR.2.1,A8 ha,Ao,if_neg (by simpa using hc3)],by rw [C4 ha,hR.2.2];simp⟩
     · first | omega | (simp only;omega)
   ·
    have hte:=Cu hc2
    have hd:=Dc hc2
    have hf:Ao (fun a=>(Cj types vars a).2) e.args=0:=by rw [hR.2.1,hd];rfl
    obtain ⟨k,es,rv⟩:=p
    simp only at hR hte
    have h6:es=(e.args.map (fun a=>(Cj types vars a).1)).map (fun k=>[AV.int .i64 k]):=by rw [hR.2.2,hte]
    subst h6
    refine AW.exit ?_
    refine A5 (A5 (Bq (Ad (AW.seq (Ai (Qp Jl (Qp Bp ?_)))))))
    refine AOL.ghost (GS.unrow 8 rfl) ?_
    refine Qp Dx ?_
    refine Qp (Qc rfl (c73 e.op (e.args.map (fun a=>(Cj types vars a).1)))) ?_
    refine Qp Ap (Dm (Qp Az (Qp Cr (Ag (A6 (fun hc4=>?_) fun hc4=>?_)))))
    ·
     refine Ai (Qp Az (Qp Ap (Qp Ap (Ag (Dw ?_)))))
     refine ⟨.inr rfl,[Iq _,Iq _],.cons (.tmp _ _ rfl) <| .cons (.tmp _ _ rfl) <| .nil,.cons _ (.refl _),?_⟩
     have hne:¬e.args.isEmpty=true:=by simpa [List.isEmpty_iff] using hc1
     rw [E0 types vars e,if_neg hne,hf,if_neg (show ¬((0:Int) != 0)=true by decide),if_pos hc4];rfl
    ·
     refine By (Ai (Qp Jl (Qp Bp ?_)))
     refine Qp (Qc rfl (c90 _)) ?_
     refine Qp Ap (Qp Ap (Ag (AW.ret ?_)))
     refine ⟨.inr rfl,[Iq _,Iq _],.cons (.tmp _ _ rfl) <| .cons (.tmp _ _ rfl) <| .nil,.cons _ (.refl _),?_⟩
     have hne:¬e.args.isEmpty=true:=by simpa [List.isEmpty_iff] using hc1
     rw [E0 types vars e,if_neg hne,hf,if_neg (show ¬((0:Int) != 0)=true by decide),iN hc4];rfl
theorem c60 (types:List Sc)(vars:List Va)(hvl:vars.length≤1048576):Ax Tryz.prog 86 [.sl 2 (types.map Ob),.sl 2 (vars.map S4)] (.int .i64 (Iv types vars)):=by
 refine Ax.body (n:=31) Ah Tryz.func86 rfl rfl rfl fun H=>?_
 refine Ai (Qp Ap (Ag (AW.seq (Ai (Qp Dx ?_)))))
 refine Qp (Al (n:=vars.length) Ah rfl rfl rfl (by simp)) ?_
 refine Qp Ha (Ag (A6 (fun hc1=>?_) fun hc1=>?_))
 ·
  refine Ai (Qp Ap (Ag (Dw ?_)))
  refine Qr (Iq _) ?_
  rw [Iv,if_pos hc1];rfl
 ·
  refine By (AW.seq (Ai (Qp Ap (Ag (AW.block ?_)))))
  refine AW.Aao (fun (p:Nat)=>(⟨[(0,.sl 2 (types.map Ob)),(1,.sl 2 (vars.map S4)),(5,.int .i64 (p:Int))],H,31⟩:St)) (fun (p:Nat)=>p≤vars.length∧Ao (Oc types.length) vars=Ao (Oc types.length) (vars.drop p)) (fun (p:Nat)=>vars.length-p) (0) ?_ (GS.weaken ⟨rfl,rfl,rfl,trivial⟩ (.refl _)) ?_
  · exact ⟨Nat.zero_le _,rfl⟩
  ·
   rintro p hR
   refine AW.seq (Ai (Qp Az (Qp Dx ?_)))
   refine Qp (Al (n:=vars.length) Ah rfl rfl rfl (by simp)) ?_
   refine Qp Ch (Ag (A6 (fun hc2=>?_) fun hc2=>?_))
   ·
    obtain ⟨a,ha⟩:=B5 hc2
    have hlt:=A4 ha
    have hm:=List.mem_of_getElem? ha
    refine By (AW.seq (AW.block (Ai (Qp Dx (Qp Az ?_)))))
    refine Qp (Af (c:=[.str _,Iq _]) Ah rfl rfl rfl rfl rfl rfl (by omega) (Bi ha)) ?_
    refine Qp (Qf [Iq _]) (Qp Bp (Qp Ch (Qp B0 (Qg [] Qw Dx (Qg [] Qw Az ?_)))))
    refine AOL.Aar (y:=.ptr _) _ [(22,_),(23,_)] rfl (nC.all ⟨Ent.Aam _ _,Ent.Aam _ _,trivial⟩) (fun hG=>Af (c:=[.str _,Iq _]) Ah rfl rfl rfl rfl rfl rfl (by omega) (Bi ha)) rfl ?_
    refine Qg [(24,_)] Qw (Qf [Iq _]) (Qg [(25,_)] Qw Bp (Qg [] Qw Dx ?_))
    refine AOL.Aar (y:=Iq _) _ [(27,_)] rfl (nC.all ⟨Ent.Aam _ _,trivial⟩) (fun hG=>Al (n:=types.length) Ah rfl rfl rfl (by simp)) rfl ?_
    refine AOL.Aar (y:=.bool _) _ [(26,_),(28,_)] rfl (nC.all ⟨Ent.Aam _ _,Ent.Aam _ _,trivial⟩) (fun hG=>Ro rfl rfl) rfl ?_
    refine Qp E1 (Ag (A6 (fun hc3=>?_) fun hc3=>?_))
    ·
     have he:Oc types.length a=6:=by unfold Oc;rw [if_pos hc3]
     refine Ai (Qp Ap (Ag (AW.ret (Bb (Aj (Aj (Bb (Aj ?_))))))))
     refine Qr (Iq _) ?_
     rw [Iv,iN hc1,hR.2,A8 ha,Ao,he,if_pos (by decide)];rfl
    ·
     have he:Oc types.length a=0:=by unfold Oc;rw [if_neg (by simpa using hc3)]
     refine AW.skip (Bu (Ad (AW.region (Qp Az (Qp Ey (Qp Ap (Ag ?_)))))))
     refine ⟨p+1,?_,?_,GS.weaken ⟨rfl,rfl,rfl,trivial⟩ (.refl _)⟩
     · exact ⟨hlt,by rw [hR.2,A8 ha,Ao,if_neg (by rw [he];decide)]⟩
     · omega
   ·
    have hd:=Dc hc2
    refine AW.exit ?_
    refine A5 (A5 (Bq (Ad (Ai (Qp Ap (Ag (AW.ret ?_)))))))
    refine Qr (Iq _) ?_
    rw [Iv,iN hc1,hR.2,hd];rfl
theorem c31 (types:List Sc)(hl:types.length≤1048576)(hs:∀s∈types,Ig s)(vars:List Va)(hvl:vars.length≤1048576)(e:Ex)(hse:Ar e≤1048576):Ax Tryz.prog 33 [.sl 2 (types.map Ob),.sl 2 (vars.map S4),.agg (cE e)] (.tuple [.int .i64 (Cn types vars e).1,.int .i64 (Cn types vars e).2]):=by
 refine Ax.body (n:=49) Ah Tryz.func33 rfl rfl rfl fun H=>?_
 refine Ai (Qp Kx (Qp Ap (Qp Ap (Ag (AW.seq (Ai (Qp Dx ?_)))))))
 refine Qp (Qc rfl (c57 types hl hs)) ?_
 refine Qp Ap (Dm (Qp Az (Qp Cr (Ag (A6 (fun hc1=>?_) fun hc1=>?_)))))
 ·
  refine Ai (Qp Az (Qp Ap (Qp Ap (Ag (Dw ?_)))))
  refine La (Iq _) (Iq _) ?_
  rw [Cn,if_pos hc1];rfl
 ·
  refine By (AW.seq (Ai (Qp Dx ?_)))
  refine Qp (Al (n:=vars.length) Ah rfl rfl rfl (by simp)) ?_
  refine Qp Ha (Ag (A6 (fun hc2=>?_) fun hc2=>?_))
  ·
   refine Ai (Qp Ap (Qp Ap (Ag (Dw ?_))))
   refine La (Iq _) (Iq _) ?_
   have hve:Iv types vars=5:=by rw [Iv,if_pos hc2]
   rw [Cn,iN hc1,hve,if_pos (by decide)];rfl
  ·
   refine By (AW.seq (Ai (Qp Dx ?_)))
   refine Qp (Al (n:=vars.length) Ah rfl rfl rfl (by simp)) ?_
   refine Qp Az (Ag (AW.block ?_))
   refine AW.Aao (fun (p:Nat)=>(⟨[(0,.sl 2 (types.map Ob)),(1,.sl 2 (vars.map S4)),(5,.ptr (cE e)),(20,.sl 2 (vars.map S4)),(21,.int .i64 vars.length),(22,.int .i64 (p:Int))],H,49⟩:St)) (fun (p:Nat)=>p≤vars.length∧Ao (Oc types.length) vars=Ao (Oc types.length) (vars.drop p)) (fun (p:Nat)=>vars.length-p) (0) ?_ (GS.weaken ⟨rfl,rfl,rfl,rfl,rfl,rfl,trivial⟩ (.refl _)) ?_
   · exact ⟨Nat.zero_le _,rfl⟩
   ·
    rintro p hR
    refine Ai (Qp Ch (Ag (AW.seq (A6 (fun hc3=>?_) fun hc3=>?_))))
    ·
     obtain ⟨a,ha⟩:=B5 hc3
     have hlt:=A4 ha
     have hm:=List.mem_of_getElem? ha
     refine By (AW.seq (AW.block (Ai ?_)))
     refine Qp (Af (c:=[.str _,Iq _]) Ah rfl rfl rfl rfl rfl rfl (by omega) (Bi ha)) ?_
     refine Qp (Cq [.str _,Iq _]) ?_
     refine Qe (Ak (l:=[.str [],.int .i64 0]) (by kernel_rfl)) ?_
     rintro _ _ ⟨b10,rfl,rfl⟩
     refine Cv 0 [.str _,Iq _] (_::_) ?_
     refine AOL.ghost (GS.Aan (t:=10) 0 rfl rfl) ?_
     refine Dm (Qp (Qf [Iq _]) (Qp Bp (Qp Ch (Qp B0 (Qg [] Qw (Qf [Iq _]) (Qg [(30,_)] Qw Bp (Qg [] Qw Dx ?_)))))))
     refine AOL.Aar (y:=Iq _) _ [(32,_)] rfl (nC.all ⟨Ent.Aam _ _,trivial⟩) (fun hG=>Al (n:=types.length) Ah rfl rfl rfl (by simp)) rfl ?_
     refine AOL.Aar (y:=.bool _) _ [(31,_),(33,_)] rfl (nC.all ⟨Ent.Aam _ _,Ent.Aam _ _,trivial⟩) (fun hG=>Ro rfl rfl) rfl ?_
     refine Qp E1 (Ag (A6 (fun hc4=>?_) fun hc4=>?_))
     ·
      have he:Oc types.length a=6:=by unfold Oc;rw [if_pos hc4]
      refine Ai (Qp Ap (Qp Ap (Ag (AW.ret (Bb (Aj (Aj (Bb (Aj ?_)))))))))
      refine La (Iq _) (Iq _) ?_
      have hve:Iv types vars=6:=by rw [Iv,iN hc2,hR.2,A8 ha,Ao,he,if_pos (by decide)]
      rw [Cn,iN hc1,hve,if_pos (by decide)];rfl
     ·
      have he:Oc types.length a=0:=by unfold Oc;rw [if_neg (by simpa using hc4)]
      refine AW.skip (Bu (Ad (AW.region (Qp Ey (Qp Az (Ag ?_))))))
      refine ⟨p+1,?_,?_,GS.weaken ⟨rfl,rfl,rfl,rfl,rfl,rfl,trivial⟩ (.refl _)⟩
      · exact ⟨hlt,by rw [hR.2,A8 ha,Ao,if_neg (by rw [he];decide)]⟩
      · omega
    ·
     have hd:=Dc hc3
     have hf0:Ao (Oc types.length) vars=0:=by rw [hR.2,hd];rfl
     have hty:=cJ hf0
     have hvz:Iv types vars=0:=by rw [Iv,if_neg (by simpa using hc2),hf0]
     refine AW.exit ?_
     refine A5 (A5 (Bq (Ad (AW.seq (Ai (Qp El ?_))))))
     refine Qp (Qc rfl (c21 e hse)) ?_
     refine Qp Ap (Dm (Qp Az (Qp Cr (Ag (A6 (fun hc5=>?_) fun hc5=>?_)))))
     ·
      refine Ai (Qp Az (Qp Ap (Qp Ap (Ag (Dw ?_)))))
      refine La (Iq _) (Iq _) ?_
      rw [Cn,iN hc1,hvz,if_neg (show ¬((0:Int) != 0)=true by decide),if_pos hc5];rfl
     ·
      refine By (Ai (Qp Dx (Qp Dx (Qp (Fz [_,_]) (Qp El ?_)))))
      refine Qp (Qc rfl (c58 types vars hty e (O7 (by simpa using hc5)) hse)) ?_
      refine Qp Ke (Qp Ke (Qp Ap (Qp Ap (Ag (AW.ret ?_)))))
      refine La (Iq _) (Iq _) ?_
      rw [Cn,iN hc1,hvz,if_neg (show ¬((0:Int) != 0)=true by decide),iN hc5];rfl
theorem c32 (types:List Sc)(hl:types.length≤1048576)(hs:∀s∈types,Ig s)(vars:List Va)(hvl:vars.length≤1048576)(e:Ex)(hse:Ar e≤1048576):Ax Tryz.prog 55 [.sl 2 (types.map Ob),.sl 2 (vars.map S4),.agg (cE e)] (.tuple [.int .i64 (Cn types vars e).1,.int .i64 (Cn types vars e).2]):=by
 refine Ax.body (n:=33) Ah Tryz.func55 rfl rfl rfl fun H=>?_
 refine Ai (Qp Kx (Qp Ap (Qp Ap (Ag (AW.seq (Ai (Qp Dx ?_)))))))
 refine Qp (Qc rfl (c59 types hl hs)) ?_
 refine Qp Ap (Dm (Qp Az (Qp Cr (Ag (A6 (fun hc1=>?_) fun hc1=>?_)))))
 ·
  refine Ai (Qp Az (Qp Ap (Qp Ap (Ag (Dw ?_)))))
  refine La (Iq _) (Iq _) ?_
  simp only [Ae,Cn]
  (first | rw [if_pos hc1] | skip)
  first | done | rfl
 ·
  refine By (AW.seq (Ai (Qp Dx (Qp Dx ?_))))
  refine Qp (Qc rfl (c60 types vars hvl)) ?_
  refine Qp Ap (Dm (Qp Az (Qp Cr (Ag (A6 (fun hc2=>?_) fun hc2=>?_)))))
  ·
   refine Ai (Qp Az (Qp Ap (Qp Ap (Ag (Dw ?_)))))
   refine La (Iq _) (Iq _) ?_
   simp only [Ae,Cn]
   (first | rw [iN hc1] | skip);(first | rw [if_pos hc2] | skip)
   first | done | rfl
  ·
   have hty:Ki types vars:=cJ (Wz (by simpa using hc2))
   refine By (AW.seq (Ai (Qp El ?_)))
   refine Qp (Qc rfl (c25 e hse)) ?_
   refine Qp Ap (Dm (Qp Az (Qp Cr (Ag (A6 (fun hc3=>?_) fun hc3=>?_)))))
   ·
    refine Ai (Qp Az (Qp Ap (Qp Ap (Ag (Dw ?_)))))
    refine La (Iq _) (Iq _) ?_
    simp only [Ae,Cn]
    (first | rw [iN hc1] | skip);(first | rw [iN hc2] | skip);(first | rw [if_pos hc3] | skip)
    first | done | rfl
   ·
    refine By (Ai (Qp Dx (Qp Dx (Qp El ?_))))
    refine Qp (Qc rfl (c61 types vars hty e (O7 (by simpa using hc3)) hse)) ?_
    refine Qp Ke (Qp Ke (Qp Ap (Qp Ap (Ag (AW.ret ?_)))))
    refine La (Iq _) (Iq _) ?_
    simp only [Ae,Cn]
    (first | rw [iN hc1] | skip);(first | rw [iN hc2] | skip);(first | rw [iN hc3] | skip)
    first | done | rfl

end Go.Proofs.YtjedflcpjlgokaaGreatDoor
