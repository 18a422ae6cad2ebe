/-
  Walks of layer 8: kinds, ExprKinds. No condition.
-/
import Derived.Test.YtkddpedfbicbeaaGreatDoorAz
import Derived.Test.YtkddpedfbicbeaaGreatDoorK08
import Derived.Test.YtkddpedfbicbeaaGreatDoorK12
import Derived.Test.YtkddpedfbicbeaaGreatDoorK03
import Derived.KernelRfl
namespace Go.Proofs.YtkddpedfbicbeaaGreatDoor
open Go Go.Aw
set_option maxHeartbeats 1600000
set_option maxRecDepth 20000
set_option linter.unusedVariables false
set_option linter.unusedSimpArgs false

def cT (types:List Sc)(vars:List Va):List AV:=[.sl 2 (types.map Nz),.sl 2 (vars.map Un)]
def Jt (types:List Sc)(vars:List Va):Prop:=∀v∈vars,0≤v.type∧v.type<(types.length:Int)
theorem qC {e:Ex}(h:Bw e=0)(h4:e.op=4):1≤e.kind∧e.kind≤5:=by
 unfold Bw at h
 split at h
 · cases h
 split at h
 · cases h
 split at h
 · cases h
 split at h
 · cases h
 rename_i h5
 simp [h4] at h5
 omega
theorem rs_es {e:Ex}(h:Bw e=0)(c:Bool)(v:Vl):(e.op==4&&(c || !Ga e.kind v))=(e.op==4&&(c || !Du e.kind v)):=by
 by_cases h4:e.op=4
 ·
  have hk:=qC h h4
  have:Ga e.kind v=Du e.kind v:=by
   unfold Ga Du
   have:(e.kind==0)=false:=by simp;omega
   rw [this,Bool.or_false]
  rw [this]
 ·
  have:(e.op==4)=false:=by simp [h4]
  rw [this];rfl
theorem Wv {types:List Sc}{vars:List Va}(h:Hv types vars=0):Aq (Ow types.length) vars=0:=by
 unfold Hv at h
 split at h
 · cases h
 · exact h
theorem cH {types:List Sc}{vars:List Va}(h:Aq (Ow types.length) vars=0):Jt types vars:=by
 intro v hv
 have:=G7 h v hv
 unfold Ow at this
 split at this
 · cases this
 · rename_i h1;simp at h1;omega

theorem c86 (types:List Sc)(vars:List Va)(hv:Jt types vars)(e:Ex)(hn:Bw e=0):Av Tryz.prog 156 [.agg (cT types vars),.agg (cE e)] (.tuple [.int .i64 (F0 types vars e).1,.int .i64 (F0 types vars e).2]):=by
 have hvr:=Mt hn
 have hfr:=Jx hn
 refine Av.body (n:=70) Ai Tryz.func156 rfl rfl rfl fun H=>?_
 refine Ah (Qp (F5 [_,_]) (Qp K8 (Qp At (Qp At (Ag (AW.seq (Ah (Qp Ks (Qp Bs ?_)))))))))
 refine Qp A5 (Ag (A3 (fun hc1=>?_) fun hc1=>?_))
 ·
  refine Ah (Qp Jp (Qp Jp (Qp Bs (Qp At (Qp At (Ag (Dr ?_)))))))
  refine Km (Iq _) (Iq _) ?_
  simp only [Ad,F0]
  try simp only [hfl]
  try simp only [hka]
  (first | rw [if_pos hc1] | skip)
  first | done | rfl
 ·
  refine Bx (AW.seq (Ah (Qp Xo (Qp Bs (Qp (Qf [_]) (Qp Dk ?_))))))
  refine Qp (Ak (n:=vars.length) Ai rfl rfl rfl (by simp)) ?_
  refine Qp N9 (Ag (A3 (fun hc2=>?_) fun hc2=>?_))
  ·
   refine Ah (Qp At (Qp At (Ag (Dr ?_))))
   refine Km (Iq _) (Iq _) ?_
   simp only [Ad,F0]
   try simp only [hfl]
   try simp only [hka]
   (first | rw [iN hc1] | skip);(first | rw [if_pos hc2] | skip)
   first | done | rfl
  ·
   refine Bx (AW.seq (Ah (Qp Ks (Qp Bs (Qp A5 (Qp Bp (Qg [] Qw Ks (Qg [(24,_)] Qw Bs (Qg [(25,_)] Qw A5 ?_)))))))))
   refine Qp E2 (Ag (A3 (fun hc3=>?_) fun hc3=>?_))
   ·
    refine Ah (Qp At (Qp At (Ag (Dr ?_))))
    refine Km (Iq _) (Iq _) ?_
    simp only [Ad,F0]
    try simp only [hfl]
    try simp only [hka]
    (first | rw [iN hc1] | skip);(first | rw [iN hc2] | skip);(first | rw [if_pos hc3] | skip)
    first | done | rfl
   ·
    refine (Hz (l:=vars) hvr.1 (by simp at hc2;omega)).elim fun v hv1=>?_
    have hvt:=hv v (List.mem_of_getElem? hv1)
    refine (Hz (l:=types) hvt.1 hvt.2).elim fun s hs1=>?_
    have hfl:Fs types vars e.var=s.fields:=by simp [Fs,hv1,hs1]
    refine Bx (AW.seq ?_)
    refine AW.draw mixed (fun _=>True) trivial (by kernel_rfl) ?_
    refine Qn 0 rfl (Qf [_,_]) (Qn 1 rfl Dk (Qn 2 rfl (Qf [_]) (Qn 3 rfl Dk (Qn 4 rfl Xo (Qn 5 rfl Bs ?_)))))
    refine Qn 6 rfl (Af (c:=[.str _,Iq _]) Ai rfl rfl rfl rfl rfl rfl (hvr.1) (Bh hv1)) ?_
    refine Qn 7 rfl (Qf [Iq _]) (Qn 8 rfl Bs ?_)
    refine Qn 9 rfl (Af (c:=[.str _,_]) Ai rfl rfl rfl rfl rfl rfl (hvt.1) (Bh hs1)) ?_
    refine Qn 10 rfl (Qf [_]) (Qn 11 rfl Dk (Qn 12 rfl Wj ?_))
    refine Jv.done _ _ (by kernel_rfl) ?_
    refine Ae (AW.seq (Ah (Qp Q2 (Qp Bs (Qp C4 ?_)))))
    refine Qp (Ak (n:=s.fields.length) Ai rfl rfl rfl (by simp)) ?_
    refine Qp N9 (Ag (A3 (fun hc4=>?_) fun hc4=>?_))
    ·
     refine Ah (Qp At (Qp At (Ag (Dr ?_))))
     refine Km (Iq _) (Iq _) ?_
     simp only [Ad,F0]
     try simp only [hfl]
     try simp only [hka]
     (first | rw [iN hc1] | skip);(first | rw [iN hc2] | skip);(first | rw [iN hc3] | skip);(first | rw [if_pos hc4] | skip)
     first | done | rfl
    ·
     refine (Hz (l:=s.fields) hfr (by simp at hc4;omega)).elim fun f hf1=>?_
     have hka:Hp s.fields e.field=f.kind:=by simp [Hp,hf1]
     refine Bx (Ah (Qp C4 (Qp Q2 (Qp Bs ?_))))
     refine Qp (Af (c:=[.str _,Iq _]) Ai rfl rfl rfl rfl rfl rfl (hfr) (Bh hf1)) ?_
     refine Qp (Qf [Iq _]) (Qp Bs (Qp At (Ag (AW.seq (Ah (Qp Ks (Qp Bs (Qp A5 (Qp Bp ?_)))))))))
     refine Qg [] Qw A0 (Qg [] Qw Jp (Qg [(56,_)] Qw Jp (Qg [(57,_)] Qw Bs ?_)))
     refine AOL.Aaf (y:=.bool _) _ [(55,_),(58,_)] rfl (rX.all ⟨Ent.Aac _ _,Ent.Aac _ _,trivial⟩) (fun hG=>Ox rfl rfl) rfl ?_
     refine Qg [(59,_)] Qw Bp (Qg [] Qw R1 (Qg [(61,_)] Qw Bs (Qg [] Qw A0 (Qg [(63,_)] Qw (Ep [Iq _,Iq _,.str _]) ?_))))
     refine AOL.Aaf (y:=.bool _) _ [(62,_),(64,_)] rfl (rX.all ⟨Ent.Aac _ _,Ent.Aac _ _,trivial⟩) (fun hG=>C7 (by kernel_rfl) rfl rfl (c99 _ ⟨_,_,_⟩)) rfl ?_
     refine Qg [(65,_)] Qw Ge (Qg [(60,_),(66,_)] Qw E2 (Qp E1 (Ag (A3 (fun hc5=>?_) fun hc5=>?_))))
     ·
      refine Ah (Qp At (Qp At (Ag (Dr ?_))))
      refine Km (Iq _) (Iq _) ?_
      simp only [Ad,F0]
      try simp only [hfl]
      try simp only [hka]
      (first | rw [iN hc1] | skip);(first | rw [iN hc2] | skip);(first | rw [iN hc3] | skip);(first | rw [iN hc4] | skip);(first | rw [if_pos hc5] | skip)
      first | done | rfl
     ·
      refine Bx (Ah (Qp A0 (Qp At (Qp At (Ag (AW.ret ?_))))))
      refine Km (Iq _) (Iq _) ?_
      simp only [Ad,F0]
      try simp only [hfl]
      try simp only [hka]
      (first | rw [iN hc1] | skip);(first | rw [iN hc2] | skip);(first | rw [iN hc3] | skip);(first | rw [iN hc4] | skip);(first | rw [iN hc5] | skip)
      first | done | rfl
theorem c89 (types:List Sc)(vars:List Va)(hv:Jt types vars)(e:Ex)(hn:Bw e=0):Av Tryz.prog 115 [.sl 2 (types.map Nz),.sl 2 (vars.map Un),.agg (cE e)] (.tuple [.int .i64 (F0 types vars e).1,.int .i64 (F0 types vars e).2]):=by
 have hvr:=Mt hn
 have hfr:=Jx hn
 refine Av.body (n:=69) Ai Tryz.func115 rfl rfl rfl fun H=>?_
 refine Ah (Qp K8 (Qp At (Qp At (Ag (AW.seq (Ah (Qp Ks (Qp Bs (Qp A5 ?_)))))))))
 refine Ag (A3 (fun hc1=>?_) fun hc1=>?_)
 ·
  refine Ah (Qp Jp (Qp Jp (Qp Bs (Qp At (Qp At (Ag (Dr ?_)))))))
  refine Km (Iq _) (Iq _) ?_
  simp only [Ad,F0]
  try simp only [hfl]
  try simp only [hka]
  (first | rw [if_pos hc1] | skip)
  first | done | rfl
 ·
  refine Bx (AW.seq (Ah (Qp Xo (Qp Bs (Qp C4 ?_)))))
  refine Qp (Ak (n:=vars.length) Ai rfl rfl rfl (by simp)) ?_
  refine Qp N9 (Ag (A3 (fun hc2=>?_) fun hc2=>?_))
  ·
   refine Ah (Qp At (Qp At (Ag (Dr ?_))))
   refine Km (Iq _) (Iq _) ?_
   simp only [Ad,F0]
   try simp only [hfl]
   try simp only [hka]
   (first | rw [iN hc1] | skip);(first | rw [if_pos hc2] | skip)
   first | done | rfl
  ·
   refine Bx (AW.seq (Ah (Qp Ks (Qp Bs (Qp A5 (Qp Bp (Qg [] Qw Ks (Qg [(25,_)] Qw Bs (Qg [(26,_)] Qw A5 ?_)))))))))
   refine Qp E2 (Ag (A3 (fun hc3=>?_) fun hc3=>?_))
   ·
    refine Ah (Qp At (Qp At (Ag (Dr ?_))))
    refine Km (Iq _) (Iq _) ?_
    simp only [Ad,F0]
    try simp only [hfl]
    try simp only [hka]
    (first | rw [iN hc1] | skip);(first | rw [iN hc2] | skip);(first | rw [if_pos hc3] | skip)
    first | done | rfl
   ·
    refine (Hz (l:=vars) hvr.1 (by simp at hc2;omega)).elim fun v hv1=>?_
    have hvt:=hv v (List.mem_of_getElem? hv1)
    refine (Hz (l:=types) hvt.1 hvt.2).elim fun s hs1=>?_
    have hfl:Fs types vars e.var=s.fields:=by simp [Fs,hv1,hs1]
    refine Bx (Ah (Qp C4 (Qp C4 (Qp Xo (Qp Bs ?_)))))
    refine Qp (Af (c:=[.str _,Iq _]) Ai rfl rfl rfl rfl rfl rfl (hvr.1) (Bh hv1)) ?_
    refine Qp (Qf [Iq _]) (Qp Bs ?_)
    refine Qp (Af (c:=[.str _,_]) Ai rfl rfl rfl rfl rfl rfl (hvt.1) (Bh hs1)) ?_
    refine Qp (Qf [_]) (Qp Dk (Qp Wj (Ag (AW.seq (Ah (Qp Q2 (Qp Bs (Qp C4 ?_))))))))
    refine Qp (Ak (n:=s.fields.length) Ai rfl rfl rfl (by simp)) ?_
    refine Qp N9 (Ag (A3 (fun hc4=>?_) fun hc4=>?_))
    ·
     refine Ah (Qp At (Qp At (Ag (Dr ?_))))
     refine Km (Iq _) (Iq _) ?_
     simp only [Ad,F0]
     try simp only [hfl]
     try simp only [hka]
     (first | rw [iN hc1] | skip);(first | rw [iN hc2] | skip);(first | rw [iN hc3] | skip);(first | rw [if_pos hc4] | skip)
     first | done | rfl
    ·
     refine (Hz (l:=s.fields) hfr (by simp at hc4;omega)).elim fun f hf1=>?_
     have hka:Hp s.fields e.field=f.kind:=by simp [Hp,hf1]
     refine Bx (Ah (Qp C4 (Qp Q2 (Qp Bs ?_))))
     refine Qp (Af (c:=[.str _,Iq _]) Ai rfl rfl rfl rfl rfl rfl (hfr) (Bh hf1)) ?_
     refine Qp (Qf [Iq _]) (Qp Bs (Qp At (Ag (AW.seq (Ah (Qp Ks (Qp Bs (Qp A5 (Qp Bp ?_)))))))))
     refine Qg [] Qw A0 (Qg [] Qw Jp (Qg [(55,_)] Qw Jp (Qg [(56,_)] Qw Bs ?_)))
     refine AOL.Aaf (y:=.bool _) _ [(54,_),(57,_)] rfl (rX.all ⟨Ent.Aac _ _,Ent.Aac _ _,trivial⟩) (fun hG=>Ox rfl rfl) rfl ?_
     refine Qg [(58,_)] Qw Bp (Qg [] Qw R1 (Qg [(60,_)] Qw Bs (Qg [] Qw A0 (Qg [(62,_)] Qw (Ep [Iq _,Iq _,.str _]) ?_))))
     refine AOL.Aaf (y:=.bool _) _ [(61,_),(63,_)] rfl (rX.all ⟨Ent.Aac _ _,Ent.Aac _ _,trivial⟩) (fun hG=>C7 (by kernel_rfl) rfl rfl (c101 _ ⟨_,_,_⟩)) rfl ?_
     refine Qg [(64,_)] Qw Ge (Qg [(59,_),(65,_)] Qw E2 (Qp E1 (Ag (A3 (fun hc5=>?_) fun hc5=>?_))))
     ·
      rw [rs_es hn] at hc5
      refine Ah (Qp At (Qp At (Ag (Dr ?_))))
      refine Km (Iq _) (Iq _) ?_
      simp only [Ad,F0]
      try simp only [hfl]
      try simp only [hka]
      (first | rw [iN hc1] | skip);(first | rw [iN hc2] | skip);(first | rw [iN hc3] | skip);(first | rw [iN hc4] | skip);(first | rw [if_pos hc5] | skip)
      first | done | rfl
     ·
      rw [rs_es hn] at hc5
      refine Bx (Ah (Qp A0 (Qp At (Qp At (Ag (AW.ret ?_))))))
      refine Km (Iq _) (Iq _) ?_
      simp only [Ad,F0]
      try simp only [hfl]
      try simp only [hka]
      (first | rw [iN hc1] | skip);(first | rw [iN hc2] | skip);(first | rw [iN hc3] | skip);(first | rw [iN hc4] | skip);(first | rw [iN hc5] | skip)
      first | done | rfl
theorem c90 (op:Int):Av Tryz.prog 117 [.int .i64 op] (.int .i64 (Xy op)):=by
 refine Av.body (n:=9) Ai Tryz.func117 rfl rfl rfl fun H=>?_
 refine Ah (Qp At (Ag (AW.seq (Ah (Qp A0 (Qp A5 (Qp Bp (Qg [] Qw A0 (Qg [(6,_)] Qw A5 ?_)))))))))
 refine Qp E2 (Ag (A3 (fun hc1=>?_) fun hc1=>?_))
 ·
  refine Ah (Qp At (Ag (Dr ?_)))
  refine Qr (Iq _) ?_
  simp only [Ad,Xy]
  (first | rw [if_pos hc1] | skip)
 ·
  refine Bx (Ah (Qp At (Ag (AW.ret ?_))))
  refine Qr (Iq _) ?_
  simp only [Ad,Xy]
  (first | rw [iN hc1] | skip)
theorem c58 (types:List Sc)(vars:List Va)(hv:Jt types vars)(e:Ex)(hn:C1 e=0)(hs:Ar e≤1048576):Av Tryz.prog 133 [.agg (cT types vars),.agg (cE e)] (.tuple [.int .i64 (Ca types vars e).1,.int .i64 (Ca types vars e).2]):=by
 revert hn hs
 induction e using Ex.Aak
 rename_i e ih
 intro hn hs
 have hz:=Bb hn
 have hal:=Np e hs
 refine Av.body (n:=57) Ai Tryz.func133 rfl rfl rfl fun H=>?_
 refine Ah (Qp (F5 [_,_]) (Qp K8 (Qp At (Qp At (Ag (AW.seq (Ah (Qp K5 (Qp Dk ?_)))))))))
 refine Qp (Ak (n:=e.args.length) Ai rfl rfl rfl (by simp)) ?_
 refine Qp A5 (Ag (A3 (fun hc1=>?_) fun hc1=>?_))
 ·
  refine Ah (Qp (Ck [_,_]) (Qp D0 ?_))
  refine Qp (Qc rfl (c86 types vars hv e hz.1)) ?_
  refine Qp Jn (Qp Jn (Qp At (Qp At (Ag (Dr ?_)))))
  refine Km (Iq _) (Iq _) ?_
  rw [Ee types vars e,if_pos (by simpa [List.isEmpty_iff] using hc1)];rfl
 ·
  refine Bx (Ah (Qp N8 ?_))
  refine AOL.ghost (GS.row (t:=6) 3 1 rfl) ?_
  refine Ag (AW.seq (Ah (Qp K5 (Qp Dk ?_))))
  refine Qp (Ak (n:=e.args.length) Ai rfl rfl rfl (by simp)) ?_
  refine Qp A0 (Ag (AW.block ?_))
  refine AW.Aae (fun (p:Nat×List (List AV)×Value)=>(⟨[(2,.ptr (cT types vars)),(3,.ptr (cE e)),(6,.row p.2.2 1 p.2.1),(22,.sl 8 (e.args.map Fu)),(23,.int .i64 e.args.length),(24,.int .i64 (p.1:Int))],.row p.2.2 p.2.1.length 3 1::H,57⟩:St)) (fun (p:Nat×List (List AV)×Value)=>p.1≤e.args.length∧Aq (fun a=>(Ca types vars a).2) e.args=Aq (fun a=>(Ca types vars a).2) (e.args.drop p.1)∧p.2.1=((e.args.take p.1).map (fun a=>(Ca types vars a).1)).map (fun k=>[AV.int .i64 k])) (fun (p:Nat×List (List AV)×Value)=>e.args.length-p.1) ((0,[],.slice none 0 0)) ?_ (GS.weaken ⟨rfl,rfl,rfl,rfl,rfl,rfl,trivial⟩ (.refl _)) ?_
  · exact ⟨Nat.zero_le _,by simp,by simp⟩
  ·
   rintro p hR
   refine Ah (Qp Cj (Ag (AW.seq (A3 (fun hc2=>?_) fun hc2=>?_))))
   ·
    obtain ⟨a,ha⟩:=B2 hc2
    have hlt:=A9 ha
    have hm:=List.mem_of_getElem? ha
    have hsc:∀c∈p.2.1,Bf c=true:=by rw [hR.2.2];exact Fm fun _=>rfl
    refine Bx (AW.seq (AW.block (Ah ?_)))
    refine Qp (Af (c:=[Iq _,_,Iq _,Iq _,Iq _,Iq _,Iq _,.str _]) Ai rfl rfl rfl rfl rfl rfl (by omega) (E9 ha)) ?_
    refine Qp D0 ?_
    refine Qe (Al (l:=[.int .i64 0,.sl 8 [],.int .i64 0,.int .i64 0,.int .i64 0,.int .i64 0,.int .i64 0,.str []]) (by kernel_rfl)) ?_
    rintro _ _ ⟨b8,rfl,rfl⟩
    refine Cm 0 [Iq _,_,Iq _,Iq _,Iq _,Iq _,Iq _,.str _] (_::_::_) ?_
    refine AOL.ghost (GS.Aad (t:=8) 0 rfl rfl) ?_
    refine Df (Qp (Ck [_,_]) (Qp D0 ?_))
    refine Qp (Qc rfl (ih a hm (hz.2 a hm) (by have:=Gv hm;omega))) ?_
    refine Qp Mv (Qp Jn (Qp Jn (Qp At (Qp At (Ag (AW.seq (Ah (Qp A0 (Qp Cr ?_)))))))))
    refine Ag (A3 (fun hc3=>?_) fun hc3=>?_)
    ·
     refine Ah (Qp A0 (Qp At (Qp At (Ag (Dr (Ba (Aj (Aj (Ba ?_)))))))))
     refine Aj ?_
     refine ⟨.inr rfl,[Iq _,Iq _],.cons (.tmp _ _ rfl) <| .cons (.tmp _ _ rfl) <| .nil,.cons _ (.refl _),?_⟩
     have hne:¬e.args.isEmpty=true:=by simpa [List.isEmpty_iff] using hc1
     have hfe:Aq (fun a=>(Ca types vars a).2) e.args=(Ca types vars a).2:=by rw [hR.2.1,A8 ha,Aq,if_pos hc3]
     rw [Ee types vars e,if_neg hne,hfe,if_pos hc3];rfl
    ·
     refine Bx (AW.region ?_)
     refine Qp (Bj (v:=.row _ _ _) rfl) ?_
     refine Qp A0 ?_
     refine Qp (Az (es:=[[Iq _]]) Ai rfl rfl rfl rfl rfl rfl rfl rfl rfl) ?_
     refine Qe (Dm (k:=0) Ai rfl rfl rfl rfl rfl rfl rfl rfl (Hd rfl) (hsc) (by simp [hR.2.2];omega) (by simp [hR.2.2,maxLen];omega)) ?_
     rintro _ _ ⟨v40,rfl,rfl⟩
     refine Qp (C2 (v:=.row _ _ _) rfl) ?_
     refine AOL.nil (Bq (Ae (AW.region (Qp Fv (Qp A0 (Ag ?_))))))
     refine ⟨(p.1+1,p.2.1 ++ [[.int .i64 (Ca types vars a).1]],v40),?_,?_,GS.weaken ⟨rfl,rfl,rfl,rfl,rfl,rfl,trivial⟩ (.refl _)⟩
     · simp only;exact ⟨hlt,by rw [hR.2.1,A8 ha,Aq,if_neg (by simpa using hc3)],by rw [Cq ha,hR.2.2];simp⟩
     · first | omega | (simp only;omega)
   ·
    have hte:=C3 hc2
    have hd:=Dh hc2
    have hf:Aq (fun a=>(Ca types vars a).2) e.args=0:=by rw [hR.2.1,hd];rfl
    obtain ⟨k,es,rv⟩:=p
    simp only at hR hte
    have h6:es=(e.args.map (fun a=>(Ca types vars a).1)).map (fun k=>[AV.int .i64 k]):=by rw [hR.2.2,hte]
    subst h6
    refine AW.exit ?_
    refine A6 (A6 (Bv (Ae (AW.seq (Ah (Qp Ks (Qp Bs ?_)))))))
    refine AOL.ghost (GS.unrow 6 rfl) ?_
    refine Qp C4 ?_
    refine Qp (Qc rfl (c71 e.op (e.args.map (fun a=>(Ca types vars a).1)))) ?_
    refine Qp At (Df (Qp A0 (Qp Cr (Ag (A3 (fun hc4=>?_) fun hc4=>?_)))))
    ·
     refine Ah (Qp A0 (Qp At (Qp At (Ag (Dr ?_)))))
     refine ⟨.inr rfl,[Iq _,Iq _],.cons (.tmp _ _ rfl) <| .cons (.tmp _ _ rfl) <| .nil,.cons _ (.refl _),?_⟩
     have hne:¬e.args.isEmpty=true:=by simpa [List.isEmpty_iff] using hc1
     rw [Ee types vars e,if_neg hne,hf,if_neg (show ¬((0:Int) != 0)=true by decide),if_pos hc4];rfl
    ·
     refine Bx (AW.seq (Ah (Qp Ks (Qp Bs (Qp A5 (Qp Bp (Qg [] Qw Ks (Qg [(53,_)] Qw Bs (Qg [(54,_)] Qw A5 ?_)))))))))
     refine Qp E2 (Ag (A3 (fun hc5=>?_) fun hc5=>?_))
     ·
      refine Ah (Qp At (Qp At (Ag (Dr ?_))))
      refine ⟨.inr rfl,[Iq _,Iq _],.cons (.tmp _ _ rfl) <| .cons (.tmp _ _ rfl) <| .nil,.cons _ (.refl _),?_⟩
      have hne:¬e.args.isEmpty=true:=by simpa [List.isEmpty_iff] using hc1
      rw [Ee types vars e,if_neg hne,hf,if_neg (show ¬((0:Int) != 0)=true by decide),iN hc4];unfold Xy;first | (rw [if_pos hc5];rfl) | (rw [iN hc5];rfl)
     ·
      refine Bx (Ah (Qp At (Qp At (Ag (AW.ret ?_)))))
      refine ⟨.inr rfl,[Iq _,Iq _],.cons (.tmp _ _ rfl) <| .cons (.tmp _ _ rfl) <| .nil,.cons _ (.refl _),?_⟩
      have hne:¬e.args.isEmpty=true:=by simpa [List.isEmpty_iff] using hc1
      rw [Ee types vars e,if_neg hne,hf,if_neg (show ¬((0:Int) != 0)=true by decide),iN hc4];unfold Xy;first | (rw [if_pos hc5];rfl) | (rw [iN hc5];rfl)
theorem c61 (types:List Sc)(vars:List Va)(hv:Jt types vars)(e:Ex)(hn:C1 e=0)(hs:Ar e≤1048576):Av Tryz.prog 75 [.sl 2 (types.map Nz),.sl 2 (vars.map Un),.agg (cE e)] (.tuple [.int .i64 (Ca types vars e).1,.int .i64 (Ca types vars e).2]):=by
 revert hn hs
 induction e using Ex.Aak
 rename_i e ih
 intro hn hs
 have hz:=Bb hn
 have hal:=Np e hs
 refine Av.body (n:=58) Ai Tryz.func75 rfl rfl rfl fun H=>?_
 refine Ah (Qp K8 (Qp At (Qp At (Ag (AW.seq (Ah (Qp K5 (Qp Dk ?_))))))))
 refine Qp (Ak (n:=e.args.length) Ai rfl rfl rfl (by simp)) ?_
 refine Qp A5 (Ag (A3 (fun hc1=>?_) fun hc1=>?_))
 ·
  refine Ah (Qp C4 (Qp C4 (Qp D0 ?_)))
  refine Qp (Qc rfl (c89 types vars hv e hz.1)) ?_
  refine Qp Jn (Qp Jn (Qp At (Qp At (Ag (Dr ?_)))))
  refine Km (Iq _) (Iq _) ?_
  rw [Ee types vars e,if_pos (by simpa [List.isEmpty_iff] using hc1)];rfl
 ·
  refine Bx (Ah (Qp N8 ?_))
  refine AOL.ghost (GS.row (t:=8) 3 1 rfl) ?_
  refine Ag (AW.seq (Ah (Qp At (Ag (AW.block ?_)))))
  refine AW.Aae (fun (p:Nat×List (List AV)×Value)=>(⟨[(0,.sl 2 (types.map Nz)),(1,.sl 2 (vars.map Un)),(5,.ptr (cE e)),(8,.row p.2.2 1 p.2.1),(9,.int .i64 (p.1:Int))],.row p.2.2 p.2.1.length 3 1::H,58⟩:St)) (fun (p:Nat×List (List AV)×Value)=>p.1≤e.args.length∧Aq (fun a=>(Ca types vars a).2) e.args=Aq (fun a=>(Ca types vars a).2) (e.args.drop p.1)∧p.2.1=((e.args.take p.1).map (fun a=>(Ca types vars a).1)).map (fun k=>[AV.int .i64 k])) (fun (p:Nat×List (List AV)×Value)=>e.args.length-p.1) ((0,[],.slice none 0 0)) ?_ (GS.weaken ⟨rfl,rfl,rfl,rfl,rfl,trivial⟩ (.refl _)) ?_
  · exact ⟨Nat.zero_le _,by simp,by simp⟩
  ·
   rintro p hR
   refine AW.seq (Ah (Qp A0 (Qp K5 (Qp Dk ?_))))
   refine Qp (Ak (n:=e.args.length) Ai rfl rfl rfl (by simp)) ?_
   refine Qp Cj (Ag (A3 (fun hc2=>?_) fun hc2=>?_))
   ·
    obtain ⟨a,ha⟩:=B2 hc2
    have hlt:=A9 ha
    have hm:=List.mem_of_getElem? ha
    have hsc:∀c∈p.2.1,Bf c=true:=by rw [hR.2.2];exact Fm fun _=>rfl
    refine Bx (AW.seq (AW.block (Ah (Qp C4 (Qp C4 (Qp K5 (Qp Dk (Qp A0 ?_))))))))
    refine Qp (Af (c:=[Iq _,_,Iq _,Iq _,Iq _,Iq _,Iq _,.str _]) Ai rfl rfl rfl rfl rfl rfl (by omega) (E9 ha)) ?_
    refine Qp D0 ?_
    refine Qp (Qc rfl (ih a hm (hz.2 a hm) (by have:=Gv hm;omega))) ?_
    refine Qp Mv (Qp Jn (Qp Jn (Qp At (Qp At (Ag (AW.seq (Ah (Qp A0 (Qp Cr ?_)))))))))
    refine Ag (A3 (fun hc3=>?_) fun hc3=>?_)
    ·
     refine Ah (Qp A0 (Qp At (Qp At (Ag (Dr (Ba (Aj (Aj (Ba ?_)))))))))
     refine Aj ?_
     refine ⟨.inr rfl,[Iq _,Iq _],.cons (.tmp _ _ rfl) <| .cons (.tmp _ _ rfl) <| .nil,.cons _ (.refl _),?_⟩
     have hne:¬e.args.isEmpty=true:=by simpa [List.isEmpty_iff] using hc1
     have hfe:Aq (fun a=>(Ca types vars a).2) e.args=(Ca types vars a).2:=by rw [hR.2.1,A8 ha,Aq,if_pos hc3]
     rw [Ee types vars e,if_neg hne,hfe,if_pos hc3];rfl
    ·
     refine Bx (AW.region ?_)
     refine Qp (Bj (v:=.row _ _ _) rfl) ?_
     refine Qp A0 ?_
     refine Qp (Az (es:=[[Iq _]]) Ai rfl rfl rfl rfl rfl rfl rfl rfl rfl) ?_
     refine Qe (Dm (k:=0) Ai rfl rfl rfl rfl rfl rfl rfl rfl (Hd rfl) (hsc) (by simp [hR.2.2];omega) (by simp [hR.2.2,maxLen];omega)) ?_
     rintro _ _ ⟨v47,rfl,rfl⟩
     refine Qp (C2 (v:=.row _ _ _) rfl) ?_
     refine AOL.nil (Bq (Ae (AW.region (Qp A0 (Qp Fv (Qp At (Ag ?_)))))))
     refine ⟨(p.1+1,p.2.1 ++ [[.int .i64 (Ca types vars a).1]],v47),?_,?_,GS.weaken ⟨rfl,rfl,rfl,rfl,rfl,trivial⟩ (.refl _)⟩
     · simp only;exact ⟨hlt,by rw [hR.2.1,A8 ha,Aq,if_neg (by simpa using hc3)],by rw [Cq ha,hR.2.2];simp⟩
     · first | omega | (simp only;omega)
   ·
    have hte:=C3 hc2
    have hd:=Dh hc2
    have hf:Aq (fun a=>(Ca types vars a).2) e.args=0:=by rw [hR.2.1,hd];rfl
    obtain ⟨k,es,rv⟩:=p
    simp only at hR hte
    have h6:es=(e.args.map (fun a=>(Ca types vars a).1)).map (fun k=>[AV.int .i64 k]):=by rw [hR.2.2,hte]
    subst h6
    refine AW.exit ?_
    refine A6 (A6 (Bv (Ae (AW.seq (Ah (Qp Ks (Qp Bs ?_)))))))
    refine AOL.ghost (GS.unrow 8 rfl) ?_
    refine Qp C4 ?_
    refine Qp (Qc rfl (c73 e.op (e.args.map (fun a=>(Ca types vars a).1)))) ?_
    refine Qp At (Df (Qp A0 (Qp Cr (Ag (A3 (fun hc4=>?_) fun hc4=>?_)))))
    ·
     refine Ah (Qp A0 (Qp At (Qp At (Ag (Dr ?_)))))
     refine ⟨.inr rfl,[Iq _,Iq _],.cons (.tmp _ _ rfl) <| .cons (.tmp _ _ rfl) <| .nil,.cons _ (.refl _),?_⟩
     have hne:¬e.args.isEmpty=true:=by simpa [List.isEmpty_iff] using hc1
     rw [Ee types vars e,if_neg hne,hf,if_neg (show ¬((0:Int) != 0)=true by decide),if_pos hc4];rfl
    ·
     refine Bx (Ah (Qp Ks (Qp Bs ?_)))
     refine Qp (Qc rfl (c90 _)) ?_
     refine Qp At (Qp At (Ag (AW.ret ?_)))
     refine ⟨.inr rfl,[Iq _,Iq _],.cons (.tmp _ _ rfl) <| .cons (.tmp _ _ rfl) <| .nil,.cons _ (.refl _),?_⟩
     have hne:¬e.args.isEmpty=true:=by simpa [List.isEmpty_iff] using hc1
     rw [Ee types vars e,if_neg hne,hf,if_neg (show ¬((0:Int) != 0)=true by decide),iN hc4];rfl
theorem c60 (types:List Sc)(vars:List Va)(hvl:vars.length≤1048576):Av Tryz.prog 74 [.sl 2 (types.map Nz),.sl 2 (vars.map Un)] (.int .i64 (Hv types vars)):=by
 refine Av.body (n:=31) Ai Tryz.func74 rfl rfl rfl fun H=>?_
 refine Ah (Qp At (Ag (AW.seq (Ah (Qp C4 ?_)))))
 refine Qp (Ak (n:=vars.length) Ai rfl rfl rfl (by simp)) ?_
 refine Qp Hg (Ag (A3 (fun hc1=>?_) fun hc1=>?_))
 ·
  refine Ah (Qp At (Ag (Dr ?_)))
  refine Qr (Iq _) ?_
  rw [Hv,if_pos hc1];rfl
 ·
  refine Bx (AW.seq (Ah (Qp At (Ag (AW.block ?_)))))
  refine AW.Aae (fun (p:Nat)=>(⟨[(0,.sl 2 (types.map Nz)),(1,.sl 2 (vars.map Un)),(5,.int .i64 (p:Int))],H,31⟩:St)) (fun (p:Nat)=>p≤vars.length∧Aq (Ow types.length) vars=Aq (Ow types.length) (vars.drop p)) (fun (p:Nat)=>vars.length-p) (0) ?_ (GS.weaken ⟨rfl,rfl,rfl,trivial⟩ (.refl _)) ?_
  · exact ⟨Nat.zero_le _,rfl⟩
  ·
   rintro p hR
   refine AW.seq (Ah (Qp A0 (Qp C4 ?_)))
   refine Qp (Ak (n:=vars.length) Ai rfl rfl rfl (by simp)) ?_
   refine Qp Cj (Ag (A3 (fun hc2=>?_) fun hc2=>?_))
   ·
    obtain ⟨a,ha⟩:=B2 hc2
    have hlt:=A9 ha
    have hm:=List.mem_of_getElem? ha
    refine Bx (AW.seq (AW.block (Ah (Qp C4 (Qp A0 ?_)))))
    refine Qp (Af (c:=[.str _,Iq _]) Ai rfl rfl rfl rfl rfl rfl (by omega) (Bh ha)) ?_
    refine Qp (Qf [Iq _]) (Qp Bs (Qp Cj (Qp Bp (Qg [] Qw C4 (Qg [] Qw A0 ?_)))))
    refine AOL.Aaf (y:=.ptr _) _ [(22,_),(23,_)] rfl (rX.all ⟨Ent.Aac _ _,Ent.Aac _ _,trivial⟩) (fun hG=>Af (c:=[.str _,Iq _]) Ai rfl rfl rfl rfl rfl rfl (by omega) (Bh ha)) rfl ?_
    refine Qg [(24,_)] Qw (Qf [Iq _]) (Qg [(25,_)] Qw Bs (Qg [] Qw C4 ?_))
    refine AOL.Aaf (y:=Iq _) _ [(27,_)] rfl (rX.all ⟨Ent.Aac _ _,trivial⟩) (fun hG=>Ak (n:=types.length) Ai rfl rfl rfl (by simp)) rfl ?_
    refine AOL.Aaf (y:=.bool _) _ [(26,_),(28,_)] rfl (rX.all ⟨Ent.Aac _ _,Ent.Aac _ _,trivial⟩) (fun hG=>Ut rfl rfl) rfl ?_
    refine Qp E2 (Ag (A3 (fun hc3=>?_) fun hc3=>?_))
    ·
     have he:Ow types.length a=6:=by unfold Ow;rw [if_pos hc3]
     refine Ah (Qp At (Ag (AW.ret (Ba (Aj (Aj (Ba (Aj ?_))))))))
     refine Qr (Iq _) ?_
     rw [Hv,iN hc1,hR.2,A8 ha,Aq,he,if_pos (by decide)];rfl
    ·
     have he:Ow types.length a=0:=by unfold Ow;rw [if_neg (by simpa using hc3)]
     refine AW.skip (Bq (Ae (AW.region (Qp A0 (Qp Fv (Qp At (Ag ?_)))))))
     refine ⟨p+1,?_,?_,GS.weaken ⟨rfl,rfl,rfl,trivial⟩ (.refl _)⟩
     · exact ⟨hlt,by rw [hR.2,A8 ha,Aq,if_neg (by rw [he];decide)]⟩
     · omega
   ·
    have hd:=Dh hc2
    refine AW.exit ?_
    refine A6 (A6 (Bv (Ae (Ah (Qp At (Ag (AW.ret ?_)))))))
    refine Qr (Iq _) ?_
    rw [Hv,iN hc1,hR.2,hd];rfl
theorem c31 (types:List Sc)(hl:types.length≤1048576)(hs:∀s∈types,Jk s)(vars:List Va)(hvl:vars.length≤1048576)(e:Ex)(hse:Ar e≤1048576):Av Tryz.prog 82 [.sl 2 (types.map Nz),.sl 2 (vars.map Un),.agg (cE e)] (.tuple [.int .i64 (Db types vars e).1,.int .i64 (Db types vars e).2]):=by
 refine Av.body (n:=49) Ai Tryz.func82 rfl rfl rfl fun H=>?_
 refine Ah (Qp K8 (Qp At (Qp At (Ag (AW.seq (Ah (Qp C4 ?_)))))))
 refine Qp (Qc rfl (c57 types hl hs)) ?_
 refine Qp At (Df (Qp A0 (Qp Cr (Ag (A3 (fun hc1=>?_) fun hc1=>?_)))))
 ·
  refine Ah (Qp A0 (Qp At (Qp At (Ag (Dr ?_)))))
  refine Km (Iq _) (Iq _) ?_
  rw [Db,if_pos hc1];rfl
 ·
  refine Bx (AW.seq (Ah (Qp C4 ?_)))
  refine Qp (Ak (n:=vars.length) Ai rfl rfl rfl (by simp)) ?_
  refine Qp Hg (Ag (A3 (fun hc2=>?_) fun hc2=>?_))
  ·
   refine Ah (Qp At (Qp At (Ag (Dr ?_))))
   refine Km (Iq _) (Iq _) ?_
   have hve:Hv types vars=5:=by rw [Hv,if_pos hc2]
   rw [Db,iN hc1,hve,if_pos (by decide)];rfl
  ·
   refine Bx (AW.seq (Ah (Qp C4 ?_)))
   refine Qp (Ak (n:=vars.length) Ai rfl rfl rfl (by simp)) ?_
   refine Qp A0 (Ag (AW.block ?_))
   refine AW.Aae (fun (p:Nat)=>(⟨[(0,.sl 2 (types.map Nz)),(1,.sl 2 (vars.map Un)),(5,.ptr (cE e)),(20,.sl 2 (vars.map Un)),(21,.int .i64 vars.length),(22,.int .i64 (p:Int))],H,49⟩:St)) (fun (p:Nat)=>p≤vars.length∧Aq (Ow types.length) vars=Aq (Ow types.length) (vars.drop p)) (fun (p:Nat)=>vars.length-p) (0) ?_ (GS.weaken ⟨rfl,rfl,rfl,rfl,rfl,rfl,trivial⟩ (.refl _)) ?_
   · exact ⟨Nat.zero_le _,rfl⟩
   ·
    rintro p hR
    refine Ah (Qp Cj (Ag (AW.seq (A3 (fun hc3=>?_) fun hc3=>?_))))
    ·
     obtain ⟨a,ha⟩:=B2 hc3
     have hlt:=A9 ha
     have hm:=List.mem_of_getElem? ha
     refine Bx (AW.seq (AW.block (Ah ?_)))
     refine Qp (Af (c:=[.str _,Iq _]) Ai rfl rfl rfl rfl rfl rfl (by omega) (Bh ha)) ?_
     refine Qp (Ck [.str _,Iq _]) ?_
     refine Qe (Al (l:=[.str [],.int .i64 0]) (by kernel_rfl)) ?_
     rintro _ _ ⟨b10,rfl,rfl⟩
     refine Cm 0 [.str _,Iq _] (_::_) ?_
     refine AOL.ghost (GS.Aad (t:=10) 0 rfl rfl) ?_
     refine Df (Qp (Qf [Iq _]) (Qp Bs (Qp Cj (Qp Bp (Qg [] Qw (Qf [Iq _]) (Qg [(30,_)] Qw Bs (Qg [] Qw C4 ?_)))))))
     refine AOL.Aaf (y:=Iq _) _ [(32,_)] rfl (rX.all ⟨Ent.Aac _ _,trivial⟩) (fun hG=>Ak (n:=types.length) Ai rfl rfl rfl (by simp)) rfl ?_
     refine AOL.Aaf (y:=.bool _) _ [(31,_),(33,_)] rfl (rX.all ⟨Ent.Aac _ _,Ent.Aac _ _,trivial⟩) (fun hG=>Ut rfl rfl) rfl ?_
     refine Qp E2 (Ag (A3 (fun hc4=>?_) fun hc4=>?_))
     ·
      have he:Ow types.length a=6:=by unfold Ow;rw [if_pos hc4]
      refine Ah (Qp At (Qp At (Ag (AW.ret (Ba (Aj (Aj (Ba (Aj ?_)))))))))
      refine Km (Iq _) (Iq _) ?_
      have hve:Hv types vars=6:=by rw [Hv,iN hc2,hR.2,A8 ha,Aq,he,if_pos (by decide)]
      rw [Db,iN hc1,hve,if_pos (by decide)];rfl
     ·
      have he:Ow types.length a=0:=by unfold Ow;rw [if_neg (by simpa using hc4)]
      refine AW.skip (Bq (Ae (AW.region (Qp Fv (Qp A0 (Ag ?_))))))
      refine ⟨p+1,?_,?_,GS.weaken ⟨rfl,rfl,rfl,rfl,rfl,rfl,trivial⟩ (.refl _)⟩
      · exact ⟨hlt,by rw [hR.2,A8 ha,Aq,if_neg (by rw [he];decide)]⟩
      · omega
    ·
     have hd:=Dh hc3
     have hf0:Aq (Ow types.length) vars=0:=by rw [hR.2,hd];rfl
     have hty:=cH hf0
     have hvz:Hv types vars=0:=by rw [Hv,if_neg (by simpa using hc2),hf0]
     refine AW.exit ?_
     refine A6 (A6 (Bv (Ae (AW.seq (Ah (Qp D0 ?_))))))
     refine Qp (Qc rfl (c21 e hse)) ?_
     refine Qp At (Df (Qp A0 (Qp Cr (Ag (A3 (fun hc5=>?_) fun hc5=>?_)))))
     ·
      refine Ah (Qp A0 (Qp At (Qp At (Ag (Dr ?_)))))
      refine Km (Iq _) (Iq _) ?_
      rw [Db,iN hc1,hvz,if_neg (show ¬((0:Int) != 0)=true by decide),if_pos hc5];rfl
     ·
      refine Bx (Ah (Qp C4 (Qp C4 (Qp (Ep [_,_]) (Qp D0 ?_)))))
      refine Qp (Qc rfl (c58 types vars hty e (O1 (by simpa using hc5)) hse)) ?_
      refine Qp Jn (Qp Jn (Qp At (Qp At (Ag (AW.ret ?_)))))
      refine Km (Iq _) (Iq _) ?_
      rw [Db,iN hc1,hvz,if_neg (show ¬((0:Int) != 0)=true by decide),iN hc5];rfl
theorem c32 (types:List Sc)(hl:types.length≤1048576)(hs:∀s∈types,Jk s)(vars:List Va)(hvl:vars.length≤1048576)(e:Ex)(hse:Ar e≤1048576):Av Tryz.prog 35 [.sl 2 (types.map Nz),.sl 2 (vars.map Un),.agg (cE e)] (.tuple [.int .i64 (Db types vars e).1,.int .i64 (Db types vars e).2]):=by
 refine Av.body (n:=33) Ai Tryz.func35 rfl rfl rfl fun H=>?_
 refine Ah (Qp K8 (Qp At (Qp At (Ag (AW.seq (Ah (Qp C4 ?_)))))))
 refine Qp (Qc rfl (c59 types hl hs)) ?_
 refine Qp At (Df (Qp A0 (Qp Cr (Ag (A3 (fun hc1=>?_) fun hc1=>?_)))))
 ·
  refine Ah (Qp A0 (Qp At (Qp At (Ag (Dr ?_)))))
  refine Km (Iq _) (Iq _) ?_
  simp only [Ad,Db]
  (first | rw [if_pos hc1] | skip)
  first | done | rfl
 ·
  refine Bx (AW.seq (Ah (Qp C4 (Qp C4 ?_))))
  refine Qp (Qc rfl (c60 types vars hvl)) ?_
  refine Qp At (Df (Qp A0 (Qp Cr (Ag (A3 (fun hc2=>?_) fun hc2=>?_)))))
  ·
   refine Ah (Qp A0 (Qp At (Qp At (Ag (Dr ?_)))))
   refine Km (Iq _) (Iq _) ?_
   simp only [Ad,Db]
   (first | rw [iN hc1] | skip);(first | rw [if_pos hc2] | skip)
   first | done | rfl
  ·
   have hty:Jt types vars:=cH (Wv (by simpa using hc2))
   refine Bx (AW.seq (Ah (Qp D0 ?_)))
   refine Qp (Qc rfl (c25 e hse)) ?_
   refine Qp At (Df (Qp A0 (Qp Cr (Ag (A3 (fun hc3=>?_) fun hc3=>?_)))))
   ·
    refine Ah (Qp A0 (Qp At (Qp At (Ag (Dr ?_)))))
    refine Km (Iq _) (Iq _) ?_
    simp only [Ad,Db]
    (first | rw [iN hc1] | skip);(first | rw [iN hc2] | skip);(first | rw [if_pos hc3] | skip)
    first | done | rfl
   ·
    refine Bx (Ah (Qp C4 (Qp C4 (Qp D0 ?_))))
    refine Qp (Qc rfl (c61 types vars hty e (O1 (by simpa using hc3)) hse)) ?_
    refine Qp Jn (Qp Jn (Qp At (Qp At (Ag (AW.ret ?_)))))
    refine Km (Iq _) (Iq _) ?_
    simp only [Ad,Db]
    (first | rw [iN hc1] | skip);(first | rw [iN hc2] | skip);(first | rw [iN hc3] | skip)
    first | done | rfl

end Go.Proofs.YtkddpedfbicbeaaGreatDoor
