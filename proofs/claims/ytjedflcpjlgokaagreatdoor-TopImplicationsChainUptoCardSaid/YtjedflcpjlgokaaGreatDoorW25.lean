/-
  Walks of layer 8: kinds, ExprKinds. No condition.
-/
import Derived.Test.YtjedflcpjlgokaaGreatDoorAz
import Derived.Test.YtjedflcpjlgokaaGreatDoorK08
import Derived.Test.YtjedflcpjlgokaaGreatDoorK12
import Derived.Test.YtjedflcpjlgokaaGreatDoorK03
import Derived.KernelRfl
namespace Go.Proofs.YtjedflcpjlgokaaGreatDoor
open Go Go.Aw
set_option maxHeartbeats 1600000
set_option maxRecDepth 20000
set_option linter.unusedVariables false
set_option linter.unusedSimpArgs false

def cT (types:List Sc)(vars:List Va):List AV:=[.sl 2 (types.map O2),.sl 2 (vars.map Xr)]
def Ju (types:List Sc)(vars:List Va):Prop:=∀v∈vars,0≤v.type∧v.type<(types.length:Int)
theorem oB {e:Ex}(h:Bt e=0)(h4:e.op=4):1≤e.kind∧e.kind≤5:=by
 unfold Bt at h
 split at h
 · cases h
 split at h
 · cases h
 split at h
 · cases h
 split at h
 · cases h
 rename_i h5
 simp [h4] at h5
 omega
theorem zX {e:Ex}(h:Bt e=0)(c:Bool)(v:Vl):(e.op==4&&(c || !F3 e.kind v))=(e.op==4&&(c || !Dk e.kind v)):=by
 by_cases h4:e.op=4
 ·
  have hk:=oB h h4
  have:F3 e.kind v=Dk e.kind v:=by
   unfold F3 Dk
   have:(e.kind==0)=false:=by simp;omega
   rw [this,Bool.or_false]
  rw [this]
 ·
  have:(e.op==4)=false:=by simp [h4]
  rw [this];rfl
theorem Vg {types:List Sc}{vars:List Va}(h:Hb types vars=0):Aq (N6 types.length) vars=0:=by
 unfold Hb at h
 split at h
 · cases h
 · exact h
theorem bV {types:List Sc}{vars:List Va}(h:Aq (N6 types.length) vars=0):Ju types vars:=by
 intro v hv
 have:=Hj h v hv
 unfold N6 at this
 split at this
 · cases this
 · rename_i h1;simp at h1;omega

theorem c86 (types:List Sc)(vars:List Va)(hv:Ju types vars)(e:Ex)(hn:Bt e=0):Ax Tryz.prog 101 [.agg (cT types vars),.agg (cE e)] (.tuple [.int .i64 (Fm types vars e).1,.int .i64 (Fm types vars e).2]):=by
 have hvr:=L7 hn
 have hfr:=Jd hn
 refine Ax.body (n:=70) Ai Tryz.func101 rfl rfl rfl fun H=>?_
 refine Ah (Qp (Gd [_,_]) (Qp Nc (Qp Ar (Qp Ar (Ag (AW.seq (Ah (Qp K9 (Qp Bp ?_)))))))))
 refine Qp A6 (Ag (A3 (fun hc1=>?_) fun hc1=>?_))
 ·
  refine Ah (Qp J2 (Qp J2 (Qp Bp (Qp Ar (Qp Ar (Ag (Du ?_)))))))
  refine Kg (Iq _) (Iq _) ?_
  simp only [Ad,Fm]
  try simp only [hfl]
  try simp only [hka]
  (first | rw [if_pos hc1] | skip)
  first | done | rfl
 ·
  refine By (AW.seq (Ah (Qp Xs (Qp Bp (Qp (Qf [_]) (Qp Ee ?_))))))
  refine Qp (Al (n:=vars.length) Ai rfl rfl rfl (by simp)) ?_
  refine Qp Nj (Ag (A3 (fun hc2=>?_) fun hc2=>?_))
  ·
   refine Ah (Qp Ar (Qp Ar (Ag (Du ?_))))
   refine Kg (Iq _) (Iq _) ?_
   simp only [Ad,Fm]
   try simp only [hfl]
   try simp only [hka]
   (first | rw [iN hc1] | skip);(first | rw [if_pos hc2] | skip)
   first | done | rfl
  ·
   refine By (AW.seq (Ah (Qp K9 (Qp Bp (Qp A6 (Qp Bu (Qg [] Qw K9 (Qg [(24,_)] Qw Bp (Qg [(25,_)] Qw A6 ?_)))))))))
   refine Qp E2 (Ag (A3 (fun hc3=>?_) fun hc3=>?_))
   ·
    refine Ah (Qp Ar (Qp Ar (Ag (Du ?_))))
    refine Kg (Iq _) (Iq _) ?_
    simp only [Ad,Fm]
    try simp only [hfl]
    try simp only [hka]
    (first | rw [iN hc1] | skip);(first | rw [iN hc2] | skip);(first | rw [if_pos hc3] | skip)
    first | done | rfl
   ·
    refine (Hc (l:=vars) hvr.1 (by simp at hc2;omega)).elim fun v hv1=>?_
    have hvt:=hv v (List.mem_of_getElem? hv1)
    refine (Hc (l:=types) hvt.1 hvt.2).elim fun s hs1=>?_
    have hfl:Fa types vars e.var=s.fields:=by simp [Fa,hv1,hs1]
    refine By (AW.seq ?_)
    refine AW.draw mixed (fun _=>True) trivial (by kernel_rfl) ?_
    refine Qn 0 rfl (Qf [_,_]) (Qn 1 rfl Ee (Qn 2 rfl (Qf [_]) (Qn 3 rfl Ee (Qn 4 rfl Xs (Qn 5 rfl Bp ?_)))))
    refine Qn 6 rfl (Af (c:=[.str _,Iq _]) Ai rfl rfl rfl rfl rfl rfl (hvr.1) (Bo hv1)) ?_
    refine Qn 7 rfl (Qf [Iq _]) (Qn 8 rfl Bp ?_)
    refine Qn 9 rfl (Af (c:=[.str _,_]) Ai rfl rfl rfl rfl rfl rfl (hvt.1) (Bo hs1)) ?_
    refine Qn 10 rfl (Qf [_]) (Qn 11 rfl Ee (Qn 12 rfl Un ?_))
    refine Jb.done _ _ (by kernel_rfl) ?_
    refine Ae (AW.seq (Ah (Qp Qv (Qp Bp (Qp Dt ?_)))))
    refine Qp (Al (n:=s.fields.length) Ai rfl rfl rfl (by simp)) ?_
    refine Qp Nj (Ag (A3 (fun hc4=>?_) fun hc4=>?_))
    ·
     refine Ah (Qp Ar (Qp Ar (Ag (Du ?_))))
     refine Kg (Iq _) (Iq _) ?_
     simp only [Ad,Fm]
     try simp only [hfl]
     try simp only [hka]
     (first | rw [iN hc1] | skip);(first | rw [iN hc2] | skip);(first | rw [iN hc3] | skip);(first | rw [if_pos hc4] | skip)
     first | done | rfl
    ·
     refine (Hc (l:=s.fields) hfr (by simp at hc4;omega)).elim fun f hf1=>?_
     have hka:G8 s.fields e.field=f.kind:=by simp [G8,hf1]
     refine By (Ah (Qp Dt (Qp Qv (Qp Bp ?_))))
     refine Qp (Af (c:=[.str _,Iq _]) Ai rfl rfl rfl rfl rfl rfl (hfr) (Bo hf1)) ?_
     refine Qp (Qf [Iq _]) (Qp Bp (Qp Ar (Ag (AW.seq (Ah (Qp K9 (Qp Bp (Qp A6 (Qp Bu ?_)))))))))
     refine Qg [] Qw A0 (Qg [] Qw J2 (Qg [(56,_)] Qw J2 (Qg [(57,_)] Qw Bp ?_)))
     refine AOL.Aaf (y:=.bool _) _ [(55,_),(58,_)] rfl (oE.all ⟨Ent.Aab _ _,Ent.Aab _ _,trivial⟩) (fun hG=>Wb rfl rfl) rfl ?_
     refine Qg [(59,_)] Qw Bu (Qg [] Qw Sl (Qg [(61,_)] Qw Bp (Qg [] Qw A0 (Qg [(63,_)] Qw (Fr [Iq _,Iq _,.str _]) ?_))))
     refine AOL.Aaf (y:=.bool _) _ [(62,_),(64,_)] rfl (oE.all ⟨Ent.Aab _ _,Ent.Aab _ _,trivial⟩) (fun hG=>E6 (by kernel_rfl) rfl rfl (c99 _ ⟨_,_,_⟩)) rfl ?_
     refine Qg [(65,_)] Qw Hp (Qg [(60,_),(66,_)] Qw E2 (Qp Gg (Ag (A3 (fun hc5=>?_) fun hc5=>?_))))
     ·
      refine Ah (Qp Ar (Qp Ar (Ag (Du ?_))))
      refine Kg (Iq _) (Iq _) ?_
      simp only [Ad,Fm]
      try simp only [hfl]
      try simp only [hka]
      (first | rw [iN hc1] | skip);(first | rw [iN hc2] | skip);(first | rw [iN hc3] | skip);(first | rw [iN hc4] | skip);(first | rw [if_pos hc5] | skip)
      first | done | rfl
     ·
      refine By (Ah (Qp A0 (Qp Ar (Qp Ar (Ag (AW.ret ?_))))))
      refine Kg (Iq _) (Iq _) ?_
      simp only [Ad,Fm]
      try simp only [hfl]
      try simp only [hka]
      (first | rw [iN hc1] | skip);(first | rw [iN hc2] | skip);(first | rw [iN hc3] | skip);(first | rw [iN hc4] | skip);(first | rw [iN hc5] | skip)
      first | done | rfl
theorem c89 (types:List Sc)(vars:List Va)(hv:Ju types vars)(e:Ex)(hn:Bt e=0):Ax Tryz.prog 118 [.sl 2 (types.map O2),.sl 2 (vars.map Xr),.agg (cE e)] (.tuple [.int .i64 (Fm types vars e).1,.int .i64 (Fm types vars e).2]):=by
 have hvr:=L7 hn
 have hfr:=Jd hn
 refine Ax.body (n:=69) Ai Tryz.func118 rfl rfl rfl fun H=>?_
 refine Ah (Qp Nc (Qp Ar (Qp Ar (Ag (AW.seq (Ah (Qp K9 (Qp Bp (Qp A6 ?_)))))))))
 refine Ag (A3 (fun hc1=>?_) fun hc1=>?_)
 ·
  refine Ah (Qp J2 (Qp J2 (Qp Bp (Qp Ar (Qp Ar (Ag (Du ?_)))))))
  refine Kg (Iq _) (Iq _) ?_
  simp only [Ad,Fm]
  try simp only [hfl]
  try simp only [hka]
  (first | rw [if_pos hc1] | skip)
  first | done | rfl
 ·
  refine By (AW.seq (Ah (Qp Xs (Qp Bp (Qp Dt ?_)))))
  refine Qp (Al (n:=vars.length) Ai rfl rfl rfl (by simp)) ?_
  refine Qp Nj (Ag (A3 (fun hc2=>?_) fun hc2=>?_))
  ·
   refine Ah (Qp Ar (Qp Ar (Ag (Du ?_))))
   refine Kg (Iq _) (Iq _) ?_
   simp only [Ad,Fm]
   try simp only [hfl]
   try simp only [hka]
   (first | rw [iN hc1] | skip);(first | rw [if_pos hc2] | skip)
   first | done | rfl
  ·
   refine By (AW.seq (Ah (Qp K9 (Qp Bp (Qp A6 (Qp Bu (Qg [] Qw K9 (Qg [(25,_)] Qw Bp (Qg [(26,_)] Qw A6 ?_)))))))))
   refine Qp E2 (Ag (A3 (fun hc3=>?_) fun hc3=>?_))
   ·
    refine Ah (Qp Ar (Qp Ar (Ag (Du ?_))))
    refine Kg (Iq _) (Iq _) ?_
    simp only [Ad,Fm]
    try simp only [hfl]
    try simp only [hka]
    (first | rw [iN hc1] | skip);(first | rw [iN hc2] | skip);(first | rw [if_pos hc3] | skip)
    first | done | rfl
   ·
    refine (Hc (l:=vars) hvr.1 (by simp at hc2;omega)).elim fun v hv1=>?_
    have hvt:=hv v (List.mem_of_getElem? hv1)
    refine (Hc (l:=types) hvt.1 hvt.2).elim fun s hs1=>?_
    have hfl:Fa types vars e.var=s.fields:=by simp [Fa,hv1,hs1]
    refine By (Ah (Qp Dt (Qp Dt (Qp Xs (Qp Bp ?_)))))
    refine Qp (Af (c:=[.str _,Iq _]) Ai rfl rfl rfl rfl rfl rfl (hvr.1) (Bo hv1)) ?_
    refine Qp (Qf [Iq _]) (Qp Bp ?_)
    refine Qp (Af (c:=[.str _,_]) Ai rfl rfl rfl rfl rfl rfl (hvt.1) (Bo hs1)) ?_
    refine Qp (Qf [_]) (Qp Ee (Qp Un (Ag (AW.seq (Ah (Qp Qv (Qp Bp (Qp Dt ?_))))))))
    refine Qp (Al (n:=s.fields.length) Ai rfl rfl rfl (by simp)) ?_
    refine Qp Nj (Ag (A3 (fun hc4=>?_) fun hc4=>?_))
    ·
     refine Ah (Qp Ar (Qp Ar (Ag (Du ?_))))
     refine Kg (Iq _) (Iq _) ?_
     simp only [Ad,Fm]
     try simp only [hfl]
     try simp only [hka]
     (first | rw [iN hc1] | skip);(first | rw [iN hc2] | skip);(first | rw [iN hc3] | skip);(first | rw [if_pos hc4] | skip)
     first | done | rfl
    ·
     refine (Hc (l:=s.fields) hfr (by simp at hc4;omega)).elim fun f hf1=>?_
     have hka:G8 s.fields e.field=f.kind:=by simp [G8,hf1]
     refine By (Ah (Qp Dt (Qp Qv (Qp Bp ?_))))
     refine Qp (Af (c:=[.str _,Iq _]) Ai rfl rfl rfl rfl rfl rfl (hfr) (Bo hf1)) ?_
     refine Qp (Qf [Iq _]) (Qp Bp (Qp Ar (Ag (AW.seq (Ah (Qp K9 (Qp Bp (Qp A6 (Qp Bu ?_)))))))))
     refine Qg [] Qw A0 (Qg [] Qw J2 (Qg [(55,_)] Qw J2 (Qg [(56,_)] Qw Bp ?_)))
     refine AOL.Aaf (y:=.bool _) _ [(54,_),(57,_)] rfl (oE.all ⟨Ent.Aab _ _,Ent.Aab _ _,trivial⟩) (fun hG=>Wb rfl rfl) rfl ?_
     refine Qg [(58,_)] Qw Bu (Qg [] Qw Sl (Qg [(60,_)] Qw Bp (Qg [] Qw A0 (Qg [(62,_)] Qw (Fr [Iq _,Iq _,.str _]) ?_))))
     refine AOL.Aaf (y:=.bool _) _ [(61,_),(63,_)] rfl (oE.all ⟨Ent.Aab _ _,Ent.Aab _ _,trivial⟩) (fun hG=>E6 (by kernel_rfl) rfl rfl (c101 _ ⟨_,_,_⟩)) rfl ?_
     refine Qg [(64,_)] Qw Hp (Qg [(59,_),(65,_)] Qw E2 (Qp Gg (Ag (A3 (fun hc5=>?_) fun hc5=>?_))))
     ·
      rw [zX hn] at hc5
      refine Ah (Qp Ar (Qp Ar (Ag (Du ?_))))
      refine Kg (Iq _) (Iq _) ?_
      simp only [Ad,Fm]
      try simp only [hfl]
      try simp only [hka]
      (first | rw [iN hc1] | skip);(first | rw [iN hc2] | skip);(first | rw [iN hc3] | skip);(first | rw [iN hc4] | skip);(first | rw [if_pos hc5] | skip)
      first | done | rfl
     ·
      rw [zX hn] at hc5
      refine By (Ah (Qp A0 (Qp Ar (Qp Ar (Ag (AW.ret ?_))))))
      refine Kg (Iq _) (Iq _) ?_
      simp only [Ad,Fm]
      try simp only [hfl]
      try simp only [hka]
      (first | rw [iN hc1] | skip);(first | rw [iN hc2] | skip);(first | rw [iN hc3] | skip);(first | rw [iN hc4] | skip);(first | rw [iN hc5] | skip)
      first | done | rfl
theorem c90 (op:Int):Ax Tryz.prog 120 [.int .i64 op] (.int .i64 (Wv op)):=by
 refine Ax.body (n:=9) Ai Tryz.func120 rfl rfl rfl fun H=>?_
 refine Ah (Qp Ar (Ag (AW.seq (Ah (Qp A0 (Qp A6 (Qp Bu (Qg [] Qw A0 (Qg [(6,_)] Qw A6 ?_)))))))))
 refine Qp E2 (Ag (A3 (fun hc1=>?_) fun hc1=>?_))
 ·
  refine Ah (Qp Ar (Ag (Du ?_)))
  refine Qr (Iq _) ?_
  simp only [Ad,Wv]
  (first | rw [if_pos hc1] | skip)
 ·
  refine By (Ah (Qp Ar (Ag (AW.ret ?_))))
  refine Qr (Iq _) ?_
  simp only [Ad,Wv]
  (first | rw [iN hc1] | skip)
theorem c58 (types:List Sc)(vars:List Va)(hv:Ju types vars)(e:Ex)(hn:Dc e=0)(hs:At e≤1048576):Ax Tryz.prog 70 [.agg (cT types vars),.agg (cE e)] (.tuple [.int .i64 (Ce types vars e).1,.int .i64 (Ce types vars e).2]):=by
 revert hn hs
 induction e using Ex.Aaj
 rename_i e ih
 intro hn hs
 have hz:=A8 hn
 have hal:=O7 e hs
 refine Ax.body (n:=57) Ai Tryz.func70 rfl rfl rfl fun H=>?_
 refine Ah (Qp (Gd [_,_]) (Qp Nc (Qp Ar (Qp Ar (Ag (AW.seq (Ah (Qp Oy (Qp Ee ?_)))))))))
 refine Qp (Al (n:=e.args.length) Ai rfl rfl rfl (by simp)) ?_
 refine Qp A6 (Ag (A3 (fun hc1=>?_) fun hc1=>?_))
 ·
  refine Ah (Qp (Cv [_,_]) (Qp E7 ?_))
  refine Qp (Qc rfl (c86 types vars hv e hz.1)) ?_
  refine Qp I6 (Qp I6 (Qp Ar (Qp Ar (Ag (Du ?_)))))
  refine Kg (Iq _) (Iq _) ?_
  rw [Ep types vars e,if_pos (by simpa [List.isEmpty_iff] using hc1)];rfl
 ·
  refine By (Ah (Qp N2 ?_))
  refine AOL.ghost (GS.row (t:=6) 3 1 rfl) ?_
  refine Ag (AW.seq (Ah (Qp Oy (Qp Ee ?_))))
  refine Qp (Al (n:=e.args.length) Ai rfl rfl rfl (by simp)) ?_
  refine Qp A0 (Ag (AW.block ?_))
  refine AW.Aad (fun (p:Nat×List (List AV)×Value)=>(⟨[(2,.ptr (cT types vars)),(3,.ptr (cE e)),(6,.row p.2.2 1 p.2.1),(22,.sl 8 (e.args.map G7)),(23,.int .i64 e.args.length),(24,.int .i64 (p.1:Int))],.row p.2.2 p.2.1.length 3 1::H,57⟩:St)) (fun (p:Nat×List (List AV)×Value)=>p.1≤e.args.length∧Aq (fun a=>(Ce types vars a).2) e.args=Aq (fun a=>(Ce types vars a).2) (e.args.drop p.1)∧p.2.1=((e.args.take p.1).map (fun a=>(Ce types vars a).1)).map (fun k=>[AV.int .i64 k])) (fun (p:Nat×List (List AV)×Value)=>e.args.length-p.1) ((0,[],.slice none 0 0)) ?_ (GS.weaken ⟨rfl,rfl,rfl,rfl,rfl,rfl,trivial⟩ (.refl _)) ?_
  · exact ⟨Nat.zero_le _,by simp,by simp⟩
  ·
   rintro p hR
   refine Ah (Qp Ck (Ag (AW.seq (A3 (fun hc2=>?_) fun hc2=>?_))))
   ·
    obtain ⟨a,ha⟩:=B7 hc2
    have hlt:=Bb ha
    have hm:=List.mem_of_getElem? ha
    have hsc:∀c∈p.2.1,Bc c=true:=by rw [hR.2.2];exact Fc fun _=>rfl
    refine By (AW.seq (AW.block (Ah ?_)))
    refine Qp (Af (c:=[Iq _,_,Iq _,Iq _,Iq _,Iq _,Iq _,.str _]) Ai rfl rfl rfl rfl rfl rfl (by omega) (F2 ha)) ?_
    refine Qp E7 ?_
    refine Qe (Am (l:=[.int .i64 0,.sl 8 [],.int .i64 0,.int .i64 0,.int .i64 0,.int .i64 0,.int .i64 0,.str []]) (by kernel_rfl)) ?_
    rintro _ _ ⟨b8,rfl,rfl⟩
    refine Cz 0 [Iq _,_,Iq _,Iq _,Iq _,Iq _,Iq _,.str _] (_::_::_) ?_
    refine AOL.ghost (GS.Aac (t:=8) 0 rfl rfl) ?_
    refine Do (Qp (Cv [_,_]) (Qp E7 ?_))
    refine Qp (Qc rfl (ih a hm (hz.2 a hm) (by have:=G0 hm;omega))) ?_
    refine Qp Nb (Qp I6 (Qp I6 (Qp Ar (Qp Ar (Ag (AW.seq (Ah (Qp A0 (Qp Cr ?_)))))))))
    refine Ag (A3 (fun hc3=>?_) fun hc3=>?_)
    ·
     refine Ah (Qp A0 (Qp Ar (Qp Ar (Ag (Du (A7 (Aj (Aj (A7 ?_)))))))))
     refine Aj ?_
     refine ⟨.inr rfl,[Iq _,Iq _],.cons (.tmp _ _ rfl) <| .cons (.tmp _ _ rfl) <| .nil,.cons _ (.refl _),?_⟩
     have hne:¬e.args.isEmpty=true:=by simpa [List.isEmpty_iff] using hc1
     have hfe:Aq (fun a=>(Ce types vars a).2) e.args=(Ce types vars a).2:=by rw [hR.2.1,A4 ha,Aq,if_pos hc3]
     rw [Ep types vars e,if_neg hne,hfe,if_pos hc3];rfl
    ·
     refine By (AW.region ?_)
     refine Qp (Bk (v:=.row _ _ _) rfl) ?_
     refine Qp A0 ?_
     refine Qp (A2 (es:=[[Iq _]]) Ai rfl rfl rfl rfl rfl rfl rfl rfl rfl) ?_
     refine Qe (Dh (k:=0) Ai rfl rfl rfl rfl rfl rfl rfl rfl (G5 rfl) (hsc) (by simp [hR.2.2];omega) (by simp [hR.2.2,maxLen];omega)) ?_
     rintro _ _ ⟨v40,rfl,rfl⟩
     refine Qp (Da (v:=.row _ _ _) rfl) ?_
     refine AOL.nil (Bv (Ae (AW.region (Qp F7 (Qp A0 (Ag ?_))))))
     refine ⟨(p.1+1,p.2.1 ++ [[.int .i64 (Ce types vars a).1]],v40),?_,?_,GS.weaken ⟨rfl,rfl,rfl,rfl,rfl,rfl,trivial⟩ (.refl _)⟩
     · simp only;exact ⟨hlt,by rw [hR.2.1,A4 ha,Aq,if_neg (by simpa using hc3)],by rw [C9 ha,hR.2.2];simp⟩
     · first | omega | (simp only;omega)
   ·
    have hte:=C5 hc2
    have hd:=C8 hc2
    have hf:Aq (fun a=>(Ce types vars a).2) e.args=0:=by rw [hR.2.1,hd];rfl
    obtain ⟨k,es,rv⟩:=p
    simp only at hR hte
    have h6:es=(e.args.map (fun a=>(Ce types vars a).1)).map (fun k=>[AV.int .i64 k]):=by rw [hR.2.2,hte]
    subst h6
    refine AW.exit ?_
    refine A5 (A5 (Bx (Ae (AW.seq (Ah (Qp K9 (Qp Bp ?_)))))))
    refine AOL.ghost (GS.unrow 6 rfl) ?_
    refine Qp Dt ?_
    refine Qp (Qc rfl (c71 e.op (e.args.map (fun a=>(Ce types vars a).1)))) ?_
    refine Qp Ar (Do (Qp A0 (Qp Cr (Ag (A3 (fun hc4=>?_) fun hc4=>?_)))))
    ·
     refine Ah (Qp A0 (Qp Ar (Qp Ar (Ag (Du ?_)))))
     refine ⟨.inr rfl,[Iq _,Iq _],.cons (.tmp _ _ rfl) <| .cons (.tmp _ _ rfl) <| .nil,.cons _ (.refl _),?_⟩
     have hne:¬e.args.isEmpty=true:=by simpa [List.isEmpty_iff] using hc1
     rw [Ep types vars e,if_neg hne,hf,if_neg (show ¬((0:Int) != 0)=true by decide),if_pos hc4];rfl
    ·
     refine By (AW.seq (Ah (Qp K9 (Qp Bp (Qp A6 (Qp Bu (Qg [] Qw K9 (Qg [(53,_)] Qw Bp (Qg [(54,_)] Qw A6 ?_)))))))))
     refine Qp E2 (Ag (A3 (fun hc5=>?_) fun hc5=>?_))
     ·
      refine Ah (Qp Ar (Qp Ar (Ag (Du ?_))))
      refine ⟨.inr rfl,[Iq _,Iq _],.cons (.tmp _ _ rfl) <| .cons (.tmp _ _ rfl) <| .nil,.cons _ (.refl _),?_⟩
      have hne:¬e.args.isEmpty=true:=by simpa [List.isEmpty_iff] using hc1
      rw [Ep types vars e,if_neg hne,hf,if_neg (show ¬((0:Int) != 0)=true by decide),iN hc4];unfold Wv;first | (rw [if_pos hc5];rfl) | (rw [iN hc5];rfl)
     ·
      refine By (Ah (Qp Ar (Qp Ar (Ag (AW.ret ?_)))))
      refine ⟨.inr rfl,[Iq _,Iq _],.cons (.tmp _ _ rfl) <| .cons (.tmp _ _ rfl) <| .nil,.cons _ (.refl _),?_⟩
      have hne:¬e.args.isEmpty=true:=by simpa [List.isEmpty_iff] using hc1
      rw [Ep types vars e,if_neg hne,hf,if_neg (show ¬((0:Int) != 0)=true by decide),iN hc4];unfold Wv;first | (rw [if_pos hc5];rfl) | (rw [iN hc5];rfl)
theorem c61 (types:List Sc)(vars:List Va)(hv:Ju types vars)(e:Ex)(hn:Dc e=0)(hs:At e≤1048576):Ax Tryz.prog 88 [.sl 2 (types.map O2),.sl 2 (vars.map Xr),.agg (cE e)] (.tuple [.int .i64 (Ce types vars e).1,.int .i64 (Ce types vars e).2]):=by
 revert hn hs
 induction e using Ex.Aaj
 rename_i e ih
 intro hn hs
 have hz:=A8 hn
 have hal:=O7 e hs
 refine Ax.body (n:=58) Ai Tryz.func88 rfl rfl rfl fun H=>?_
 refine Ah (Qp Nc (Qp Ar (Qp Ar (Ag (AW.seq (Ah (Qp Oy (Qp Ee ?_))))))))
 refine Qp (Al (n:=e.args.length) Ai rfl rfl rfl (by simp)) ?_
 refine Qp A6 (Ag (A3 (fun hc1=>?_) fun hc1=>?_))
 ·
  refine Ah (Qp Dt (Qp Dt (Qp E7 ?_)))
  refine Qp (Qc rfl (c89 types vars hv e hz.1)) ?_
  refine Qp I6 (Qp I6 (Qp Ar (Qp Ar (Ag (Du ?_)))))
  refine Kg (Iq _) (Iq _) ?_
  rw [Ep types vars e,if_pos (by simpa [List.isEmpty_iff] using hc1)];rfl
 ·
  refine By (Ah (Qp N2 ?_))
  refine AOL.ghost (GS.row (t:=8) 3 1 rfl) ?_
  refine Ag (AW.seq (Ah (Qp Ar (Ag (AW.block ?_)))))
  refine AW.Aad (fun (p:Nat×List (List AV)×Value)=>(⟨[(0,.sl 2 (types.map O2)),(1,.sl 2 (vars.map Xr)),(5,.ptr (cE e)),(8,.row p.2.2 1 p.2.1),(9,.int .i64 (p.1:Int))],.row p.2.2 p.2.1.length 3 1::H,58⟩:St)) (fun (p:Nat×List (List AV)×Value)=>p.1≤e.args.length∧Aq (fun a=>(Ce types vars a).2) e.args=Aq (fun a=>(Ce types vars a).2) (e.args.drop p.1)∧p.2.1=((e.args.take p.1).map (fun a=>(Ce types vars a).1)).map (fun k=>[AV.int .i64 k])) (fun (p:Nat×List (List AV)×Value)=>e.args.length-p.1) ((0,[],.slice none 0 0)) ?_ (GS.weaken ⟨rfl,rfl,rfl,rfl,rfl,trivial⟩ (.refl _)) ?_
  · exact ⟨Nat.zero_le _,by simp,by simp⟩
  ·
   rintro p hR
   refine AW.seq (Ah (Qp A0 (Qp Oy (Qp Ee ?_))))
   refine Qp (Al (n:=e.args.length) Ai rfl rfl rfl (by simp)) ?_
   refine Qp Ck (Ag (A3 (fun hc2=>?_) fun hc2=>?_))
   ·
    obtain ⟨a,ha⟩:=B7 hc2
    have hlt:=Bb ha
    have hm:=List.mem_of_getElem? ha
    have hsc:∀c∈p.2.1,Bc c=true:=by rw [hR.2.2];exact Fc fun _=>rfl
    refine By (AW.seq (AW.block (Ah (Qp Dt (Qp Dt (Qp Oy (Qp Ee (Qp A0 ?_))))))))
    refine Qp (Af (c:=[Iq _,_,Iq _,Iq _,Iq _,Iq _,Iq _,.str _]) Ai rfl rfl rfl rfl rfl rfl (by omega) (F2 ha)) ?_
    refine Qp E7 ?_
    refine Qp (Qc rfl (ih a hm (hz.2 a hm) (by have:=G0 hm;omega))) ?_
    refine Qp Nb (Qp I6 (Qp I6 (Qp Ar (Qp Ar (Ag (AW.seq (Ah (Qp A0 (Qp Cr ?_)))))))))
    refine Ag (A3 (fun hc3=>?_) fun hc3=>?_)
    ·
     refine Ah (Qp A0 (Qp Ar (Qp Ar (Ag (Du (A7 (Aj (Aj (A7 ?_)))))))))
     refine Aj ?_
     refine ⟨.inr rfl,[Iq _,Iq _],.cons (.tmp _ _ rfl) <| .cons (.tmp _ _ rfl) <| .nil,.cons _ (.refl _),?_⟩
     have hne:¬e.args.isEmpty=true:=by simpa [List.isEmpty_iff] using hc1
     have hfe:Aq (fun a=>(Ce types vars a).2) e.args=(Ce types vars a).2:=by rw [hR.2.1,A4 ha,Aq,if_pos hc3]
     rw [Ep types vars e,if_neg hne,hfe,if_pos hc3];rfl
    ·
     refine By (AW.region ?_)
     refine Qp (Bk (v:=.row _ _ _) rfl) ?_
     refine Qp A0 ?_
     refine Qp (A2 (es:=[[Iq _]]) Ai rfl rfl rfl rfl rfl rfl rfl rfl rfl) ?_
     refine Qe (Dh (k:=0) Ai rfl rfl rfl rfl rfl rfl rfl rfl (G5 rfl) (hsc) (by simp [hR.2.2];omega) (by simp [hR.2.2,maxLen];omega)) ?_
     rintro _ _ ⟨v47,rfl,rfl⟩
     refine Qp (Da (v:=.row _ _ _) rfl) ?_
     refine AOL.nil (Bv (Ae (AW.region (Qp A0 (Qp F7 (Qp Ar (Ag ?_)))))))
     refine ⟨(p.1+1,p.2.1 ++ [[.int .i64 (Ce types vars a).1]],v47),?_,?_,GS.weaken ⟨rfl,rfl,rfl,rfl,rfl,trivial⟩ (.refl _)⟩
     · simp only;exact ⟨hlt,by rw [hR.2.1,A4 ha,Aq,if_neg (by simpa using hc3)],by rw [C9 ha,hR.2.2];simp⟩
     · first | omega | (simp only;omega)
   ·
    have hte:=C5 hc2
    have hd:=C8 hc2
    have hf:Aq (fun a=>(Ce types vars a).2) e.args=0:=by rw [hR.2.1,hd];rfl
    obtain ⟨k,es,rv⟩:=p
    simp only at hR hte
    have h6:es=(e.args.map (fun a=>(Ce types vars a).1)).map (fun k=>[AV.int .i64 k]):=by rw [hR.2.2,hte]
    subst h6
    refine AW.exit ?_
    refine A5 (A5 (Bx (Ae (AW.seq (Ah (Qp K9 (Qp Bp ?_)))))))
    refine AOL.ghost (GS.unrow 8 rfl) ?_
    refine Qp Dt ?_
    refine Qp (Qc rfl (c73 e.op (e.args.map (fun a=>(Ce types vars a).1)))) ?_
    refine Qp Ar (Do (Qp A0 (Qp Cr (Ag (A3 (fun hc4=>?_) fun hc4=>?_)))))
    ·
     refine Ah (Qp A0 (Qp Ar (Qp Ar (Ag (Du ?_)))))
     refine ⟨.inr rfl,[Iq _,Iq _],.cons (.tmp _ _ rfl) <| .cons (.tmp _ _ rfl) <| .nil,.cons _ (.refl _),?_⟩
     have hne:¬e.args.isEmpty=true:=by simpa [List.isEmpty_iff] using hc1
     rw [Ep types vars e,if_neg hne,hf,if_neg (show ¬((0:Int) != 0)=true by decide),if_pos hc4];rfl
    ·
     refine By (Ah (Qp K9 (Qp Bp ?_)))
     refine Qp (Qc rfl (c90 _)) ?_
     refine Qp Ar (Qp Ar (Ag (AW.ret ?_)))
     refine ⟨.inr rfl,[Iq _,Iq _],.cons (.tmp _ _ rfl) <| .cons (.tmp _ _ rfl) <| .nil,.cons _ (.refl _),?_⟩
     have hne:¬e.args.isEmpty=true:=by simpa [List.isEmpty_iff] using hc1
     rw [Ep types vars e,if_neg hne,hf,if_neg (show ¬((0:Int) != 0)=true by decide),iN hc4];rfl
theorem c60 (types:List Sc)(vars:List Va)(hvl:vars.length≤1048576):Ax Tryz.prog 86 [.sl 2 (types.map O2),.sl 2 (vars.map Xr)] (.int .i64 (Hb types vars)):=by
 refine Ax.body (n:=31) Ai Tryz.func86 rfl rfl rfl fun H=>?_
 refine Ah (Qp Ar (Ag (AW.seq (Ah (Qp Dt ?_)))))
 refine Qp (Al (n:=vars.length) Ai rfl rfl rfl (by simp)) ?_
 refine Qp G6 (Ag (A3 (fun hc1=>?_) fun hc1=>?_))
 ·
  refine Ah (Qp Ar (Ag (Du ?_)))
  refine Qr (Iq _) ?_
  rw [Hb,if_pos hc1];rfl
 ·
  refine By (AW.seq (Ah (Qp Ar (Ag (AW.block ?_)))))
  refine AW.Aad (fun (p:Nat)=>(⟨[(0,.sl 2 (types.map O2)),(1,.sl 2 (vars.map Xr)),(5,.int .i64 (p:Int))],H,31⟩:St)) (fun (p:Nat)=>p≤vars.length∧Aq (N6 types.length) vars=Aq (N6 types.length) (vars.drop p)) (fun (p:Nat)=>vars.length-p) (0) ?_ (GS.weaken ⟨rfl,rfl,rfl,trivial⟩ (.refl _)) ?_
  · exact ⟨Nat.zero_le _,rfl⟩
  ·
   rintro p hR
   refine AW.seq (Ah (Qp A0 (Qp Dt ?_)))
   refine Qp (Al (n:=vars.length) Ai rfl rfl rfl (by simp)) ?_
   refine Qp Ck (Ag (A3 (fun hc2=>?_) fun hc2=>?_))
   ·
    obtain ⟨a,ha⟩:=B7 hc2
    have hlt:=Bb ha
    have hm:=List.mem_of_getElem? ha
    refine By (AW.seq (AW.block (Ah (Qp Dt (Qp A0 ?_)))))
    refine Qp (Af (c:=[.str _,Iq _]) Ai rfl rfl rfl rfl rfl rfl (by omega) (Bo ha)) ?_
    refine Qp (Qf [Iq _]) (Qp Bp (Qp Ck (Qp Bu (Qg [] Qw Dt (Qg [] Qw A0 ?_)))))
    refine AOL.Aaf (y:=.ptr _) _ [(22,_),(23,_)] rfl (oE.all ⟨Ent.Aab _ _,Ent.Aab _ _,trivial⟩) (fun hG=>Af (c:=[.str _,Iq _]) Ai rfl rfl rfl rfl rfl rfl (by omega) (Bo ha)) rfl ?_
    refine Qg [(24,_)] Qw (Qf [Iq _]) (Qg [(25,_)] Qw Bp (Qg [] Qw Dt ?_))
    refine AOL.Aaf (y:=Iq _) _ [(27,_)] rfl (oE.all ⟨Ent.Aab _ _,trivial⟩) (fun hG=>Al (n:=types.length) Ai rfl rfl rfl (by simp)) rfl ?_
    refine AOL.Aaf (y:=.bool _) _ [(26,_),(28,_)] rfl (oE.all ⟨Ent.Aab _ _,Ent.Aab _ _,trivial⟩) (fun hG=>Ua rfl rfl) rfl ?_
    refine Qp E2 (Ag (A3 (fun hc3=>?_) fun hc3=>?_))
    ·
     have he:N6 types.length a=6:=by unfold N6;rw [if_pos hc3]
     refine Ah (Qp Ar (Ag (AW.ret (A7 (Aj (Aj (A7 (Aj ?_))))))))
     refine Qr (Iq _) ?_
     rw [Hb,iN hc1,hR.2,A4 ha,Aq,he,if_pos (by decide)];rfl
    ·
     have he:N6 types.length a=0:=by unfold N6;rw [if_neg (by simpa using hc3)]
     refine AW.skip (Bv (Ae (AW.region (Qp A0 (Qp F7 (Qp Ar (Ag ?_)))))))
     refine ⟨p+1,?_,?_,GS.weaken ⟨rfl,rfl,rfl,trivial⟩ (.refl _)⟩
     · exact ⟨hlt,by rw [hR.2,A4 ha,Aq,if_neg (by rw [he];decide)]⟩
     · omega
   ·
    have hd:=C8 hc2
    refine AW.exit ?_
    refine A5 (A5 (Bx (Ae (Ah (Qp Ar (Ag (AW.ret ?_)))))))
    refine Qr (Iq _) ?_
    rw [Hb,iN hc1,hR.2,hd];rfl
theorem c31 (types:List Sc)(hl:types.length≤1048576)(hs:∀s∈types,J4 s)(vars:List Va)(hvl:vars.length≤1048576)(e:Ex)(hse:At e≤1048576):Ax Tryz.prog 33 [.sl 2 (types.map O2),.sl 2 (vars.map Xr),.agg (cE e)] (.tuple [.int .i64 (C7 types vars e).1,.int .i64 (C7 types vars e).2]):=by
 refine Ax.body (n:=49) Ai Tryz.func33 rfl rfl rfl fun H=>?_
 refine Ah (Qp Nc (Qp Ar (Qp Ar (Ag (AW.seq (Ah (Qp Dt ?_)))))))
 refine Qp (Qc rfl (c57 types hl hs)) ?_
 refine Qp Ar (Do (Qp A0 (Qp Cr (Ag (A3 (fun hc1=>?_) fun hc1=>?_)))))
 ·
  refine Ah (Qp A0 (Qp Ar (Qp Ar (Ag (Du ?_)))))
  refine Kg (Iq _) (Iq _) ?_
  rw [C7,if_pos hc1];rfl
 ·
  refine By (AW.seq (Ah (Qp Dt ?_)))
  refine Qp (Al (n:=vars.length) Ai rfl rfl rfl (by simp)) ?_
  refine Qp G6 (Ag (A3 (fun hc2=>?_) fun hc2=>?_))
  ·
   refine Ah (Qp Ar (Qp Ar (Ag (Du ?_))))
   refine Kg (Iq _) (Iq _) ?_
   have hve:Hb types vars=5:=by rw [Hb,if_pos hc2]
   rw [C7,iN hc1,hve,if_pos (by decide)];rfl
  ·
   refine By (AW.seq (Ah (Qp Dt ?_)))
   refine Qp (Al (n:=vars.length) Ai rfl rfl rfl (by simp)) ?_
   refine Qp A0 (Ag (AW.block ?_))
   refine AW.Aad (fun (p:Nat)=>(⟨[(0,.sl 2 (types.map O2)),(1,.sl 2 (vars.map Xr)),(5,.ptr (cE e)),(20,.sl 2 (vars.map Xr)),(21,.int .i64 vars.length),(22,.int .i64 (p:Int))],H,49⟩:St)) (fun (p:Nat)=>p≤vars.length∧Aq (N6 types.length) vars=Aq (N6 types.length) (vars.drop p)) (fun (p:Nat)=>vars.length-p) (0) ?_ (GS.weaken ⟨rfl,rfl,rfl,rfl,rfl,rfl,trivial⟩ (.refl _)) ?_
   · exact ⟨Nat.zero_le _,rfl⟩
   ·
    rintro p hR
    refine Ah (Qp Ck (Ag (AW.seq (A3 (fun hc3=>?_) fun hc3=>?_))))
    ·
     obtain ⟨a,ha⟩:=B7 hc3
     have hlt:=Bb ha
     have hm:=List.mem_of_getElem? ha
     refine By (AW.seq (AW.block (Ah ?_)))
     refine Qp (Af (c:=[.str _,Iq _]) Ai rfl rfl rfl rfl rfl rfl (by omega) (Bo ha)) ?_
     refine Qp (Cv [.str _,Iq _]) ?_
     refine Qe (Am (l:=[.str [],.int .i64 0]) (by kernel_rfl)) ?_
     rintro _ _ ⟨b10,rfl,rfl⟩
     refine Cz 0 [.str _,Iq _] (_::_) ?_
     refine AOL.ghost (GS.Aac (t:=10) 0 rfl rfl) ?_
     refine Do (Qp (Qf [Iq _]) (Qp Bp (Qp Ck (Qp Bu (Qg [] Qw (Qf [Iq _]) (Qg [(30,_)] Qw Bp (Qg [] Qw Dt ?_)))))))
     refine AOL.Aaf (y:=Iq _) _ [(32,_)] rfl (oE.all ⟨Ent.Aab _ _,trivial⟩) (fun hG=>Al (n:=types.length) Ai rfl rfl rfl (by simp)) rfl ?_
     refine AOL.Aaf (y:=.bool _) _ [(31,_),(33,_)] rfl (oE.all ⟨Ent.Aab _ _,Ent.Aab _ _,trivial⟩) (fun hG=>Ua rfl rfl) rfl ?_
     refine Qp E2 (Ag (A3 (fun hc4=>?_) fun hc4=>?_))
     ·
      have he:N6 types.length a=6:=by unfold N6;rw [if_pos hc4]
      refine Ah (Qp Ar (Qp Ar (Ag (AW.ret (A7 (Aj (Aj (A7 (Aj ?_)))))))))
      refine Kg (Iq _) (Iq _) ?_
      have hve:Hb types vars=6:=by rw [Hb,iN hc2,hR.2,A4 ha,Aq,he,if_pos (by decide)]
      rw [C7,iN hc1,hve,if_pos (by decide)];rfl
     ·
      have he:N6 types.length a=0:=by unfold N6;rw [if_neg (by simpa using hc4)]
      refine AW.skip (Bv (Ae (AW.region (Qp F7 (Qp A0 (Ag ?_))))))
      refine ⟨p+1,?_,?_,GS.weaken ⟨rfl,rfl,rfl,rfl,rfl,rfl,trivial⟩ (.refl _)⟩
      · exact ⟨hlt,by rw [hR.2,A4 ha,Aq,if_neg (by rw [he];decide)]⟩
      · omega
    ·
     have hd:=C8 hc3
     have hf0:Aq (N6 types.length) vars=0:=by rw [hR.2,hd];rfl
     have hty:=bV hf0
     have hvz:Hb types vars=0:=by rw [Hb,if_neg (by simpa using hc2),hf0]
     refine AW.exit ?_
     refine A5 (A5 (Bx (Ae (AW.seq (Ah (Qp E7 ?_))))))
     refine Qp (Qc rfl (c21 e hse)) ?_
     refine Qp Ar (Do (Qp A0 (Qp Cr (Ag (A3 (fun hc5=>?_) fun hc5=>?_)))))
     ·
      refine Ah (Qp A0 (Qp Ar (Qp Ar (Ag (Du ?_)))))
      refine Kg (Iq _) (Iq _) ?_
      rw [C7,iN hc1,hvz,if_neg (show ¬((0:Int) != 0)=true by decide),if_pos hc5];rfl
     ·
      refine By (Ah (Qp Dt (Qp Dt (Qp (Fr [_,_]) (Qp E7 ?_)))))
      refine Qp (Qc rfl (c58 types vars hty e (Nz (by simpa using hc5)) hse)) ?_
      refine Qp I6 (Qp I6 (Qp Ar (Qp Ar (Ag (AW.ret ?_)))))
      refine Kg (Iq _) (Iq _) ?_
      rw [C7,iN hc1,hvz,if_neg (show ¬((0:Int) != 0)=true by decide),iN hc5];rfl
theorem c32 (types:List Sc)(hl:types.length≤1048576)(hs:∀s∈types,J4 s)(vars:List Va)(hvl:vars.length≤1048576)(e:Ex)(hse:At e≤1048576):Ax Tryz.prog 55 [.sl 2 (types.map O2),.sl 2 (vars.map Xr),.agg (cE e)] (.tuple [.int .i64 (C7 types vars e).1,.int .i64 (C7 types vars e).2]):=by
 refine Ax.body (n:=33) Ai Tryz.func55 rfl rfl rfl fun H=>?_
 refine Ah (Qp Nc (Qp Ar (Qp Ar (Ag (AW.seq (Ah (Qp Dt ?_)))))))
 refine Qp (Qc rfl (c59 types hl hs)) ?_
 refine Qp Ar (Do (Qp A0 (Qp Cr (Ag (A3 (fun hc1=>?_) fun hc1=>?_)))))
 ·
  refine Ah (Qp A0 (Qp Ar (Qp Ar (Ag (Du ?_)))))
  refine Kg (Iq _) (Iq _) ?_
  simp only [Ad,C7]
  (first | rw [if_pos hc1] | skip)
  first | done | rfl
 ·
  refine By (AW.seq (Ah (Qp Dt (Qp Dt ?_))))
  refine Qp (Qc rfl (c60 types vars hvl)) ?_
  refine Qp Ar (Do (Qp A0 (Qp Cr (Ag (A3 (fun hc2=>?_) fun hc2=>?_)))))
  ·
   refine Ah (Qp A0 (Qp Ar (Qp Ar (Ag (Du ?_)))))
   refine Kg (Iq _) (Iq _) ?_
   simp only [Ad,C7]
   (first | rw [iN hc1] | skip);(first | rw [if_pos hc2] | skip)
   first | done | rfl
  ·
   have hty:Ju types vars:=bV (Vg (by simpa using hc2))
   refine By (AW.seq (Ah (Qp E7 ?_)))
   refine Qp (Qc rfl (c25 e hse)) ?_
   refine Qp Ar (Do (Qp A0 (Qp Cr (Ag (A3 (fun hc3=>?_) fun hc3=>?_)))))
   ·
    refine Ah (Qp A0 (Qp Ar (Qp Ar (Ag (Du ?_)))))
    refine Kg (Iq _) (Iq _) ?_
    simp only [Ad,C7]
    (first | rw [iN hc1] | skip);(first | rw [iN hc2] | skip);(first | rw [if_pos hc3] | skip)
    first | done | rfl
   ·
    refine By (Ah (Qp Dt (Qp Dt (Qp E7 ?_))))
    refine Qp (Qc rfl (c61 types vars hty e (Nz (by simpa using hc3)) hse)) ?_
    refine Qp I6 (Qp I6 (Qp Ar (Qp Ar (Ag (AW.ret ?_)))))
    refine Kg (Iq _) (Iq _) ?_
    simp only [Ad,C7]
    (first | rw [iN hc1] | skip);(first | rw [iN hc2] | skip);(first | rw [iN hc3] | skip)
    first | done | rfl

end Go.Proofs.YtjedflcpjlgokaaGreatDoor
