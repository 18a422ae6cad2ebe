/-
  Walks of layer 8: kinds, ExprKinds. No condition.
-/
import Derived.Test.YtjedflcpjlgokaaGreatDoorAz
import Derived.Test.YtjedflcpjlgokaaGreatDoorK07
import Derived.Test.YtjedflcpjlgokaaGreatDoorK08
import Derived.Test.YtjedflcpjlgokaaGreatDoorK03
import Derived.KernelRfl
namespace Go.Proofs.YtjedflcpjlgokaaGreatDoor
open Go Go.Aw
set_option maxHeartbeats 1600000
set_option maxRecDepth 20000
set_option linter.unusedVariables false
set_option linter.unusedSimpArgs false

def cT (types:List Sc)(vars:List Va):List AV:=[.sl 2 (types.map N5),.sl 2 (vars.map Tp)]
def Kl (types:List Sc)(vars:List Va):Prop:=∀v∈vars,0≤v.type∧v.type<(types.length:Int)
theorem mJ {e:Ex}(h:Bq e=0)(h4:e.op=4):1≤e.kind∧e.kind≤5:=by
 unfold Bq at h
 split at h
 · cases h
 split at h
 · cases h
 split at h
 · cases h
 split at h
 · cases h
 rename_i h5
 simp [h4] at h5
 omega
theorem yN {e:Ex}(h:Bq e=0)(c:Bool)(v:Vl):(e.op==4&&(c || !Fl e.kind v))=(e.op==4&&(c || !C9 e.kind v)):=by
 by_cases h4:e.op=4
 ·
  have hk:=mJ h h4
  have:Fl e.kind v=C9 e.kind v:=by
   unfold Fl C9
   have:(e.kind==0)=false:=by simp;omega
   rw [this,Bool.or_false]
  rw [this]
 ·
  have:(e.op==4)=false:=by simp [h4]
  rw [this];rfl
theorem U9 {types:List Sc}{vars:List Va}(h:Ic types vars=0):At (Nb types.length) vars=0:=by
 unfold Ic at h
 split at h
 · cases h
 · exact h
theorem Zs {types:List Sc}{vars:List Va}(h:At (Nb types.length) vars=0):Kl types vars:=by
 intro v hv
 have:=Hx h v hv
 unfold Nb at this
 split at this
 · cases this
 · rename_i h1;simp at h1;omega

theorem c86 (types:List Sc)(vars:List Va)(hv:Kl types vars)(e:Ex)(hn:Bq e=0):A1 Tryz.prog 101 [.agg (cT types vars),.agg (cE e)] (.tuple [.int .i64 (Fa types vars e).1,.int .i64 (Fa types vars e).2]):=by
 have hvr:=Lo hn
 have hfr:=Ki hn
 refine A1.body (n:=70) Aj Tryz.func101 rfl rfl rfl fun H=>?_
 refine Ah (Qp (It [_,_]) (Qp Mt (Qp Aq (Qp Aq (Ag (AW.seq (Ah (Qp Lm (Qp B2 ?_)))))))))
 refine Qp Ba (Ag (A4 (fun hc1=>?_) fun hc1=>?_))
 ·
  refine Ah (Qp Mv (Qp Mv (Qp B2 (Qp Aq (Qp Aq (Ag (D4 ?_)))))))
  refine Iw (Iq _) (Iq _) ?_
  simp only [Ae,Fa]
  try simp only [hfl]
  try simp only [hka]
  (first | rw [if_pos hc1] | skip)
  first | done | rfl
 ·
  refine Bx (AW.seq (Ah (Qp aW (Qp B2 (Qp (Qf [_]) (Qp D1 ?_))))))
  refine Qp (Al (n:=vars.length) Aj rfl rfl rfl (by simp)) ?_
  refine Qp Mq (Ag (A4 (fun hc2=>?_) fun hc2=>?_))
  ·
   refine Ah (Qp Aq (Qp Aq (Ag (D4 ?_))))
   refine Iw (Iq _) (Iq _) ?_
   simp only [Ae,Fa]
   try simp only [hfl]
   try simp only [hka]
   (first | rw [iN hc1] | skip);(first | rw [if_pos hc2] | skip)
   first | done | rfl
  ·
   refine Bx (AW.seq (Ah (Qp Lm (Qp B2 (Qp Ba (Qp Bt (Qg [] Qw Lm (Qg [(24,_)] Qw B2 (Qg [(25,_)] Qw Ba ?_)))))))))
   refine Qp Ew (Ag (A4 (fun hc3=>?_) fun hc3=>?_))
   ·
    refine Ah (Qp Aq (Qp Aq (Ag (D4 ?_))))
    refine Iw (Iq _) (Iq _) ?_
    simp only [Ae,Fa]
    try simp only [hfl]
    try simp only [hka]
    (first | rw [iN hc1] | skip);(first | rw [iN hc2] | skip);(first | rw [if_pos hc3] | skip)
    first | done | rfl
   ·
    refine (Hm (l:=vars) hvr.1 (by simp at hc2;omega)).elim fun v hv1=>?_
    have hvt:=hv v (List.mem_of_getElem? hv1)
    refine (Hm (l:=types) hvt.1 hvt.2).elim fun s hs1=>?_
    have hfl:E1 types vars e.var=s.fields:=by simp [E1,hv1,hs1]
    refine Bx (AW.seq ?_)
    refine AW.draw mixed (fun _=>True) trivial (by kernel_rfl) ?_
    refine Qn 0 rfl (Qf [_,_]) (Qn 1 rfl D1 (Qn 2 rfl (Qf [_]) (Qn 3 rfl D1 (Qn 4 rfl aW (Qn 5 rfl B2 ?_)))))
    refine Qn 6 rfl (Af (c:=[.str _,Iq _]) Aj rfl rfl rfl rfl rfl rfl (hvr.1) (B1 hv1)) ?_
    refine Qn 7 rfl (Qf [Iq _]) (Qn 8 rfl B2 ?_)
    refine Qn 9 rfl (Af (c:=[.str _,_]) Aj rfl rfl rfl rfl rfl rfl (hvt.1) (B1 hs1)) ?_
    refine Qn 10 rfl (Qf [_]) (Qn 11 rfl D1 (Qn 12 rfl Sx ?_))
    refine Iu.done _ _ (by kernel_rfl) ?_
    refine Ad (AW.seq (Ah (Qp aV (Qp B2 (Qp Dm ?_)))))
    refine Qp (Al (n:=s.fields.length) Aj rfl rfl rfl (by simp)) ?_
    refine Qp Mq (Ag (A4 (fun hc4=>?_) fun hc4=>?_))
    ·
     refine Ah (Qp Aq (Qp Aq (Ag (D4 ?_))))
     refine Iw (Iq _) (Iq _) ?_
     simp only [Ae,Fa]
     try simp only [hfl]
     try simp only [hka]
     (first | rw [iN hc1] | skip);(first | rw [iN hc2] | skip);(first | rw [iN hc3] | skip);(first | rw [if_pos hc4] | skip)
     first | done | rfl
    ·
     refine (Hm (l:=s.fields) hfr (by simp at hc4;omega)).elim fun f hf1=>?_
     have hka:Ga s.fields e.field=f.kind:=by simp [Ga,hf1]
     refine Bx (Ah (Qp Dm (Qp aV (Qp B2 ?_))))
     refine Qp (Af (c:=[.str _,Iq _]) Aj rfl rfl rfl rfl rfl rfl (hfr) (B1 hf1)) ?_
     refine Qp (Qf [Iq _]) (Qp B2 (Qp Aq (Ag (AW.seq (Ah (Qp Lm (Qp B2 (Qp Ba (Qp Bt ?_)))))))))
     refine Qg [] Qw Az (Qg [] Qw Mv (Qg [(56,_)] Qw Mv (Qg [(57,_)] Qw B2 ?_)))
     refine AOL.Aa5 (y:=.bool _) _ [(55,_),(58,_)] rfl (nI.all ⟨Ent.Aa1 _ _,Ent.Aa1 _ _,trivial⟩) (fun hG=>Yc rfl rfl) rfl ?_
     refine Qg [(59,_)] Qw Bt (Qg [] Qw fG (Qg [(61,_)] Qw B2 (Qg [] Qw Az (Qg [(63,_)] Qw (Ij [Iq _,Iq _,.str _]) ?_))))
     refine AOL.Aa5 (y:=.bool _) _ [(62,_),(64,_)] rfl (nI.all ⟨Ent.Aa1 _ _,Ent.Aa1 _ _,trivial⟩) (fun hG=>Fk (by kernel_rfl) rfl rfl (c99 _ ⟨_,_,_⟩)) rfl ?_
     refine Qg [(65,_)] Qw Gj (Qg [(60,_),(66,_)] Qw Ew (Qp G1 (Ag (A4 (fun hc5=>?_) fun hc5=>?_))))
     ·
      refine Ah (Qp Aq (Qp Aq (Ag (D4 ?_))))
      refine Iw (Iq _) (Iq _) ?_
      simp only [Ae,Fa]
      try simp only [hfl]
      try simp only [hka]
      (first | rw [iN hc1] | skip);(first | rw [iN hc2] | skip);(first | rw [iN hc3] | skip);(first | rw [iN hc4] | skip);(first | rw [if_pos hc5] | skip)
      first | done | rfl
     ·
      refine Bx (Ah (Qp Az (Qp Aq (Qp Aq (Ag (AW.ret ?_))))))
      refine Iw (Iq _) (Iq _) ?_
      simp only [Ae,Fa]
      try simp only [hfl]
      try simp only [hka]
      (first | rw [iN hc1] | skip);(first | rw [iN hc2] | skip);(first | rw [iN hc3] | skip);(first | rw [iN hc4] | skip);(first | rw [iN hc5] | skip)
      first | done | rfl
theorem c89 (types:List Sc)(vars:List Va)(hv:Kl types vars)(e:Ex)(hn:Bq e=0):A1 Tryz.prog 118 [.sl 2 (types.map N5),.sl 2 (vars.map Tp),.agg (cE e)] (.tuple [.int .i64 (Fa types vars e).1,.int .i64 (Fa types vars e).2]):=by
 have hvr:=Lo hn
 have hfr:=Ki hn
 refine A1.body (n:=69) Aj Tryz.func118 rfl rfl rfl fun H=>?_
 refine Ah (Qp Mt (Qp Aq (Qp Aq (Ag (AW.seq (Ah (Qp Lm (Qp B2 (Qp Ba ?_)))))))))
 refine Ag (A4 (fun hc1=>?_) fun hc1=>?_)
 ·
  refine Ah (Qp Mv (Qp Mv (Qp B2 (Qp Aq (Qp Aq (Ag (D4 ?_)))))))
  refine Iw (Iq _) (Iq _) ?_
  simp only [Ae,Fa]
  try simp only [hfl]
  try simp only [hka]
  (first | rw [if_pos hc1] | skip)
  first | done | rfl
 ·
  refine Bx (AW.seq (Ah (Qp aW (Qp B2 (Qp Dm ?_)))))
  refine Qp (Al (n:=vars.length) Aj rfl rfl rfl (by simp)) ?_
  refine Qp Mq (Ag (A4 (fun hc2=>?_) fun hc2=>?_))
  ·
   refine Ah (Qp Aq (Qp Aq (Ag (D4 ?_))))
   refine Iw (Iq _) (Iq _) ?_
   simp only [Ae,Fa]
   try simp only [hfl]
   try simp only [hka]
   (first | rw [iN hc1] | skip);(first | rw [if_pos hc2] | skip)
   first | done | rfl
  ·
   refine Bx (AW.seq (Ah (Qp Lm (Qp B2 (Qp Ba (Qp Bt (Qg [] Qw Lm (Qg [(25,_)] Qw B2 (Qg [(26,_)] Qw Ba ?_)))))))))
   refine Qp Ew (Ag (A4 (fun hc3=>?_) fun hc3=>?_))
   ·
    refine Ah (Qp Aq (Qp Aq (Ag (D4 ?_))))
    refine Iw (Iq _) (Iq _) ?_
    simp only [Ae,Fa]
    try simp only [hfl]
    try simp only [hka]
    (first | rw [iN hc1] | skip);(first | rw [iN hc2] | skip);(first | rw [if_pos hc3] | skip)
    first | done | rfl
   ·
    refine (Hm (l:=vars) hvr.1 (by simp at hc2;omega)).elim fun v hv1=>?_
    have hvt:=hv v (List.mem_of_getElem? hv1)
    refine (Hm (l:=types) hvt.1 hvt.2).elim fun s hs1=>?_
    have hfl:E1 types vars e.var=s.fields:=by simp [E1,hv1,hs1]
    refine Bx (Ah (Qp Dm (Qp Dm (Qp aW (Qp B2 ?_)))))
    refine Qp (Af (c:=[.str _,Iq _]) Aj rfl rfl rfl rfl rfl rfl (hvr.1) (B1 hv1)) ?_
    refine Qp (Qf [Iq _]) (Qp B2 ?_)
    refine Qp (Af (c:=[.str _,_]) Aj rfl rfl rfl rfl rfl rfl (hvt.1) (B1 hs1)) ?_
    refine Qp (Qf [_]) (Qp D1 (Qp Sx (Ag (AW.seq (Ah (Qp aV (Qp B2 (Qp Dm ?_))))))))
    refine Qp (Al (n:=s.fields.length) Aj rfl rfl rfl (by simp)) ?_
    refine Qp Mq (Ag (A4 (fun hc4=>?_) fun hc4=>?_))
    ·
     refine Ah (Qp Aq (Qp Aq (Ag (D4 ?_))))
     refine Iw (Iq _) (Iq _) ?_
     simp only [Ae,Fa]
     try simp only [hfl]
     try simp only [hka]
     (first | rw [iN hc1] | skip);(first | rw [iN hc2] | skip);(first | rw [iN hc3] | skip);(first | rw [if_pos hc4] | skip)
     first | done | rfl
    ·
     refine (Hm (l:=s.fields) hfr (by simp at hc4;omega)).elim fun f hf1=>?_
     have hka:Ga s.fields e.field=f.kind:=by simp [Ga,hf1]
     refine Bx (Ah (Qp Dm (Qp aV (Qp B2 ?_))))
     refine Qp (Af (c:=[.str _,Iq _]) Aj rfl rfl rfl rfl rfl rfl (hfr) (B1 hf1)) ?_
     refine Qp (Qf [Iq _]) (Qp B2 (Qp Aq (Ag (AW.seq (Ah (Qp Lm (Qp B2 (Qp Ba (Qp Bt ?_)))))))))
     refine Qg [] Qw Az (Qg [] Qw Mv (Qg [(55,_)] Qw Mv (Qg [(56,_)] Qw B2 ?_)))
     refine AOL.Aa5 (y:=.bool _) _ [(54,_),(57,_)] rfl (nI.all ⟨Ent.Aa1 _ _,Ent.Aa1 _ _,trivial⟩) (fun hG=>Yc rfl rfl) rfl ?_
     refine Qg [(58,_)] Qw Bt (Qg [] Qw fG (Qg [(60,_)] Qw B2 (Qg [] Qw Az (Qg [(62,_)] Qw (Ij [Iq _,Iq _,.str _]) ?_))))
     refine AOL.Aa5 (y:=.bool _) _ [(61,_),(63,_)] rfl (nI.all ⟨Ent.Aa1 _ _,Ent.Aa1 _ _,trivial⟩) (fun hG=>Fk (by kernel_rfl) rfl rfl (c101 _ ⟨_,_,_⟩)) rfl ?_
     refine Qg [(64,_)] Qw Gj (Qg [(59,_),(65,_)] Qw Ew (Qp G1 (Ag (A4 (fun hc5=>?_) fun hc5=>?_))))
     ·
      rw [yN hn] at hc5
      refine Ah (Qp Aq (Qp Aq (Ag (D4 ?_))))
      refine Iw (Iq _) (Iq _) ?_
      simp only [Ae,Fa]
      try simp only [hfl]
      try simp only [hka]
      (first | rw [iN hc1] | skip);(first | rw [iN hc2] | skip);(first | rw [iN hc3] | skip);(first | rw [iN hc4] | skip);(first | rw [if_pos hc5] | skip)
      first | done | rfl
     ·
      rw [yN hn] at hc5
      refine Bx (Ah (Qp Az (Qp Aq (Qp Aq (Ag (AW.ret ?_))))))
      refine Iw (Iq _) (Iq _) ?_
      simp only [Ae,Fa]
      try simp only [hfl]
      try simp only [hka]
      (first | rw [iN hc1] | skip);(first | rw [iN hc2] | skip);(first | rw [iN hc3] | skip);(first | rw [iN hc4] | skip);(first | rw [iN hc5] | skip)
      first | done | rfl
theorem c90 (op:Int):A1 Tryz.prog 120 [.int .i64 op] (.int .i64 (Vr op)):=by
 refine A1.body (n:=9) Aj Tryz.func120 rfl rfl rfl fun H=>?_
 refine Ah (Qp Aq (Ag (AW.seq (Ah (Qp Az (Qp Ba (Qp Bt (Qg [] Qw Az (Qg [(6,_)] Qw Ba ?_)))))))))
 refine Qp Ew (Ag (A4 (fun hc1=>?_) fun hc1=>?_))
 ·
  refine Ah (Qp Aq (Ag (D4 ?_)))
  refine Qr (Iq _) ?_
  simp only [Ae,Vr]
  (first | rw [if_pos hc1] | skip)
 ·
  refine Bx (Ah (Qp Aq (Ag (AW.ret ?_))))
  refine Qr (Iq _) ?_
  simp only [Ae,Vr]
  (first | rw [iN hc1] | skip)
theorem c58 (types:List Sc)(vars:List Va)(hv:Kl types vars)(e:Ex)(hn:Ci e=0)(hs:Av e≤1048576):A1 Tryz.prog 70 [.agg (cT types vars),.agg (cE e)] (.tuple [.int .i64 (Ca types vars e).1,.int .i64 (Ca types vars e).2]):=by
 revert hn hs
 induction e using Ex.Aa8
 rename_i e ih
 intro hn hs
 have hz:=A9 hn
 have hal:=N2 e hs
 refine A1.body (n:=57) Aj Tryz.func70 rfl rfl rfl fun H=>?_
 refine Ah (Qp (It [_,_]) (Qp Mt (Qp Aq (Qp Aq (Ag (AW.seq (Ah (Qp Oi (Qp D1 ?_)))))))))
 refine Qp (Al (n:=e.args.length) Aj rfl rfl rfl (by simp)) ?_
 refine Qp Ba (Ag (A4 (fun hc1=>?_) fun hc1=>?_))
 ·
  refine Ah (Qp (C8 [_,_]) (Qp E2 ?_))
  refine Qp (Qc rfl (c86 types vars hv e hz.1)) ?_
  refine Qp Kn (Qp Kn (Qp Aq (Qp Aq (Ag (D4 ?_)))))
  refine Iw (Iq _) (Iq _) ?_
  rw [Ec types vars e,if_pos (by simpa [List.isEmpty_iff] using hc1)];rfl
 ·
  refine Bx (Ah (Qp O5 ?_))
  refine AOL.ghost (GS.row (t:=6) 3 1 rfl) ?_
  refine Ag (AW.seq (Ah (Qp Oi (Qp D1 ?_))))
  refine Qp (Al (n:=e.args.length) Aj rfl rfl rfl (by simp)) ?_
  refine Qp Az (Ag (AW.block ?_))
  refine AW.Aa3 (fun (p:Nat×List (List AV)×Value)=>(⟨[(2,.ptr (cT types vars)),(3,.ptr (cE e)),(6,.row p.2.2 1 p.2.1),(22,.sl 8 (e.args.map Gq)),(23,.int .i64 e.args.length),(24,.int .i64 (p.1:Int))],.row p.2.2 p.2.1.length 3 1::H,57⟩:St)) (fun (p:Nat×List (List AV)×Value)=>p.1≤e.args.length∧At (fun a=>(Ca types vars a).2) e.args=At (fun a=>(Ca types vars a).2) (e.args.drop p.1)∧p.2.1=((e.args.take p.1).map (fun a=>(Ca types vars a).1)).map (fun k=>[AV.int .i64 k])) (fun (p:Nat×List (List AV)×Value)=>e.args.length-p.1) ((0,[],.slice none 0 0)) ?_ (GS.weaken ⟨rfl,rfl,rfl,rfl,rfl,rfl,trivial⟩ (.refl _)) ?_
  · exact ⟨Nat.zero_le _,by simp,by simp⟩
  ·
   rintro p hR
   refine Ah (Qp Co (Ag (AW.seq (A4 (fun hc2=>?_) fun hc2=>?_))))
   ·
    obtain ⟨a,ha⟩:=B5 hc2
    have hlt:=Bh ha
    have hm:=List.mem_of_getElem? ha
    have hsc:∀c∈p.2.1,Bg c=true:=by rw [hR.2.2];exact F2 fun _=>rfl
    refine Bx (AW.seq (AW.block (Ah ?_)))
    refine Qp (Af (c:=[Iq _,_,Iq _,Iq _,Iq _,Iq _,Iq _,.str _]) Aj rfl rfl rfl rfl rfl rfl (by omega) (Fg ha)) ?_
    refine Qp E2 ?_
    refine Qe (A0 (l:=[.int .i64 0,.sl 8 [],.int .i64 0,.int .i64 0,.int .i64 0,.int .i64 0,.int .i64 0,.str []]) (by kernel_rfl)) ?_
    rintro _ _ ⟨b8,rfl,rfl⟩
    refine Eu 0 [Iq _,_,Iq _,Iq _,Iq _,Iq _,Iq _,.str _] (_::_::_) ?_
    refine AOL.ghost (GS.Aa2 (t:=8) 0 rfl rfl) ?_
    refine Dv (Qp (C8 [_,_]) (Qp E2 ?_))
    refine Qp (Qc rfl (ih a hm (hz.2 a hm) (by have:=E9 hm;omega))) ?_
    refine Qp Om (Qp Kn (Qp Kn (Qp Aq (Qp Aq (Ag (AW.seq (Ah (Qp Az (Qp C1 ?_)))))))))
    refine Ag (A4 (fun hc3=>?_) fun hc3=>?_)
    ·
     refine Ah (Qp Az (Qp Aq (Qp Aq (Ag (D4 (A6 (Ai (Ai (A6 ?_)))))))))
     refine Ai ?_
     refine ⟨.inr rfl,[Iq _,Iq _],.cons (.tmp _ _ rfl) <| .cons (.tmp _ _ rfl) <| .nil,.cons _ (.refl _),?_⟩
     have hne:¬e.args.isEmpty=true:=by simpa [List.isEmpty_iff] using hc1
     have hfe:At (fun a=>(Ca types vars a).2) e.args=(Ca types vars a).2:=by rw [hR.2.1,Bi ha,At,if_pos hc3]
     rw [Ec types vars e,if_neg hne,hfe,if_pos hc3];rfl
    ·
     refine Bx (AW.region ?_)
     refine Qp (Bk (v:=.row _ _ _) rfl) ?_
     refine Qp Az ?_
     refine Qp (A3 (es:=[[Iq _]]) Aj rfl rfl rfl rfl rfl rfl rfl rfl rfl) ?_
     refine Qe (Dr (k:=0) Aj rfl rfl rfl rfl rfl rfl rfl rfl (Hw rfl) (hsc) (by simp [hR.2.2];omega) (by simp [hR.2.2,maxLen];omega)) ?_
     rintro _ _ ⟨v40,rfl,rfl⟩
     refine Qp (Di (v:=.row _ _ _) rfl) ?_
     refine AOL.nil (Bn (Ad (AW.region (Qp Fb (Qp Az (Ag ?_))))))
     refine ⟨(p.1+1,p.2.1 ++ [[.int .i64 (Ca types vars a).1]],v40),?_,?_,GS.weaken ⟨rfl,rfl,rfl,rfl,rfl,rfl,trivial⟩ (.refl _)⟩
     · simp only;exact ⟨hlt,by rw [hR.2.1,Bi ha,At,if_neg (by simpa using hc3)],by rw [Cx ha,hR.2.2];simp⟩
     · first | omega | (simp only;omega)
   ·
    have hte:=Cg hc2
    have hd:=Dq hc2
    have hf:At (fun a=>(Ca types vars a).2) e.args=0:=by rw [hR.2.1,hd];rfl
    obtain ⟨k,es,rv⟩:=p
    simp only at hR hte
    have h6:es=(e.args.map (fun a=>(Ca types vars a).1)).map (fun k=>[AV.int .i64 k]):=by rw [hR.2.2,hte]
    subst h6
    refine AW.exit ?_
    refine A2 (A2 (Bo (Ad (AW.seq (Ah (Qp Lm (Qp B2 ?_)))))))
    refine AOL.ghost (GS.unrow 6 rfl) ?_
    refine Qp Dm ?_
    refine Qp (Qc rfl (c71 e.op (e.args.map (fun a=>(Ca types vars a).1)))) ?_
    refine Qp Aq (Dv (Qp Az (Qp C1 (Ag (A4 (fun hc4=>?_) fun hc4=>?_)))))
    ·
     refine Ah (Qp Az (Qp Aq (Qp Aq (Ag (D4 ?_)))))
     refine ⟨.inr rfl,[Iq _,Iq _],.cons (.tmp _ _ rfl) <| .cons (.tmp _ _ rfl) <| .nil,.cons _ (.refl _),?_⟩
     have hne:¬e.args.isEmpty=true:=by simpa [List.isEmpty_iff] using hc1
     rw [Ec types vars e,if_neg hne,hf,if_neg (show ¬((0:Int) != 0)=true by decide),if_pos hc4];rfl
    ·
     refine Bx (AW.seq (Ah (Qp Lm (Qp B2 (Qp Ba (Qp Bt (Qg [] Qw Lm (Qg [(53,_)] Qw B2 (Qg [(54,_)] Qw Ba ?_)))))))))
     refine Qp Ew (Ag (A4 (fun hc5=>?_) fun hc5=>?_))
     ·
      refine Ah (Qp Aq (Qp Aq (Ag (D4 ?_))))
      refine ⟨.inr rfl,[Iq _,Iq _],.cons (.tmp _ _ rfl) <| .cons (.tmp _ _ rfl) <| .nil,.cons _ (.refl _),?_⟩
      have hne:¬e.args.isEmpty=true:=by simpa [List.isEmpty_iff] using hc1
      rw [Ec types vars e,if_neg hne,hf,if_neg (show ¬((0:Int) != 0)=true by decide),iN hc4];unfold Vr;first | (rw [if_pos hc5];rfl) | (rw [iN hc5];rfl)
     ·
      refine Bx (Ah (Qp Aq (Qp Aq (Ag (AW.ret ?_)))))
      refine ⟨.inr rfl,[Iq _,Iq _],.cons (.tmp _ _ rfl) <| .cons (.tmp _ _ rfl) <| .nil,.cons _ (.refl _),?_⟩
      have hne:¬e.args.isEmpty=true:=by simpa [List.isEmpty_iff] using hc1
      rw [Ec types vars e,if_neg hne,hf,if_neg (show ¬((0:Int) != 0)=true by decide),iN hc4];unfold Vr;first | (rw [if_pos hc5];rfl) | (rw [iN hc5];rfl)
theorem c61 (types:List Sc)(vars:List Va)(hv:Kl types vars)(e:Ex)(hn:Ci e=0)(hs:Av e≤1048576):A1 Tryz.prog 88 [.sl 2 (types.map N5),.sl 2 (vars.map Tp),.agg (cE e)] (.tuple [.int .i64 (Ca types vars e).1,.int .i64 (Ca types vars e).2]):=by
 revert hn hs
 induction e using Ex.Aa8
 rename_i e ih
 intro hn hs
 have hz:=A9 hn
 have hal:=N2 e hs
 refine A1.body (n:=58) Aj Tryz.func88 rfl rfl rfl fun H=>?_
 refine Ah (Qp Mt (Qp Aq (Qp Aq (Ag (AW.seq (Ah (Qp Oi (Qp D1 ?_))))))))
 refine Qp (Al (n:=e.args.length) Aj rfl rfl rfl (by simp)) ?_
 refine Qp Ba (Ag (A4 (fun hc1=>?_) fun hc1=>?_))
 ·
  refine Ah (Qp Dm (Qp Dm (Qp E2 ?_)))
  refine Qp (Qc rfl (c89 types vars hv e hz.1)) ?_
  refine Qp Kn (Qp Kn (Qp Aq (Qp Aq (Ag (D4 ?_)))))
  refine Iw (Iq _) (Iq _) ?_
  rw [Ec types vars e,if_pos (by simpa [List.isEmpty_iff] using hc1)];rfl
 ·
  refine Bx (Ah (Qp O5 ?_))
  refine AOL.ghost (GS.row (t:=8) 3 1 rfl) ?_
  refine Ag (AW.seq (Ah (Qp Aq (Ag (AW.block ?_)))))
  refine AW.Aa3 (fun (p:Nat×List (List AV)×Value)=>(⟨[(0,.sl 2 (types.map N5)),(1,.sl 2 (vars.map Tp)),(5,.ptr (cE e)),(8,.row p.2.2 1 p.2.1),(9,.int .i64 (p.1:Int))],.row p.2.2 p.2.1.length 3 1::H,58⟩:St)) (fun (p:Nat×List (List AV)×Value)=>p.1≤e.args.length∧At (fun a=>(Ca types vars a).2) e.args=At (fun a=>(Ca types vars a).2) (e.args.drop p.1)∧p.2.1=((e.args.take p.1).map (fun a=>(Ca types vars a).1)).map (fun k=>[AV.int .i64 k])) (fun (p:Nat×List (List AV)×Value)=>e.args.length-p.1) ((0,[],.slice none 0 0)) ?_ (GS.weaken ⟨rfl,rfl,rfl,rfl,rfl,trivial⟩ (.refl _)) ?_
  · exact ⟨Nat.zero_le _,by simp,by simp⟩
  ·
   rintro p hR
   refine AW.seq (Ah (Qp Az (Qp Oi (Qp D1 ?_))))
   refine Qp (Al (n:=e.args.length) Aj rfl rfl rfl (by simp)) ?_
   refine Qp Co (Ag (A4 (fun hc2=>?_) fun hc2=>?_))
   ·
    obtain ⟨a,ha⟩:=B5 hc2
    have hlt:=Bh ha
    have hm:=List.mem_of_getElem? ha
    have hsc:∀c∈p.2.1,Bg c=true:=by rw [hR.2.2];exact F2 fun _=>rfl
    refine Bx (AW.seq (AW.block (Ah (Qp Dm (Qp Dm (Qp Oi (Qp D1 (Qp Az ?_))))))))
    refine Qp (Af (c:=[Iq _,_,Iq _,Iq _,Iq _,Iq _,Iq _,.str _]) Aj rfl rfl rfl rfl rfl rfl (by omega) (Fg ha)) ?_
    refine Qp E2 ?_
    refine Qp (Qc rfl (ih a hm (hz.2 a hm) (by have:=E9 hm;omega))) ?_
    refine Qp Om (Qp Kn (Qp Kn (Qp Aq (Qp Aq (Ag (AW.seq (Ah (Qp Az (Qp C1 ?_)))))))))
    refine Ag (A4 (fun hc3=>?_) fun hc3=>?_)
    ·
     refine Ah (Qp Az (Qp Aq (Qp Aq (Ag (D4 (A6 (Ai (Ai (A6 ?_)))))))))
     refine Ai ?_
     refine ⟨.inr rfl,[Iq _,Iq _],.cons (.tmp _ _ rfl) <| .cons (.tmp _ _ rfl) <| .nil,.cons _ (.refl _),?_⟩
     have hne:¬e.args.isEmpty=true:=by simpa [List.isEmpty_iff] using hc1
     have hfe:At (fun a=>(Ca types vars a).2) e.args=(Ca types vars a).2:=by rw [hR.2.1,Bi ha,At,if_pos hc3]
     rw [Ec types vars e,if_neg hne,hfe,if_pos hc3];rfl
    ·
     refine Bx (AW.region ?_)
     refine Qp (Bk (v:=.row _ _ _) rfl) ?_
     refine Qp Az ?_
     refine Qp (A3 (es:=[[Iq _]]) Aj rfl rfl rfl rfl rfl rfl rfl rfl rfl) ?_
     refine Qe (Dr (k:=0) Aj rfl rfl rfl rfl rfl rfl rfl rfl (Hw rfl) (hsc) (by simp [hR.2.2];omega) (by simp [hR.2.2,maxLen];omega)) ?_
     rintro _ _ ⟨v47,rfl,rfl⟩
     refine Qp (Di (v:=.row _ _ _) rfl) ?_
     refine AOL.nil (Bn (Ad (AW.region (Qp Az (Qp Fb (Qp Aq (Ag ?_)))))))
     refine ⟨(p.1+1,p.2.1 ++ [[.int .i64 (Ca types vars a).1]],v47),?_,?_,GS.weaken ⟨rfl,rfl,rfl,rfl,rfl,trivial⟩ (.refl _)⟩
     · simp only;exact ⟨hlt,by rw [hR.2.1,Bi ha,At,if_neg (by simpa using hc3)],by rw [Cx ha,hR.2.2];simp⟩
     · first | omega | (simp only;omega)
   ·
    have hte:=Cg hc2
    have hd:=Dq hc2
    have hf:At (fun a=>(Ca types vars a).2) e.args=0:=by rw [hR.2.1,hd];rfl
    obtain ⟨k,es,rv⟩:=p
    simp only at hR hte
    have h6:es=(e.args.map (fun a=>(Ca types vars a).1)).map (fun k=>[AV.int .i64 k]):=by rw [hR.2.2,hte]
    subst h6
    refine AW.exit ?_
    refine A2 (A2 (Bo (Ad (AW.seq (Ah (Qp Lm (Qp B2 ?_)))))))
    refine AOL.ghost (GS.unrow 8 rfl) ?_
    refine Qp Dm ?_
    refine Qp (Qc rfl (c73 e.op (e.args.map (fun a=>(Ca types vars a).1)))) ?_
    refine Qp Aq (Dv (Qp Az (Qp C1 (Ag (A4 (fun hc4=>?_) fun hc4=>?_)))))
    ·
     refine Ah (Qp Az (Qp Aq (Qp Aq (Ag (D4 ?_)))))
     refine ⟨.inr rfl,[Iq _,Iq _],.cons (.tmp _ _ rfl) <| .cons (.tmp _ _ rfl) <| .nil,.cons _ (.refl _),?_⟩
     have hne:¬e.args.isEmpty=true:=by simpa [List.isEmpty_iff] using hc1
     rw [Ec types vars e,if_neg hne,hf,if_neg (show ¬((0:Int) != 0)=true by decide),if_pos hc4];rfl
    ·
     refine Bx (Ah (Qp Lm (Qp B2 ?_)))
     refine Qp (Qc rfl (c90 _)) ?_
     refine Qp Aq (Qp Aq (Ag (AW.ret ?_)))
     refine ⟨.inr rfl,[Iq _,Iq _],.cons (.tmp _ _ rfl) <| .cons (.tmp _ _ rfl) <| .nil,.cons _ (.refl _),?_⟩
     have hne:¬e.args.isEmpty=true:=by simpa [List.isEmpty_iff] using hc1
     rw [Ec types vars e,if_neg hne,hf,if_neg (show ¬((0:Int) != 0)=true by decide),iN hc4];rfl
theorem c60 (types:List Sc)(vars:List Va)(hvl:vars.length≤1048576):A1 Tryz.prog 86 [.sl 2 (types.map N5),.sl 2 (vars.map Tp)] (.int .i64 (Ic types vars)):=by
 refine A1.body (n:=31) Aj Tryz.func86 rfl rfl rfl fun H=>?_
 refine Ah (Qp Aq (Ag (AW.seq (Ah (Qp Dm ?_)))))
 refine Qp (Al (n:=vars.length) Aj rfl rfl rfl (by simp)) ?_
 refine Qp Gl (Ag (A4 (fun hc1=>?_) fun hc1=>?_))
 ·
  refine Ah (Qp Aq (Ag (D4 ?_)))
  refine Qr (Iq _) ?_
  rw [Ic,if_pos hc1];rfl
 ·
  refine Bx (AW.seq (Ah (Qp Aq (Ag (AW.block ?_)))))
  refine AW.Aa3 (fun (p:Nat)=>(⟨[(0,.sl 2 (types.map N5)),(1,.sl 2 (vars.map Tp)),(5,.int .i64 (p:Int))],H,31⟩:St)) (fun (p:Nat)=>p≤vars.length∧At (Nb types.length) vars=At (Nb types.length) (vars.drop p)) (fun (p:Nat)=>vars.length-p) (0) ?_ (GS.weaken ⟨rfl,rfl,rfl,trivial⟩ (.refl _)) ?_
  · exact ⟨Nat.zero_le _,rfl⟩
  ·
   rintro p hR
   refine AW.seq (Ah (Qp Az (Qp Dm ?_)))
   refine Qp (Al (n:=vars.length) Aj rfl rfl rfl (by simp)) ?_
   refine Qp Co (Ag (A4 (fun hc2=>?_) fun hc2=>?_))
   ·
    obtain ⟨a,ha⟩:=B5 hc2
    have hlt:=Bh ha
    have hm:=List.mem_of_getElem? ha
    refine Bx (AW.seq (AW.block (Ah (Qp Dm (Qp Az ?_)))))
    refine Qp (Af (c:=[.str _,Iq _]) Aj rfl rfl rfl rfl rfl rfl (by omega) (B1 ha)) ?_
    refine Qp (Qf [Iq _]) (Qp B2 (Qp Co (Qp Bt (Qg [] Qw Dm (Qg [] Qw Az ?_)))))
    refine AOL.Aa5 (y:=.ptr _) _ [(22,_),(23,_)] rfl (nI.all ⟨Ent.Aa1 _ _,Ent.Aa1 _ _,trivial⟩) (fun hG=>Af (c:=[.str _,Iq _]) Aj rfl rfl rfl rfl rfl rfl (by omega) (B1 ha)) rfl ?_
    refine Qg [(24,_)] Qw (Qf [Iq _]) (Qg [(25,_)] Qw B2 (Qg [] Qw Dm ?_))
    refine AOL.Aa5 (y:=Iq _) _ [(27,_)] rfl (nI.all ⟨Ent.Aa1 _ _,trivial⟩) (fun hG=>Al (n:=types.length) Aj rfl rfl rfl (by simp)) rfl ?_
    refine AOL.Aa5 (y:=.bool _) _ [(26,_),(28,_)] rfl (nI.all ⟨Ent.Aa1 _ _,Ent.Aa1 _ _,trivial⟩) (fun hG=>Xl rfl rfl) rfl ?_
    refine Qp Ew (Ag (A4 (fun hc3=>?_) fun hc3=>?_))
    ·
     have he:Nb types.length a=6:=by unfold Nb;rw [if_pos hc3]
     refine Ah (Qp Aq (Ag (AW.ret (A6 (Ai (Ai (A6 (Ai ?_))))))))
     refine Qr (Iq _) ?_
     rw [Ic,iN hc1,hR.2,Bi ha,At,he,if_pos (by decide)];rfl
    ·
     have he:Nb types.length a=0:=by unfold Nb;rw [if_neg (by simpa using hc3)]
     refine AW.skip (Bn (Ad (AW.region (Qp Az (Qp Fb (Qp Aq (Ag ?_)))))))
     refine ⟨p+1,?_,?_,GS.weaken ⟨rfl,rfl,rfl,trivial⟩ (.refl _)⟩
     · exact ⟨hlt,by rw [hR.2,Bi ha,At,if_neg (by rw [he];decide)]⟩
     · omega
   ·
    have hd:=Dq hc2
    refine AW.exit ?_
    refine A2 (A2 (Bo (Ad (Ah (Qp Aq (Ag (AW.ret ?_)))))))
    refine Qr (Iq _) ?_
    rw [Ic,iN hc1,hR.2,hd];rfl
theorem c31 (types:List Sc)(hl:types.length≤1048576)(hs:∀s∈types,Is s)(vars:List Va)(hvl:vars.length≤1048576)(e:Ex)(hse:Av e≤1048576):A1 Tryz.prog 33 [.sl 2 (types.map N5),.sl 2 (vars.map Tp),.agg (cE e)] (.tuple [.int .i64 (Cf types vars e).1,.int .i64 (Cf types vars e).2]):=by
 refine A1.body (n:=49) Aj Tryz.func33 rfl rfl rfl fun H=>?_
 refine Ah (Qp Mt (Qp Aq (Qp Aq (Ag (AW.seq (Ah (Qp Dm ?_)))))))
 refine Qp (Qc rfl (c57 types hl hs)) ?_
 refine Qp Aq (Dv (Qp Az (Qp C1 (Ag (A4 (fun hc1=>?_) fun hc1=>?_)))))
 ·
  refine Ah (Qp Az (Qp Aq (Qp Aq (Ag (D4 ?_)))))
  refine Iw (Iq _) (Iq _) ?_
  rw [Cf,if_pos hc1];rfl
 ·
  refine Bx (AW.seq (Ah (Qp Dm ?_)))
  refine Qp (Al (n:=vars.length) Aj rfl rfl rfl (by simp)) ?_
  refine Qp Gl (Ag (A4 (fun hc2=>?_) fun hc2=>?_))
  ·
   refine Ah (Qp Aq (Qp Aq (Ag (D4 ?_))))
   refine Iw (Iq _) (Iq _) ?_
   have hve:Ic types vars=5:=by rw [Ic,if_pos hc2]
   rw [Cf,iN hc1,hve,if_pos (by decide)];rfl
  ·
   refine Bx (AW.seq (Ah (Qp Dm ?_)))
   refine Qp (Al (n:=vars.length) Aj rfl rfl rfl (by simp)) ?_
   refine Qp Az (Ag (AW.block ?_))
   refine AW.Aa3 (fun (p:Nat)=>(⟨[(0,.sl 2 (types.map N5)),(1,.sl 2 (vars.map Tp)),(5,.ptr (cE e)),(20,.sl 2 (vars.map Tp)),(21,.int .i64 vars.length),(22,.int .i64 (p:Int))],H,49⟩:St)) (fun (p:Nat)=>p≤vars.length∧At (Nb types.length) vars=At (Nb types.length) (vars.drop p)) (fun (p:Nat)=>vars.length-p) (0) ?_ (GS.weaken ⟨rfl,rfl,rfl,rfl,rfl,rfl,trivial⟩ (.refl _)) ?_
   · exact ⟨Nat.zero_le _,rfl⟩
   ·
    rintro p hR
    refine Ah (Qp Co (Ag (AW.seq (A4 (fun hc3=>?_) fun hc3=>?_))))
    ·
     obtain ⟨a,ha⟩:=B5 hc3
     have hlt:=Bh ha
     have hm:=List.mem_of_getElem? ha
     refine Bx (AW.seq (AW.block (Ah ?_)))
     refine Qp (Af (c:=[.str _,Iq _]) Aj rfl rfl rfl rfl rfl rfl (by omega) (B1 ha)) ?_
     refine Qp (C8 [.str _,Iq _]) ?_
     refine Qe (A0 (l:=[.str [],.int .i64 0]) (by kernel_rfl)) ?_
     rintro _ _ ⟨b10,rfl,rfl⟩
     refine Eu 0 [.str _,Iq _] (_::_) ?_
     refine AOL.ghost (GS.Aa2 (t:=10) 0 rfl rfl) ?_
     refine Dv (Qp (Qf [Iq _]) (Qp B2 (Qp Co (Qp Bt (Qg [] Qw (Qf [Iq _]) (Qg [(30,_)] Qw B2 (Qg [] Qw Dm ?_)))))))
     refine AOL.Aa5 (y:=Iq _) _ [(32,_)] rfl (nI.all ⟨Ent.Aa1 _ _,trivial⟩) (fun hG=>Al (n:=types.length) Aj rfl rfl rfl (by simp)) rfl ?_
     refine AOL.Aa5 (y:=.bool _) _ [(31,_),(33,_)] rfl (nI.all ⟨Ent.Aa1 _ _,Ent.Aa1 _ _,trivial⟩) (fun hG=>Xl rfl rfl) rfl ?_
     refine Qp Ew (Ag (A4 (fun hc4=>?_) fun hc4=>?_))
     ·
      have he:Nb types.length a=6:=by unfold Nb;rw [if_pos hc4]
      refine Ah (Qp Aq (Qp Aq (Ag (AW.ret (A6 (Ai (Ai (A6 (Ai ?_)))))))))
      refine Iw (Iq _) (Iq _) ?_
      have hve:Ic types vars=6:=by rw [Ic,iN hc2,hR.2,Bi ha,At,he,if_pos (by decide)]
      rw [Cf,iN hc1,hve,if_pos (by decide)];rfl
     ·
      have he:Nb types.length a=0:=by unfold Nb;rw [if_neg (by simpa using hc4)]
      refine AW.skip (Bn (Ad (AW.region (Qp Fb (Qp Az (Ag ?_))))))
      refine ⟨p+1,?_,?_,GS.weaken ⟨rfl,rfl,rfl,rfl,rfl,rfl,trivial⟩ (.refl _)⟩
      · exact ⟨hlt,by rw [hR.2,Bi ha,At,if_neg (by rw [he];decide)]⟩
      · omega
    ·
     have hd:=Dq hc3
     have hf0:At (Nb types.length) vars=0:=by rw [hR.2,hd];rfl
     have hty:=Zs hf0
     have hvz:Ic types vars=0:=by rw [Ic,if_neg (by simpa using hc2),hf0]
     refine AW.exit ?_
     refine A2 (A2 (Bo (Ad (AW.seq (Ah (Qp E2 ?_))))))
     refine Qp (Qc rfl (c21 e hse)) ?_
     refine Qp Aq (Dv (Qp Az (Qp C1 (Ag (A4 (fun hc5=>?_) fun hc5=>?_)))))
     ·
      refine Ah (Qp Az (Qp Aq (Qp Aq (Ag (D4 ?_)))))
      refine Iw (Iq _) (Iq _) ?_
      rw [Cf,iN hc1,hvz,if_neg (show ¬((0:Int) != 0)=true by decide),if_pos hc5];rfl
     ·
      refine Bx (Ah (Qp Dm (Qp Dm (Qp (Ij [_,_]) (Qp E2 ?_)))))
      refine Qp (Qc rfl (c58 types vars hty e (Sf (by simpa using hc5)) hse)) ?_
      refine Qp Kn (Qp Kn (Qp Aq (Qp Aq (Ag (AW.ret ?_)))))
      refine Iw (Iq _) (Iq _) ?_
      rw [Cf,iN hc1,hvz,if_neg (show ¬((0:Int) != 0)=true by decide),iN hc5];rfl
theorem c32 (types:List Sc)(hl:types.length≤1048576)(hs:∀s∈types,Is s)(vars:List Va)(hvl:vars.length≤1048576)(e:Ex)(hse:Av e≤1048576):A1 Tryz.prog 55 [.sl 2 (types.map N5),.sl 2 (vars.map Tp),.agg (cE e)] (.tuple [.int .i64 (Cf types vars e).1,.int .i64 (Cf types vars e).2]):=by
 refine A1.body (n:=33) Aj Tryz.func55 rfl rfl rfl fun H=>?_
 refine Ah (Qp Mt (Qp Aq (Qp Aq (Ag (AW.seq (Ah (Qp Dm ?_)))))))
 refine Qp (Qc rfl (c59 types hl hs)) ?_
 refine Qp Aq (Dv (Qp Az (Qp C1 (Ag (A4 (fun hc1=>?_) fun hc1=>?_)))))
 ·
  refine Ah (Qp Az (Qp Aq (Qp Aq (Ag (D4 ?_)))))
  refine Iw (Iq _) (Iq _) ?_
  simp only [Ae,Cf]
  (first | rw [if_pos hc1] | skip)
  first | done | rfl
 ·
  refine Bx (AW.seq (Ah (Qp Dm (Qp Dm ?_))))
  refine Qp (Qc rfl (c60 types vars hvl)) ?_
  refine Qp Aq (Dv (Qp Az (Qp C1 (Ag (A4 (fun hc2=>?_) fun hc2=>?_)))))
  ·
   refine Ah (Qp Az (Qp Aq (Qp Aq (Ag (D4 ?_)))))
   refine Iw (Iq _) (Iq _) ?_
   simp only [Ae,Cf]
   (first | rw [iN hc1] | skip);(first | rw [if_pos hc2] | skip)
   first | done | rfl
  ·
   have hty:Kl types vars:=Zs (U9 (by simpa using hc2))
   refine Bx (AW.seq (Ah (Qp E2 ?_)))
   refine Qp (Qc rfl (c25 e hse)) ?_
   refine Qp Aq (Dv (Qp Az (Qp C1 (Ag (A4 (fun hc3=>?_) fun hc3=>?_)))))
   ·
    refine Ah (Qp Az (Qp Aq (Qp Aq (Ag (D4 ?_)))))
    refine Iw (Iq _) (Iq _) ?_
    simp only [Ae,Cf]
    (first | rw [iN hc1] | skip);(first | rw [iN hc2] | skip);(first | rw [if_pos hc3] | skip)
    first | done | rfl
   ·
    refine Bx (Ah (Qp Dm (Qp Dm (Qp E2 ?_))))
    refine Qp (Qc rfl (c61 types vars hty e (Sf (by simpa using hc3)) hse)) ?_
    refine Qp Kn (Qp Kn (Qp Aq (Qp Aq (Ag (AW.ret ?_)))))
    refine Iw (Iq _) (Iq _) ?_
    simp only [Ae,Cf]
    (first | rw [iN hc1] | skip);(first | rw [iN hc2] | skip);(first | rw [iN hc3] | skip)
    first | done | rfl

end Go.Proofs.YtjedflcpjlgokaaGreatDoor
