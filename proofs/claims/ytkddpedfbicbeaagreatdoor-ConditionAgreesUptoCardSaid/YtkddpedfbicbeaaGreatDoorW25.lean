/-
  Walks of layer 8: kinds, ExprKinds. No condition.
-/
import Derived.Test.YtkddpedfbicbeaaGreatDoorAz
import Derived.Test.YtkddpedfbicbeaaGreatDoorK08
import Derived.Test.YtkddpedfbicbeaaGreatDoorK12
import Derived.Test.YtkddpedfbicbeaaGreatDoorK03
import Derived.KernelRfl
namespace Go.Proofs.YtkddpedfbicbeaaGreatDoor
open Go Go.Aw
set_option maxHeartbeats 1600000
set_option maxRecDepth 20000
set_option linter.unusedVariables false
set_option linter.unusedSimpArgs false

def cT (types:List Sc)(vars:List Va):List AV:=[.sl 2 (types.map Nf),.sl 2 (vars.map Ub)]
def Ln (types:List Sc)(vars:List Va):Prop:=∀v∈vars,0≤v.type∧v.type<(types.length:Int)
theorem sY {e:Ex}(h:Bx e=0)(h4:e.op=4):1≤e.kind∧e.kind≤5:=by
 unfold Bx at h
 split at h
 · cases h
 split at h
 · cases h
 split at h
 · cases h
 split at h
 · cases h
 rename_i h5
 simp [h4] at h5
 omega
theorem rs_es {e:Ex}(h:Bx e=0)(c:Bool)(v:Vl):(e.op==4&&(c || !Gc e.kind v))=(e.op==4&&(c || !Du e.kind v)):=by
 by_cases h4:e.op=4
 ·
  have hk:=sY h h4
  have:Gc e.kind v=Du e.kind v:=by
   unfold Gc Du
   have:(e.kind==0)=false:=by simp;omega
   rw [this,Bool.or_false]
  rw [this]
 ·
  have:(e.op==4)=false:=by simp [h4]
  rw [this];rfl
theorem Yi {types:List Sc}{vars:List Va}(h:Ie types vars=0):Aq (Oo types.length) vars=0:=by
 unfold Ie at h
 split at h
 · cases h
 · exact h
theorem bV {types:List Sc}{vars:List Va}(h:Aq (Oo types.length) vars=0):Ln types vars:=by
 intro v hv
 have:=G3 h v hv
 unfold Oo at this
 split at this
 · cases this
 · rename_i h1;simp at h1;omega

theorem c86 (types:List Sc)(vars:List Va)(hv:Ln types vars)(e:Ex)(hn:Bx e=0):Ar Tryz.prog 156 [.agg (cT types vars),.agg (cE e)] (.tuple [.int .i64 (F3 types vars e).1,.int .i64 (F3 types vars e).2]):=by
 have hvr:=Ml hn
 have hfr:=Jx hn
 refine Ar.body (n:=70) Ai Tryz.func156 rfl rfl rfl fun H=>?_
 refine Ah (Qp (Fx [_,_]) (Qp K3 (Qp Ap (Qp Ap (Ag (AW.seq (Ah (Qp Kw (Qp Br ?_)))))))))
 refine Qp A6 (Ag (A2 (fun hc1=>?_) fun hc1=>?_))
 ·
  refine Ah (Qp J2 (Qp J2 (Qp Br (Qp Ap (Qp Ap (Ag (Dq ?_)))))))
  refine J3 (Iq _) (Iq _) ?_
  simp only [Ad,F3]
  try simp only [hfl]
  try simp only [hka]
  (first | rw [if_pos hc1] | skip)
  first | done | rfl
 ·
  refine Bv (AW.seq (Ah (Qp Ym (Qp Br (Qp (Qf [_]) (Qp Dg ?_))))))
  refine Qp (Ak (n:=vars.length) Ai rfl rfl rfl (by simp)) ?_
  refine Qp Ob (Ag (A2 (fun hc2=>?_) fun hc2=>?_))
  ·
   refine Ah (Qp Ap (Qp Ap (Ag (Dq ?_))))
   refine J3 (Iq _) (Iq _) ?_
   simp only [Ad,F3]
   try simp only [hfl]
   try simp only [hka]
   (first | rw [iN hc1] | skip);(first | rw [if_pos hc2] | skip)
   first | done | rfl
  ·
   refine Bv (AW.seq (Ah (Qp Kw (Qp Br (Qp A6 (Qp Bm (Qg [] Qw Kw (Qg [(24,_)] Qw Br (Qg [(25,_)] Qw A6 ?_)))))))))
   refine Qp Ek (Ag (A2 (fun hc3=>?_) fun hc3=>?_))
   ·
    refine Ah (Qp Ap (Qp Ap (Ag (Dq ?_))))
    refine J3 (Iq _) (Iq _) ?_
    simp only [Ad,F3]
    try simp only [hfl]
    try simp only [hka]
    (first | rw [iN hc1] | skip);(first | rw [iN hc2] | skip);(first | rw [if_pos hc3] | skip)
    first | done | rfl
   ·
    refine (Hq (l:=vars) hvr.1 (by simp at hc2;omega)).elim fun v hv1=>?_
    have hvt:=hv v (List.mem_of_getElem? hv1)
    refine (Hq (l:=types) hvt.1 hvt.2).elim fun s hs1=>?_
    have hfl:Fs types vars e.var=s.fields:=by simp [Fs,hv1,hs1]
    refine Bv (AW.seq ?_)
    refine AW.draw mixed (fun _=>True) trivial (by kernel_rfl) ?_
    refine Qn 0 rfl (Qf [_,_]) (Qn 1 rfl Dg (Qn 2 rfl (Qf [_]) (Qn 3 rfl Dg (Qn 4 rfl Ym (Qn 5 rfl Br ?_)))))
    refine Qn 6 rfl (Af (c:=[.str _,Iq _]) Ai rfl rfl rfl rfl rfl rfl (hvr.1) (Bg hv1)) ?_
    refine Qn 7 rfl (Qf [Iq _]) (Qn 8 rfl Br ?_)
    refine Qn 9 rfl (Af (c:=[.str _,_]) Ai rfl rfl rfl rfl rfl rfl (hvt.1) (Bg hs1)) ?_
    refine Qn 10 rfl (Qf [_]) (Qn 11 rfl Dg (Qn 12 rfl Xa ?_))
    refine Js.done _ _ (by kernel_rfl) ?_
    refine Ae (AW.seq (Ah (Qp Qv (Qp Br (Qp C5 ?_)))))
    refine Qp (Ak (n:=s.fields.length) Ai rfl rfl rfl (by simp)) ?_
    refine Qp Ob (Ag (A2 (fun hc4=>?_) fun hc4=>?_))
    ·
     refine Ah (Qp Ap (Qp Ap (Ag (Dq ?_))))
     refine J3 (Iq _) (Iq _) ?_
     simp only [Ad,F3]
     try simp only [hfl]
     try simp only [hka]
     (first | rw [iN hc1] | skip);(first | rw [iN hc2] | skip);(first | rw [iN hc3] | skip);(first | rw [if_pos hc4] | skip)
     first | done | rfl
    ·
     refine (Hq (l:=s.fields) hfr (by simp at hc4;omega)).elim fun f hf1=>?_
     have hka:Hh s.fields e.field=f.kind:=by simp [Hh,hf1]
     refine Bv (Ah (Qp C5 (Qp Qv (Qp Br ?_))))
     refine Qp (Af (c:=[.str _,Iq _]) Ai rfl rfl rfl rfl rfl rfl (hfr) (Bg hf1)) ?_
     refine Qp (Qf [Iq _]) (Qp Br (Qp Ap (Ag (AW.seq (Ah (Qp Kw (Qp Br (Qp A6 (Qp Bm ?_)))))))))
     refine Qg [] Qw Az (Qg [] Qw J2 (Qg [(56,_)] Qw J2 (Qg [(57,_)] Qw Br ?_)))
     refine AOL.Aav (y:=.bool _) _ [(55,_),(58,_)] rfl (sB.all ⟨tO.self _ _,tO.self _ _,trivial⟩) (fun hG=>O5 rfl rfl) rfl ?_
     refine Qg [(59,_)] Qw Bm (Qg [] Qw R6 (Qg [(61,_)] Qw Br (Qg [] Qw Az (Qg [(63,_)] Qw (El [Iq _,Iq _,.str _]) ?_))))
     refine AOL.Aav (y:=.bool _) _ [(62,_),(64,_)] rfl (sB.all ⟨tO.self _ _,tO.self _ _,trivial⟩) (fun hG=>Ct (by kernel_rfl) rfl rfl (c99 _ ⟨_,_,_⟩)) rfl ?_
     refine Qg [(65,_)] Qw Ge (Qg [(60,_),(66,_)] Qw Ek (Qp Em (Ag (A2 (fun hc5=>?_) fun hc5=>?_))))
     ·
      refine Ah (Qp Ap (Qp Ap (Ag (Dq ?_))))
      refine J3 (Iq _) (Iq _) ?_
      simp only [Ad,F3]
      try simp only [hfl]
      try simp only [hka]
      (first | rw [iN hc1] | skip);(first | rw [iN hc2] | skip);(first | rw [iN hc3] | skip);(first | rw [iN hc4] | skip);(first | rw [if_pos hc5] | skip)
      first | done | rfl
     ·
      refine Bv (Ah (Qp Az (Qp Ap (Qp Ap (Ag (AW.ret ?_))))))
      refine J3 (Iq _) (Iq _) ?_
      simp only [Ad,F3]
      try simp only [hfl]
      try simp only [hka]
      (first | rw [iN hc1] | skip);(first | rw [iN hc2] | skip);(first | rw [iN hc3] | skip);(first | rw [iN hc4] | skip);(first | rw [iN hc5] | skip)
      first | done | rfl
theorem c89 (types:List Sc)(vars:List Va)(hv:Ln types vars)(e:Ex)(hn:Bx e=0):Ar Tryz.prog 115 [.sl 2 (types.map Nf),.sl 2 (vars.map Ub),.agg (cE e)] (.tuple [.int .i64 (F3 types vars e).1,.int .i64 (F3 types vars e).2]):=by
 have hvr:=Ml hn
 have hfr:=Jx hn
 refine Ar.body (n:=69) Ai Tryz.func115 rfl rfl rfl fun H=>?_
 refine Ah (Qp K3 (Qp Ap (Qp Ap (Ag (AW.seq (Ah (Qp Kw (Qp Br (Qp A6 ?_)))))))))
 refine Ag (A2 (fun hc1=>?_) fun hc1=>?_)
 ·
  refine Ah (Qp J2 (Qp J2 (Qp Br (Qp Ap (Qp Ap (Ag (Dq ?_)))))))
  refine J3 (Iq _) (Iq _) ?_
  simp only [Ad,F3]
  try simp only [hfl]
  try simp only [hka]
  (first | rw [if_pos hc1] | skip)
  first | done | rfl
 ·
  refine Bv (AW.seq (Ah (Qp Ym (Qp Br (Qp C5 ?_)))))
  refine Qp (Ak (n:=vars.length) Ai rfl rfl rfl (by simp)) ?_
  refine Qp Ob (Ag (A2 (fun hc2=>?_) fun hc2=>?_))
  ·
   refine Ah (Qp Ap (Qp Ap (Ag (Dq ?_))))
   refine J3 (Iq _) (Iq _) ?_
   simp only [Ad,F3]
   try simp only [hfl]
   try simp only [hka]
   (first | rw [iN hc1] | skip);(first | rw [if_pos hc2] | skip)
   first | done | rfl
  ·
   refine Bv (AW.seq (Ah (Qp Kw (Qp Br (Qp A6 (Qp Bm (Qg [] Qw Kw (Qg [(25,_)] Qw Br (Qg [(26,_)] Qw A6 ?_)))))))))
   refine Qp Ek (Ag (A2 (fun hc3=>?_) fun hc3=>?_))
   ·
    refine Ah (Qp Ap (Qp Ap (Ag (Dq ?_))))
    refine J3 (Iq _) (Iq _) ?_
    simp only [Ad,F3]
    try simp only [hfl]
    try simp only [hka]
    (first | rw [iN hc1] | skip);(first | rw [iN hc2] | skip);(first | rw [if_pos hc3] | skip)
    first | done | rfl
   ·
    refine (Hq (l:=vars) hvr.1 (by simp at hc2;omega)).elim fun v hv1=>?_
    have hvt:=hv v (List.mem_of_getElem? hv1)
    refine (Hq (l:=types) hvt.1 hvt.2).elim fun s hs1=>?_
    have hfl:Fs types vars e.var=s.fields:=by simp [Fs,hv1,hs1]
    refine Bv (Ah (Qp C5 (Qp C5 (Qp Ym (Qp Br ?_)))))
    refine Qp (Af (c:=[.str _,Iq _]) Ai rfl rfl rfl rfl rfl rfl (hvr.1) (Bg hv1)) ?_
    refine Qp (Qf [Iq _]) (Qp Br ?_)
    refine Qp (Af (c:=[.str _,_]) Ai rfl rfl rfl rfl rfl rfl (hvt.1) (Bg hs1)) ?_
    refine Qp (Qf [_]) (Qp Dg (Qp Xa (Ag (AW.seq (Ah (Qp Qv (Qp Br (Qp C5 ?_))))))))
    refine Qp (Ak (n:=s.fields.length) Ai rfl rfl rfl (by simp)) ?_
    refine Qp Ob (Ag (A2 (fun hc4=>?_) fun hc4=>?_))
    ·
     refine Ah (Qp Ap (Qp Ap (Ag (Dq ?_))))
     refine J3 (Iq _) (Iq _) ?_
     simp only [Ad,F3]
     try simp only [hfl]
     try simp only [hka]
     (first | rw [iN hc1] | skip);(first | rw [iN hc2] | skip);(first | rw [iN hc3] | skip);(first | rw [if_pos hc4] | skip)
     first | done | rfl
    ·
     refine (Hq (l:=s.fields) hfr (by simp at hc4;omega)).elim fun f hf1=>?_
     have hka:Hh s.fields e.field=f.kind:=by simp [Hh,hf1]
     refine Bv (Ah (Qp C5 (Qp Qv (Qp Br ?_))))
     refine Qp (Af (c:=[.str _,Iq _]) Ai rfl rfl rfl rfl rfl rfl (hfr) (Bg hf1)) ?_
     refine Qp (Qf [Iq _]) (Qp Br (Qp Ap (Ag (AW.seq (Ah (Qp Kw (Qp Br (Qp A6 (Qp Bm ?_)))))))))
     refine Qg [] Qw Az (Qg [] Qw J2 (Qg [(55,_)] Qw J2 (Qg [(56,_)] Qw Br ?_)))
     refine AOL.Aav (y:=.bool _) _ [(54,_),(57,_)] rfl (sB.all ⟨tO.self _ _,tO.self _ _,trivial⟩) (fun hG=>O5 rfl rfl) rfl ?_
     refine Qg [(58,_)] Qw Bm (Qg [] Qw R6 (Qg [(60,_)] Qw Br (Qg [] Qw Az (Qg [(62,_)] Qw (El [Iq _,Iq _,.str _]) ?_))))
     refine AOL.Aav (y:=.bool _) _ [(61,_),(63,_)] rfl (sB.all ⟨tO.self _ _,tO.self _ _,trivial⟩) (fun hG=>Ct (by kernel_rfl) rfl rfl (c101 _ ⟨_,_,_⟩)) rfl ?_
     refine Qg [(64,_)] Qw Ge (Qg [(59,_),(65,_)] Qw Ek (Qp Em (Ag (A2 (fun hc5=>?_) fun hc5=>?_))))
     ·
      rw [rs_es hn] at hc5
      refine Ah (Qp Ap (Qp Ap (Ag (Dq ?_))))
      refine J3 (Iq _) (Iq _) ?_
      simp only [Ad,F3]
      try simp only [hfl]
      try simp only [hka]
      (first | rw [iN hc1] | skip);(first | rw [iN hc2] | skip);(first | rw [iN hc3] | skip);(first | rw [iN hc4] | skip);(first | rw [if_pos hc5] | skip)
      first | done | rfl
     ·
      rw [rs_es hn] at hc5
      refine Bv (Ah (Qp Az (Qp Ap (Qp Ap (Ag (AW.ret ?_))))))
      refine J3 (Iq _) (Iq _) ?_
      simp only [Ad,F3]
      try simp only [hfl]
      try simp only [hka]
      (first | rw [iN hc1] | skip);(first | rw [iN hc2] | skip);(first | rw [iN hc3] | skip);(first | rw [iN hc4] | skip);(first | rw [iN hc5] | skip)
      first | done | rfl
theorem c90 (op:Int):Ar Tryz.prog 117 [.int .i64 op] (.int .i64 (Yj op)):=by
 refine Ar.body (n:=9) Ai Tryz.func117 rfl rfl rfl fun H=>?_
 refine Ah (Qp Ap (Ag (AW.seq (Ah (Qp Az (Qp A6 (Qp Bm (Qg [] Qw Az (Qg [(6,_)] Qw A6 ?_)))))))))
 refine Qp Ek (Ag (A2 (fun hc1=>?_) fun hc1=>?_))
 ·
  refine Ah (Qp Ap (Ag (Dq ?_)))
  refine Qr (Iq _) ?_
  simp only [Ad,Yj]
  (first | rw [if_pos hc1] | skip)
 ·
  refine Bv (Ah (Qp Ap (Ag (AW.ret ?_))))
  refine Qr (Iq _) ?_
  simp only [Ad,Yj]
  (first | rw [iN hc1] | skip)
theorem c58 (types:List Sc)(vars:List Va)(hv:Ln types vars)(e:Ex)(hn:C0 e=0)(hs:Av e≤1048576):Ar Tryz.prog 133 [.agg (cT types vars),.agg (cE e)] (.tuple [.int .i64 (Ce types vars e).1,.int .i64 (Ce types vars e).2]):=by
 revert hn hs
 induction e using Ex.Aa0
 rename_i e ih
 intro hn hs
 have hz:=Ba hn
 have hal:=L5 e hs
 refine Ar.body (n:=57) Ai Tryz.func133 rfl rfl rfl fun H=>?_
 refine Ah (Qp (Fx [_,_]) (Qp K3 (Qp Ap (Qp Ap (Ag (AW.seq (Ah (Qp Mr (Qp Dg ?_)))))))))
 refine Qp (Ak (n:=e.args.length) Ai rfl rfl rfl (by simp)) ?_
 refine Qp A6 (Ag (A2 (fun hc1=>?_) fun hc1=>?_))
 ·
  refine Ah (Qp (Cd [_,_]) (Qp Dh ?_))
  refine Qp (Qc rfl (c86 types vars hv e hz.1)) ?_
  refine Qp Ih (Qp Ih (Qp Ap (Qp Ap (Ag (Dq ?_)))))
  refine J3 (Iq _) (Iq _) ?_
  rw [Eo types vars e,if_pos (by simpa [List.isEmpty_iff] using hc1)];rfl
 ·
  refine Bv (Ah (Qp Oc ?_))
  refine AOL.ghost (GS.row (t:=6) 3 1 rfl) ?_
  refine Ag (AW.seq (Ah (Qp Mr (Qp Dg ?_))))
  refine Qp (Ak (n:=e.args.length) Ai rfl rfl rfl (by simp)) ?_
  refine Qp Az (Ag (AW.block ?_))
  refine AW.Aau (fun (p:Nat×List (List AV)×Value)=>(⟨[(2,.ptr (cT types vars)),(3,.ptr (cE e)),(6,.row p.2.2 1 p.2.1),(22,.sl 8 (e.args.map Gs)),(23,.int .i64 e.args.length),(24,.int .i64 (p.1:Int))],.row p.2.2 p.2.1.length 3 1::H,57⟩:St)) (fun (p:Nat×List (List AV)×Value)=>p.1≤e.args.length∧Aq (fun a=>(Ce types vars a).2) e.args=Aq (fun a=>(Ce types vars a).2) (e.args.drop p.1)∧p.2.1=((e.args.take p.1).map (fun a=>(Ce types vars a).1)).map (fun k=>[AV.int .i64 k])) (fun (p:Nat×List (List AV)×Value)=>e.args.length-p.1) ((0,[],.slice none 0 0)) ?_ (GS.weaken ⟨rfl,rfl,rfl,rfl,rfl,rfl,trivial⟩ (.refl _)) ?_
  · exact ⟨Nat.zero_le _,by simp,by simp⟩
  ·
   rintro p hR
   refine Ah (Qp Cf (Ag (AW.seq (A2 (fun hc2=>?_) fun hc2=>?_))))
   ·
    obtain ⟨a,ha⟩:=B1 hc2
    have hlt:=A8 ha
    have hm:=List.mem_of_getElem? ha
    have hsc:∀c∈p.2.1,Bf c=true:=by rw [hR.2.2];exact Ff fun _=>rfl
    refine Bv (AW.seq (AW.block (Ah ?_)))
    refine Qp (Af (c:=[Iq _,_,Iq _,Iq _,Iq _,Iq _,Iq _,.str _]) Ai rfl rfl rfl rfl rfl rfl (by omega) (E0 ha)) ?_
    refine Qp Dh ?_
    refine Qe (Aj (l:=[.int .i64 0,.sl 8 [],.int .i64 0,.int .i64 0,.int .i64 0,.int .i64 0,.int .i64 0,.str []]) (by kernel_rfl)) ?_
    rintro _ _ ⟨b8,rfl,rfl⟩
    refine Cq 0 [Iq _,_,Iq _,Iq _,Iq _,Iq _,Iq _,.str _] (_::_::_) ?_
    refine AOL.ghost (GS.Aat (t:=8) 0 rfl rfl) ?_
    refine Db (Qp (Cd [_,_]) (Qp Dh ?_))
    refine Qp (Qc rfl (ih a hm (hz.2 a hm) (by have:=F0 hm;omega))) ?_
    refine Qp Lv (Qp Ih (Qp Ih (Qp Ap (Qp Ap (Ag (AW.seq (Ah (Qp Az (Qp Ci ?_)))))))))
    refine Ag (A2 (fun hc3=>?_) fun hc3=>?_)
    ·
     refine Ah (Qp Az (Qp Ap (Qp Ap (Ag (Dq (A9 (Al (Al (A9 ?_)))))))))
     refine Al ?_
     refine ⟨.inr rfl,[Iq _,Iq _],.cons (.tmp _ _ rfl) <| .cons (.tmp _ _ rfl) <| .nil,.cons _ (.refl _),?_⟩
     have hne:¬e.args.isEmpty=true:=by simpa [List.isEmpty_iff] using hc1
     have hfe:Aq (fun a=>(Ce types vars a).2) e.args=(Ce types vars a).2:=by rw [hR.2.1,A5 ha,Aq,if_pos hc3]
     rw [Eo types vars e,if_neg hne,hfe,if_pos hc3];rfl
    ·
     refine Bv (AW.region ?_)
     refine Qp (Bk (v:=.row _ _ _) rfl) ?_
     refine Qp Az ?_
     refine Qp (A0 (es:=[[Iq _]]) Ai rfl rfl rfl rfl rfl rfl rfl rfl rfl) ?_
     refine Qe (Dj (k:=0) Ai rfl rfl rfl rfl rfl rfl rfl rfl (G2 rfl) (hsc) (by simp [hR.2.2];omega) (by simp [hR.2.2,maxLen];omega)) ?_
     rintro _ _ ⟨v40,rfl,rfl⟩
     refine Qp (C8 (v:=.row _ _ _) rfl) ?_
     refine AOL.nil (Bp (Ae (AW.region (Qp Fu (Qp Az (Ag ?_))))))
     refine ⟨(p.1+1,p.2.1 ++ [[.int .i64 (Ce types vars a).1]],v40),?_,?_,GS.weaken ⟨rfl,rfl,rfl,rfl,rfl,rfl,trivial⟩ (.refl _)⟩
     · simp only;exact ⟨hlt,by rw [hR.2.1,A5 ha,Aq,if_neg (by simpa using hc3)],by rw [Cm ha,hR.2.2];simp⟩
     · first | omega | (simp only;omega)
   ·
    have hte:=Cv hc2
    have hd:=Df hc2
    have hf:Aq (fun a=>(Ce types vars a).2) e.args=0:=by rw [hR.2.1,hd];rfl
    obtain ⟨k,es,rv⟩:=p
    simp only at hR hte
    have h6:es=(e.args.map (fun a=>(Ce types vars a).1)).map (fun k=>[AV.int .i64 k]):=by rw [hR.2.2,hte]
    subst h6
    refine AW.exit ?_
    refine A3 (A3 (Bq (Ae (AW.seq (Ah (Qp Kw (Qp Br ?_)))))))
    refine AOL.ghost (GS.unrow 6 rfl) ?_
    refine Qp C5 ?_
    refine Qp (Qc rfl (c71 e.op (e.args.map (fun a=>(Ce types vars a).1)))) ?_
    refine Qp Ap (Db (Qp Az (Qp Ci (Ag (A2 (fun hc4=>?_) fun hc4=>?_)))))
    ·
     refine Ah (Qp Az (Qp Ap (Qp Ap (Ag (Dq ?_)))))
     refine ⟨.inr rfl,[Iq _,Iq _],.cons (.tmp _ _ rfl) <| .cons (.tmp _ _ rfl) <| .nil,.cons _ (.refl _),?_⟩
     have hne:¬e.args.isEmpty=true:=by simpa [List.isEmpty_iff] using hc1
     rw [Eo types vars e,if_neg hne,hf,if_neg (show ¬((0:Int) != 0)=true by decide),if_pos hc4];rfl
    ·
     refine Bv (AW.seq (Ah (Qp Kw (Qp Br (Qp A6 (Qp Bm (Qg [] Qw Kw (Qg [(53,_)] Qw Br (Qg [(54,_)] Qw A6 ?_)))))))))
     refine Qp Ek (Ag (A2 (fun hc5=>?_) fun hc5=>?_))
     ·
      refine Ah (Qp Ap (Qp Ap (Ag (Dq ?_))))
      refine ⟨.inr rfl,[Iq _,Iq _],.cons (.tmp _ _ rfl) <| .cons (.tmp _ _ rfl) <| .nil,.cons _ (.refl _),?_⟩
      have hne:¬e.args.isEmpty=true:=by simpa [List.isEmpty_iff] using hc1
      rw [Eo types vars e,if_neg hne,hf,if_neg (show ¬((0:Int) != 0)=true by decide),iN hc4];unfold Yj;first | (rw [if_pos hc5];rfl) | (rw [iN hc5];rfl)
     ·
      refine Bv (Ah (Qp Ap (Qp Ap (Ag (AW.ret ?_)))))
      refine ⟨.inr rfl,[Iq _,Iq _],.cons (.tmp _ _ rfl) <| .cons (.tmp _ _ rfl) <| .nil,.cons _ (.refl _),?_⟩
      have hne:¬e.args.isEmpty=true:=by simpa [List.isEmpty_iff] using hc1
      rw [Eo types vars e,if_neg hne,hf,if_neg (show ¬((0:Int) != 0)=true by decide),iN hc4];unfold Yj;first | (rw [if_pos hc5];rfl) | (rw [iN hc5];rfl)
theorem c61 (types:List Sc)(vars:List Va)(hv:Ln types vars)(e:Ex)(hn:C0 e=0)(hs:Av e≤1048576):Ar Tryz.prog 75 [.sl 2 (types.map Nf),.sl 2 (vars.map Ub),.agg (cE e)] (.tuple [.int .i64 (Ce types vars e).1,.int .i64 (Ce types vars e).2]):=by
 revert hn hs
 induction e using Ex.Aa0
 rename_i e ih
 intro hn hs
 have hz:=Ba hn
 have hal:=L5 e hs
 refine Ar.body (n:=58) Ai Tryz.func75 rfl rfl rfl fun H=>?_
 refine Ah (Qp K3 (Qp Ap (Qp Ap (Ag (AW.seq (Ah (Qp Mr (Qp Dg ?_))))))))
 refine Qp (Ak (n:=e.args.length) Ai rfl rfl rfl (by simp)) ?_
 refine Qp A6 (Ag (A2 (fun hc1=>?_) fun hc1=>?_))
 ·
  refine Ah (Qp C5 (Qp C5 (Qp Dh ?_)))
  refine Qp (Qc rfl (c89 types vars hv e hz.1)) ?_
  refine Qp Ih (Qp Ih (Qp Ap (Qp Ap (Ag (Dq ?_)))))
  refine J3 (Iq _) (Iq _) ?_
  rw [Eo types vars e,if_pos (by simpa [List.isEmpty_iff] using hc1)];rfl
 ·
  refine Bv (Ah (Qp Oc ?_))
  refine AOL.ghost (GS.row (t:=8) 3 1 rfl) ?_
  refine Ag (AW.seq (Ah (Qp Ap (Ag (AW.block ?_)))))
  refine AW.Aau (fun (p:Nat×List (List AV)×Value)=>(⟨[(0,.sl 2 (types.map Nf)),(1,.sl 2 (vars.map Ub)),(5,.ptr (cE e)),(8,.row p.2.2 1 p.2.1),(9,.int .i64 (p.1:Int))],.row p.2.2 p.2.1.length 3 1::H,58⟩:St)) (fun (p:Nat×List (List AV)×Value)=>p.1≤e.args.length∧Aq (fun a=>(Ce types vars a).2) e.args=Aq (fun a=>(Ce types vars a).2) (e.args.drop p.1)∧p.2.1=((e.args.take p.1).map (fun a=>(Ce types vars a).1)).map (fun k=>[AV.int .i64 k])) (fun (p:Nat×List (List AV)×Value)=>e.args.length-p.1) ((0,[],.slice none 0 0)) ?_ (GS.weaken ⟨rfl,rfl,rfl,rfl,rfl,trivial⟩ (.refl _)) ?_
  · exact ⟨Nat.zero_le _,by simp,by simp⟩
  ·
   rintro p hR
   refine AW.seq (Ah (Qp Az (Qp Mr (Qp Dg ?_))))
   refine Qp (Ak (n:=e.args.length) Ai rfl rfl rfl (by simp)) ?_
   refine Qp Cf (Ag (A2 (fun hc2=>?_) fun hc2=>?_))
   ·
    obtain ⟨a,ha⟩:=B1 hc2
    have hlt:=A8 ha
    have hm:=List.mem_of_getElem? ha
    have hsc:∀c∈p.2.1,Bf c=true:=by rw [hR.2.2];exact Ff fun _=>rfl
    refine Bv (AW.seq (AW.block (Ah (Qp C5 (Qp C5 (Qp Mr (Qp Dg (Qp Az ?_))))))))
    refine Qp (Af (c:=[Iq _,_,Iq _,Iq _,Iq _,Iq _,Iq _,.str _]) Ai rfl rfl rfl rfl rfl rfl (by omega) (E0 ha)) ?_
    refine Qp Dh ?_
    refine Qp (Qc rfl (ih a hm (hz.2 a hm) (by have:=F0 hm;omega))) ?_
    refine Qp Lv (Qp Ih (Qp Ih (Qp Ap (Qp Ap (Ag (AW.seq (Ah (Qp Az (Qp Ci ?_)))))))))
    refine Ag (A2 (fun hc3=>?_) fun hc3=>?_)
    ·
     refine Ah (Qp Az (Qp Ap (Qp Ap (Ag (Dq (A9 (Al (Al (A9 ?_)))))))))
     refine Al ?_
     refine ⟨.inr rfl,[Iq _,Iq _],.cons (.tmp _ _ rfl) <| .cons (.tmp _ _ rfl) <| .nil,.cons _ (.refl _),?_⟩
     have hne:¬e.args.isEmpty=true:=by simpa [List.isEmpty_iff] using hc1
     have hfe:Aq (fun a=>(Ce types vars a).2) e.args=(Ce types vars a).2:=by rw [hR.2.1,A5 ha,Aq,if_pos hc3]
     rw [Eo types vars e,if_neg hne,hfe,if_pos hc3];rfl
    ·
     refine Bv (AW.region ?_)
     refine Qp (Bk (v:=.row _ _ _) rfl) ?_
     refine Qp Az ?_
     refine Qp (A0 (es:=[[Iq _]]) Ai rfl rfl rfl rfl rfl rfl rfl rfl rfl) ?_
     refine Qe (Dj (k:=0) Ai rfl rfl rfl rfl rfl rfl rfl rfl (G2 rfl) (hsc) (by simp [hR.2.2];omega) (by simp [hR.2.2,maxLen];omega)) ?_
     rintro _ _ ⟨v47,rfl,rfl⟩
     refine Qp (C8 (v:=.row _ _ _) rfl) ?_
     refine AOL.nil (Bp (Ae (AW.region (Qp Az (Qp Fu (Qp Ap (Ag ?_)))))))
     refine ⟨(p.1+1,p.2.1 ++ [[.int .i64 (Ce types vars a).1]],v47),?_,?_,GS.weaken ⟨rfl,rfl,rfl,rfl,rfl,trivial⟩ (.refl _)⟩
     · simp only;exact ⟨hlt,by rw [hR.2.1,A5 ha,Aq,if_neg (by simpa using hc3)],by rw [Cm ha,hR.2.2];simp⟩
     · first | omega | (simp only;omega)
   ·
    have hte:=Cv hc2
    have hd:=Df hc2
    have hf:Aq (fun a=>(Ce types vars a).2) e.args=0:=by rw [hR.2.1,hd];rfl
    obtain ⟨k,es,rv⟩:=p
    simp only at hR hte
    have h6:es=(e.args.map (fun a=>(Ce types vars a).1)).map (fun k=>[AV.int .i64 k]):=by rw [hR.2.2,hte]
    subst h6
    refine AW.exit ?_
    refine A3 (A3 (Bq (Ae (AW.seq (Ah (Qp Kw (Qp Br ?_)))))))
    refine AOL.ghost (GS.unrow 8 rfl) ?_
    refine Qp C5 ?_
    refine Qp (Qc rfl (c73 e.op (e.args.map (fun a=>(Ce types vars a).1)))) ?_
    refine Qp Ap (Db (Qp Az (Qp Ci (Ag (A2 (fun hc4=>?_) fun hc4=>?_)))))
    ·
     refine Ah (Qp Az (Qp Ap (Qp Ap (Ag (Dq ?_)))))
     refine ⟨.inr rfl,[Iq _,Iq _],.cons (.tmp _ _ rfl) <| .cons (.tmp _ _ rfl) <| .nil,.cons _ (.refl _),?_⟩
     have hne:¬e.args.isEmpty=true:=by simpa [List.isEmpty_iff] using hc1
     rw [Eo types vars e,if_neg hne,hf,if_neg (show ¬((0:Int) != 0)=true by decide),if_pos hc4];rfl
    ·
     refine Bv (Ah (Qp Kw (Qp Br ?_)))
     refine Qp (Qc rfl (c90 _)) ?_
     refine Qp Ap (Qp Ap (Ag (AW.ret ?_)))
     refine ⟨.inr rfl,[Iq _,Iq _],.cons (.tmp _ _ rfl) <| .cons (.tmp _ _ rfl) <| .nil,.cons _ (.refl _),?_⟩
     have hne:¬e.args.isEmpty=true:=by simpa [List.isEmpty_iff] using hc1
     rw [Eo types vars e,if_neg hne,hf,if_neg (show ¬((0:Int) != 0)=true by decide),iN hc4];rfl
theorem c60 (types:List Sc)(vars:List Va)(hvl:vars.length≤1048576):Ar Tryz.prog 74 [.sl 2 (types.map Nf),.sl 2 (vars.map Ub)] (.int .i64 (Ie types vars)):=by
 refine Ar.body (n:=31) Ai Tryz.func74 rfl rfl rfl fun H=>?_
 refine Ah (Qp Ap (Ag (AW.seq (Ah (Qp C5 ?_)))))
 refine Qp (Ak (n:=vars.length) Ai rfl rfl rfl (by simp)) ?_
 refine Qp Hb (Ag (A2 (fun hc1=>?_) fun hc1=>?_))
 ·
  refine Ah (Qp Ap (Ag (Dq ?_)))
  refine Qr (Iq _) ?_
  rw [Ie,if_pos hc1];rfl
 ·
  refine Bv (AW.seq (Ah (Qp Ap (Ag (AW.block ?_)))))
  refine AW.Aau (fun (p:Nat)=>(⟨[(0,.sl 2 (types.map Nf)),(1,.sl 2 (vars.map Ub)),(5,.int .i64 (p:Int))],H,31⟩:St)) (fun (p:Nat)=>p≤vars.length∧Aq (Oo types.length) vars=Aq (Oo types.length) (vars.drop p)) (fun (p:Nat)=>vars.length-p) (0) ?_ (GS.weaken ⟨rfl,rfl,rfl,trivial⟩ (.refl _)) ?_
  · exact ⟨Nat.zero_le _,rfl⟩
  ·
   rintro p hR
   refine AW.seq (Ah (Qp Az (Qp C5 ?_)))
   refine Qp (Ak (n:=vars.length) Ai rfl rfl rfl (by simp)) ?_
   refine Qp Cf (Ag (A2 (fun hc2=>?_) fun hc2=>?_))
   ·
    obtain ⟨a,ha⟩:=B1 hc2
    have hlt:=A8 ha
    have hm:=List.mem_of_getElem? ha
    refine Bv (AW.seq (AW.block (Ah (Qp C5 (Qp Az ?_)))))
    refine Qp (Af (c:=[.str _,Iq _]) Ai rfl rfl rfl rfl rfl rfl (by omega) (Bg ha)) ?_
    refine Qp (Qf [Iq _]) (Qp Br (Qp Cf (Qp Bm (Qg [] Qw C5 (Qg [] Qw Az ?_)))))
    refine AOL.Aav (y:=.ptr _) _ [(22,_),(23,_)] rfl (sB.all ⟨tO.self _ _,tO.self _ _,trivial⟩) (fun hG=>Af (c:=[.str _,Iq _]) Ai rfl rfl rfl rfl rfl rfl (by omega) (Bg ha)) rfl ?_
    refine Qg [(24,_)] Qw (Qf [Iq _]) (Qg [(25,_)] Qw Br (Qg [] Qw C5 ?_))
    refine AOL.Aav (y:=Iq _) _ [(27,_)] rfl (sB.all ⟨tO.self _ _,trivial⟩) (fun hG=>Ak (n:=types.length) Ai rfl rfl rfl (by simp)) rfl ?_
    refine AOL.Aav (y:=.bool _) _ [(26,_),(28,_)] rfl (sB.all ⟨tO.self _ _,tO.self _ _,trivial⟩) (fun hG=>U1 rfl rfl) rfl ?_
    refine Qp Ek (Ag (A2 (fun hc3=>?_) fun hc3=>?_))
    ·
     have he:Oo types.length a=6:=by unfold Oo;rw [if_pos hc3]
     refine Ah (Qp Ap (Ag (AW.ret (A9 (Al (Al (A9 (Al ?_))))))))
     refine Qr (Iq _) ?_
     rw [Ie,iN hc1,hR.2,A5 ha,Aq,he,if_pos (by decide)];rfl
    ·
     have he:Oo types.length a=0:=by unfold Oo;rw [if_neg (by simpa using hc3)]
     refine AW.skip (Bp (Ae (AW.region (Qp Az (Qp Fu (Qp Ap (Ag ?_)))))))
     refine ⟨p+1,?_,?_,GS.weaken ⟨rfl,rfl,rfl,trivial⟩ (.refl _)⟩
     · exact ⟨hlt,by rw [hR.2,A5 ha,Aq,if_neg (by rw [he];decide)]⟩
     · omega
   ·
    have hd:=Df hc2
    refine AW.exit ?_
    refine A3 (A3 (Bq (Ae (Ah (Qp Ap (Ag (AW.ret ?_)))))))
    refine Qr (Iq _) ?_
    rw [Ie,iN hc1,hR.2,hd];rfl
theorem c31 (types:List Sc)(hl:types.length≤1048576)(hs:∀s∈types,I9 s)(vars:List Va)(hvl:vars.length≤1048576)(e:Ex)(hse:Av e≤1048576):Ar Tryz.prog 82 [.sl 2 (types.map Nf),.sl 2 (vars.map Ub),.agg (cE e)] (.tuple [.int .i64 (C9 types vars e).1,.int .i64 (C9 types vars e).2]):=by
 refine Ar.body (n:=49) Ai Tryz.func82 rfl rfl rfl fun H=>?_
 refine Ah (Qp K3 (Qp Ap (Qp Ap (Ag (AW.seq (Ah (Qp C5 ?_)))))))
 refine Qp (Qc rfl (c57 types hl hs)) ?_
 refine Qp Ap (Db (Qp Az (Qp Ci (Ag (A2 (fun hc1=>?_) fun hc1=>?_)))))
 ·
  refine Ah (Qp Az (Qp Ap (Qp Ap (Ag (Dq ?_)))))
  refine J3 (Iq _) (Iq _) ?_
  rw [C9,if_pos hc1];rfl
 ·
  refine Bv (AW.seq (Ah (Qp C5 ?_)))
  refine Qp (Ak (n:=vars.length) Ai rfl rfl rfl (by simp)) ?_
  refine Qp Hb (Ag (A2 (fun hc2=>?_) fun hc2=>?_))
  ·
   refine Ah (Qp Ap (Qp Ap (Ag (Dq ?_))))
   refine J3 (Iq _) (Iq _) ?_
   have hve:Ie types vars=5:=by rw [Ie,if_pos hc2]
   rw [C9,iN hc1,hve,if_pos (by decide)];rfl
  ·
   refine Bv (AW.seq (Ah (Qp C5 ?_)))
   refine Qp (Ak (n:=vars.length) Ai rfl rfl rfl (by simp)) ?_
   refine Qp Az (Ag (AW.block ?_))
   refine AW.Aau (fun (p:Nat)=>(⟨[(0,.sl 2 (types.map Nf)),(1,.sl 2 (vars.map Ub)),(5,.ptr (cE e)),(20,.sl 2 (vars.map Ub)),(21,.int .i64 vars.length),(22,.int .i64 (p:Int))],H,49⟩:St)) (fun (p:Nat)=>p≤vars.length∧Aq (Oo types.length) vars=Aq (Oo types.length) (vars.drop p)) (fun (p:Nat)=>vars.length-p) (0) ?_ (GS.weaken ⟨rfl,rfl,rfl,rfl,rfl,rfl,trivial⟩ (.refl _)) ?_
   · exact ⟨Nat.zero_le _,rfl⟩
   ·
    rintro p hR
    refine Ah (Qp Cf (Ag (AW.seq (A2 (fun hc3=>?_) fun hc3=>?_))))
    ·
     obtain ⟨a,ha⟩:=B1 hc3
     have hlt:=A8 ha
     have hm:=List.mem_of_getElem? ha
     refine Bv (AW.seq (AW.block (Ah ?_)))
     refine Qp (Af (c:=[.str _,Iq _]) Ai rfl rfl rfl rfl rfl rfl (by omega) (Bg ha)) ?_
     refine Qp (Cd [.str _,Iq _]) ?_
     refine Qe (Aj (l:=[.str [],.int .i64 0]) (by kernel_rfl)) ?_
     rintro _ _ ⟨b10,rfl,rfl⟩
     refine Cq 0 [.str _,Iq _] (_::_) ?_
     refine AOL.ghost (GS.Aat (t:=10) 0 rfl rfl) ?_
     refine Db (Qp (Qf [Iq _]) (Qp Br (Qp Cf (Qp Bm (Qg [] Qw (Qf [Iq _]) (Qg [(30,_)] Qw Br (Qg [] Qw C5 ?_)))))))
     refine AOL.Aav (y:=Iq _) _ [(32,_)] rfl (sB.all ⟨tO.self _ _,trivial⟩) (fun hG=>Ak (n:=types.length) Ai rfl rfl rfl (by simp)) rfl ?_
     refine AOL.Aav (y:=.bool _) _ [(31,_),(33,_)] rfl (sB.all ⟨tO.self _ _,tO.self _ _,trivial⟩) (fun hG=>U1 rfl rfl) rfl ?_
     refine Qp Ek (Ag (A2 (fun hc4=>?_) fun hc4=>?_))
     ·
      have he:Oo types.length a=6:=by unfold Oo;rw [if_pos hc4]
      refine Ah (Qp Ap (Qp Ap (Ag (AW.ret (A9 (Al (Al (A9 (Al ?_)))))))))
      refine J3 (Iq _) (Iq _) ?_
      have hve:Ie types vars=6:=by rw [Ie,iN hc2,hR.2,A5 ha,Aq,he,if_pos (by decide)]
      rw [C9,iN hc1,hve,if_pos (by decide)];rfl
     ·
      have he:Oo types.length a=0:=by unfold Oo;rw [if_neg (by simpa using hc4)]
      refine AW.skip (Bp (Ae (AW.region (Qp Fu (Qp Az (Ag ?_))))))
      refine ⟨p+1,?_,?_,GS.weaken ⟨rfl,rfl,rfl,rfl,rfl,rfl,trivial⟩ (.refl _)⟩
      · exact ⟨hlt,by rw [hR.2,A5 ha,Aq,if_neg (by rw [he];decide)]⟩
      · omega
    ·
     have hd:=Df hc3
     have hf0:Aq (Oo types.length) vars=0:=by rw [hR.2,hd];rfl
     have hty:=bV hf0
     have hvz:Ie types vars=0:=by rw [Ie,if_neg (by simpa using hc2),hf0]
     refine AW.exit ?_
     refine A3 (A3 (Bq (Ae (AW.seq (Ah (Qp Dh ?_))))))
     refine Qp (Qc rfl (c21 e hse)) ?_
     refine Qp Ap (Db (Qp Az (Qp Ci (Ag (A2 (fun hc5=>?_) fun hc5=>?_)))))
     ·
      refine Ah (Qp Az (Qp Ap (Qp Ap (Ag (Dq ?_)))))
      refine J3 (Iq _) (Iq _) ?_
      rw [C9,iN hc1,hvz,if_neg (show ¬((0:Int) != 0)=true by decide),if_pos hc5];rfl
     ·
      refine Bv (Ah (Qp C5 (Qp C5 (Qp (El [_,_]) (Qp Dh ?_)))))
      refine Qp (Qc rfl (c58 types vars hty e (Oq (by simpa using hc5)) hse)) ?_
      refine Qp Ih (Qp Ih (Qp Ap (Qp Ap (Ag (AW.ret ?_)))))
      refine J3 (Iq _) (Iq _) ?_
      rw [C9,iN hc1,hvz,if_neg (show ¬((0:Int) != 0)=true by decide),iN hc5];rfl
theorem c32 (types:List Sc)(hl:types.length≤1048576)(hs:∀s∈types,I9 s)(vars:List Va)(hvl:vars.length≤1048576)(e:Ex)(hse:Av e≤1048576):Ar Tryz.prog 35 [.sl 2 (types.map Nf),.sl 2 (vars.map Ub),.agg (cE e)] (.tuple [.int .i64 (C9 types vars e).1,.int .i64 (C9 types vars e).2]):=by
 refine Ar.body (n:=33) Ai Tryz.func35 rfl rfl rfl fun H=>?_
 refine Ah (Qp K3 (Qp Ap (Qp Ap (Ag (AW.seq (Ah (Qp C5 ?_)))))))
 refine Qp (Qc rfl (c59 types hl hs)) ?_
 refine Qp Ap (Db (Qp Az (Qp Ci (Ag (A2 (fun hc1=>?_) fun hc1=>?_)))))
 ·
  refine Ah (Qp Az (Qp Ap (Qp Ap (Ag (Dq ?_)))))
  refine J3 (Iq _) (Iq _) ?_
  simp only [Ad,C9]
  (first | rw [if_pos hc1] | skip)
  first | done | rfl
 ·
  refine Bv (AW.seq (Ah (Qp C5 (Qp C5 ?_))))
  refine Qp (Qc rfl (c60 types vars hvl)) ?_
  refine Qp Ap (Db (Qp Az (Qp Ci (Ag (A2 (fun hc2=>?_) fun hc2=>?_)))))
  ·
   refine Ah (Qp Az (Qp Ap (Qp Ap (Ag (Dq ?_)))))
   refine J3 (Iq _) (Iq _) ?_
   simp only [Ad,C9]
   (first | rw [iN hc1] | skip);(first | rw [if_pos hc2] | skip)
   first | done | rfl
  ·
   have hty:Ln types vars:=bV (Yi (by simpa using hc2))
   refine Bv (AW.seq (Ah (Qp Dh ?_)))
   refine Qp (Qc rfl (c25 e hse)) ?_
   refine Qp Ap (Db (Qp Az (Qp Ci (Ag (A2 (fun hc3=>?_) fun hc3=>?_)))))
   ·
    refine Ah (Qp Az (Qp Ap (Qp Ap (Ag (Dq ?_)))))
    refine J3 (Iq _) (Iq _) ?_
    simp only [Ad,C9]
    (first | rw [iN hc1] | skip);(first | rw [iN hc2] | skip);(first | rw [if_pos hc3] | skip)
    first | done | rfl
   ·
    refine Bv (Ah (Qp C5 (Qp C5 (Qp Dh ?_))))
    refine Qp (Qc rfl (c61 types vars hty e (Oq (by simpa using hc3)) hse)) ?_
    refine Qp Ih (Qp Ih (Qp Ap (Qp Ap (Ag (AW.ret ?_)))))
    refine J3 (Iq _) (Iq _) ?_
    simp only [Ad,C9]
    (first | rw [iN hc1] | skip);(first | rw [iN hc2] | skip);(first | rw [iN hc3] | skip)
    first | done | rfl

end Go.Proofs.YtkddpedfbicbeaaGreatDoor
