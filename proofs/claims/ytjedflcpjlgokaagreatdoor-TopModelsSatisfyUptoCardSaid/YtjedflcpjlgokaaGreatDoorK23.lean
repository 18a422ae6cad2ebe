/-
  Several texts in one: S34, S35, S36, S37, S39, S42, S41. No condition.
-/
import Derived.Test.YtjedflcpjlgokaaGreatDoorK22
import Derived.Test.YtjedflcpjlgokaaGreatDoorK03
set_option linter.unusedVariables false
set_option linter.unusedSimpArgs false
namespace Go.Proofs.YtjedflcpjlgokaaGreatDoor
open Go Go.Aw

def okI (v:Vl):Prop:=v.kind=0→v.text = []
section
variable {T:List Sc} {V:List Va} {env:List (List Ev)}
theorem tJ (hS:J4 T V env){e:Ex}(hz:B3 e=0)(ha:e.args = [])(hk:(F2 T V e).2=0):okI (E7 ⟨env,-1,L3⟩ e).1:=by
 have hvr:=Mm hz
 have hfr:=Jr hz
 have key:∀{w:Vl},Aq w=0→okI w:=fun h hk=>(F1 h hk).1
 unfold F2 at hk
 by_cases h0:(e.op==0)=true
 · unfold E7;rw [if_pos h0];exact key (Lu hz (by simpa using h0)).1
 rw [if_neg h0] at hk
 by_cases h1:decide ((V.length:Int)≤e.var)=true
 · rw [if_pos h1] at hk;cases hk
 rw [if_neg h1] at hk
 have hlt:e.var<(V.length:Int):=by simp at h1;omega
 obtain ⟨v,hv⟩:=Hi (l:=V) hvr.1 hlt
 obtain ⟨s,ev,hs,hev,hse⟩:=hS.2 _ v hv
 have hel:e.var<(env.length:Int):=by rw [hS.1];exact hlt
 have hevs:Bx env e.var = [ev]:=by
  unfold Bx
  rw [if_neg (by simp;omega),hev];rfl
 have hown:(e.var != -1)=true:=by simp;omega
 have hfl:Ez T V e.var=s.fields:=bD hv hs
 rw [hfl] at hk
 by_cases h3:e.op=3
 ·
  unfold E7
  rw [if_neg h0,if_pos (by simp [h3])]
  exact fun _=>rfl
 by_cases h2:e.op=2
 ·
  rw [Mc hevs hown h0 h3 (by omega)]
  unfold Gs
  rw [if_pos (by simp [h2])]
  exact fun _=>rfl
 rw [if_neg (by simp [h2,h3])] at hk
 by_cases h4:decide ((s.fields.length:Int)≤e.field)=true
 · rw [if_pos h4] at hk;cases hk
 rw [if_neg h4] at hk
 obtain ⟨f,hf⟩:=Hi (l:=s.fields) hfr (by simp at h4;omega)
 obtain ⟨w,hw,hgw⟩:=hse.2 _ f hf
 have hka:Hg s.fields e.field=f.kind:=by simp [Hg,hf]
 have hfs:Dq ev e.field=(w,0):=by
  unfold Dq
  rw [if_neg (by rw [hse.1];exact h4),hw];rfl
 rw [hka] at hk
 by_cases h5:e.op=4
 ·
  by_cases h6:(e.op==4&&(f.kind != e.val.kind || !Dz e.kind ⟨f.kind,0,[]⟩))=true
  · rw [if_pos h6] at hk;cases hk
  have htw:=T9 hz h5
  have hes:Dz e.kind w=true:=by
   simp [h5] at h6
   have:=h6.2
   unfold Dz at this ⊢
   rw [hgw.1];exact this
  unfold E7 Ot
  rw [if_neg h0,if_neg (by simp [h3]),if_pos (by simp [h5]),hevs]
  have e1:Ao (fun v=>(Dq v e.field).2) [ev]=0:=by simp [Ao,hfs]
  rw [if_neg (by rw [e1];decide)]
  have e2:([ev].map fun v=>(Dq v e.field).1) = [w]:=by simp [hfs]
  rw [e2,Ye ⟨htw.2.1,htw.2.2⟩ hgw.2 hes htw.1]
  exact key hgw.2
 ·
  rw [Mc hevs hown h0 h3 h5]
  unfold Gs
  rw [if_neg (by simp [h2]),hfs,if_pos (by rfl),if_neg (by rw [hgw.2];decide)]
  exact key hgw.2
theorem pC (op a b:Int):okI (G3 op a b):=by
 unfold G3
 intro h
 split
 · rfl
 split
 · rfl
 all_goals (rename_i h5 h6;rw [C8 (Bool.eq_false_iff.2 h5),C8 (Bool.eq_false_iff.2 h6)] at h;repeat' split at h) <;> exact absurd h (by rw [Pg];decide)
theorem Xq (hS:J4 T V env){e:Ex}(hk:KOK T V e)(ha:e.args≠[]):B6 ⟨env,-1,L3⟩ e=Ko e.op (e.args.map fun a=>(B6 ⟨env,-1,L3⟩ a).1):=
 Vg ha fun a hm=>(Rn hS a (A2 hk hm).nodes (A2 hk hm).kind).1
theorem gO (hS:J4 T V env){e:Ex}(hk:KOK T V e):okI (B6 ⟨env,-1,L3⟩ e).1:=by
 by_cases ha:e.args = []
 ·
  have h:=hk.kind
  rw [E0,if_pos (by simp [ha])] at h
  rw [L8 ha];exact tJ hS (Bc hk.nodes).1 ha h
 ·
  rw [Xq hS hk ha]
  unfold Ko
  split
  · exact fun _=>rfl
  split
  · exact fun h=>absurd h (by rw [Pg];decide)
  · exact pC _ _ _
def tv (env:List (List Ev))(e:Ex):Bool:=(B6 ⟨env,-1,L3⟩ e).1.num==1
theorem tw_val (hS:J4 T V env){e:Ex}(hk:KOK T V e)(h1:An T V e=1):B6 ⟨env,-1,L3⟩ e=(Eh (tv env e),0):=by
 obtain ⟨h2,h3⟩:=Rn hS e hk.nodes hk.kind
 rw [Jb hk,h1] at h3
 have h4:=sR hk.nodes h2 h3
 show _=(Eh ((B6 ⟨env,-1,L3⟩ e).1.num==1),(0:Int))
 rw [←h4,←h2]
theorem sV (hS:J4 T V env){e:Ex}(hk:KOK T V e)(h1:An T V e=1)(hc:B4 e=0):Nh ⟨env,-1,L3⟩ e=tv env e:=by
 unfold Nh Xi
 rw [if_neg (by rw [hc];decide),tw_val hS hk h1]
 cases tv env e <;> rfl
theorem uX (hS:J4 T V env){e:Ex}(hk:KOK T V e)(ha:e.args≠[]) :
  (B6 ⟨env,-1,L3⟩ e).1=if e.op==9 then Eh (eqV (((e.args.map fun a=>(B6 ⟨env,-1,L3⟩ a).1)).headD v0) (((e.args.map fun a=>(B6 ⟨env,-1,L3⟩ a).1)[1]?).getD v0)) else G3 e.op ((e.args.map fun a=>(B6 ⟨env,-1,L3⟩ a).1).headD v0).num ((e.args.map fun a=>(B6 ⟨env,-1,L3⟩ a).1).getLastD v0).num:=by
 have h2:=(Rn hS e hk.nodes hk.kind).1
 rw [Xq hS hk ha] at h2 ⊢
 unfold Ko at h2 ⊢
 by_cases h:(D0 e.op ((e.args.map fun a=>(B6 ⟨env,-1,L3⟩ a).1).map (·.kind)) != 0)=true
 · rw [if_pos h] at h2;simp only at h2;rw [h2] at h;cases h
 ·
  rw [if_neg h]
  split <;> rfl
theorem Td {e:Ex}(hl:e.args.length=2):e.args = [Av e,Cc e]:=by
 unfold Av Cc
 match h:e.args,hl with
 | [a,b],_=>rfl
theorem Zo {e:Ex}(hl:e.args.length=1):e.args = [Av e]:=by
 unfold Av
 match h:e.args,hl with
 | [a],_=>rfl
theorem X5 {e:Ex}(hk:KOK T V e)(h5:5≤e.op)(h:e.op≤11):e.args.length=2:=by
 obtain ⟨_,_,h2⟩:=F6 (Bc hk.nodes).1
 unfold D8 at h2
 rw [if_neg (by omega),if_neg (by omega),if_neg (by omega)] at h2
 omega
theorem len1 {e:Ex}(hk:KOK T V e)(h:e.op=12):e.args.length=1:=by
 obtain ⟨_,_,h2⟩:=F6 (Bc hk.nodes).1
 rw [h] at h2
 have:D8 12=1:=by decide
 rw [this] at h2;omega
def vl (env:List (List Ev))(e:Ex):Vl:=(B6 ⟨env,-1,L3⟩ e).1
theorem vl_def (env:List (List Ev))(e:Ex):(B6 ⟨env,-1,L3⟩ e).1=vl env e:=rfl
theorem Uy (hS:J4 T V env){e:Ex}(hk:KOK T V e)(h5:5≤e.op)(h:e.op≤11):vl env e=if e.op==9 then Eh (eqV (vl env (Av e)) (vl env (Cc e))) else G3 e.op (vl env (Av e)).num (vl env (Cc e)).num:=by
 have hl:=X5 hk h5 h
 have h1:=uX hS hk (by intro hn;rw [hn] at hl;cases hl)
 rw [Td hl] at h1
 exact h1
theorem Wy (b:Bool):((Eh b).num==1)=b:=by cases b <;> rfl
theorem zP (hS:J4 T V env){e:Ex}(hk:KOK T V e)(h:e.op=7):tv env e=decide ((vl env (Av e)).num<(vl env (Cc e)).num):=by
 show ((vl env e).num==1)=_;rw [Uy hS hk (by omega) (by omega),h];exact Wy _
theorem tw_leq (hS:J4 T V env){e:Ex}(hk:KOK T V e)(h:e.op=8):tv env e=decide ((vl env (Av e)).num≤(vl env (Cc e)).num):=by
 show ((vl env e).num==1)=_;rw [Uy hS hk (by omega) (by omega),h];exact Wy _
theorem tw_eq (hS:J4 T V env){e:Ex}(hk:KOK T V e)(h:e.op=9):tv env e=eqV (vl env (Av e)) (vl env (Cc e)):=by
 show ((vl env e).num==1)=_;rw [Uy hS hk (by omega) (by omega),h];exact Wy _
theorem Vp (hS:J4 T V env){e:Ex}(hk:KOK T V e):(vl env e).kind=An T V e:=by
 rw [←Jb hk];exact (Rn hS e hk.nodes hk.kind).2
theorem tw_eqI (hS:J4 T V env){e:Ex}(hk:KOK T V e)(h:e.op=9)(h1:An T V (Av e)=0):tv env e=((vl env (Av e)).num==(vl env (Cc e)).num):=by
 have hl:=X5 hk (by omega) (by omega)
 have m0:=A0 (show 0<e.args.length by omega)
 have m1:=Bk (show 1<e.args.length by omega)
 have k0:=A2 hk m0
 have k1:=A2 hk m1
 rw [tw_eq hS hk h]
 have a0:=(Vp hS k0).trans h1
 have a1:=(Vp hS k1).trans ((O6 hk h m1).trans h1)
 have b0:=gO hS k0 a0
 have b1:=gO hS k1 a1
 rw [Bool.eq_iff_iff,zS]
 constructor
 · intro h;rw [h];simp
 ·
  intro h
  have h':(vl env (Av e)).num=(vl env (Cc e)).num:=by simpa using h
  have c0:(vl env (Av e)).text = []:=b0
  have c1:(vl env (Cc e)).text = []:=b1
  revert h' a0 a1 c0 c1
  generalize vl env (Av e)=v
  generalize vl env (Cc e)=w
  intro a0 a1 c0 c1 h'
  cases v;cases w
  simp_all
end

section
variable {T:List Sc} {V:List Va} {env:List (List Ev)}
def eA (env:List (List Ev))(y:Lit):Bool:=tv env y.cond != y.neg
def clT (env:List (List Ev))(c:List Lit):Bool:=c.all (eA env)
def csT (env:List (List Ev))(l:List (List Lit)):Bool:=l.any (clT env)
theorem Tn {e:Ex}(hk:KOK T V e){a:Ex}(ha:a∈e.args)(ho:e.op=10∨e.op=11∨e.op=12):An T V a=1:=by
 have h1:=Oj hk ha
 unfold Nu at h1
 rcases ho with h | h | h <;> rw [h] at h1 <;> simpa using h1
end

section
variable {T:List Sc} {V:List Va} {env:List (List Ev)}
theorem Z0 {op:Int}(a b:Ex)(h:op=7∨op=8∨op=10∨op=11):KOK T V (two op a b)→An T V (two op a b)=1:=fun hk=>by
 rw [←Jb hk,(Sd hk (by simp [two])).2.2]
 rcases h with h | h | h | h <;> subst h <;> rfl
theorem Qj {e a:Ex}(h:a∈e.args):Ct a<Ct e:=by
  have key:∀{l:List Ex},a∈l→Ct a≤(l.map Ct).foldr max 0:=by
    intro l
    induction l with
    | nil=>intro h;cases h
    | cons b r ih=>
      intro h
      simp only [List.map_cons,List.foldr_cons]
      rcases List.mem_cons.1 h with rfl | h
      · omega
      · have:=ih h;omega
  rw [K5 e]
  have:=key h
  omega
theorem Zw (op:Int)(a b:Ex):Ct (two op a b)=max (Ct a) (Ct b)+1:=by
 rw [K5];simp [two]
def Ug (n:Nat)(c:Cs):Prop:=∀x∈c.1,∀y∈x,Ct y.cond≤n
theorem qD {n m:Nat}{c:Cs}(h:Ug n c)(hm:n≤m):Ug m c:=fun x hx y hy=>Nat.le_trans (h x hx y hy) hm
theorem Q1 {n:Nat}{a b:Cs}(ha:Ug n a)(hb:Ug n b):Ug n (Ek a b):=by
 unfold Ek
 split
 · intro x hx;cases hx
 ·
  unfold Lh
  split
  · intro x hx;cases hx
  ·
   intro x hx y hy
   obtain ⟨p,hp,hm⟩:=List.mem_flatMap.1 hx
   obtain ⟨q,hq,rfl⟩:=List.mem_map.1 hm
   rcases List.mem_append.1 hy with h | h
   · exact ha p hp y h
   · exact hb q hq y h
theorem Yw {n:Nat}{a b:Cs}(ha:Ug n a)(hb:Ug n b):Ug n (Ie a b):=by
 unfold Ie
 split
 · intro x hx;cases hx
 ·
  intro x hx y hy
  rcases List.mem_append.1 hx with h | h
  · exact ha x h y hy
  · exact hb x h y hy
theorem Uc {n:Nat}{l:List Lit}(h:∀y∈l,Ct y.cond≤n):Ug n (D9 l):=by
 intro x hx y hy
 unfold D9 at hx
 obtain ⟨z,hz,rfl⟩:=List.mem_map.1 hx
 rw [List.mem_singleton.1 hy]
 exact h z hz
theorem hM (e:Ex):KOK T V e→∀s,Ug (Ct e) (Cl T V e s):=by
 refine Ex.Aav (P:=fun e=>KOK T V e→∀s,Ug (Ct e) (Cl T V e s)) (fun e ih hk s=>?_) e
 have dl:∀{a:Ex},a∈e.args→∀t,Ug (Ct e) (Cl T V a t):=fun ha t=>qD (ih _ ha (A2 hk ha) t) (Nat.le_of_lt (Qj ha))
 rcases It s hk with h | ⟨h,hl⟩ | ⟨h,hl⟩ | ⟨h,hl,h1⟩ | ⟨h,hl,h1,h2⟩ | ⟨_,_,_,h,_⟩
 ·
  cases h1:((e.val.num==1)==s) with
  | true=>rw [Fq h h1];intro x hx y hy;rw [List.mem_singleton.1 hx] at hy;cases hy
  | false=>rw [Fm h h1];intro x hx;cases hx
 · rw [Fp hl h];exact dl (A0 hl) _
 ·
  have m0:=A0 (show 0<e.args.length by omega)
  have m1:=Bk hl
  cases h1:((e.op==10)==s) with
  | true=>rw [Fs hl h h1];exact Q1 (dl m0 _) (dl m1 _)
  | false=>rw [Fl hl h h1];exact Yw (dl m0 _) (dl m1 _)
 ·
  have m0:=A0 (show 0<e.args.length by omega)
  have m1:=Bk hl
  rw [Fr hl h h1]
  exact Yw (Q1 (dl m0 _) (dl m1 _)) (Q1 (dl m0 _) (dl m1 _))
 ·
  have m0:=A0 (show 0<e.args.length by omega)
  have m1:=Bk hl
  have d0:=Qj m0
  have d1:=Qj m1
  rw [Fk h h1 h2]
  refine Uc fun y hy=>?_
  rcases List.mem_cons.1 hy with rfl | hy
  · simp only;rw [Zw];omega
  · rw [List.mem_singleton.1 hy];simp only;rw [Zw];omega
 ·
  rw [h]
  exact Uc fun y hy=>by rw [List.mem_singleton.1 hy];exact Nat.le_refl _
theorem Ql {e:Ex}(hk:KC T V e)(s:Bool):∀c∈(Cl T V e s).1,∀y∈c,KOK T V y.cond∧B4 y.cond=0:=fun c hc y hy=>by
 have h:=dU hk.check
 have h1:=Pf e hk.kok s c hc y hy
 have h2:=hM e hk.kok s c hc y hy
 exact ⟨h1.1,rM (by omega) (by omega) h1.1.nodes⟩
def aK (T:List Sc)(V:List Va)(c:Cs):Prop:=∀x∈c.1,∀y∈x,An T V y.cond=1
theorem Qi {a b:Cs}(ha:aK T V a)(hb:aK T V b):aK T V (Ek a b):=by
 unfold Ek
 split
 · intro x hx;cases hx
 ·
  unfold Lh
  split
  · intro x hx;cases hx
  ·
   intro x hx y hy
   obtain ⟨p,hp,hm⟩:=List.mem_flatMap.1 hx
   obtain ⟨q,hq,rfl⟩:=List.mem_map.1 hm
   rcases List.mem_append.1 hy with h | h
   · exact ha p hp y h
   · exact hb q hq y h
theorem Yv {a b:Cs}(ha:aK T V a)(hb:aK T V b):aK T V (Ie a b):=by
 unfold Ie
 split
 · intro x hx;cases hx
 ·
  intro x hx y hy
  rcases List.mem_append.1 hx with h | h
  · exact ha x h y hy
  · exact hb x h y hy
theorem Ue {l:List Lit}(h:∀y∈l,An T V y.cond=1):aK T V (D9 l):=by
 intro x hx y hy
 unfold D9 at hx
 obtain ⟨z,hz,rfl⟩:=List.mem_map.1 hx
 rw [List.mem_singleton.1 hy]
 exact h z hz
theorem iG (e:Ex):KOK T V e→An T V e=1→∀s,aK T V (Cl T V e s):=by
 refine Ex.Aav (P:=fun e=>KOK T V e→An T V e=1→∀s,aK T V (Cl T V e s)) (fun e ih hk hr s=>?_) e
 rcases It s hk with h | ⟨h,hl⟩ | ⟨h,hl⟩ | ⟨h,hl,h1⟩ | ⟨h,hl,h1,h2⟩ | ⟨_,_,_,h,_⟩
 ·
  cases h1:((e.val.num==1)==s) with
  | true=>rw [Fq h h1];intro x hx y hy;rw [List.mem_singleton.1 hx] at hy;cases hy
  | false=>rw [Fm h h1];intro x hx;cases hx
 ·
  have m0:=A0 hl
  rw [Fp hl h];exact ih _ m0 (A2 hk m0) (Tn hk m0 (.inr (.inr (by simpa using h)))) _
 ·
  have m0:=A0 (show 0<e.args.length by omega)
  have m1:=Bk hl
  have ho:e.op=10∨e.op=11:=by simpa using h
  have i0:=ih _ m0 (A2 hk m0) (Tn hk m0 (by omega)) s
  have i1:=ih _ m1 (A2 hk m1) (Tn hk m1 (by omega)) s
  cases h1:((e.op==10)==s) with
  | true=>rw [Fs hl h h1];exact Qi i0 i1
  | false=>rw [Fl hl h h1];exact Yv i0 i1
 ·
  have m0:=A0 (show 0<e.args.length by omega)
  have m1:=Bk hl
  have h9:e.op=9:=by simpa using h
  have k0:An T V (Av e)=1:=by simpa using h1
  have k1:An T V (Cc e)=1:=by rw [O6 hk h9 m1];exact k0
  have i0:=ih _ m0 (A2 hk m0) k0
  have i1:=ih _ m1 (A2 hk m1) k1
  rw [Fr hl h h1]
  exact Yv (Qi (i0 _) (i1 _)) (Qi (i0 _) (i1 _))
 ·
  have m0:=A0 (show 0<e.args.length by omega)
  have m1:=Bk hl
  have h9:e.op=9:=by simpa using h
  have h3:=h2
  rw [Bool.and_eq_true] at h3
  have k0:An T V (Av e)=0:=by simpa using h3.1
  have k1:An T V (Cc e)=0:=by rw [O6 hk h9 m1];exact k0
  rw [Fk h h1 h2]
  refine Ue fun y hy=>?_
  rcases List.mem_cons.1 hy with rfl | hy
  · exact Z0 _ _ (.inl rfl) (Uu (A2 hk m0) (A2 hk m1) k0 k1)
  · rw [List.mem_singleton.1 hy];exact Z0 _ _ (.inl rfl) (Uu (A2 hk m1) (A2 hk m0) k1 k0)
 ·
  rw [h]
  exact Ue fun y hy=>by rw [List.mem_singleton.1 hy];exact hr
end

def Ht (e:Ev):Int:=
 if decide (e.source<0)||decide (8≤e.source) then 32
 else if decide (e.seq<0)||decide (1099511627776<e.seq)||decide (e.time<0)||decide (1099511627776<e.time) then 2 else 0
def Xm (v:Vl)(f:Fi):Int:=if Aq v != 0 then Aq v else if v.kind != f.kind then 9 else 0
def Qa:List Vl→List Fi→Int
 | v::r,f::s=>if Xm v f != 0 then Xm v f else Qa r s
 | _,_=>0
def E2 (types:List Sc)(e:Ev):List Fi:=((types[e.type.toNat]?).getD sc0).fields
def Ja (types:List Sc)(e:Ev):Int:=
 if Ht e != 0 then Ht e
 else if decide (e.type<0)||decide ((types.length:Int)≤e.type) then 6
 else if (e.values.length:Int) != ((E2 types e).length:Int) then 15
 else Qa e.values (E2 types e)
def O1 (types:List Sc)(e:Ev):Int:=if Ep types != 0 then Ep types else Ja types e
def few1 (l:List Vl):Bool:=!((l.take 40).any fun v=>decide (128<v.text.length))&&decide (l.length<40)
def fewL (l:List Ev):Bool:=!((l.take 20).any fun e=>!few1 e.values)&&decide (l.length≤20)
theorem lP {α:Type}{l:List α}{k:Nat}(d:α)(h:k<l.length):l[k]? = some ((l[k]?).getD d):=by
 rw [List.getElem?_eq_getElem h];rfl
theorem nN {l:List Vl}{m:List Fi}{k:Nat}{v:Vl}{f:Fi}(hv:l[k]? = some v)(hf:m[k]? = some f):Qa (l.drop k) (m.drop k)=if Xm v f != 0 then Xm v f else Qa (l.drop (k+1)) (m.drop (k+1)):=by
 rw [A8 hv,A8 hf,Qa]
theorem pP (l:List Vl):Qa l []=0:=by cases l <;> rfl
theorem ty_in {n:Nat}{t:Int}(h:(decide (t<0)||decide ((n:Int)≤t))=false):0≤t∧t.toNat<n:=by
 simp only [Bool.or_eq_false_iff,decide_eq_false_iff_not] at h
 omega
theorem len_eq {n m:Nat}(h:((n:Int) != (m:Int))=false):n=m:=by
 have h1:(n:Int)=m:=by simpa using h
 omega
def Rq (T:List Sc)(p:Ev×Va):Bool:=O1 T p.1 != 0||p.1.type != p.2.type
def Ws (T:List Sc)(V:List Va)(l:List Ev):Bool:=if (l.zip V).any (Rq T) then false else ((l.length:Int)==(V.length:Int))
def Gq (l:List Ev):List (List Ev):=l.map fun e=>[e]
theorem Aai {α β:Type}{l:List α}{m:List β}{k:Nat}{x:α}{y:β}(hx:l[k]? = some x)(hy:m[k]? = some y):(l.zip m)[k]? = some (x,y):=by
 rw [List.getElem?_zip_eq_some];exact ⟨hx,hy⟩
theorem dZ {T:List Sc}{e:Ev}(h:O1 T e=0):Ja T e=0:=by
 unfold O1 at h
 cases h1:(Ep T != 0) with
 | true=>rw [if_pos h1] at h;rw [h] at h1;cases h1
 | false=>rwa [C8 h1] at h
theorem eG {T:List Sc}{V:List Va}{l:List Ev}(h:Ws T V l=true):l.length=V.length∧∀(i:Nat) (v:Va),V[i]? = some v→∃e,l[i]? = some e∧O1 T e=0∧e.type=v.type:=by
  unfold Ws at h
  cases h1:(l.zip V).any (Rq T) with
  | true=>rw [if_pos h1] at h;cases h
  | false=>
    rw [C8 h1] at h
    have hl : l.length = V.length := by have : (l.length : Int) = V.length := by simpa using h
                                        omega
    refine ⟨hl,fun i v hv=>?_⟩
    have hi:=A4 hv
    have hx:l[i]? = some (l[i]'(by omega)):=List.getElem?_eq_getElem (by omega)
    have h2:=Bool.eq_false_iff.2 (List.any_eq_false.1 h1 _ (List.mem_of_getElem? (Aai hx hv)))
    unfold Rq at h2
    rw [Bool.or_eq_false_iff] at h2
    exact ⟨_,hx,by simpa using h2.1,by simpa using h2.2⟩
theorem uW (l:List Ev):∀x∈Gq l,x.length≤1048576:=fun x hx=>by
 obtain ⟨e,_,rfl⟩:=List.mem_map.1 hx
 exact (by decide:1≤1048576)
def sceneS (T:List Sc)(V:List Va)(l:List Ev)(e:Ex):Bool:=(((fewP T V [e]&&fewL l)&&(Ep T==0))&&Ws T V l)&&(D1 T V e==0)

structure Half (env kn:List (List Ev)):Prop where
 some:∀v:Int,Bx kn v=Bx env v∨Bx kn v = []
def lI (env:List (List Ev)):Prop:=∀l∈env,∀ev∈l,Aq ⟨0,ev.time,[]⟩=0
section
variable {T:List Sc} {V:List Va} {env kn:List (List Ev)}
theorem W2 (hS:J4 T V env)(hT:lI env){e:Ex}(hk:KOK T V e)(ho:(e.op==1||e.op==2)=true) :
  ∃ev,Bx env e.var = [ev]∧(Lw e ev).2=0∧Aq (Lw e ev).1=0∧B6 ⟨env,-1,L3⟩ e=((Lw e ev).1,0):=by
 have hz:=(Bc hk.nodes).1
 have hvr:=Mm hz
 have hfr:=Jr hz
 have hop:e.op=1∨e.op=2:=by simpa using ho
 have ha:e.args = []:=W7 hz (by omega)
 have hkk:=hk.kind
 rw [Sm hk (by omega)] at hkk
 unfold F2 at hkk
 have h0:¬(e.op==0)=true:=by simp;omega
 rw [if_neg h0] at hkk
 by_cases h1:decide ((V.length:Int)≤e.var)=true
 · rw [if_pos h1] at hkk;cases hkk
 rw [if_neg h1] at hkk
 have hlt:e.var<(V.length:Int):=by simp at h1;omega
 obtain ⟨v,hv⟩:=Hi (l:=V) hvr.1 hlt
 obtain ⟨s,ev,hs,hev,hse⟩:=hS.2 _ v hv
 have hel:e.var<(env.length:Int):=by rw [hS.1];exact hlt
 have hevs:Bx env e.var = [ev]:=oO hvr.1 hev
 have hown:(e.var != -1)=true:=by simp;omega
 refine ⟨ev,hevs,?_⟩
 rw [L8 ha,Mc hevs hown h0 (by omega) (by omega)]
 rcases hop with hop | hop
 ·
  have hfl:Ez T V e.var=s.fields:=bD hv hs
  rw [hfl,if_neg (by simp [hop])] at hkk
  by_cases h4:decide ((s.fields.length:Int)≤e.field)=true
  · rw [if_pos h4] at hkk;cases hkk
  obtain ⟨f,hf⟩:=Hi (l:=s.fields) hfr (by simp at h4;omega)
  obtain ⟨w,hw,hgw⟩:=hse.2 _ f hf
  have hr:Lw e ev=(w,0):=by
   unfold Lw
   rw [if_pos (by simp [hop]),if_neg (by rw [hse.1];exact h4),hw]
   simp [hgw.2]
  rw [hr]
  refine ⟨rfl,hgw.2,?_⟩
  have hfs:Dq ev e.field=(w,0):=by
   unfold Dq
   rw [if_neg (by rw [hse.1];exact h4),hw];rfl
  unfold Gs
  rw [if_neg (by simp [hop]),hfs,if_pos (by rfl),if_neg (by rw [hgw.2];decide)]
 ·
  have ht:=hT _ (List.mem_of_getElem? hev) ev (List.mem_cons_self ..)
  have hr:Lw e ev=(⟨0,ev.time,[]⟩,0):=by
   unfold Lw
   rw [if_neg (by simp [hop]),ht]
  rw [hr]
  refine ⟨rfl,ht,?_⟩
  unfold Gs
  rw [if_pos (by simp [hop])]
end
def readsN:Ex→Nat:=P3 fun e ns=>(if e.op==1||e.op==2 then 1 else 0)+ns.sum
def halfS (l:List (List Ev)):Nat→List (List Ev)
 | 0=>l
 | k+1=>if k % 2=1 then (halfS l k).set k [] else halfS l k

structure EnvOK (T:List Sc) (V:List Va) (env:List (List Ev)):Prop where
 suits:J4 T V env
 times:∀l∈env,∀ev∈l,0≤ev.time∧ev.time≤1099511627776
theorem EnvOK.small {T:List Sc}{V:List Va}{env:List (List Ev)}(h:EnvOK T V env):lI env:=fun l hl ev hev=>by
 have:=h.times l hl ev hev
 unfold Aq Ef
 simp
 omega
section
variable {T:List Sc} {V:List Va} {env:List (List Ev)}
abbrev Xs (env:List (List Ev))(t:Tm):Int:=(vl env (Fx t)).num
theorem oB {v:Vl}(h:Aq v=0)(hk:v.kind=0∨v.kind=1) : -1099511627776≤v.num∧v.num≤1099511627776:=by
 rcases hk with hk | hk
 · exact (F1 h hk).2
 ·
  have:=G2 h hk
  rw [this];cases v.num==1 <;> simp [Eh]
theorem Xd (hE:EnvOK T V env){e:Ex}(hk:KOK T V e)(ho:(e.op==1||e.op==2)=true) :
  ((e.op==2)=true→0≤(vl env e).num∧(vl env e).num≤1099511627776)∧Aq (vl env e)=0∧(vl env e).kind=An T V e:=by
 obtain ⟨ev,h1,h2,h3,h4⟩:=W2 hE.suits hE.small hk ho
 refine ⟨fun h=>?_,?_,Vp hE.suits hk⟩
 ·
  have hm:Bx env e.var∈env:=bM (by rw [h1];exact Nat.one_pos)
  have ht:=hE.times _ hm ev (by rw [h1];exact List.mem_cons_self ..)
  have:vl env e=⟨0,ev.time,[]⟩:=by
   show (B6 _ e).1=_
   rw [h4]
   unfold Lw
   rw [if_neg (by simp at h ⊢;omega)]
  rw [this];exact ht
 ·
  show Aq (B6 _ e).1=0
  rw [h4];exact h3
def Wb (τ:Tm→Int)(ts:List (Tm×Int)):Int:=(ts.map fun p=>p.2*τ p.1).sum
theorem fS (τ:Tm→Int)(t:Tm)(b:Int):∀ts:List (Tm×Int),Wb τ (Fv t b ts)=Wb τ ts+b*τ t
  | []=>by simp [Fv,Wb]
  | p::r=>by
    rw [Fv]
    split
    · rename_i h
      subst h
      simp only [Wb,List.map_cons,List.sum_cons,Int.add_mul]
      omega
    · have ih:=fS τ t b r
      simp only [Wb,List.map_cons,List.sum_cons] at ih ⊢
      omega
def qO (τ:Tm→Int)(s:Su):Int:=Wb τ s.ts+s.rest
theorem kR {x:Int}(h : -9223372036854775808≤x∧x≤9223372036854775807):IntKind.i64.wrap x=x:=IntWalk.i64_in x h
theorem Rx {e:Ex}(hk:KOK T V e)(ho:e.op=5∨e.op=6){a:Ex}(ha:a∈e.args):An T V a=0:=by
 have h:=Oj hk ha
 unfold Nu at h
 rcases ho with ho | ho <;> rw [ho] at h <;> simpa using h
theorem lC (hE:EnvOK T V env)(e:Ex):KOK T V e→An T V e=0→Ar e≤64→∀{b:Int} {s:Su},(Bg e b s).2=true→
    qO (Xs env) (Bg e b s).1=qO (Xs env) s+b*(vl env e).num∧-(Ar e:Int)*1099511627776≤(vl env e).num∧(vl env e).num≤(Ar e:Int)*1099511627776:=by
  refine Ex.Aav (P:=fun e=>KOK T V e→An T V e=0→Ar e≤64→∀{b:Int} {s:Su},(Bg e b s).2=true→
    qO (Xs env) (Bg e b s).1=qO (Xs env) s+b*(vl env e).num∧-(Ar e:Int)*1099511627776≤(vl env e).num∧(vl env e).num≤(Ar e:Int)*1099511627776) (fun e ih hk h0 hs b s h=>?_) e
  have hz:=Bc hk.nodes
  have hp:1≤Ar e:=by rw [Dp];omega
  rcases Kb hz.1 with c | ⟨c,c1⟩ | ⟨c,hl⟩ | ⟨c,c1,c2,c3⟩
  · have hc:e.op=0:=by simpa using c
    have hv:(vl env e)=e.val:=by show (B6 _ e).1=_;rw [vT hz.1 hc]
    have hn:=L7 hz.1 hc
    rw [Fa c,hv]
    refine ⟨by simp only [qO];omega,?_,?_⟩
    · have:(1:Int)≤Ar e:=by omega
      omega
    · have:(1:Int)≤Ar e:=by omega
      omega
  · obtain ⟨_,h2,h3⟩:=Xd hE hk c1
    have hn:=oB h2 (.inl (h3.trans h0))
    rw [B8 c c1]
    refine ⟨?_,by omega,by omega⟩
    simp only [qO]
    rw [fS]
    have:Xs env (Dv e)=(vl env e).num:=by unfold Xs;rw [Ky hz.1 c1]
    rw [this];omega
  · have ho:e.op=5∨e.op=6:=by simpa using c
    have m0:=A0 (show 0<e.args.length by omega)
    have m1:=Bk hl
    have hsz:=Db hl
    have k0:=Rx hk ho m0
    have k1:=Rx hk ho m1
    have hv:=Uy hE.suits hk (by omega) (by omega)
    have c9:¬(e.op==9)=true:=by simp;omega
    rw [if_neg c9] at hv
    have key:∀c:Int,(e.op=5∧c=b)∨(e.op=6∧c=0-b)→qO (Xs env) (Bg e b s).1=qO (Xs env) s+b*(vl env (Av e)).num+c*(vl env (Cc e)).num∧
        (-(Ar (Av e):Int)*1099511627776≤(vl env (Av e)).num∧(vl env (Av e)).num≤(Ar (Av e):Int)*1099511627776)∧(-(Ar (Cc e):Int)*1099511627776≤(vl env (Cc e)).num∧(vl env (Cc e)).num≤(Ar (Cc e):Int)*1099511627776):=by
      intro c hc
      rw [Ik hl hc] at h ⊢
      cases h1:(Bg (Av e) b s).2 with
      | false=>rw [h1] at h;cases h
      | true=>
        rw [h1] at h
        obtain ⟨a1,a2,a3⟩:=ih _ m0 (A2 hk m0) k0 (by omega) (b:=b) (s:=s) h1
        obtain ⟨b1,b2,b3⟩:=ih _ m1 (A2 hk m1) k1 (by omega) (b:=c) (s:=(Bg (Av e) b s).1) h
        refine ⟨?_,⟨a2,a3⟩,⟨b2,b3⟩⟩
        show qO (Xs env) (Bg (Cc e) c (Bg (Av e) b s).1).1=_
        rw [b1,a1]
    rcases ho with ho | ho
    · obtain ⟨a1,⟨a2,a3⟩,⟨a4,a5⟩⟩:=key b (.inl ⟨ho,rfl⟩)
      have hw:(vl env e).num=(vl env (Av e)).num+(vl env (Cc e)).num:=by
        rw [hv,ho]
        show IntKind.i64.wrap _=_
        exact kR (by omega)
      rw [a1,hw,Int.mul_add]
      refine ⟨by omega,by omega,by omega⟩
    · obtain ⟨a1,⟨a2,a3⟩,⟨a4,a5⟩⟩:=key (0-b) (.inr ⟨ho,rfl⟩)
      have hw:(vl env e).num=(vl env (Av e)).num-(vl env (Cc e)).num:=by
        rw [hv,ho]
        show IntKind.i64.wrap _=_
        exact kR (by omega)
      rw [a1,hw,Int.mul_sub,Int.sub_mul,Int.zero_mul]
      refine ⟨by omega,by omega,by omega⟩
  · rw [F4 c c1 c2 c3] at h;cases h
theorem Pc {τ:Tm→Int}:∀{ts:List (Tm×Int)} {p m p' m':List Tm},C5 ts p m=some (p',m')→Wb τ ts+(p.map τ).sum-(m.map τ).sum=(p'.map τ).sum-(m'.map τ).sum
  | [],p,m,p',m',h=>by
    rw [C5] at h;cases h;simp [Wb]
  | t::r,p,m,p',m',h=>by
    rw [C5] at h
    by_cases h0:(t.2==0)=true
    · rw [if_pos h0] at h
      have:=Pc (τ:=τ) h
      have e0:t.2=0:=by simpa using h0
      simp only [Wb,List.map_cons,List.sum_cons,e0,Int.zero_mul] at this ⊢;omega
    · rw [if_neg h0] at h
      by_cases h1:(t.2==1)=true
      · rw [if_pos h1] at h
        have:=Pc (τ:=τ) h
        have e1:t.2=1:=by simpa using h1
        simp only [Wb,List.map_cons,List.sum_cons,e1,Int.one_mul,List.map_append,List.map_nil,List.sum_append,List.sum_nil] at this ⊢;omega
      · rw [if_neg h1] at h
        by_cases h2:(t.2 == -1)=true
        · rw [if_pos h2] at h
          have:=Pc (τ:=τ) h
          have e2:t.2 = -1:=by simpa using h2
          simp only [Wb,List.map_cons,List.sum_cons,e2,List.map_append,List.map_nil,List.sum_append,List.sum_nil] at this ⊢;omega
        · rw [if_neg h2] at h;cases h
def eI (τ:Tm→Int)(l:List Tm):Int:=(l.map τ).sum
theorem dA (hE:EnvOK T V env){a b:Ex}(ha:KOK T V a)(hb:KOK T V b)(ka:An T V a=0)(kb:An T V b=0)(hs:Ar a+Ar b≤64)(h:(B7 a b).2=true) :
    (vl env a).num-(vl env b).num=eI (Xs env) (B7 a b).1.plus-eI (Xs env) (B7 a b).1.minus+(B7 a b).1.rest∧(B7 a b).1.plus.length≤1∧(B7 a b).1.minus.length≤1:=by
  unfold B7 at h ⊢
  cases h1:(Bg a 1 Ir).2 with
  | false=>rw [h1] at h;cases h
  | true=>
    rw [h1] at h
    cases h2:(Bg b (-1) (Bg a 1 Ir).1).2 with
    | false=>rw [h2] at h;cases h
    | true=>
      rw [h2] at h
      simp only [Bool.not_true,Bool.false_eq_true,if_false] at h ⊢
      obtain ⟨a1,_,_⟩:=lC hE a ha ka (by omega) (b:=1) (s:=Ir) h1
      obtain ⟨b1,_,_⟩:=lC hE b hb kb (by omega) (b:=-1) h2
      unfold Or at h ⊢
      cases hp:C5 (Bg b (-1) (Bg a 1 Ir).1).1.ts [] [] with
      | none=>rw [hp] at h;cases h
      | some q=>
        obtain ⟨p,m⟩:=q
        rw [hp] at h
        simp only [Bool.and_eq_true,decide_eq_true_eq] at h ⊢
        have h3:=Pc (τ:=Xs env) hp
        refine ⟨?_,by omega,by omega⟩
        have h4:qO (Xs env) Ir=0:=rfl
        simp only [qO] at a1 b1
        simp only [qO] at h4
        simp only [eI,List.map_nil,List.sum_nil] at h3 ⊢
        omega
end

def upd (f:Nat→Int)(b:Bd):Nat→Int:=fun k=>if k=b.x.toNat∧f b.y.toNat+b.most<f b.x.toNat then f b.y.toNat+b.most else f k
def runF (f:Nat→Int)(es:List Bd):Nat→Int:=es.foldl upd f
def FixF (D:Nat→Int)(bs:List Bd):Prop:=∀b∈bs,D b.x.toNat≤D b.y.toNat+b.most
def openN (D f:Nat→Int)(n:Nat):Nat:=(List.range n).countP fun k=>f k != D k
def iterF (bs:List Bd)(f:Nat→Int):Nat→(Nat→Int)
 | 0=>f
 | m+1=>runF (iterF bs f m) bs
def measF (L f:Nat→Int)(n:Nat):Nat:=((List.range n).map fun k=>(f k-L k).toNat).sum
def gf (l:List Int):Nat→Int:=fun k=>(l[k]?).getD 0
end Go.Proofs.YtjedflcpjlgokaaGreatDoor
