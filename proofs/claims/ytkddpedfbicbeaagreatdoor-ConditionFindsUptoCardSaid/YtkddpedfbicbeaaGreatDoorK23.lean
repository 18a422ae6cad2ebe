/-
  Several texts in one: S39, S42, S41. No condition.
-/
import Derived.Test.YtkddpedfbicbeaaGreatDoorK22
import Derived.Test.YtkddpedfbicbeaaGreatDoorK21
set_option linter.unusedVariables false
set_option linter.unusedSimpArgs false
namespace Go.Proofs.YtkddpedfbicbeaaGreatDoor
open Go Go.Aw

/-- some of what is known, the rest is not -/
structure Half (env kn:List (List Ev)):Prop where
 some:∀v:Int,Bt kn v=Bt env v∨Bt kn v = []
/-- the times of the events are small -/
def oI (env:List (List Ev)):Prop:=∀l∈env,∀ev∈l,Ap ⟨0,ev.time,[]⟩=0
section
variable {T:List Sc} {V:List Va} {env kn:List (List Ev)}
/-- the event of a variable that is read -/
theorem Yh (hS:E6 T V env)(hT:oI env){e:Ex}(hk:KOK T V e)(ho:(e.op==1||e.op==2)=true) :
  ∃ev,Bt env e.var = [ev]∧(Lz e ev).2=0∧Ap (Lz e ev).1=0∧By ⟨env,-1,Kl⟩ e=((Lz e ev).1,0):=by
 have hz:=(Bb hk.nodes).1
 have hvr:=Mt hz
 have hfr:=Jx hz
 have hop:e.op=1∨e.op=2:=by simpa using ho
 have ha:e.args = []:=Xw hz (by omega)
 have hkk:=hk.kind
 rw [S4 hk (by omega)] at hkk
 unfold F0 at hkk
 have h0:¬(e.op==0)=true:=by simp;omega
 rw [if_neg h0] at hkk
 by_cases h1:decide ((V.length:Int)≤e.var)=true
 · rw [if_pos h1] at hkk;cases hkk
 rw [if_neg h1] at hkk
 have hlt:e.var<(V.length:Int):=by simp at h1;omega
 obtain ⟨v,hv⟩:=Hz (l:=V) hvr.1 hlt
 obtain ⟨s,ev,hs,hev,hse⟩:=hS.2 _ v hv
 have hel:e.var<(env.length:Int):=by rw [hS.1];exact hlt
 have hevs:Bt env e.var = [ev]:=pY hvr.1 hev
 have hown:(e.var != -1)=true:=by simp;omega
 refine ⟨ev,hevs,?_⟩
 rw [L5 ha,L9 hevs hown h0 (by omega) (by omega)]
 rcases hop with hop | hop
 ·
  have hfl:Fs T V e.var=s.fields:=bS hv hs
  rw [hfl,if_neg (by simp [hop])] at hkk
  by_cases h4:decide ((s.fields.length:Int)≤e.field)=true
  · rw [if_pos h4] at hkk;cases hkk
  obtain ⟨f,hf⟩:=Hz (l:=s.fields) hfr (by simp at h4;omega)
  obtain ⟨w,hw,hgw⟩:=hse.2 _ f hf
  have hr:Lz e ev=(w,0):=by
   unfold Lz
   rw [if_pos (by simp [hop]),if_neg (by rw [hse.1];exact h4),hw]
   simp [hgw.2]
  rw [hr]
  refine ⟨rfl,hgw.2,?_⟩
  have hfs:Dq ev e.field=(w,0):=by
   unfold Dq
   rw [if_neg (by rw [hse.1];exact h4),hw];rfl
  unfold G4
  rw [if_neg (by simp [hop]),hfs,if_pos (by rfl),if_neg (by rw [hgw.2];decide)]
 ·
  have ht:=hT _ (List.mem_of_getElem? hev) ev (List.mem_cons_self ..)
  have hr:Lz e ev=(⟨0,ev.time,[]⟩,0):=by
   unfold Lz
   rw [if_neg (by simp [hop]),ht]
  rw [hr]
  refine ⟨rfl,ht,?_⟩
  unfold G4
  rw [if_pos (by simp [hop])]
end
/-! ### pC -/
def readsN:Ex→Nat:=Rh fun e ns=>(if e.op==1||e.op==2 then 1 else 0)+ns.sum
/-! ### What the law leaves out -/
def halfS (l:List (List Ev)):Nat→List (List Ev)
 | 0=>l
 | k+1=>if k % 2=1 then (halfS l k).set k [] else halfS l k

/-- events that suit, with times within the limits -/
structure EnvOK (T:List Sc) (V:List Va) (env:List (List Ev)):Prop where
 suits:E6 T V env
 times:∀l∈env,∀ev∈l,0≤ev.time∧ev.time≤1099511627776
theorem EnvOK.small {T:List Sc}{V:List Va}{env:List (List Ev)}(h:EnvOK T V env):oI env:=fun l hl ev hev=>by
 have:=h.times l hl ev hev
 unfold Ap D8
 simp
 omega
section
variable {T:List Sc} {V:List Va} {env:List (List Ev)}
abbrev Ty (env:List (List Ev))(t:Tm):Int:=(vl env (Hn t)).num
theorem T3 {v:Vl}(h:Ap v=0)(hk:v.kind=0∨v.kind=1) : -1099511627776≤v.num∧v.num≤1099511627776:=by
 rcases hk with hk | hk
 · exact (F3 h hk).2
 ·
  have:=E7 h hk
  rw [this];cases v.num==1 <;> simp [D3]
/-- what a term is worth -/
theorem O4 (hE:EnvOK T V env){e:Ex}(hk:KOK T V e)(ho:(e.op==1||e.op==2)=true) :
  ((e.op==2)=true→0≤(vl env e).num∧(vl env e).num≤1099511627776)∧Ap (vl env e)=0∧(vl env e).kind=Am T V e:=by
 obtain ⟨ev,h1,h2,h3,h4⟩:=Yh hE.suits hE.small hk ho
 refine ⟨fun h=>?_,?_,Si hE.suits hk⟩
 ·
  have hm:Bt env e.var∈env:=dP (by rw [h1];exact Nat.one_pos)
  have ht:=hE.times _ hm ev (by rw [h1];exact List.mem_cons_self ..)
  have:vl env e=⟨0,ev.time,[]⟩:=by
   show (By _ e).1=_
   rw [h4]
   unfold Lz
   rw [if_neg (by simp at h ⊢;omega)]
  rw [this];exact ht
 ·
  show Ap (By _ e).1=0
  rw [h4];exact h3
/-! ### Sums -/
def Yr (τ:Tm→Int)(ts:List (Tm×Int)):Int:=(ts.map fun p=>p.2*τ p.1).sum
theorem jA (τ:Tm→Int)(t:Tm)(b:Int):∀ts:List (Tm×Int),Yr τ (In t b ts)=Yr τ ts+b*τ t
  | []=>by simp [In,Yr]
  | p::r=>by
    rw [In]
    split
    · rename_i h
      subst h
      simp only [Yr,List.map_cons,List.sum_cons,Int.add_mul]
      omega
    · have ih:=jA τ t b r
      simp only [Yr,List.map_cons,List.sum_cons] at ih ⊢
      omega
def tP (τ:Tm→Int)(s:Su):Int:=Yr τ s.ts+s.rest
theorem oV {x:Int}(h : -9223372036854775808≤x∧x≤9223372036854775807):IntKind.i64.wrap x=x:=IntWalk.i64_in x h
theorem Sa {e:Ex}(hk:KOK T V e)(ho:e.op=5∨e.op=6){a:Ex}(ha:a∈e.args):Am T V a=0:=by
 have h:=Ot hk ha
 unfold Mo at h
 rcases ho with ho | ho <;> rw [ho] at h <;> simpa using h
/-- linear sums are worth what is summed -/
theorem pQ (hE:EnvOK T V env)(e:Ex):KOK T V e→Am T V e=0→Ar e≤64→∀{b:Int} {s:Su},(Bn e b s).2=true→
    tP (Ty env) (Bn e b s).1=tP (Ty env) s+b*(vl env e).num∧-(Ar e:Int)*1099511627776≤(vl env e).num∧(vl env e).num≤(Ar e:Int)*1099511627776:=by
  refine Ex.Aak (P:=fun e=>KOK T V e→Am T V e=0→Ar e≤64→∀{b:Int} {s:Su},(Bn e b s).2=true→
    tP (Ty env) (Bn e b s).1=tP (Ty env) s+b*(vl env e).num∧-(Ar e:Int)*1099511627776≤(vl env e).num∧(vl env e).num≤(Ar e:Int)*1099511627776) (fun e ih hk h0 hs b s h=>?_) e
  have hz:=Bb hk.nodes
  have hp:1≤Ar e:=by rw [D5];omega
  rcases Pi hz.1 with c | ⟨c,c1⟩ | ⟨c,hl⟩ | ⟨c,c1,c2,c3⟩
  · have hc:e.op=0:=by simpa using c
    have hv:(vl env e)=e.val:=by show (By _ e).1=_;rw [Tc hz.1 hc]
    have hn:=Tv hz.1 hc
    rw [Fw c,hv]
    refine ⟨by simp only [tP];omega,?_,?_⟩
    · have:(1:Int)≤Ar e:=by omega
      omega
    · have:(1:Int)≤Ar e:=by omega
      omega
  · obtain ⟨_,h2,h3⟩:=O4 hE hk c1
    have hn:=T3 h2 (.inl (h3.trans h0))
    rw [B6 c c1]
    refine ⟨?_,by omega,by omega⟩
    simp only [tP]
    rw [jA]
    have:Ty env (D1 e)=(vl env e).num:=by unfold Ty;rw [K1 hz.1 c1]
    rw [this];omega
  · have ho:e.op=5∨e.op=6:=by simpa using c
    have m0:=A4 (show 0<e.args.length by omega)
    have m1:=Bi hl
    have hsz:=Dx hl
    have k0:=Sa hk ho m0
    have k1:=Sa hk ho m1
    have hv:=Pn hE.suits hk (by omega) (by omega)
    have c9:¬(e.op==9)=true:=by simp;omega
    rw [if_neg c9] at hv
    have key:∀c:Int,(e.op=5∧c=b)∨(e.op=6∧c=0-b)→tP (Ty env) (Bn e b s).1=tP (Ty env) s+b*(vl env (Ao e)).num+c*(vl env (Bg e)).num∧
        (-(Ar (Ao e):Int)*1099511627776≤(vl env (Ao e)).num∧(vl env (Ao e)).num≤(Ar (Ao e):Int)*1099511627776)∧(-(Ar (Bg e):Int)*1099511627776≤(vl env (Bg e)).num∧(vl env (Bg e)).num≤(Ar (Bg e):Int)*1099511627776):=by
      intro c hc
      rw [J4 hl hc] at h ⊢
      cases h1:(Bn (Ao e) b s).2 with
      | false=>rw [h1] at h;cases h
      | true=>
        rw [h1] at h
        obtain ⟨a1,a2,a3⟩:=ih _ m0 (A1 hk m0) k0 (by omega) (b:=b) (s:=s) h1
        obtain ⟨b1,b2,b3⟩:=ih _ m1 (A1 hk m1) k1 (by omega) (b:=c) (s:=(Bn (Ao e) b s).1) h
        refine ⟨?_,⟨a2,a3⟩,⟨b2,b3⟩⟩
        show tP (Ty env) (Bn (Bg e) c (Bn (Ao e) b s).1).1=_
        rw [b1,a1]
    rcases ho with ho | ho
    · obtain ⟨a1,⟨a2,a3⟩,⟨a4,a5⟩⟩:=key b (.inl ⟨ho,rfl⟩)
      have hw:(vl env e).num=(vl env (Ao e)).num+(vl env (Bg e)).num:=by
        rw [hv,ho]
        show IntKind.i64.wrap _=_
        exact oV (by omega)
      rw [a1,hw,Int.mul_add]
      refine ⟨by omega,by omega,by omega⟩
    · obtain ⟨a1,⟨a2,a3⟩,⟨a4,a5⟩⟩:=key (0-b) (.inr ⟨ho,rfl⟩)
      have hw:(vl env e).num=(vl env (Ao e)).num-(vl env (Bg e)).num:=by
        rw [hv,ho]
        show IntKind.i64.wrap _=_
        exact oV (by omega)
      rw [a1,hw,Int.mul_sub,Int.sub_mul,Int.zero_mul]
      refine ⟨by omega,by omega,by omega⟩
  · rw [Gt c c1 c2 c3] at h;cases h
theorem Qb {τ:Tm→Int}:∀{ts:List (Tm×Int)} {p m p' m':List Tm},Dt ts p m=some (p',m')→Yr τ ts+(p.map τ).sum-(m.map τ).sum=(p'.map τ).sum-(m'.map τ).sum
  | [],p,m,p',m',h=>by
    rw [Dt] at h;cases h;simp [Yr]
  | t::r,p,m,p',m',h=>by
    rw [Dt] at h
    by_cases h0:(t.2==0)=true
    · rw [if_pos h0] at h
      have:=Qb (τ:=τ) h
      have e0:t.2=0:=by simpa using h0
      simp only [Yr,List.map_cons,List.sum_cons,e0,Int.zero_mul] at this ⊢;omega
    · rw [if_neg h0] at h
      by_cases h1:(t.2==1)=true
      · rw [if_pos h1] at h
        have:=Qb (τ:=τ) h
        have e1:t.2=1:=by simpa using h1
        simp only [Yr,List.map_cons,List.sum_cons,e1,Int.one_mul,List.map_append,List.map_nil,List.sum_append,List.sum_nil] at this ⊢;omega
      · rw [if_neg h1] at h
        by_cases h2:(t.2 == -1)=true
        · rw [if_pos h2] at h
          have:=Qb (τ:=τ) h
          have e2:t.2 = -1:=by simpa using h2
          simp only [Yr,List.map_cons,List.sum_cons,e2,List.map_append,List.map_nil,List.sum_append,List.sum_nil] at this ⊢;omega
        · rw [if_neg h2] at h;cases h
def gL (τ:Tm→Int)(l:List Tm):Int:=(l.map τ).sum
/-- a difference is worth what is subtracted -/
theorem iI (hE:EnvOK T V env){a b:Ex}(ha:KOK T V a)(hb:KOK T V b)(ka:Am T V a=0)(kb:Am T V b=0)(hs:Ar a+Ar b≤64)(h:(Ch a b).2=true) :
    (vl env a).num-(vl env b).num=gL (Ty env) (Ch a b).1.plus-gL (Ty env) (Ch a b).1.minus+(Ch a b).1.rest∧(Ch a b).1.plus.length≤1∧(Ch a b).1.minus.length≤1:=by
  unfold Ch at h ⊢
  cases h1:(Bn a 1 Kr).2 with
  | false=>rw [h1] at h;cases h
  | true=>
    rw [h1] at h
    cases h2:(Bn b (-1) (Bn a 1 Kr).1).2 with
    | false=>rw [h2] at h;cases h
    | true=>
      rw [h2] at h
      simp only [Bool.not_true,Bool.false_eq_true,if_false] at h ⊢
      obtain ⟨a1,_,_⟩:=pQ hE a ha ka (by omega) (b:=1) (s:=Kr) h1
      obtain ⟨b1,_,_⟩:=pQ hE b hb kb (by omega) (b:=-1) h2
      unfold S0 at h ⊢
      cases hp:Dt (Bn b (-1) (Bn a 1 Kr).1).1.ts [] [] with
      | none=>rw [hp] at h;cases h
      | some q=>
        obtain ⟨p,m⟩:=q
        rw [hp] at h
        simp only [Bool.and_eq_true,decide_eq_true_eq] at h ⊢
        have h3:=Qb (τ:=Ty env) hp
        refine ⟨?_,by omega,by omega⟩
        have h4:tP (Ty env) Kr=0:=rfl
        simp only [tP] at a1 b1
        simp only [tP] at h4
        simp only [gL,List.map_nil,List.sum_nil] at h3 ⊢
        omega
end

/-! ### Relaxing functions -/
def Vv (f:Nat→Int)(b:Bd):Nat→Int:=fun k=>if k=b.x.toNat∧f b.y.toNat+b.most<f b.x.toNat then f b.y.toNat+b.most else f k
def Gu (f:Nat→Int)(es:List Bd):Nat→Int:=es.foldl Vv f
theorem lV (f:Nat→Int)(b:Bd)(k:Nat):Vv f b k≤f k:=by
 unfold Vv
 split
 · rename_i h;rw [h.1];omega
 · exact Int.le_refl _
theorem xE (f:Nat→Int)(b:Bd):Vv f b b.x.toNat≤f b.y.toNat+b.most:=by
 unfold Vv
 split
 · exact Int.le_refl _
 · rename_i h;omega
theorem yL {f:Nat→Int}{b:Bd}{k:Nat}(h:k≠b.x.toNat):Vv f b k=f k:=if_neg fun e=>h e.1
theorem kU {f:Nat→Int}{b:Bd}(h:¬f b.y.toNat+b.most<f b.x.toNat):Vv f b=f:=funext fun k=>if_neg fun e=>h e.2
theorem O8:∀(es:List Bd) (f:Nat→Int) (k:Nat),Gu f es k≤f k
 | [],f,k=>Int.le_refl _
 | b::r,f,k=>Int.le_trans (O8 r (Vv f b) k) (lV f b k)
theorem pP (f:Nat→Int)(a b:List Bd):Gu f (a++b)=Gu (Gu f a) b:=List.foldl_append
/-- no bound is broken -/
def Oa (D:Nat→Int)(bs:List Bd):Prop:=∀b∈bs,D b.x.toNat≤D b.y.toNat+b.most
theorem oQ {D f:Nat→Int}{bs:List Bd}(hD:Oa D bs){b:Bd}(hb:b∈bs)(hf:∀k,D k≤f k):∀k,D k≤Vv f b k:=fun k=>by
 unfold Vv
 split
 ·
  rename_i h
  have:=hD b hb
  have:=hf b.y.toNat
  rw [h.1];omega
 · exact hf k
theorem S9 {D:Nat→Int}{bs:List Bd}(hD:Oa D bs):∀{es:List Bd} {f:Nat→Int},(∀b∈es,b∈bs)→(∀k,D k≤f k)→∀k,D k≤Gu f es k
 | [],f,_,hf=>hf
 | b::r,f,he,hf=>S9 hD (es:=r) (f:=Vv f b) (fun x hx=>he x (List.mem_cons_of_mem _ hx)) (oQ hD (he b (List.mem_cons_self ..)) hf)
/-- the next one that becomes final -/
theorem Rm {D:Nat→Int}{bs:List Bd}(hD:Oa D bs):∀{es:List Bd} {f:Nat→Int},(∀b∈es,b∈bs)→(∀k,D k≤f k)→Gu f es=D→(∃k,f k≠D k)→
    ∃b∈bs,f b.x.toNat≠D b.x.toNat∧f b.y.toNat=D b.y.toNat∧D b.x.toNat=D b.y.toNat+b.most
  | [],f,_,_,hr,⟨k,hk⟩=>absurd (congrFun hr k) hk
  | b::r,f,he,hf,hr,hne=>by
    have hb:=he b (List.mem_cons_self ..)
    have he':∀x∈r,x∈bs:=fun x hx=>he x (List.mem_cons_of_mem _ hx)
    by_cases hu:f b.y.toNat+b.most<f b.x.toNat
    · have h1:Vv f b b.x.toNat=f b.y.toNat+b.most:=if_pos ⟨rfl,hu⟩
      have h2:=hD b hb
      have h3:=hf b.y.toNat
      by_cases hv:f b.y.toNat+b.most=D b.x.toNat
      · exact ⟨b,hb,by omega,by omega,by omega⟩
      · have hl:=oQ hD hb hf
        obtain ⟨c,hc,c1,c2,c3⟩:=Rm hD (es:=r) (f:=Vv f b) he' hl hr ⟨b.x.toNat,by rw [h1];exact hv⟩
        have h4:=hl c.x.toNat
        have h5:=lV f b c.x.toNat
        refine ⟨c,hc,by omega,?_,c3⟩
        rw [←c2,yL]
        intro e
        rw [e,h1] at c2
        exact hv c2
    · have h1:=kU hu
      exact Rm hD (es:=r) (f:=f) he' hf (by rw [←h1];exact hr) hne
/-- within one round it becomes final -/
theorem iY {D f:Nat→Int}{bs:List Bd}(hD:Oa D bs)(hf:∀k,D k≤f k){b:Bd}(hb:b∈bs)(h1:f b.y.toNat=D b.y.toNat)(h2:D b.x.toNat=D b.y.toNat+b.most):Gu f bs b.x.toNat=D b.x.toNat:=by
 obtain ⟨p,q,e⟩:=List.append_of_mem hb
 have h3:=S9 hD (es:=bs) (fun x hx=>hx) hf b.x.toNat
 have h4:Gu f bs=Gu (Vv (Gu f p) b) q:=by rw [e,pP];rfl
 have h5:=O8 q (Vv (Gu f p) b) b.x.toNat
 have h6:=xE (Gu f p) b
 have h7:=O8 p f b.y.toNat
 rw [h4] at h3 ⊢
 omega
/-! ### Counting what is not final -/
def Uy (D f:Nat→Int)(n:Nat):Nat:=(List.range n).countP fun k=>f k != D k
theorem gV {α:Type}{p q:α→Bool}:∀{l:List α} {x:α},(∀y,p y=true→q y=true)→x∈l→q x=true→p x=false→l.countP p<l.countP q
  | a::r,x,h,hx,hq,hp=>by
    have hle:r.countP p≤r.countP q:=List.countP_mono_left fun y _ hy=>h y hy
    rcases List.mem_cons.1 hx with rfl | hx
    · rw [List.countP_cons,List.countP_cons,if_pos hq,if_neg (by rw [hp];decide)];omega
    · have:=gV h hx hq hp
      rw [List.countP_cons,List.countP_cons]
      by_cases ha:p a=true
      · rw [if_pos ha,if_pos (h a ha)];omega
      · rw [if_neg ha];split <;> omega
theorem sR {D f:Nat→Int}{n:Nat}(h:Uy D f n=0):∀k,k<n→f k=D k:=fun k hk=>by
 have:=List.countP_eq_zero.1 h k (List.mem_range.2 hk)
 simpa using this
def Hu (bs:List Bd)(f:Nat→Int):Nat→(Nat→Int)
 | 0=>f
 | m+1=>Gu (Hu bs f m) bs
theorem T7 (bs:List Bd):∀(m:Nat) (f:Nat→Int),Hu bs f (m+1)=Hu bs (Gu f bs) m
  | 0,f=>rfl
  | m+1,f=>by
    show Gu (Hu bs f (m+1)) bs=Gu (Hu bs (Gu f bs) m) bs
    rw [T7 bs m f]
theorem gQ {D:Nat→Int}{bs:List Bd}(hD:Oa D bs){f:Nat→Int}(hf:∀k,D k≤f k):∀(m k:Nat),D k≤Hu bs f m k
 | 0,k=>hf k
 | m+1,k=>S9 hD (fun _ h=>h) (gQ hD hf m) k
theorem pG (bs:List Bd)(f:Nat→Int):∀(m j:Nat),∃es:List Bd,(∀b∈es,b∈bs)∧Gu (Hu bs f j) es=Hu bs f (j+m)
  | 0,j=>⟨[],(fun b h=>by cases h),rfl⟩
  | m+1,j=>by
    obtain ⟨es,h1,h2⟩:=pG bs f m j
    refine ⟨es++bs,fun b hb=>?_,?_⟩
    · rcases List.mem_append.1 hb with h | h
      · exact h1 b h
      · exact h
    · rw [pP,h2];rfl
theorem dZ {D:Nat→Int}:∀{bs:List Bd},Oa D bs→Gu D bs=D
  | [],_=>rfl
  | b::r,h=>by
    have h1:Vv D b=D:=kU (by have:=h b (List.mem_cons_self ..);omega)
    show Gu (Vv D b) r=D
    rw [h1];exact dZ fun x hx=>h x (List.mem_cons_of_mem _ hx)
/-- every round closes one, as long as one is open -/
theorem lY {D f:Nat→Int}{bs:List Bd}{n:Nat}(hD:Oa D bs)(hbs:∀b∈bs,b.x.toNat<n)(hf:∀k,D k≤f k){es:List Bd}(he:∀b∈es,b∈bs)(hr:Gu f es=D):Uy D (Gu f bs) n=0∨Uy D (Gu f bs) n<Uy D f n:=by
 by_cases hne:∃k,f k≠D k
 ·
  obtain ⟨b,hb,h1,h2,h3⟩:=Rm hD he hf hr hne
  refine .inr (gV (x:=b.x.toNat) (fun y hy=>?_) (List.mem_range.2 (hbs b hb)) (by simpa using h1) (by simpa using iY hD hf hb h2 h3))
  have h4:=O8 bs f y
  have h5:=S9 hD (es:=bs) (fun _ h=>h) hf y
  simp only [bne_iff_ne,ne_eq] at hy ⊢
  omega
 ·
  have h1:f=D:=funext fun k=>by
   by_cases h:f k=D k
   · exact h
   · exact absurd ⟨k,h⟩ hne
  left
  rw [h1,dZ hD]
  unfold Uy
  rw [List.countP_eq_zero]
  intro k _;simp
theorem aB {D f:Nat→Int}{bs:List Bd}{n m:Nat}(hD:Oa D bs)(hbs:∀b∈bs,b.x.toNat<n)(hf:∀k,D k≤f k)(hm:Hu bs f m=D):∀j,Uy D (Hu bs f j) n≤n-j
  | 0=>by
    have:=List.countP_le_length (p:=fun k=>f k != D k) (l:=List.range n)
    rw [List.length_range] at this
    exact this
  | j+1=>by
    have ih:=aB hD hbs hf hm j
    have hes:∃es:List Bd,(∀b∈es,b∈bs)∧Gu (Hu bs f j) es=D:=by
      by_cases hj:j≤m
      · obtain ⟨es,h1,h2⟩:=pG bs f (m-j) j
        exact ⟨es,h1,by rw [h2,show j+(m-j)=m by omega,hm]⟩
      · refine ⟨[],(fun b h=>by cases h),?_⟩
        obtain ⟨d,rfl⟩:∃d,j=m+d:=⟨j-m,by omega⟩
        show Hu bs f (m+d)=D
        have:∀d,Hu bs f (m+d)=D:=by
          intro d
          induction d with
          | zero=>exact hm
          | succ d ihd=>show Gu (Hu bs f (m+d)) bs=D;rw [ihd,dZ hD]
        exact this d
    obtain ⟨es,h1,h2⟩:=hes
    rcases lY hD hbs (gQ hD hf j) h1 h2 with h | h
    · show Uy D (Gu (Hu bs f j) bs) n≤_
      omega
    · show Uy D (Gu (Hu bs f j) bs) n≤_
      omega
/-! ### An end -/
def wK (L f:Nat→Int)(n:Nat):Nat:=((List.range n).map fun k=>(f k-L k).toNat).sum
theorem rL {l:List Nat}{f g:Nat→Nat}(h:∀k∈l,f k≤g k):(l.map f).sum≤(l.map g).sum:=by
  induction l with
  | nil=>exact Nat.le_refl _
  | cons a r ih=>
    have:=h a (List.mem_cons_self ..)
    have:=ih fun k hk=>h k (List.mem_cons_of_mem _ hk)
    simp only [List.map_cons,List.sum_cons];omega
theorem sV {l:List Nat}{f g:Nat→Nat}{x:Nat}(h:∀k∈l,f k≤g k)(hx:x∈l)(hlt:f x<g x):(l.map f).sum<(l.map g).sum:=by
  induction l with
  | nil=>cases hx
  | cons a r ih=>
    have h1:=h a (List.mem_cons_self ..)
    simp only [List.map_cons,List.sum_cons]
    rcases List.mem_cons.1 hx with rfl | hx
    · have:=rL (l:=r) (f:=f) (g:=g) fun k hk=>h k (List.mem_cons_of_mem _ hk)
      omega
    · have:=ih (fun k hk=>h k (List.mem_cons_of_mem _ hk)) hx
      omega
theorem vK:∀{bs:List Bd} {f:Nat→Int} {k:Nat},Gu f bs k≠f k→∃b∈bs,b.x.toNat=k
  | [],f,k,h=>absurd rfl h
  | b::r,f,k,h=>by
    by_cases hk:k=b.x.toNat
    · exact ⟨b,List.mem_cons_self ..,hk.symm⟩
    · have h1:Gu (Vv f b) r k≠Vv f b k:=by rw [yL hk];exact h
      obtain ⟨c,hc,e⟩:=vK h1
      exact ⟨c,List.mem_cons_of_mem _ hc,e⟩
theorem oO:∀{bs:List Bd} {f:Nat→Int},Gu f bs=f→Oa f bs
  | [],f,_=>fun b h=>by cases h
  | b::r,f,h=>by
    have h1:Vv f b=f:=funext fun k=>by
      have h2:=congrFun h k
      have h3:=O8 r (Vv f b) k
      have h4:=lV f b k
      have h5:Gu (Vv f b) r k=f k:=h2
      omega
    have h2:Gu f r=f:=by
      have:Gu (Vv f b) r=f:=h
      rwa [h1] at this
    intro c hc
    rcases List.mem_cons.1 hc with rfl | hc
    · have:=xE f c
      rw [h1] at this;exact this
    · exact oO h2 c hc
theorem kJ {L:Nat→Int}{bs:List Bd}{n:Nat}(hL:Oa L bs)(hbs:∀b∈bs,b.x.toNat<n):∀(μ:Nat) (f:Nat→Int),(∀k,L k≤f k)→wK L f n=μ→∃m,Oa (Hu bs f m) bs:=by
  intro μ
  induction μ using Nat.strongRecOn with
  | _ μ ih=>
    intro f hf hμ
    by_cases h:Gu f bs=f
    · exact ⟨0,oO h⟩
    · obtain ⟨k,hk⟩:∃k,Gu f bs k≠f k:=by
        by_cases hh:∃k,Gu f bs k≠f k
        · exact hh
        · exact absurd (funext fun k=>by
            by_cases h2:Gu f bs k=f k
            · exact h2
            · exact absurd ⟨k,h2⟩ hh) h
      obtain ⟨b,hb,hbk⟩:=vK hk
      have hl:=S9 hL (es:=bs) (fun _ h=>h) hf
      have hlt:wK L (Gu f bs) n<wK L f n:=by
        refine sV (x:=k) (fun j _=>?_) (List.mem_range.2 (by rw [←hbk];exact hbs b hb)) ?_
        · have:=O8 bs f j;omega
        · have:=O8 bs f k
          have:=hl k
          omega
      obtain ⟨m,hm⟩:=ih _ (by rw [←hμ];exact hlt) (Gu f bs) hl rfl
      exact ⟨m+1,by rw [T7];exact hm⟩
/-- after so many rounds nothing is open -/
theorem kF {p:Nat→Int}{M:Int}{bs:List Bd}{n:Nat}(hp:Oa p bs)(hM:∀k,p k≤M)(hbs:∀b∈bs,b.x.toNat<n∧b.y.toNat<n):Oa (Hu bs (fun _=>0) n) bs:=by
 have hL:Oa (fun k=>p k-M) bs:=fun b hb=>by have:=hp b hb;simp only;omega
 obtain ⟨m,hm⟩:=kJ (n:=n) hL (fun b hb=>(hbs b hb).1) _ (fun _=>0) (fun k=>by have:=hM k;omega) rfl
 have hlow:∀k,Hu bs (fun _=>0) m k≤0:=fun k=>by
  have:∀m,Hu bs (fun _=>0) m k≤0:=by
   intro m
   induction m with
   | zero=>exact Int.le_refl _
   | succ m ih=>exact Int.le_trans (O8 bs _ k) ih
  exact this m
 have h1:=aB (n:=n) hm (fun b hb=>(hbs b hb).1) hlow rfl n
 have h2:=sR (n:=n) (D:=Hu bs (fun _=>0) m) (f:=Hu bs (fun _=>0) n) (by omega)
 intro b hb
 rw [h2 _ (hbs b hb).1,h2 _ (hbs b hb).2]
 exact hm b hb
/-! ### The lists -/
def gf (l:List Int):Nat→Int:=fun k=>(l[k]?).getD 0
theorem gf_rlx {i:Nat}{b:Bd}{s:Ds×Int}(hx:b.x.toNat<s.1.sums.length):gf (N5 i b s).1.sums=Vv (gf s.1.sums) b∧(N5 i b s).1.sums.length=s.1.sums.length:=by
 unfold N5
 by_cases h:gf s.1.sums b.y.toNat+b.most<gf s.1.sums b.x.toNat
 ·
  have h':decide (E0 s.1.sums b.y+b.most<E0 s.1.sums b.x)=true:=decide_eq_true h
  rw [if_pos h']
  refine ⟨funext fun k=>?_,by simp⟩
  unfold Vv
  by_cases hk:k=b.x.toNat
  ·
   subst hk
   rw [if_pos ⟨rfl,h⟩]
   show ((s.1.sums.set b.x.toNat _)[b.x.toNat]?).getD 0=_
   rw [List.getElem?_set_self hx];rfl
  ·
   rw [if_neg fun e=>hk e.1]
   show ((s.1.sums.set b.x.toNat _)[k]?).getD 0=_
   rw [List.getElem?_set_ne (fun e=>hk e.symm)];rfl
 ·
  have h':decide (E0 s.1.sums b.y+b.most<E0 s.1.sums b.x)=false:=decide_eq_false h
  rw [Ci h']
  exact ⟨(kU h).symm,rfl⟩
theorem gf_go {n:Nat}:∀(bs:List Bd) (i:Nat) (s:Ds×Int),(∀b∈bs,b.x.toNat<n)→s.1.sums.length=n→gf (F8 i bs s).1.sums=Gu (gf s.1.sums) bs∧(F8 i bs s).1.sums.length=n
  | [],i,s,_,hs=>⟨rfl,hs⟩
  | b::r,i,s,hb,hs=>by
    obtain ⟨h1,h2⟩:=gf_rlx (i:=i) (b:=b) (s:=s) (by rw [hs];exact hb b (List.mem_cons_self ..))
    obtain ⟨h3,h4⟩:=gf_go r (i+1) (N5 i b s) (fun x hx=>hb x (List.mem_cons_of_mem _ hx)) (by rw [h2,hs])
    rw [F8]
    exact ⟨by rw [h3,h1];rfl,h4⟩
theorem xK:∀(bs:List Bd) (i:Nat) (s:Ds×Int),Oa (gf s.1.sums) bs→F8 i bs s=s
  | [],i,s,_=>rfl
  | b::r,i,s,h=>by
    have h1:=h b (List.mem_cons_self ..)
    have h2:N5 i b s=s:=by
      unfold N5
      have h':decide (E0 s.1.sums b.y+b.most<E0 s.1.sums b.x)=false:=decide_eq_false (fun h2=>by have h3:gf s.1.sums b.y.toNat+b.most<gf s.1.sums b.x.toNat:=h2;omega)
      rw [Ci h']
    rw [F8,h2]
    exact xK r (i+1) s fun x hx=>h x (List.mem_cons_of_mem _ hx)
theorem W7 {bs:List Bd}{n:Nat}(hb:∀b∈bs,b.x.toNat<n):∀(m:Nat) (s:Ds×Int),s.1.sums.length=n→Oa (Hu bs (gf s.1.sums) m) bs→(D7 bs (m+1) s).2<0
  | 0,s,hs,hf=>by
    have h1:Jr bs s.1=(s.1,-1):=xK bs 0 (s.1,-1) hf
    rw [D7,if_pos (by rw [h1];exact decide_eq_true (show (-1:Int)<0 by decide)),h1]
    show (-1:Int)<0
    decide
  | m+1,s,hs,hf=>by
    rw [D7]
    by_cases h:decide ((Jr bs s.1).2<0)=true
    · rw [if_pos h];exact of_decide_eq_true h
    · rw [if_neg h]
      obtain ⟨h1,h2⟩:=gf_go (n:=n) bs 0 (s.1,-1) hb hs
      refine W7 hb m _ h2 ?_
      have h3:gf (Jr bs s.1).1.sums=Gu (gf s.1.sums) bs:=h1
      rw [h3,←T7];exact hf
/-- a zone with a model is solved -/
theorem jO {n:Nat}{bs:List Bd}{p:Int→Int}(hz:(I4 (zn n bs) != 0)=false)(hp:∀b∈bs,p b.x-p b.y≤b.most):(Ew (zn n bs)).ok=true:=by
  have hk:=dF (n:=(n:Int)) (bs:=bs) hz
  have hb:∀b∈bs,b.x.toNat<n∧b.y.toNat<n:=fun b h=>by have:=hk.2.2.2 b h;omega
  have hend:decide ((Ek (zn n bs)).2<0)=true:=by
    rw [M0,decide_eq_true_eq]
    refine W7 (n:=n) (fun b h=>(hb b h).1) n _ (by simp) ?_
    have h0:gf (List.replicate n (0:Int))=fun _=>0:=funext fun k=>by
      unfold gf
      rw [List.getElem?_replicate];split <;> rfl
    show Oa (Hu bs (gf (List.replicate n 0)) n) bs
    rw [h0]
    obtain ⟨M,hM⟩:∃M,∀k,(fun k:Nat=>if k<n then p (k:Int) else 0) k≤M:=by
      have key:∀n:Nat,∃M,0≤M∧∀k:Nat,k<n→p (k:Int)≤M:=by
        intro n
        induction n with
        | zero=>exact ⟨0,Int.le_refl _,fun k h=>absurd h (Nat.not_lt_zero _)⟩
        | succ n ih=>
          obtain ⟨M,h0,h1⟩:=ih
          refine ⟨max M (p (n:Int)),by omega,fun k hk=>?_⟩
          by_cases e:k=n
          · subst e;omega
          · have:=h1 k (by omega);omega
      obtain ⟨M,h0,h1⟩:=key n
      exact ⟨M,fun k=>by simp only;split;exact h1 k (by assumption);exact h0⟩
    refine kF (p:=fun k:Nat=>if k<n then p (k:Int) else 0) (M:=M) (fun b h=>?_) hM hb
    obtain ⟨h1,h2⟩:=hb b h
    have h3:=hp b h
    have h4:=hk.2.2.2 b h
    simp only
    rw [if_pos h1,if_pos h2,show ((b.x.toNat:Nat):Int)=b.x by omega,show ((b.y.toNat:Nat):Int)=b.y by omega]
    omega
  rw [We hz hend]
end Go.Proofs.YtkddpedfbicbeaaGreatDoor
