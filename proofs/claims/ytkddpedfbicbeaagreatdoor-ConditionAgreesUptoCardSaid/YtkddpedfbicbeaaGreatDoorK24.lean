/-
  Several texts in one: S42, S41. No condition.
-/
import Derived.Test.YtkddpedfbicbeaaGreatDoorK23
import Derived.Test.YtkddpedfbicbeaaGreatDoorK22
set_option linter.unusedVariables false
set_option linter.unusedSimpArgs false
namespace Go.Proofs.YtkddpedfbicbeaaGreatDoor
open Go Go.Aw

structure EnvOK (T:List Sc) (V:List Va) (env:List (List Ev)):Prop where
 suits:Gq T V env
 times:∀l∈env,∀ev∈l,0≤ev.time∧ev.time≤1099511627776
theorem EnvOK.small {T:List Sc}{V:List Va}{env:List (List Ev)}(h:EnvOK T V env):oE env:=fun l hl ev hev=>by
 have:=h.times l hl ev hev
 unfold An D5
 simp
 omega
section
variable {T:List Sc} {V:List Va} {env:List (List Ev)}
abbrev Tg (env:List (List Ev))(t:Tm):Int:=(vl env (Hf t)).num
theorem T2 {v:Vl}(h:An v=0)(hk:v.kind=0∨v.kind=1) : -1099511627776≤v.num∧v.num≤1099511627776:=by
 rcases hk with hk | hk
 · exact (F4 h hk).2
 ·
  have:=Fz h hk
  rw [this];cases v.num==1 <;> simp [D0]
theorem Ok (hE:EnvOK T V env){e:Ex}(hk:KOK T V e)(ho:(e.op==1||e.op==2)=true) :
  ((e.op==2)=true→0≤(vl env e).num∧(vl env e).num≤1099511627776)∧An (vl env e)=0∧(vl env e).kind=Am T V e:=by
 obtain ⟨ev,h1,h2,h3,h4⟩:=Y0 hE.suits hE.small hk ho
 refine ⟨fun h=>?_,?_,Ru hE.suits hk⟩
 ·
  have hm:Bu env e.var∈env:=bU (by rw [h1];exact Nat.one_pos)
  have ht:=hE.times _ hm ev (by rw [h1];exact List.mem_cons_self ..)
  have:vl env e=⟨0,ev.time,[]⟩:=by
   show (Bw _ e).1=_
   rw [h4]
   unfold L4
   rw [if_neg (by simp at h ⊢;omega)]
  rw [this];exact ht
 ·
  show An (Bw _ e).1=0
  rw [h4];exact h3
def Ja (τ:Tm→Int)(ts:List (Tm×Int)):Int:=(ts.map fun p=>p.2*τ p.1).sum
theorem Xj (τ:Tm→Int)(t:Tm)(b:Int):∀ts:List (Tm×Int),Ja τ (Ij t b ts)=Ja τ ts+b*τ t
  | []=>by simp [Ij,Ja]
  | p::r=>by
    rw [Ij]
    split
    · rename_i h
      subst h
      simp only [Ja,List.map_cons,List.sum_cons,Int.add_mul]
      omega
    · have ih:=Xj τ t b r
      simp only [Ja,List.map_cons,List.sum_cons] at ih ⊢
      omega
def tN (τ:Tm→Int)(s:Su):Int:=Ja τ s.ts+s.rest
theorem oR {x:Int}(h : -9223372036854775808≤x∧x≤9223372036854775807):IntKind.i64.wrap x=x:=IntWalk.i64_in x h
theorem R8 {e:Ex}(hk:KOK T V e)(ho:e.op=5∨e.op=6){a:Ex}(ha:a∈e.args):Am T V a=0:=by
 have h:=Rl hk ha
 unfold N6 at h
 rcases ho with ho | ho <;> rw [ho] at h <;> simpa using h
theorem pE (hE:EnvOK T V env)(e:Ex):KOK T V e→Am T V e=0→Av e≤64→∀{b:Int} {s:Su},(Bb e b s).2=true→
    tN (Tg env) (Bb e b s).1=tN (Tg env) s+b*(vl env e).num∧-(Av e:Int)*1099511627776≤(vl env e).num∧(vl env e).num≤(Av e:Int)*1099511627776:=by
  refine Ex.Aa0 (P:=fun e=>KOK T V e→Am T V e=0→Av e≤64→∀{b:Int} {s:Su},(Bb e b s).2=true→
    tN (Tg env) (Bb e b s).1=tN (Tg env) s+b*(vl env e).num∧-(Av e:Int)*1099511627776≤(vl env e).num∧(vl env e).num≤(Av e:Int)*1099511627776) (fun e ih hk h0 hs b s h=>?_) e
  have hz:=Ba hk.nodes
  have hp:1≤Av e:=by rw [Ef];omega
  rcases Lt hz.1 with c | ⟨c,c1⟩ | ⟨c,hl⟩ | ⟨c,c1,c2,c3⟩
  · have hc:e.op=0:=by simpa using c
    have hv:(vl env e)=e.val:=by show (Bw _ e).1=_;rw [Ta hz.1 hc]
    have hn:=To hz.1 hc
    rw [Ei c,hv]
    refine ⟨by simp only [tN];omega,?_,?_⟩
    · have:(1:Int)≤Av e:=by omega
      omega
    · have:(1:Int)≤Av e:=by omega
      omega
  · obtain ⟨_,h2,h3⟩:=Ok hE hk c1
    have hn:=T2 h2 (.inl (h3.trans h0))
    rw [B0 c c1]
    refine ⟨?_,by omega,by omega⟩
    simp only [tN]
    rw [Xj]
    have:Tg env (Dy e)=(vl env e).num:=by unfold Tg;rw [K8 hz.1 c1]
    rw [this];omega
  · have ho:e.op=5∨e.op=6:=by simpa using c
    have m0:=A4 (show 0<e.args.length by omega)
    have m1:=Bn hl
    have hsz:=Dd hl
    have k0:=R8 hk ho m0
    have k1:=R8 hk ho m1
    have hv:=Pq hE.suits hk (by omega) (by omega)
    have c9:¬(e.op==9)=true:=by simp;omega
    rw [if_neg c9] at hv
    have key:∀c:Int,(e.op=5∧c=b)∨(e.op=6∧c=0-b)→tN (Tg env) (Bb e b s).1=tN (Tg env) s+b*(vl env (Ao e)).num+c*(vl env (Bj e)).num∧
        (-(Av (Ao e):Int)*1099511627776≤(vl env (Ao e)).num∧(vl env (Ao e)).num≤(Av (Ao e):Int)*1099511627776)∧(-(Av (Bj e):Int)*1099511627776≤(vl env (Bj e)).num∧(vl env (Bj e)).num≤(Av (Bj e):Int)*1099511627776):=by
      intro c hc
      rw [H4 hl hc] at h ⊢
      cases h1:(Bb (Ao e) b s).2 with
      | false=>rw [h1] at h;cases h
      | true=>
        rw [h1] at h
        obtain ⟨a1,a2,a3⟩:=ih _ m0 (Ax hk m0) k0 (by omega) (b:=b) (s:=s) h1
        obtain ⟨b1,b2,b3⟩:=ih _ m1 (Ax hk m1) k1 (by omega) (b:=c) (s:=(Bb (Ao e) b s).1) h
        refine ⟨?_,⟨a2,a3⟩,⟨b2,b3⟩⟩
        show tN (Tg env) (Bb (Bj e) c (Bb (Ao e) b s).1).1=_
        rw [b1,a1]
    rcases ho with ho | ho
    · obtain ⟨a1,⟨a2,a3⟩,⟨a4,a5⟩⟩:=key b (.inl ⟨ho,rfl⟩)
      have hw:(vl env e).num=(vl env (Ao e)).num+(vl env (Bj e)).num:=by
        rw [hv,ho]
        show IntKind.i64.wrap _=_
        exact oR (by omega)
      rw [a1,hw,Int.mul_add]
      refine ⟨by omega,by omega,by omega⟩
    · obtain ⟨a1,⟨a2,a3⟩,⟨a4,a5⟩⟩:=key (0-b) (.inr ⟨ho,rfl⟩)
      have hw:(vl env e).num=(vl env (Ao e)).num-(vl env (Bj e)).num:=by
        rw [hv,ho]
        show IntKind.i64.wrap _=_
        exact oR (by omega)
      rw [a1,hw,Int.mul_sub,Int.sub_mul,Int.zero_mul]
      refine ⟨by omega,by omega,by omega⟩
  · rw [E2 c c1 c2 c3] at h;cases h
theorem Pu {τ:Tm→Int}:∀{ts:List (Tm×Int)} {p m p' m':List Tm},Dl ts p m=some (p',m')→Ja τ ts+(p.map τ).sum-(m.map τ).sum=(p'.map τ).sum-(m'.map τ).sum
  | [],p,m,p',m',h=>by
    rw [Dl] at h;cases h;simp [Ja]
  | t::r,p,m,p',m',h=>by
    rw [Dl] at h
    by_cases h0:(t.2==0)=true
    · rw [if_pos h0] at h
      have:=Pu (τ:=τ) h
      have e0:t.2=0:=by simpa using h0
      simp only [Ja,List.map_cons,List.sum_cons,e0,Int.zero_mul] at this ⊢;omega
    · rw [if_neg h0] at h
      by_cases h1:(t.2==1)=true
      · rw [if_pos h1] at h
        have:=Pu (τ:=τ) h
        have e1:t.2=1:=by simpa using h1
        simp only [Ja,List.map_cons,List.sum_cons,e1,Int.one_mul,List.map_append,List.map_nil,List.sum_append,List.sum_nil] at this ⊢;omega
      · rw [if_neg h1] at h
        by_cases h2:(t.2 == -1)=true
        · rw [if_pos h2] at h
          have:=Pu (τ:=τ) h
          have e2:t.2 = -1:=by simpa using h2
          simp only [Ja,List.map_cons,List.sum_cons,e2,List.map_append,List.map_nil,List.sum_append,List.sum_nil] at this ⊢;omega
        · rw [if_neg h2] at h;cases h
def fO (τ:Tm→Int)(l:List Tm):Int:=(l.map τ).sum
theorem iE (hE:EnvOK T V env){a b:Ex}(ha:KOK T V a)(hb:KOK T V b)(ka:Am T V a=0)(kb:Am T V b=0)(hs:Av a+Av b≤64)(h:(B2 a b).2=true) :
    (vl env a).num-(vl env b).num=fO (Tg env) (B2 a b).1.plus-fO (Tg env) (B2 a b).1.minus+(B2 a b).1.rest∧(B2 a b).1.plus.length≤1∧(B2 a b).1.minus.length≤1:=by
  unfold B2 at h ⊢
  cases h1:(Bb a 1 Jc).2 with
  | false=>rw [h1] at h;cases h
  | true=>
    rw [h1] at h
    cases h2:(Bb b (-1) (Bb a 1 Jc).1).2 with
    | false=>rw [h2] at h;cases h
    | true=>
      rw [h2] at h
      simp only [Bool.not_true,Bool.false_eq_true,if_false] at h ⊢
      obtain ⟨a1,_,_⟩:=pE hE a ha ka (by omega) (b:=1) (s:=Jc) h1
      obtain ⟨b1,_,_⟩:=pE hE b hb kb (by omega) (b:=-1) h2
      unfold N7 at h ⊢
      cases hp:Dl (Bb b (-1) (Bb a 1 Jc).1).1.ts [] [] with
      | none=>rw [hp] at h;cases h
      | some q=>
        obtain ⟨p,m⟩:=q
        rw [hp] at h
        simp only [Bool.and_eq_true,decide_eq_true_eq] at h ⊢
        have h3:=Pu (τ:=Tg env) hp
        refine ⟨?_,by omega,by omega⟩
        have h4:tN (Tg env) Jc=0:=rfl
        simp only [tN] at a1 b1
        simp only [tN] at h4
        simp only [fO,List.map_nil,List.sum_nil] at h3 ⊢
        omega
end

def Vt (f:Nat→Int)(b:Bd):Nat→Int:=fun k=>if k=b.x.toNat∧f b.y.toNat+b.most<f b.x.toNat then f b.y.toNat+b.most else f k
def Gj (f:Nat→Int)(es:List Bd):Nat→Int:=es.foldl Vt f
theorem lS (f:Nat→Int)(b:Bd)(k:Nat):Vt f b k≤f k:=by
 unfold Vt
 split
 · rename_i h;rw [h.1];omega
 · exact Int.le_refl _
theorem zD (f:Nat→Int)(b:Bd):Vt f b b.x.toNat≤f b.y.toNat+b.most:=by
 unfold Vt
 split
 · exact Int.le_refl _
 · rename_i h;omega
theorem yD {f:Nat→Int}{b:Bd}{k:Nat}(h:k≠b.x.toNat):Vt f b k=f k:=if_neg fun e=>h e.1
theorem mJ {f:Nat→Int}{b:Bd}(h:¬f b.y.toNat+b.most<f b.x.toNat):Vt f b=f:=funext fun k=>if_neg fun e=>h e.2
theorem Pj:∀(es:List Bd) (f:Nat→Int) (k:Nat),Gj f es k≤f k
 | [],f,k=>Int.le_refl _
 | b::r,f,k=>Int.le_trans (Pj r (Vt f b) k) (lS f b k)
theorem mT (f:Nat→Int)(a b:List Bd):Gj f (a++b)=Gj (Gj f a) b:=List.foldl_append
def Od (D:Nat→Int)(bs:List Bd):Prop:=∀b∈bs,D b.x.toNat≤D b.y.toNat+b.most
theorem mN {D f:Nat→Int}{bs:List Bd}(hD:Od D bs){b:Bd}(hb:b∈bs)(hf:∀k,D k≤f k):∀k,D k≤Vt f b k:=fun k=>by
 unfold Vt
 split
 ·
  rename_i h
  have:=hD b hb
  have:=hf b.y.toNat
  rw [h.1];omega
 · exact hf k
theorem Sz {D:Nat→Int}{bs:List Bd}(hD:Od D bs):∀{es:List Bd} {f:Nat→Int},(∀b∈es,b∈bs)→(∀k,D k≤f k)→∀k,D k≤Gj f es k
 | [],f,_,hf=>hf
 | b::r,f,he,hf=>Sz hD (es:=r) (f:=Vt f b) (fun x hx=>he x (List.mem_cons_of_mem _ hx)) (mN hD (he b (List.mem_cons_self ..)) hf)
theorem Q5 {D:Nat→Int}{bs:List Bd}(hD:Od D bs):∀{es:List Bd} {f:Nat→Int},(∀b∈es,b∈bs)→(∀k,D k≤f k)→Gj f es=D→(∃k,f k≠D k)→
    ∃b∈bs,f b.x.toNat≠D b.x.toNat∧f b.y.toNat=D b.y.toNat∧D b.x.toNat=D b.y.toNat+b.most
  | [],f,_,_,hr,⟨k,hk⟩=>absurd (congrFun hr k) hk
  | b::r,f,he,hf,hr,hne=>by
    have hb:=he b (List.mem_cons_self ..)
    have he':∀x∈r,x∈bs:=fun x hx=>he x (List.mem_cons_of_mem _ hx)
    by_cases hu:f b.y.toNat+b.most<f b.x.toNat
    · have h1:Vt f b b.x.toNat=f b.y.toNat+b.most:=if_pos ⟨rfl,hu⟩
      have h2:=hD b hb
      have h3:=hf b.y.toNat
      by_cases hv:f b.y.toNat+b.most=D b.x.toNat
      · exact ⟨b,hb,by omega,by omega,by omega⟩
      · have hl:=mN hD hb hf
        obtain ⟨c,hc,c1,c2,c3⟩:=Q5 hD (es:=r) (f:=Vt f b) he' hl hr ⟨b.x.toNat,by rw [h1];exact hv⟩
        have h4:=hl c.x.toNat
        have h5:=lS f b c.x.toNat
        refine ⟨c,hc,by omega,?_,c3⟩
        rw [←c2,yD]
        intro e
        rw [e,h1] at c2
        exact hv c2
    · have h1:=mJ hu
      exact Q5 hD (es:=r) (f:=f) he' hf (by rw [←h1];exact hr) hne
theorem eW {D f:Nat→Int}{bs:List Bd}(hD:Od D bs)(hf:∀k,D k≤f k){b:Bd}(hb:b∈bs)(h1:f b.y.toNat=D b.y.toNat)(h2:D b.x.toNat=D b.y.toNat+b.most):Gj f bs b.x.toNat=D b.x.toNat:=by
 obtain ⟨p,q,e⟩:=List.append_of_mem hb
 have h3:=Sz hD (es:=bs) (fun x hx=>hx) hf b.x.toNat
 have h4:Gj f bs=Gj (Vt (Gj f p) b) q:=by rw [e,mT];rfl
 have h5:=Pj q (Vt (Gj f p) b) b.x.toNat
 have h6:=zD (Gj f p) b
 have h7:=Pj p f b.y.toNat
 rw [h4] at h3 ⊢
 omega
def Ut (D f:Nat→Int)(n:Nat):Nat:=(List.range n).countP fun k=>f k != D k
theorem gS {α:Type}{p q:α→Bool}:∀{l:List α} {x:α},(∀y,p y=true→q y=true)→x∈l→q x=true→p x=false→l.countP p<l.countP q
  | a::r,x,h,hx,hq,hp=>by
    have hle:r.countP p≤r.countP q:=List.countP_mono_left fun y _ hy=>h y hy
    rcases List.mem_cons.1 hx with rfl | hx
    · rw [List.countP_cons,List.countP_cons,if_pos hq,if_neg (by rw [hp];decide)];omega
    · have:=gS h hx hq hp
      rw [List.countP_cons,List.countP_cons]
      by_cases ha:p a=true
      · rw [if_pos ha,if_pos (h a ha)];omega
      · rw [if_neg ha];split <;> omega
theorem rN {D f:Nat→Int}{n:Nat}(h:Ut D f n=0):∀k,k<n→f k=D k:=fun k hk=>by
 have:=List.countP_eq_zero.1 h k (List.mem_range.2 hk)
 simpa using this
def Hp (bs:List Bd)(f:Nat→Int):Nat→(Nat→Int)
 | 0=>f
 | m+1=>Gj (Hp bs f m) bs
theorem Tk (bs:List Bd):∀(m:Nat) (f:Nat→Int),Hp bs f (m+1)=Hp bs (Gj f bs) m
  | 0,f=>rfl
  | m+1,f=>by
    show Gj (Hp bs f (m+1)) bs=Gj (Hp bs (Gj f bs) m) bs
    rw [Tk bs m f]
theorem gW {D:Nat→Int}{bs:List Bd}(hD:Od D bs){f:Nat→Int}(hf:∀k,D k≤f k):∀(m k:Nat),D k≤Hp bs f m k
 | 0,k=>hf k
 | m+1,k=>Sz hD (fun _ h=>h) (gW hD hf m) k
theorem mZ (bs:List Bd)(f:Nat→Int):∀(m j:Nat),∃es:List Bd,(∀b∈es,b∈bs)∧Gj (Hp bs f j) es=Hp bs f (j+m)
  | 0,j=>⟨[],(fun b h=>by cases h),rfl⟩
  | m+1,j=>by
    obtain ⟨es,h1,h2⟩:=mZ bs f m j
    refine ⟨es++bs,fun b hb=>?_,?_⟩
    · rcases List.mem_append.1 hb with h | h
      · exact h1 b h
      · exact h
    · rw [mT,h2];rfl
theorem bL {D:Nat→Int}:∀{bs:List Bd},Od D bs→Gj D bs=D
  | [],_=>rfl
  | b::r,h=>by
    have h1:Vt D b=D:=mJ (by have:=h b (List.mem_cons_self ..);omega)
    show Gj (Vt D b) r=D
    rw [h1];exact bL fun x hx=>h x (List.mem_cons_of_mem _ hx)
theorem lJ {D f:Nat→Int}{bs:List Bd}{n:Nat}(hD:Od D bs)(hbs:∀b∈bs,b.x.toNat<n)(hf:∀k,D k≤f k){es:List Bd}(he:∀b∈es,b∈bs)(hr:Gj f es=D):Ut D (Gj f bs) n=0∨Ut D (Gj f bs) n<Ut D f n:=by
 by_cases hne:∃k,f k≠D k
 ·
  obtain ⟨b,hb,h1,h2,h3⟩:=Q5 hD he hf hr hne
  refine .inr (gS (x:=b.x.toNat) (fun y hy=>?_) (List.mem_range.2 (hbs b hb)) (by simpa using h1) (by simpa using eW hD hf hb h2 h3))
  have h4:=Pj bs f y
  have h5:=Sz hD (es:=bs) (fun _ h=>h) hf y
  simp only [bne_iff_ne,ne_eq] at hy ⊢
  omega
 ·
  have h1:f=D:=funext fun k=>by
   by_cases h:f k=D k
   · exact h
   · exact absurd ⟨k,h⟩ hne
  left
  rw [h1,bL hD]
  unfold Ut
  rw [List.countP_eq_zero]
  intro k _;simp
theorem Zo {D f:Nat→Int}{bs:List Bd}{n m:Nat}(hD:Od D bs)(hbs:∀b∈bs,b.x.toNat<n)(hf:∀k,D k≤f k)(hm:Hp bs f m=D):∀j,Ut D (Hp bs f j) n≤n-j
  | 0=>by
    have:=List.countP_le_length (p:=fun k=>f k != D k) (l:=List.range n)
    rw [List.length_range] at this
    exact this
  | j+1=>by
    have ih:=Zo hD hbs hf hm j
    have hes:∃es:List Bd,(∀b∈es,b∈bs)∧Gj (Hp bs f j) es=D:=by
      by_cases hj:j≤m
      · obtain ⟨es,h1,h2⟩:=mZ bs f (m-j) j
        exact ⟨es,h1,by rw [h2,show j+(m-j)=m by omega,hm]⟩
      · refine ⟨[],(fun b h=>by cases h),?_⟩
        obtain ⟨d,rfl⟩:∃d,j=m+d:=⟨j-m,by omega⟩
        show Hp bs f (m+d)=D
        have:∀d,Hp bs f (m+d)=D:=by
          intro d
          induction d with
          | zero=>exact hm
          | succ d ihd=>show Gj (Hp bs f (m+d)) bs=D;rw [ihd,bL hD]
        exact this d
    obtain ⟨es,h1,h2⟩:=hes
    rcases lJ hD hbs (gW hD hf j) h1 h2 with h | h
    · show Ut D (Gj (Hp bs f j) bs) n≤_
      omega
    · show Ut D (Gj (Hp bs f j) bs) n≤_
      omega
def xY (L f:Nat→Int)(n:Nat):Nat:=((List.range n).map fun k=>(f k-L k).toNat).sum
theorem sW {l:List Nat}{f g:Nat→Nat}(h:∀k∈l,f k≤g k):(l.map f).sum≤(l.map g).sum:=by
  induction l with
  | nil=>exact Nat.le_refl _
  | cons a r ih=>
    have:=h a (List.mem_cons_self ..)
    have:=ih fun k hk=>h k (List.mem_cons_of_mem _ hk)
    simp only [List.map_cons,List.sum_cons];omega
theorem sR {l:List Nat}{f g:Nat→Nat}{x:Nat}(h:∀k∈l,f k≤g k)(hx:x∈l)(hlt:f x<g x):(l.map f).sum<(l.map g).sum:=by
  induction l with
  | nil=>cases hx
  | cons a r ih=>
    have h1:=h a (List.mem_cons_self ..)
    simp only [List.map_cons,List.sum_cons]
    rcases List.mem_cons.1 hx with rfl | hx
    · have:=sW (l:=r) (f:=f) (g:=g) fun k hk=>h k (List.mem_cons_of_mem _ hk)
      omega
    · have:=ih (fun k hk=>h k (List.mem_cons_of_mem _ hk)) hx
      omega
theorem wU:∀{bs:List Bd} {f:Nat→Int} {k:Nat},Gj f bs k≠f k→∃b∈bs,b.x.toNat=k
  | [],f,k,h=>absurd rfl h
  | b::r,f,k,h=>by
    by_cases hk:k=b.x.toNat
    · exact ⟨b,List.mem_cons_self ..,hk.symm⟩
    · have h1:Gj (Vt f b) r k≠Vt f b k:=by rw [yD hk];exact h
      obtain ⟨c,hc,e⟩:=wU h1
      exact ⟨c,List.mem_cons_of_mem _ hc,e⟩
theorem oP:∀{bs:List Bd} {f:Nat→Int},Gj f bs=f→Od f bs
  | [],f,_=>fun b h=>by cases h
  | b::r,f,h=>by
    have h1:Vt f b=f:=funext fun k=>by
      have h2:=congrFun h k
      have h3:=Pj r (Vt f b) k
      have h4:=lS f b k
      have h5:Gj (Vt f b) r k=f k:=h2
      omega
    have h2:Gj f r=f:=by
      have:Gj (Vt f b) r=f:=h
      rwa [h1] at this
    intro c hc
    rcases List.mem_cons.1 hc with rfl | hc
    · have:=zD f c
      rw [h1] at this;exact this
    · exact oP h2 c hc
theorem kT {L:Nat→Int}{bs:List Bd}{n:Nat}(hL:Od L bs)(hbs:∀b∈bs,b.x.toNat<n):∀(μ:Nat) (f:Nat→Int),(∀k,L k≤f k)→xY L f n=μ→∃m,Od (Hp bs f m) bs:=by
  intro μ
  induction μ using Nat.strongRecOn with
  | _ μ ih=>
    intro f hf hμ
    by_cases h:Gj f bs=f
    · exact ⟨0,oP h⟩
    · obtain ⟨k,hk⟩:∃k,Gj f bs k≠f k:=by
        by_cases hh:∃k,Gj f bs k≠f k
        · exact hh
        · exact absurd (funext fun k=>by
            by_cases h2:Gj f bs k=f k
            · exact h2
            · exact absurd ⟨k,h2⟩ hh) h
      obtain ⟨b,hb,hbk⟩:=wU hk
      have hl:=Sz hL (es:=bs) (fun _ h=>h) hf
      have hlt:xY L (Gj f bs) n<xY L f n:=by
        refine sR (x:=k) (fun j _=>?_) (List.mem_range.2 (by rw [←hbk];exact hbs b hb)) ?_
        · have:=Pj bs f j;omega
        · have:=Pj bs f k
          have:=hl k
          omega
      obtain ⟨m,hm⟩:=ih _ (by rw [←hμ];exact hlt) (Gj f bs) hl rfl
      exact ⟨m+1,by rw [Tk];exact hm⟩
theorem lW {p:Nat→Int}{M:Int}{bs:List Bd}{n:Nat}(hp:Od p bs)(hM:∀k,p k≤M)(hbs:∀b∈bs,b.x.toNat<n∧b.y.toNat<n):Od (Hp bs (fun _=>0) n) bs:=by
 have hL:Od (fun k=>p k-M) bs:=fun b hb=>by have:=hp b hb;simp only;omega
 obtain ⟨m,hm⟩:=kT (n:=n) hL (fun b hb=>(hbs b hb).1) _ (fun _=>0) (fun k=>by have:=hM k;omega) rfl
 have hlow:∀k,Hp bs (fun _=>0) m k≤0:=fun k=>by
  have:∀m,Hp bs (fun _=>0) m k≤0:=by
   intro m
   induction m with
   | zero=>exact Int.le_refl _
   | succ m ih=>exact Int.le_trans (Pj bs _ k) ih
  exact this m
 have h1:=Zo (n:=n) hm (fun b hb=>(hbs b hb).1) hlow rfl n
 have h2:=rN (n:=n) (D:=Hp bs (fun _=>0) m) (f:=Hp bs (fun _=>0) n) (by omega)
 intro b hb
 rw [h2 _ (hbs b hb).1,h2 _ (hbs b hb).2]
 exact hm b hb
def gf (l:List Int):Nat→Int:=fun k=>(l[k]?).getD 0
theorem gf_rlx {i:Nat}{b:Bd}{s:Ds×Int}(hx:b.x.toNat<s.1.sums.length):gf (Og i b s).1.sums=Vt (gf s.1.sums) b∧(Og i b s).1.sums.length=s.1.sums.length:=by
 unfold Og
 by_cases h:gf s.1.sums b.y.toNat+b.most<gf s.1.sums b.x.toNat
 ·
  have h':decide (Eu s.1.sums b.y+b.most<Eu s.1.sums b.x)=true:=decide_eq_true h
  rw [if_pos h']
  refine ⟨funext fun k=>?_,by simp⟩
  unfold Vt
  by_cases hk:k=b.x.toNat
  ·
   subst hk
   rw [if_pos ⟨rfl,h⟩]
   show ((s.1.sums.set b.x.toNat _)[b.x.toNat]?).getD 0=_
   rw [List.getElem?_set_self hx];rfl
  ·
   rw [if_neg fun e=>hk e.1]
   show ((s.1.sums.set b.x.toNat _)[k]?).getD 0=_
   rw [List.getElem?_set_ne (fun e=>hk e.symm)];rfl
 ·
  have h':decide (Eu s.1.sums b.y+b.most<Eu s.1.sums b.x)=false:=decide_eq_false h
  rw [Cz h']
  exact ⟨(mJ h).symm,rfl⟩
theorem gf_go {n:Nat}:∀(bs:List Bd) (i:Nat) (s:Ds×Int),(∀b∈bs,b.x.toNat<n)→s.1.sums.length=n→gf (F7 i bs s).1.sums=Gj (gf s.1.sums) bs∧(F7 i bs s).1.sums.length=n
  | [],i,s,_,hs=>⟨rfl,hs⟩
  | b::r,i,s,hb,hs=>by
    obtain ⟨h1,h2⟩:=gf_rlx (i:=i) (b:=b) (s:=s) (by rw [hs];exact hb b (List.mem_cons_self ..))
    obtain ⟨h3,h4⟩:=gf_go r (i+1) (Og i b s) (fun x hx=>hb x (List.mem_cons_of_mem _ hx)) (by rw [h2,hs])
    rw [F7]
    exact ⟨by rw [h3,h1];rfl,h4⟩
theorem tW:∀(bs:List Bd) (i:Nat) (s:Ds×Int),Od (gf s.1.sums) bs→F7 i bs s=s
  | [],i,s,_=>rfl
  | b::r,i,s,h=>by
    have h1:=h b (List.mem_cons_self ..)
    have h2:Og i b s=s:=by
      unfold Og
      have h':decide (Eu s.1.sums b.y+b.most<Eu s.1.sums b.x)=false:=decide_eq_false (fun h2=>by have h3:gf s.1.sums b.y.toNat+b.most<gf s.1.sums b.x.toNat:=h2;omega)
      rw [Cz h']
    rw [F7,h2]
    exact tW r (i+1) s fun x hx=>h x (List.mem_cons_of_mem _ hx)
theorem Xl {bs:List Bd}{n:Nat}(hb:∀b∈bs,b.x.toNat<n):∀(m:Nat) (s:Ds×Int),s.1.sums.length=n→Od (Hp bs (gf s.1.sums) m) bs→(D2 bs (m+1) s).2<0
  | 0,s,hs,hf=>by
    have h1:Jn bs s.1=(s.1,-1):=tW bs 0 (s.1,-1) hf
    rw [D2,if_pos (by rw [h1];exact decide_eq_true (show (-1:Int)<0 by decide)),h1]
    show (-1:Int)<0
    decide
  | m+1,s,hs,hf=>by
    rw [D2]
    by_cases h:decide ((Jn bs s.1).2<0)=true
    · rw [if_pos h];exact of_decide_eq_true h
    · rw [if_neg h]
      obtain ⟨h1,h2⟩:=gf_go (n:=n) bs 0 (s.1,-1) hb hs
      refine Xl hb m _ h2 ?_
      have h3:gf (Jn bs s.1).1.sums=Gj (gf s.1.sums) bs:=h1
      rw [h3,←Tk];exact hf
theorem gY {n:Nat}{bs:List Bd}{p:Int→Int}(hz:(I1 (zn n bs) != 0)=false)(hp:∀b∈bs,p b.x-p b.y≤b.most):(Er (zn n bs)).ok=true:=by
  have hk:=bQ (n:=(n:Int)) (bs:=bs) hz
  have hb:∀b∈bs,b.x.toNat<n∧b.y.toNat<n:=fun b h=>by have:=hk.2.2.2 b h;omega
  have hend:decide ((Ed (zn n bs)).2<0)=true:=by
    rw [Nh,decide_eq_true_eq]
    refine Xl (n:=n) (fun b h=>(hb b h).1) n _ (by simp) ?_
    have h0:gf (List.replicate n (0:Int))=fun _=>0:=funext fun k=>by
      unfold gf
      rw [List.getElem?_replicate];split <;> rfl
    show Od (Hp bs (gf (List.replicate n 0)) n) bs
    rw [h0]
    obtain ⟨M,hM⟩:∃M,∀k,(fun k:Nat=>if k<n then p (k:Int) else 0) k≤M:=by
      have key:∀n:Nat,∃M,0≤M∧∀k:Nat,k<n→p (k:Int)≤M:=by
        intro n
        induction n with
        | zero=>exact ⟨0,Int.le_refl _,fun k h=>absurd h (Nat.not_lt_zero _)⟩
        | succ n ih=>
          obtain ⟨M,h0,h1⟩:=ih
          refine ⟨max M (p (n:Int)),by omega,fun k hk=>?_⟩
          by_cases e:k=n
          · subst e;omega
          · have:=h1 k (by omega);omega
      obtain ⟨M,h0,h1⟩:=key n
      exact ⟨M,fun k=>by simp only;split;exact h1 k (by assumption);exact h0⟩
    refine lW (p:=fun k:Nat=>if k<n then p (k:Int) else 0) (M:=M) (fun b h=>?_) hM hb
    obtain ⟨h1,h2⟩:=hb b h
    have h3:=hp b h
    have h4:=hk.2.2.2 b h
    simp only
    rw [if_pos h1,if_pos h2,show ((b.x.toNat:Nat):Int)=b.x by omega,show ((b.y.toNat:Nat):Int)=b.y by omega]
    omega
  rw [V7 hz hend]
end Go.Proofs.YtkddpedfbicbeaaGreatDoor
