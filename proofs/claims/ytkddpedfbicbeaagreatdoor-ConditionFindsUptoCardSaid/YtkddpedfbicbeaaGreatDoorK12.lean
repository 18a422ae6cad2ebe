/-
  Several texts in one: S41, S43, S44, S45. No condition.
-/
import Derived.Test.YtkddpedfbicbeaaGreatDoorK10
import Derived.Test.YtkddpedfbicbeaaGreatDoorK11
set_option linter.unusedVariables false
set_option linter.unusedSimpArgs false
namespace Go.Proofs.YtkddpedfbicbeaaGreatDoor
open Go Go.Aw

/-! ### Relaxing functions -/
def Vp (f:Nat→Int)(b:Bd):Nat→Int:=fun k=>if k=b.x.toNat∧f b.y.toNat+b.most<f b.x.toNat then f b.y.toNat+b.most else f k
def Gy (f:Nat→Int)(es:List Bd):Nat→Int:=es.foldl Vp f
theorem mA (f:Nat→Int)(b:Bd)(k:Nat):Vp f b k≤f k:=by
 unfold Vp
 split
 · rename_i h;rw [h.1];omega
 · exact Int.le_refl _
theorem wT (f:Nat→Int)(b:Bd):Vp f b b.x.toNat≤f b.y.toNat+b.most:=by
 unfold Vp
 split
 · exact Int.le_refl _
 · rename_i h;omega
theorem uA {f:Nat→Int}{b:Bd}{k:Nat}(h:k≠b.x.toNat):Vp f b k=f k:=if_neg fun e=>h e.1
theorem lB {f:Nat→Int}{b:Bd}(h:¬f b.y.toNat+b.most<f b.x.toNat):Vp f b=f:=funext fun k=>if_neg fun e=>h e.2
theorem Ph:∀(es:List Bd) (f:Nat→Int) (k:Nat),Gy f es k≤f k
 | [],f,k=>Int.le_refl _
 | b::r,f,k=>Int.le_trans (Ph r (Vp f b) k) (mA f b k)
theorem pV (f:Nat→Int)(a b:List Bd):Gy f (a++b)=Gy (Gy f a) b:=List.foldl_append
/-- no bound is broken -/
def N9 (D:Nat→Int)(bs:List Bd):Prop:=∀b∈bs,D b.x.toNat≤D b.y.toNat+b.most
theorem nZ {D f:Nat→Int}{bs:List Bd}(hD:N9 D bs){b:Bd}(hb:b∈bs)(hf:∀k,D k≤f k):∀k,D k≤Vp f b k:=fun k=>by
 unfold Vp
 split
 ·
  rename_i h
  have:=hD b hb
  have:=hf b.y.toNat
  rw [h.1];omega
 · exact hf k
theorem R7 {D:Nat→Int}{bs:List Bd}(hD:N9 D bs):∀{es:List Bd} {f:Nat→Int},(∀b∈es,b∈bs)→(∀k,D k≤f k)→∀k,D k≤Gy f es k
 | [],f,_,hf=>hf
 | b::r,f,he,hf=>R7 hD (es:=r) (f:=Vp f b) (fun x hx=>he x (List.mem_cons_of_mem _ hx)) (nZ hD (he b (List.mem_cons_self ..)) hf)
/-- the next one that becomes final -/
theorem Rj {D:Nat→Int}{bs:List Bd}(hD:N9 D bs):∀{es:List Bd} {f:Nat→Int},(∀b∈es,b∈bs)→(∀k,D k≤f k)→Gy f es=D→(∃k,f k≠D k)→
    ∃b∈bs,f b.x.toNat≠D b.x.toNat∧f b.y.toNat=D b.y.toNat∧D b.x.toNat=D b.y.toNat+b.most
  | [],f,_,_,hr,⟨k,hk⟩=>absurd (congrFun hr k) hk
  | b::r,f,he,hf,hr,hne=>by
    have hb:=he b (List.mem_cons_self ..)
    have he':∀x∈r,x∈bs:=fun x hx=>he x (List.mem_cons_of_mem _ hx)
    by_cases hu:f b.y.toNat+b.most<f b.x.toNat
    · have h1:Vp f b b.x.toNat=f b.y.toNat+b.most:=if_pos ⟨rfl,hu⟩
      have h2:=hD b hb
      have h3:=hf b.y.toNat
      by_cases hv:f b.y.toNat+b.most=D b.x.toNat
      · exact ⟨b,hb,by omega,by omega,by omega⟩
      · have hl:=nZ hD hb hf
        obtain ⟨c,hc,c1,c2,c3⟩:=Rj hD (es:=r) (f:=Vp f b) he' hl hr ⟨b.x.toNat,by rw [h1];exact hv⟩
        have h4:=hl c.x.toNat
        have h5:=mA f b c.x.toNat
        refine ⟨c,hc,by omega,?_,c3⟩
        rw [←c2,uA]
        intro e
        rw [e,h1] at c2
        exact hv c2
    · have h1:=lB hu
      exact Rj hD (es:=r) (f:=f) he' hf (by rw [←h1];exact hr) hne
/-- within one round it becomes final -/
theorem fS {D f:Nat→Int}{bs:List Bd}(hD:N9 D bs)(hf:∀k,D k≤f k){b:Bd}(hb:b∈bs)(h1:f b.y.toNat=D b.y.toNat)(h2:D b.x.toNat=D b.y.toNat+b.most):Gy f bs b.x.toNat=D b.x.toNat:=by
 obtain ⟨p,q,e⟩:=List.append_of_mem hb
 have h3:=R7 hD (es:=bs) (fun x hx=>hx) hf b.x.toNat
 have h4:Gy f bs=Gy (Vp (Gy f p) b) q:=by rw [e,pV];rfl
 have h5:=Ph q (Vp (Gy f p) b) b.x.toNat
 have h6:=wT (Gy f p) b
 have h7:=Ph p f b.y.toNat
 rw [h4] at h3 ⊢
 omega
/-! ### Counting what is not final -/
def U6 (D f:Nat→Int)(n:Nat):Nat:=(List.range n).countP fun k=>f k != D k
theorem gA {α:Type}{p q:α→Bool}:∀{l:List α} {x:α},(∀y,p y=true→q y=true)→x∈l→q x=true→p x=false→l.countP p<l.countP q
  | a::r,x,h,hx,hq,hp=>by
    have hle:r.countP p≤r.countP q:=List.countP_mono_left fun y _ hy=>h y hy
    rcases List.mem_cons.1 hx with rfl | hx
    · rw [List.countP_cons,List.countP_cons,if_pos hq,if_neg (by rw [hp];decide)];omega
    · have:=gA h hx hq hp
      rw [List.countP_cons,List.countP_cons]
      by_cases ha:p a=true
      · rw [if_pos ha,if_pos (h a ha)];omega
      · rw [if_neg ha];split <;> omega
theorem rL {D f:Nat→Int}{n:Nat}(h:U6 D f n=0):∀k,k<n→f k=D k:=fun k hk=>by
 have:=List.countP_eq_zero.1 h k (List.mem_range.2 hk)
 simpa using this
def H0 (bs:List Bd)(f:Nat→Int):Nat→(Nat→Int)
 | 0=>f
 | m+1=>Gy (H0 bs f m) bs
theorem Ud (bs:List Bd):∀(m:Nat) (f:Nat→Int),H0 bs f (m+1)=H0 bs (Gy f bs) m
  | 0,f=>rfl
  | m+1,f=>by
    show Gy (H0 bs f (m+1)) bs=Gy (H0 bs (Gy f bs) m) bs
    rw [Ud bs m f]
theorem gV {D:Nat→Int}{bs:List Bd}(hD:N9 D bs){f:Nat→Int}(hf:∀k,D k≤f k):∀(m k:Nat),D k≤H0 bs f m k
 | 0,k=>hf k
 | m+1,k=>R7 hD (fun _ h=>h) (gV hD hf m) k
theorem pO (bs:List Bd)(f:Nat→Int):∀(m j:Nat),∃es:List Bd,(∀b∈es,b∈bs)∧Gy (H0 bs f j) es=H0 bs f (j+m)
  | 0,j=>⟨[],(fun b h=>by cases h),rfl⟩
  | m+1,j=>by
    obtain ⟨es,h1,h2⟩:=pO bs f m j
    refine ⟨es++bs,fun b hb=>?_,?_⟩
    · rcases List.mem_append.1 hb with h | h
      · exact h1 b h
      · exact h
    · rw [pV,h2];rfl
theorem cH {D:Nat→Int}:∀{bs:List Bd},N9 D bs→Gy D bs=D
  | [],_=>rfl
  | b::r,h=>by
    have h1:Vp D b=D:=lB (by have:=h b (List.mem_cons_self ..);omega)
    show Gy (Vp D b) r=D
    rw [h1];exact cH fun x hx=>h x (List.mem_cons_of_mem _ hx)
/-- every round closes one, as long as one is open -/
theorem lP {D f:Nat→Int}{bs:List Bd}{n:Nat}(hD:N9 D bs)(hbs:∀b∈bs,b.x.toNat<n)(hf:∀k,D k≤f k){es:List Bd}(he:∀b∈es,b∈bs)(hr:Gy f es=D):U6 D (Gy f bs) n=0∨U6 D (Gy f bs) n<U6 D f n:=by
 by_cases hne:∃k,f k≠D k
 ·
  obtain ⟨b,hb,h1,h2,h3⟩:=Rj hD he hf hr hne
  refine .inr (gA (x:=b.x.toNat) (fun y hy=>?_) (List.mem_range.2 (hbs b hb)) (by simpa using h1) (by simpa using fS hD hf hb h2 h3))
  have h4:=Ph bs f y
  have h5:=R7 hD (es:=bs) (fun _ h=>h) hf y
  simp only [bne_iff_ne,ne_eq] at hy ⊢
  omega
 ·
  have h1:f=D:=funext fun k=>by
   by_cases h:f k=D k
   · exact h
   · exact absurd ⟨k,h⟩ hne
  left
  rw [h1,cH hD]
  unfold U6
  rw [List.countP_eq_zero]
  intro k _;simp
theorem Zz {D f:Nat→Int}{bs:List Bd}{n m:Nat}(hD:N9 D bs)(hbs:∀b∈bs,b.x.toNat<n)(hf:∀k,D k≤f k)(hm:H0 bs f m=D):∀j,U6 D (H0 bs f j) n≤n-j
  | 0=>by
    have:=List.countP_le_length (p:=fun k=>f k != D k) (l:=List.range n)
    rw [List.length_range] at this
    exact this
  | j+1=>by
    have ih:=Zz hD hbs hf hm j
    have hes:∃es:List Bd,(∀b∈es,b∈bs)∧Gy (H0 bs f j) es=D:=by
      by_cases hj:j≤m
      · obtain ⟨es,h1,h2⟩:=pO bs f (m-j) j
        exact ⟨es,h1,by rw [h2,show j+(m-j)=m by omega,hm]⟩
      · refine ⟨[],(fun b h=>by cases h),?_⟩
        obtain ⟨d,rfl⟩:∃d,j=m+d:=⟨j-m,by omega⟩
        show H0 bs f (m+d)=D
        have:∀d,H0 bs f (m+d)=D:=by
          intro d
          induction d with
          | zero=>exact hm
          | succ d ihd=>show Gy (H0 bs f (m+d)) bs=D;rw [ihd,cH hD]
        exact this d
    obtain ⟨es,h1,h2⟩:=hes
    rcases lP hD hbs (gV hD hf j) h1 h2 with h | h
    · show U6 D (Gy (H0 bs f j) bs) n≤_
      omega
    · show U6 D (Gy (H0 bs f j) bs) n≤_
      omega
/-! ### An end -/
def yR (L f:Nat→Int)(n:Nat):Nat:=((List.range n).map fun k=>(f k-L k).toNat).sum
theorem qA {l:List Nat}{f g:Nat→Nat}(h:∀k∈l,f k≤g k):(l.map f).sum≤(l.map g).sum:=by
  induction l with
  | nil=>exact Nat.le_refl _
  | cons a r ih=>
    have:=h a (List.mem_cons_self ..)
    have:=ih fun k hk=>h k (List.mem_cons_of_mem _ hk)
    simp only [List.map_cons,List.sum_cons];omega
theorem sT {l:List Nat}{f g:Nat→Nat}{x:Nat}(h:∀k∈l,f k≤g k)(hx:x∈l)(hlt:f x<g x):(l.map f).sum<(l.map g).sum:=by
  induction l with
  | nil=>cases hx
  | cons a r ih=>
    have h1:=h a (List.mem_cons_self ..)
    simp only [List.map_cons,List.sum_cons]
    rcases List.mem_cons.1 hx with rfl | hx
    · have:=qA (l:=r) (f:=f) (g:=g) fun k hk=>h k (List.mem_cons_of_mem _ hk)
      omega
    · have:=ih (fun k hk=>h k (List.mem_cons_of_mem _ hk)) hx
      omega
theorem wV:∀{bs:List Bd} {f:Nat→Int} {k:Nat},Gy f bs k≠f k→∃b∈bs,b.x.toNat=k
  | [],f,k,h=>absurd rfl h
  | b::r,f,k,h=>by
    by_cases hk:k=b.x.toNat
    · exact ⟨b,List.mem_cons_self ..,hk.symm⟩
    · have h1:Gy (Vp f b) r k≠Vp f b k:=by rw [uA hk];exact h
      obtain ⟨c,hc,e⟩:=wV h1
      exact ⟨c,List.mem_cons_of_mem _ hc,e⟩
theorem nC:∀{bs:List Bd} {f:Nat→Int},Gy f bs=f→N9 f bs
  | [],f,_=>fun b h=>by cases h
  | b::r,f,h=>by
    have h1:Vp f b=f:=funext fun k=>by
      have h2:=congrFun h k
      have h3:=Ph r (Vp f b) k
      have h4:=mA f b k
      have h5:Gy (Vp f b) r k=f k:=h2
      omega
    have h2:Gy f r=f:=by
      have:Gy (Vp f b) r=f:=h
      rwa [h1] at this
    intro c hc
    rcases List.mem_cons.1 hc with rfl | hc
    · have:=wT f c
      rw [h1] at this;exact this
    · exact nC h2 c hc
theorem mF {L:Nat→Int}{bs:List Bd}{n:Nat}(hL:N9 L bs)(hbs:∀b∈bs,b.x.toNat<n):∀(μ:Nat) (f:Nat→Int),(∀k,L k≤f k)→yR L f n=μ→∃m,N9 (H0 bs f m) bs:=by
  intro μ
  induction μ using Nat.strongRecOn with
  | _ μ ih=>
    intro f hf hμ
    by_cases h:Gy f bs=f
    · exact ⟨0,nC h⟩
    · obtain ⟨k,hk⟩:∃k,Gy f bs k≠f k:=by
        by_cases hh:∃k,Gy f bs k≠f k
        · exact hh
        · exact absurd (funext fun k=>by
            by_cases h2:Gy f bs k=f k
            · exact h2
            · exact absurd ⟨k,h2⟩ hh) h
      obtain ⟨b,hb,hbk⟩:=wV hk
      have hl:=R7 hL (es:=bs) (fun _ h=>h) hf
      have hlt:yR L (Gy f bs) n<yR L f n:=by
        refine sT (x:=k) (fun j _=>?_) (List.mem_range.2 (by rw [←hbk];exact hbs b hb)) ?_
        · have:=Ph bs f j;omega
        · have:=Ph bs f k
          have:=hl k
          omega
      obtain ⟨m,hm⟩:=ih _ (by rw [←hμ];exact hlt) (Gy f bs) hl rfl
      exact ⟨m+1,by rw [Ud];exact hm⟩
/-- after so many rounds nothing is open -/
theorem kW {p:Nat→Int}{M:Int}{bs:List Bd}{n:Nat}(hp:N9 p bs)(hM:∀k,p k≤M)(hbs:∀b∈bs,b.x.toNat<n∧b.y.toNat<n):N9 (H0 bs (fun _=>0) n) bs:=by
 have hL:N9 (fun k=>p k-M) bs:=fun b hb=>by have:=hp b hb;simp only;omega
 obtain ⟨m,hm⟩:=mF (n:=n) hL (fun b hb=>(hbs b hb).1) _ (fun _=>0) (fun k=>by have:=hM k;omega) rfl
 have hlow:∀k,H0 bs (fun _=>0) m k≤0:=fun k=>by
  have:∀m,H0 bs (fun _=>0) m k≤0:=by
   intro m
   induction m with
   | zero=>exact Int.le_refl _
   | succ m ih=>exact Int.le_trans (Ph bs _ k) ih
  exact this m
 have h1:=Zz (n:=n) hm (fun b hb=>(hbs b hb).1) hlow rfl n
 have h2:=rL (n:=n) (D:=H0 bs (fun _=>0) m) (f:=H0 bs (fun _=>0) n) (by omega)
 intro b hb
 rw [h2 _ (hbs b hb).1,h2 _ (hbs b hb).2]
 exact hm b hb
/-! ### The lists -/
def gf (l:List Int):Nat→Int:=fun k=>(l[k]?).getD 0
theorem gf_rlx {i:Nat}{b:Bd}{s:Ds×Int}(hx:b.x.toNat<s.1.sums.length):gf (Oc i b s).1.sums=Vp (gf s.1.sums) b∧(Oc i b s).1.sums.length=s.1.sums.length:=by
 unfold Oc
 by_cases h:gf s.1.sums b.y.toNat+b.most<gf s.1.sums b.x.toNat
 ·
  have h':decide (E2 s.1.sums b.y+b.most<E2 s.1.sums b.x)=true:=decide_eq_true h
  rw [if_pos h']
  refine ⟨funext fun k=>?_,by simp⟩
  unfold Vp
  by_cases hk:k=b.x.toNat
  ·
   subst hk
   rw [if_pos ⟨rfl,h⟩]
   show ((s.1.sums.set b.x.toNat _)[b.x.toNat]?).getD 0=_
   rw [List.getElem?_set_self hx];rfl
  ·
   rw [if_neg fun e=>hk e.1]
   show ((s.1.sums.set b.x.toNat _)[k]?).getD 0=_
   rw [List.getElem?_set_ne (fun e=>hk e.symm)];rfl
 ·
  have h':decide (E2 s.1.sums b.y+b.most<E2 s.1.sums b.x)=false:=decide_eq_false h
  rw [Ck h']
  exact ⟨(lB h).symm,rfl⟩
theorem gf_go {n:Nat}:∀(bs:List Bd) (i:Nat) (s:Ds×Int),(∀b∈bs,b.x.toNat<n)→s.1.sums.length=n→gf (F8 i bs s).1.sums=Gy (gf s.1.sums) bs∧(F8 i bs s).1.sums.length=n
  | [],i,s,_,hs=>⟨rfl,hs⟩
  | b::r,i,s,hb,hs=>by
    obtain ⟨h1,h2⟩:=gf_rlx (i:=i) (b:=b) (s:=s) (by rw [hs];exact hb b (List.mem_cons_self ..))
    obtain ⟨h3,h4⟩:=gf_go r (i+1) (Oc i b s) (fun x hx=>hb x (List.mem_cons_of_mem _ hx)) (by rw [h2,hs])
    rw [F8]
    exact ⟨by rw [h3,h1];rfl,h4⟩
theorem zO:∀(bs:List Bd) (i:Nat) (s:Ds×Int),N9 (gf s.1.sums) bs→F8 i bs s=s
  | [],i,s,_=>rfl
  | b::r,i,s,h=>by
    have h1:=h b (List.mem_cons_self ..)
    have h2:Oc i b s=s:=by
      unfold Oc
      have h':decide (E2 s.1.sums b.y+b.most<E2 s.1.sums b.x)=false:=decide_eq_false (fun h2=>by have h3:gf s.1.sums b.y.toNat+b.most<gf s.1.sums b.x.toNat:=h2;omega)
      rw [Ck h']
    rw [F8,h2]
    exact zO r (i+1) s fun x hx=>h x (List.mem_cons_of_mem _ hx)
theorem Yz {bs:List Bd}{n:Nat}(hb:∀b∈bs,b.x.toNat<n):∀(m:Nat) (s:Ds×Int),s.1.sums.length=n→N9 (H0 bs (gf s.1.sums) m) bs→(D9 bs (m+1) s).2<0
  | 0,s,hs,hf=>by
    have h1:Js bs s.1=(s.1,-1):=zO bs 0 (s.1,-1) hf
    rw [D9,if_pos (by rw [h1];exact decide_eq_true (show (-1:Int)<0 by decide)),h1]
    show (-1:Int)<0
    decide
  | m+1,s,hs,hf=>by
    rw [D9]
    by_cases h:decide ((Js bs s.1).2<0)=true
    · rw [if_pos h];exact of_decide_eq_true h
    · rw [if_neg h]
      obtain ⟨h1,h2⟩:=gf_go (n:=n) bs 0 (s.1,-1) hb hs
      refine Yz hb m _ h2 ?_
      have h3:gf (Js bs s.1).1.sums=Gy (gf s.1.sums) bs:=h1
      rw [h3,←Ud];exact hf
/-- a zone with a model is solved -/
theorem gB {n:Nat}{bs:List Bd}{p:Int→Int}(hz:(I6 (zn n bs) != 0)=false)(hp:∀b∈bs,p b.x-p b.y≤b.most):(Ew (zn n bs)).ok=true:=by
  have hk:=cR (n:=(n:Int)) (bs:=bs) hz
  have hb:∀b∈bs,b.x.toNat<n∧b.y.toNat<n:=fun b h=>by have:=hk.2.2.2 b h;omega
  have hend:decide ((Em (zn n bs)).2<0)=true:=by
    rw [My,decide_eq_true_eq]
    refine Yz (n:=n) (fun b h=>(hb b h).1) n _ (by simp) ?_
    have h0:gf (List.replicate n (0:Int))=fun _=>0:=funext fun k=>by
      unfold gf
      rw [List.getElem?_replicate];split <;> rfl
    show N9 (H0 bs (gf (List.replicate n 0)) n) bs
    rw [h0]
    obtain ⟨M,hM⟩:∃M,∀k,(fun k:Nat=>if k<n then p (k:Int) else 0) k≤M:=by
      have key:∀n:Nat,∃M,0≤M∧∀k:Nat,k<n→p (k:Int)≤M:=by
        intro n
        induction n with
        | zero=>exact ⟨0,Int.le_refl _,fun k h=>absurd h (Nat.not_lt_zero _)⟩
        | succ n ih=>
          obtain ⟨M,h0,h1⟩:=ih
          refine ⟨max M (p (n:Int)),by omega,fun k hk=>?_⟩
          by_cases e:k=n
          · subst e;omega
          · have:=h1 k (by omega);omega
      obtain ⟨M,h0,h1⟩:=key n
      exact ⟨M,fun k=>by simp only;split;exact h1 k (by assumption);exact h0⟩
    refine kW (p:=fun k:Nat=>if k<n then p (k:Int) else 0) (M:=M) (fun b h=>?_) hM hb
    obtain ⟨h1,h2⟩:=hb b h
    have h3:=hp b h
    have h4:=hk.2.2.2 b h
    simp only
    rw [if_pos h1,if_pos h2,show ((b.x.toNat:Nat):Int)=b.x by omega,show ((b.y.toNat:Nat):Int)=b.y by omega]
    omega
  rw [V5 hz hend]

section
variable {T:List Sc} {V:List Va} {env:List (List Ev)}
/-- the forms that clauses hold -/
structure LitF (T:List Sc) (V:List Va) (y:Lit):Prop where
 kok:KOK T V y.cond
 size:At y.cond≤64
 kind:Am T V y.cond=1
 eqB:y.cond.op=9→Am T V (Ao y.cond)≠1
 eqI:y.cond.op=9→Am T V (Ao y.cond)=0→y.neg=false
theorem O8 {v:Vl}(h:Ap v=0):v.kind=0∨v.kind=1∨v.kind=2:=by
 unfold Ap at h
 split at h
 · rename_i h1;simp at h1;omega
 split at h
 · rename_i h1;simp at h1;omega
 · cases h
theorem wR (hE:EnvOK T V env){e:Ex}(hk:KOK T V e){b:Int}{s:Su}(h:(Bp e b s).2=true):Am T V e=0∨Am T V e=1∨Am T V e=2:=by
 have hz:=Be hk.nodes
 rcases Ox hz.1 with c | ⟨c,c1⟩ | ⟨c,hl⟩ | ⟨c,c1,c2,c3⟩
 ·
  have h1:Am T V e=e.val.kind:=by unfold Am;rw [if_pos (by rw [c];rfl)]
  rw [h1];exact O8 (Ia hz.1 (by simpa using c)).1
 ·
  obtain ⟨_,h2,h3⟩:=O4 hE hk c1
  rw [←h3];exact O8 h2
 ·
  left
  have ho:e.op=5∨e.op=6:=by simpa using c
  unfold Am
  rw [if_neg (by simp;omega),if_neg (by simp;omega),if_pos (by simp;omega)]
 · rw [Gx c c1 c2 c3] at h;cases h
theorem btw_lin {a b:Ex}(h:(Cj a b).2=true):(Bp a 1 Kx).2=true:=by
 unfold Cj at h
 cases h1:(Bp a 1 Kx).2 with
 | true=>rfl
 | false=>rw [h1] at h;cases h
theorem fO (hE:EnvOK T V env){y:Lit}(hf:LitF T V y)(ho:(y.cond.op==1)=false)(hn:(Aa T V y).2=true) :
    (y.cond.op=7∨y.cond.op=8∨y.cond.op=9)∧Am T V (Ao y.cond)=0∧Am T V (Bi y.cond)=0∧(Cj (Ao y.cond) (Bi y.cond)).2=true∧Aa T V y=Cj (Ao y.cond) (Bi y.cond):=by
  cases h2:(!Cv y.cond||Cr T V y.cond) with
  | true=>rw [nA ho h2] at hn;cases hn
  | false=>
    rw [bH ho h2] at hn
    have hc:=V0 h2
    have hop:y.cond.op=7∨y.cond.op=8∨y.cond.op=9:=by
      unfold Cv at hc
      simp only [Bool.or_eq_true,beq_iff_eq] at hc
      omega
    have ht:Cr T V y.cond=false:=by
      rw [Bool.or_eq_false_iff] at h2;exact h2.2
    have hl:=iE hf.kok (by omega) (by omega)
    have m0:=A6 (show 0<y.cond.args.length by omega)
    have m1:=Bk (show 1<y.cond.args.length by omega)
    have k0:Am T V (Ao y.cond)=0:=by
      rcases hop with h | h | h
      · have h1:=Pa hf.kok m0;unfold Mo at h1;rw [h] at h1;simpa using h1
      · have h1:=Pa hf.kok m0;unfold Mo at h1;rw [h] at h1;simpa using h1
      · rcases wR hE (A3 hf.kok m0) (btw_lin hn) with h3 | h3 | h3
        · exact h3
        · exact absurd h3 (hf.eqB h)
        · unfold Cr at ht
          rw [h,h3] at ht;cases ht
    have k1:Am T V (Bi y.cond)=0:=by
      rcases hop with h | h | h
      · have h1:=Pa hf.kok m1;unfold Mo at h1;rw [h] at h1;simpa using h1
      · have h1:=Pa hf.kok m1;unfold Mo at h1;rw [h] at h1;simpa using h1
      · rw [Im hf.kok h m1];exact k0
    exact ⟨hop,k0,k1,hn,bH ho h2⟩
def Tk (p:Int→Int)(b:Bd):Prop:=p b.x-p b.y≤b.most
theorem lit_iff (hE:EnvOK T V env){y:Lit}(hf:LitF T V y)(hn:(Aa T V y).2=true){p:Int→Int}{x z:Int}(hx:p x=fU (T2 env) (Aa T V y).1.plus)(hz:p z=fU (T2 env) (Aa T V y).1.minus) :
    (∀b∈D8 y x z (Aa T V y).1.rest,Tk p b)↔On env y=true:=by
  cases ho:y.cond.op==1 with
  | true=>
    have h1:y.cond.op=1:=by simpa using ho
    rw [aD ho] at hx hz ⊢
    obtain ⟨_,h2,h3⟩:=O4 hE hf.kok (by rw [ho];rfl)
    have hb:=Fa h2 (h3.trans hf.kind)
    have hv:T2 env (D3 y.cond)=(vl env y.cond).num:=by unfold T2;rw [K1 (Be hf.kok.nodes).1 (by rw [ho];rfl)]
    simp only [fU,List.map_cons,List.map_nil,List.sum_cons,List.sum_nil,hv] at hx hz
    have hnum:(vl env y.cond).num=0∨(vl env y.cond).num=1:=by rw [hb];cases (vl env y.cond).num==1 <;> simp [D5]
    have ht:tv env y.cond=((vl env y.cond).num==1):=rfl
    unfold On D8
    rw [ht]
    cases hneg:y.neg with
    | true=>
      simp only [h1]
      simp only [Tk,List.mem_singleton,forall_eq,beq_self_eq_true,Bool.true_and,Bool.true_or,if_true]
      rw [hx,hz]
      rcases hnum with h | h <;> rw [h] <;> simp
    | false=>
      simp only [h1]
      simp [Tk,hx,hz]
      rcases hnum with h | h <;> rw [h] <;> simp
  | false=>
    obtain ⟨hop,k0,k1,hb,he⟩:=fO hE hf ho hn
    have h1:y.cond.op≠1:=by simpa using ho
    have hl:=iE hf.kok (by omega) (by omega)
    have m0:=A6 (show 0<y.cond.args.length by omega)
    have m1:=Bk (show 1<y.cond.args.length by omega)
    have hsz:=Dy (e:=y.cond) (by omega)
    have hs:=hf.size
    obtain ⟨hv,_,_⟩:=jV hE (A3 hf.kok m0) (A3 hf.kok m1) k0 k1 (by omega) hb
    rw [he] at hx hz ⊢
    rw [←hx,←hz] at hv
    unfold On D8
    rcases hop with h | h | h
    · rw [Sr hE.suits hf.kok h,h]
      cases hneg:y.neg <;> simp [Tk] <;> omega
    · rw [mP hE.suits hf.kok h,h]
      cases hneg:y.neg <;> simp [Tk] <;> omega
    · rw [yV hE.suits hf.kok h k0,h,hf.eqI h k0]
      simp [Tk]
      omega
/-! ### The system of a clause -/
def pv (τ:Tm→Int)(ts:List Tm)(k:Int):Int:=if k≤0 then 0 else ((ts[(k-1).toNat]?).map τ).getD 0
theorem oK:∀{ts:List Tm} {t:Tm},t∈ts→ts[ts.idxOf t]? = some t
  | u::r,t,h=>by
    rw [List.idxOf_cons]
    by_cases e:u=t
    · subst e;simp
    · have h1:(u==t)=false:=by simpa using e
      rw [h1]
      rcases List.mem_cons.1 h with rfl | h
      · exact absurd rfl e
      · simpa using oK h
theorem pY:∀{ts r:List Tm} {t:Tm},t∈ts→(ts++r).idxOf t=ts.idxOf t
  | u::s,r,t,h=>by
    rw [List.cons_append,List.idxOf_cons,List.idxOf_cons]
    by_cases e:u=t
    · subst e;simp
    · have h1:(u==t)=false:=by simpa using e
      rw [h1]
      rcases List.mem_cons.1 h with rfl | h
      · exact absurd rfl e
      · simp [pY h]
theorem vH {τ:Tm→Int}{ts l:List Tm}(hl:l.length≤1)(h:∀t∈l,t∈ts):pv τ ts (B6 ts l)=fU τ l:=by
  match l,hl with
  | [],_=>rfl
  | [t],_=>
    have hm:=oK (h t (List.mem_cons_self ..))
    show pv τ ts (((ts.idxOf t:Nat):Int)+1)=_
    unfold pv
    rw [if_neg (by omega),show ((((ts.idxOf t:Nat):Int)+1)-1).toNat=ts.idxOf t by omega,hm]
    simp [fU]
theorem oT {ts r l:List Tm}(h:∀t∈l,t∈ts):B6 (ts++r) l=B6 ts l:=by
  match l with
  | []=>rfl
  | t::_=>
    show (((ts++r).idxOf t:Nat):Int)+1=_
    rw [pY (h t (List.mem_cons_self ..))];rfl
theorem aL (ts l:List Tm):∃r,A4 ts l=ts++r:=by
 unfold A4
 split
 · exact ⟨[],by simp⟩
 ·
  split
  · exact ⟨[],by simp⟩
  · exact ⟨_,rfl⟩
theorem Z2 {ts l:List Tm}(hl:l.length≤1):∀t∈l,t∈A4 ts l:=by
  match l,hl with
  | [],_=>intro t h;cases h
  | [u],_=>
    intro t h
    rw [List.mem_singleton.1 h]
    unfold A4
    simp only
    split
    · rename_i h1;simpa using h1
    · simp
def Ol (T:List Sc)(V:List Va)(ts:List Tm)(c:Lit):List Bd:=if (Aa T V c).2 then D8 c (B6 ts (Aa T V c).1.plus) (B6 ts (Aa T V c).1.minus) (Aa T V c).1.rest else []
theorem jN {c:Lit}(h:(Aa T V c).2=true):(Aa T V c).1.plus.length≤1∧(Aa T V c).1.minus.length≤1:=by
 unfold Aa at h ⊢
 split
 · exact ⟨Nat.le_refl _,Nat.zero_le _⟩
 ·
  rename_i h1
  rw [if_neg h1] at h
  split
  · exact ⟨Nat.zero_le _,Nat.zero_le _⟩
  ·
   rename_i h2
   rw [if_neg h2] at h
   unfold Cj at h ⊢
   split
   · exact ⟨Nat.zero_le _,Nat.zero_le _⟩
   ·
    rename_i h3
    rw [if_neg h3] at h
    split
    · exact ⟨Nat.zero_le _,Nat.zero_le _⟩
    ·
     rename_i h4
     rw [if_neg h4] at h
     unfold Rx at h ⊢
     split
     ·
      rename_i h5
      rw [h5] at h
      simp only [Bool.and_eq_true,decide_eq_true_eq] at h
      exact ⟨by simp only;omega,by simp only;omega⟩
     · exact ⟨Nat.zero_le _,Nat.zero_le _⟩
theorem V2:∀(l:List Lit) (s:Sy),(∃r,(l.foldl (Df T V) s).ts=s.ts++r)∧(l.foldl (Df T V) s).bs=s.bs++l.flatMap (Ol T V (l.foldl (Df T V) s).ts)∧
    ∀c∈l,(Aa T V c).2=true→(∀t∈(Aa T V c).1.plus,t∈(l.foldl (Df T V) s).ts)∧∀t∈(Aa T V c).1.minus,t∈(l.foldl (Df T V) s).ts
  | [],s=>⟨⟨[],by simp⟩,by simp,fun c h=>by cases h⟩
  | c::r,s=>by
    rw [List.foldl_cons]
    obtain ⟨⟨q,h1⟩,h2,h3⟩:=V2 r (Df T V s c)
    cases hn:(Aa T V c).2 with
    | false=>
      have hs:Df T V s c=s:=Ly (by rw [hn];rfl)
      rw [hs] at h1 h2 h3 ⊢
      refine ⟨⟨q,h1⟩,?_,fun d hd hdn=>?_⟩
      · rw [h2,List.flatMap_cons]
        have:Ol T V (r.foldl (Df T V) s).ts c = []:=by unfold Ol;rw [hn];rfl
        rw [this];rfl
      · rcases List.mem_cons.1 hd with rfl | hd
        · rw [hn] at hdn;cases hdn
        · exact h3 d hd hdn
    | true=>
      have hs:=Lq (T:=T) (V:=V) (s:=s) (c:=c) (by rw [hn];rfl)
      obtain ⟨lp,lm⟩:=jN hn
      obtain ⟨r1,e1⟩:=aL s.ts (Aa T V c).1.plus
      obtain ⟨r2,e2⟩:=aL (A4 s.ts (Aa T V c).1.plus) (Aa T V c).1.minus
      have hts:(Df T V s c).ts=A4 (A4 s.ts (Aa T V c).1.plus) (Aa T V c).1.minus:=by rw [hs]
      have hp:∀t∈(Aa T V c).1.plus,t∈A4 s.ts (Aa T V c).1.plus:=Z2 lp
      have hm:∀t∈(Aa T V c).1.minus,t∈A4 (A4 s.ts (Aa T V c).1.plus) (Aa T V c).1.minus:=Z2 lm
      have hF:(r.foldl (Df T V) (Df T V s c)).ts=A4 s.ts (Aa T V c).1.plus++(r2++q):=by rw [h1,hts,e2,List.append_assoc]
      have hF2:(r.foldl (Df T V) (Df T V s c)).ts=A4 (A4 s.ts (Aa T V c).1.plus) (Aa T V c).1.minus++q:=by rw [h1,hts]
      refine ⟨⟨r1++(r2++q),by rw [hF,e1,List.append_assoc]⟩,?_,fun d hd hdn=>?_⟩
      · rw [h2,List.flatMap_cons,←List.append_assoc]
        congr 1
        unfold Ol
        rw [hn,if_pos rfl]
        have n1:B6 (r.foldl (Df T V) (Df T V s c)).ts (Aa T V c).1.plus=B6 (A4 s.ts (Aa T V c).1.plus) (Aa T V c).1.plus:=by rw [hF];exact oT hp
        have n2:B6 (r.foldl (Df T V) (Df T V s c)).ts (Aa T V c).1.minus=B6 (A4 (A4 s.ts (Aa T V c).1.plus) (Aa T V c).1.minus) (Aa T V c).1.minus:=by rw [hF2];exact oT hm
        rw [n1,n2,hs]
      · rcases List.mem_cons.1 hd with rfl | hd
        · exact ⟨fun t ht=>by rw [hF];exact List.mem_append_left _ (hp t ht),fun t ht=>by rw [hF2];exact List.mem_append_left _ (hm t ht)⟩
        · exact h3 d hd hdn
/-- the bounds of the literals hold exactly if the literals with numbers are true -/
theorem oM (hE:EnvOK T V env){l:List Lit}(hf:∀y∈l,LitF T V y):(∀b∈(Ci T V l).bs,Tk (pv (T2 env) (Ci T V l).ts) b)↔∀y∈l,(Aa T V y).2=true→On env y=true:=by
 obtain ⟨_,h2,h3⟩:=V2 (T:=T) (V:=V) l ⟨[],[]⟩
 have h2':(Ci T V l).bs=l.flatMap (Ol T V (Ci T V l).ts):=by
  show (l.foldl (Df T V) ⟨[],[]⟩).bs=_
  rw [h2];rfl
 rw [h2']
 have each:∀y∈l,(Aa T V y).2=true→((∀b∈Ol T V (Ci T V l).ts y,Tk (pv (T2 env) (Ci T V l).ts) b)↔On env y=true):=fun y hy hn=>by
  obtain ⟨m1,m2⟩:=h3 y hy hn
  obtain ⟨l1,l2⟩:=jN hn
  unfold Ol
  rw [hn,if_pos rfl]
  exact lit_iff hE (hf y hy) hn (vH l1 m1) (vH l2 m2)
 constructor
 ·
  intro h y hy hn
  exact (each y hy hn).1 fun b hb=>h b (List.mem_flatMap.2 ⟨y,hy,hb⟩)
 ·
  intro h b hb
  obtain ⟨y,hy,hb⟩:=List.mem_flatMap.1 hb
  cases hn:(Aa T V y).2 with
  | true=>exact (each y hy hn).2 (h y hy hn) b hb
  | false=>unfold Ol at hb;rw [hn] at hb;cases hb
end

section
variable {T:List Sc} {V:List Va} {env:List (List Ev)}
/-! ### the forms of clauses -/
def H9 (P:Lit→Prop)(c:Cs):Prop:=∀x∈c.1,∀y∈x,P y
theorem Jk {P:Lit→Prop}{a b:Cs}(ha:H9 P a)(hb:H9 P b):H9 P (En a b):=by
 unfold En
 split
 · intro x hx;cases hx
 ·
  unfold Ma
  split
  · intro x hx;cases hx
  ·
   intro x hx y hy
   obtain ⟨p,hp,hm⟩:=List.mem_flatMap.1 hx
   obtain ⟨q,hq,rfl⟩:=List.mem_map.1 hm
   rcases List.mem_append.1 hy with h | h
   · exact ha p hp y h
   · exact hb q hq y h
theorem Vi {P:Lit→Prop}{a b:Cs}(ha:H9 P a)(hb:H9 P b):H9 P (Jh a b):=by
 unfold Jh
 split
 · intro x hx;cases hx
 ·
  intro x hx y hy
  rcases List.mem_append.1 hx with h | h
  · exact ha x h y hy
  · exact hb x h y hy
theorem Q4 {P:Lit→Prop}{l:List Lit}(h:∀y∈l,P y):H9 P (Eg l):=by
 intro x hx y hy
 unfold Eg at hx
 obtain ⟨z,hz,rfl⟩:=List.mem_map.1 hx
 rw [List.mem_singleton.1 hy]
 exact h z hz
def eqF (T:List Sc)(V:List Va)(y:Lit):Prop:=(y.cond.op=9→Am T V (Ao y.cond)≠1)∧(y.cond.op=9→Am T V (Ao y.cond)=0→y.neg=false)
theorem lD (e:Ex):KOK T V e→∀s,H9 (eqF T V) (Dc T V e s):=by
 refine Ex.Abb (P:=fun e=>KOK T V e→∀s,H9 (eqF T V) (Dc T V e s)) (fun e ih hk s=>?_) e
 rcases Lo s hk with h | ⟨h,hl⟩ | ⟨h,hl⟩ | ⟨h,hl,h1⟩ | ⟨h,hl,h1,h2⟩ | ⟨_,_,_,h,h9⟩
 ·
  cases h1:((e.val.num==1)==s) with
  | true=>rw [Gg h h1];intro x hx y hy;rw [List.mem_singleton.1 hx] at hy;cases hy
  | false=>rw [Ge h h1];intro x hx;cases hx
 · rw [Gl hl h];exact ih _ (A6 hl) (A3 hk (A6 hl)) _
 ·
  have m0:=A6 (show 0<e.args.length by omega)
  have m1:=Bk hl
  cases h1:((e.op==10)==s) with
  | true=>rw [Gf hl h h1];exact Jk (ih _ m0 (A3 hk m0) _) (ih _ m1 (A3 hk m1) _)
  | false=>rw [Gd hl h h1];exact Vi (ih _ m0 (A3 hk m0) _) (ih _ m1 (A3 hk m1) _)
 ·
  have m0:=A6 (show 0<e.args.length by omega)
  have m1:=Bk hl
  have i0:=ih _ m0 (A3 hk m0)
  have i1:=ih _ m1 (A3 hk m1)
  rw [Gc hl h h1]
  exact Vi (Jk (i0 _) (i1 _)) (Jk (i0 _) (i1 _))
 ·
  rw [Gj h h1 h2]
  refine Q4 fun y hy=>?_
  rcases List.mem_cons.1 hy with rfl | hy
  · exact ⟨fun h=>absurd (show (7:Int)=9 from h) (by decide),fun h=>absurd (show (7:Int)=9 from h) (by decide)⟩
  · rw [List.mem_singleton.1 hy];exact ⟨fun h=>absurd (show (7:Int)=9 from h) (by decide),fun h=>absurd (show (7:Int)=9 from h) (by decide)⟩
 ·
  rw [h]
  refine Q4 fun y hy=>?_
  rw [List.mem_singleton.1 hy]
  refine ⟨fun ho=>?_,fun ho h0=>?_⟩
  ·
   have:=(h9 (by simpa using ho)).1
   simpa using this
  ·
   have:=(h9 (by simpa using ho)).2
   rw [h0] at this
   simpa using this
theorem sB {e:Ex}(hk:KOK T V e)(h1:Am T V e=1)(hs:At e≤64)(s:Bool):H9 (LitF T V) (Dc T V e s):=fun x hx y hy=>by
 have a:=Pw e hk s x hx y hy
 have b:=mW e hk h1 s x hx y hy
 have c:=lD e hk s x hx y hy
 exact ⟨a.1,Nat.le_trans a.2 hs,b,c.1,c.2⟩
theorem Wu {l:List Lit}(h:∀y∈l,LitF T V y):Vk T V l:=fun y hy=>⟨(h y hy).kok,(h y hy).size⟩
/-! ### zones -/
theorem Tn {α:Type}{f:α→Int}:∀{l:List α},(∀x∈l,f x=0)→Aq f l=0
  | [],_=>rfl
  | a::r,h=>by
    rw [Aq,if_neg (by rw [h a (List.mem_cons_self ..)];decide)]
    exact Tn fun x hx=>h x (List.mem_cons_of_mem _ hx)
theorem Ve {ts l:List Tm}(h:∀t∈l,t∈ts):0≤B6 ts l∧B6 ts l≤(ts.length:Int):=by
  match l with
  | []=>exact ⟨Int.le_refl _,by show (0:Int)≤_;omega⟩
  | t::r=>
    have:=List.idxOf_lt_length_of_mem (h t (List.mem_cons_self ..))
    show 0≤((ts.idxOf t:Nat):Int)+1∧((ts.idxOf t:Nat):Int)+1≤_
    omega
theorem rR {c:Lit}{x z r:Int}:∀b∈D8 c x z r,(b.x=x∨b.x=z)∧(b.y=x∨b.y=z):=by
 intro b hb
 unfold D8 at hb
 repeat' split at hb
 all_goals
  simp only [List.mem_cons,List.not_mem_nil,or_false] at hb
  rcases hb with rfl | rfl <;> simp
theorem jE:∀(ts:List Tm) (i:Nat),∀b∈Hn T V i ts,0≤b.x∧b.x≤(i:Int)+ts.length∧0≤b.y∧b.y≤(i:Int)+ts.length
  | [],i,b,h=>by cases h
  | t::r,i,b,h=>by
    rw [Hn] at h
    rw [List.length_cons]
    rcases List.mem_cons.1 h with rfl | h
    · simp only;omega
    · rcases List.mem_cons.1 h with rfl | h
      · simp only;omega
      · have:=jE r (i+1) b h;omega
theorem sys_bs (l:List Lit):(Ci T V l).bs=l.flatMap (Ol T V (Ci T V l).ts):=by
 obtain ⟨_,h2,_⟩:=V2 (T:=T) (V:=V) l ⟨[],[]⟩
 show (l.foldl (Df T V) ⟨[],[]⟩).bs=_
 rw [h2];rfl
theorem Aag (l:List Lit):∀c∈l,(Aa T V c).2=true→(∀t∈(Aa T V c).1.plus,t∈(Ci T V l).ts)∧∀t∈(Aa T V c).1.minus,t∈(Ci T V l).ts:=
 (V2 (T:=T) (V:=V) l ⟨[],[]⟩).2.2
theorem nJ (l:List Lit):∀b∈(C9 T V l).bs,0≤b.x∧b.x<(C9 T V l).n∧0≤b.y∧b.y<(C9 T V l).n:=by
  intro b hb
  show 0≤b.x∧b.x<((Ci T V l).ts.length:Int)+1∧0≤b.y∧b.y<((Ci T V l).ts.length:Int)+1
  rcases List.mem_append.1 (show b∈Hn T V 0 (Ci T V l).ts++(Ci T V l).bs from hb) with h | h
  · have:=jE _ _ b h;omega
  · rw [sys_bs] at h
    obtain ⟨c,hc,hb⟩:=List.mem_flatMap.1 h
    cases hn:(Aa T V c).2 with
    | false=>unfold Ol at hb;rw [hn] at hb;cases hb
    | true=>
      unfold Ol at hb
      rw [hn,if_pos rfl] at hb
      obtain ⟨m1,m2⟩:=Aag l c hc hn
      have r1:=Ve m1
      have r2:=Ve m2
      obtain ⟨h1,h2⟩:=rR b hb
      rcases h1 with h1 | h1 <;> rcases h2 with h2 | h2 <;> omega
theorem sY {l:List Lit}(hl:Vk T V l)(hf:Ja (C9 T V l)=true):I6 (C9 T V l)=0:=by
 unfold Ja at hf
 simp only [Bool.and_eq_true,decide_eq_true_eq] at hf
 have hn:(C9 T V l).n=((Ci T V l).ts.length:Int)+1:=rfl
 unfold I6
 rw [if_neg (by simp;omega),if_neg (by simp;omega)]
 refine Tn fun b hb=>?_
 have h1:=nJ l b hb
 have h2:=Px hl b hb
 have hbig:Jp=140737488355329:=rfl
 unfold bdE
 rw [if_neg (by simp only [Bool.or_eq_true,decide_eq_true_eq];omega)]
/-! ### limits -/
theorem qH {v:Vl}(h:Ap v=0) : -1099511627776≤v.num∧v.num≤1099511627776:=by
 rcases O8 h with h1 | h1 | h1
 · exact Ui h (.inl h1)
 · exact Ui h (.inr h1)
 ·
  unfold Ap at h
  rw [if_neg (by rw [h1];decide),if_pos (by rw [h1];rfl)] at h
  split at h
  · cases h
  ·
   rename_i h2
   have:v.num=0:=by simpa using h2
   omega
theorem wF (hE:EnvOK T V env){t:Tm}(hk:KOK T V (Hq t))(ho:t.op=1∨t.op=2):(C1 T V t).1≤T2 env t∧T2 env t≤(C1 T V t).2:=by
  obtain ⟨h1,h2,h3⟩:=O4 hE hk (show ((Hq t).op==1||(Hq t).op==2)=true by show (t.op==1||t.op==2)=true;simpa using ho)
  have hr:=qH h2
  cases h:t.op==2 with
  | true=>rw [zF h];exact h1 h
  | false=>
    cases hb:Am T V (Hq t)==1 with
    | true=>
      rw [yZ h hb]
      have hb':Am T V (Hq t)=1:=by simpa using hb
      have:=Fa h2 (h3.trans hb')
      have hnum:(vl env (Hq t)).num=0∨(vl env (Hq t)).num=1:=by rw [this];cases (vl env (Hq t)).num==1 <;> simp [D5]
      show (0:Int)≤(vl env (Hq t)).num∧(vl env (Hq t)).num≤1
      omega
    | false=>rw [uD h hb];exact hr
theorem pv_zero (τ:Tm→Int)(ts:List Tm):pv τ ts 0=0:=rfl
theorem pv_at {τ:Tm→Int}{ts:List Tm}{k:Nat}{t:Tm}(h:ts[k]? = some t):pv τ ts ((k:Int)+1)=τ t:=by
 unfold pv
 rw [if_neg (by omega),show (((k:Int)+1)-1).toNat=k by omega,h];rfl
theorem aE {p:Int→Int}{τ:Tm→Int}(h0:p 0=0):∀(ts:List Tm) (i:Nat),(∀(k:Nat) (t:Tm),ts[k]? = some t→p ((i:Int)+k+1)=τ t)→(∀t∈ts,(C1 T V t).1≤τ t∧τ t≤(C1 T V t).2)→∀b∈Hn T V i ts,Tk p b
  | [],i,_,_,b,h=>by cases h
  | t::r,i,hp,hl,b,h=>by
    have h1:=hp 0 t rfl
    have h2:=hl t (List.mem_cons_self ..)
    rw [show (i:Int)+((0:Nat):Int)+1=(i:Int)+1 by omega] at h1
    rw [Hn] at h
    rcases List.mem_cons.1 h with rfl | h
    · show p ((i:Int)+1)-p 0≤_;rw [h0,h1];simp only;omega
    · rcases List.mem_cons.1 h with rfl | h
      · show p 0-p ((i:Int)+1)≤_;rw [h0,h1];simp only;omega
      · refine aE h0 r (i+1) (fun k u hk=>?_) (fun u hu=>hl u (List.mem_cons_of_mem _ hu)) b h
        rw [show ((i+1:Nat):Int)+k+1=(i:Int)+((k+1:Nat):Int)+1 by omega]
        exact hp (k+1) u (by simpa using hk)
theorem iZ (hE:EnvOK T V env){l:List Lit}(hf:∀y∈l,LitF T V y)(hfit:Ja (C9 T V l)=true)(ht:∀y∈l,On env y=true):(Ew (C9 T V l)).ok=true:=by
 have hl:=Wu hf
 have hz:=sY hl hfit
 rw [oC] at hz ⊢
 refine gB (p:=pv (T2 env) (Ci T V l).ts) (by rw [hz];rfl) fun b hb=>?_
 rcases List.mem_append.1 (show b∈Hn T V 0 (Ci T V l).ts++(Ci T V l).bs from hb) with h | h
 ·
  refine aE (p:=pv (T2 env) (Ci T V l).ts) (τ:=T2 env) rfl _ 0 (fun k t hk=>?_) (fun t ht'=>?_) b h
  · rw [show ((0:Nat):Int)+(k:Int)+1=(k:Int)+1 by omega];exact pv_at hk
  · exact wF hE ((Lp hl).terms t ht') (kK hl t ht').op
 · exact (oM hE hf).2 (fun y hy _=>ht y hy) b h
/-! ### strings -/
def sg (env:List (List Ev))(x:Wd):Ft:=if x.const then x.text else (vl env (Hq x.field)).text
def tW (x:Wd):Prop:=(x.const=true→x.field=tm0)∧(x.const=false→x.text = [])
theorem iJ (e:Ex):tW (Cb e):=by
 unfold Cb
 split
 · exact ⟨fun _=>rfl,fun h=>(by cases h)⟩
 · exact ⟨fun h=>(by cases h),fun _=>rfl⟩
theorem sg_as {e:Ex}(hz:By e=0)(h:(e.op==0||e.op==1)=true):sg env (Cb e)=(vl env e).text:=by
  cases h0:e.op==0 with
  | true=>
    rw [dX h0]
    show e.val.text=(B0 _ e).1.text
    rw [Tb hz (by simpa using h0)]
  | false=>
    rw [h0,Bool.false_or] at h
    rw [cO h0]
    show (vl env (Hq (D3 e))).text=_
    rw [K1 hz (by rw [h];rfl)]
/-- an equation of strings -/
structure StrL (T:List Sc) (V:List Va) (c:Lit):Prop where
 op:c.cond.op=9
 len:c.cond.args.length=2
 d0:(Ao c.cond).op=0∨(Ao c.cond).op=1
 d1:(Bi c.cond).op=0∨(Bi c.cond).op=1
 k0:Am T V (Ao c.cond)=2
 k1:Am T V (Bi c.cond)=2
 m0:Ao c.cond∈c.cond.args
 m1:Bi c.cond∈c.cond.args
theorem Wf {c:Lit}(hk:KOK T V c.cond)(h:Cr T V c.cond=true)(h2:B7 T V c.cond=true):StrL T V c:=by
 obtain ⟨h3,h4⟩:=Te hk (show (!Cr T V c.cond || !B7 T V c.cond)=false by rw [h,h2];rfl)
 unfold Cr at h
 rw [Bool.and_eq_true] at h
 have m0:=A6 (show 0<c.cond.args.length by omega)
 have m1:=Bk (show 1<c.cond.args.length by omega)
 have ho:c.cond.op=9:=by simpa using h.1
 have hk0:Am T V (Ao c.cond)=2:=by simpa using h.2
 exact ⟨ho,h3,by simpa using h4 _ m0,by simpa using h4 _ m1,hk0,by rw [Im hk ho m1];exact hk0,m0,m1⟩
theorem U9 {s:Bool}{c:Lit}(h:Ce T V s c=true):c.neg = !s∧Cr T V c.cond=true∧B7 T V c.cond=true:=by
 unfold Ce at h
 rw [Bool.and_eq_true,Bool.and_eq_true] at h
 refine ⟨?_,h.2.1,h.2.2⟩
 have:=h.1
 cases hn:c.neg <;> cases s <;> rw [hn] at this <;> first | rfl | cases this
theorem Sw (hE:EnvOK T V env){e:Ex}(hk:KOK T V e)(h:e.op=0∨e.op=1):Ap (vl env e)=0∧(vl env e).kind=Am T V e:=by
 rcases h with h | h
 ·
  have hz:=(Be hk.nodes).1
  have hv:vl env e=e.val:=by show (B0 _ e).1=_;rw [Tb hz h]
  refine ⟨by rw [hv];exact (Ia hz h).1,Ry hE.suits hk⟩
 ·
  obtain ⟨_,h2,h3⟩:=O4 hE hk (by rw [h];rfl)
  exact ⟨h2,h3⟩
theorem V3 {v:Vl}(h:Ap v=0)(hk:v.kind=2):v.num=0:=by
 unfold Ap at h
 rw [if_neg (by rw [hk];decide),if_pos (by rw [hk];rfl)] at h
 split at h
 · cases h
 · rename_i h2;simpa using h2
theorem wL (hE:EnvOK T V env){c:Lit}(hk:KOK T V c.cond)(hs:StrL T V c):tv env c.cond=true↔sg env (Cb (Ao c.cond))=sg env (Cb (Bi c.cond)):=by
 have k0:=A3 hk hs.m0
 have k1:=A3 hk hs.m1
 rw [xP hE.suits hk hs.op,nO,sg_as (Be k0.nodes).1 (by simpa using hs.d0),sg_as (Be k1.nodes).1 (by simpa using hs.d1)]
 obtain ⟨a1,a2⟩:=Sw hE k0 hs.d0
 obtain ⟨b1,b2⟩:=Sw hE k1 hs.d1
 rw [hs.k0] at a2
 rw [hs.k1] at b2
 have a3:=V3 a1 a2
 have b3:=V3 b1 b2
 revert a2 a3 b2 b3
 generalize vl env (Ao c.cond)=v
 generalize vl env (Bi c.cond)=w
 intro a2 a3 b2 b3
 constructor
 · intro h;rw [h]
 ·
  intro h
  cases v;cases w
  simp_all
def wSg (env:List (List Ev))(w:Wm):Prop:=∀p∈w,sg env p.1=sg env p.2
def wWf (w:Wm):Prop:=∀p∈w,tW p.1∧tW p.2
theorem Xo {w:Wm}{x y:Wd}(h:Gb w x=some y):(x,y)∈w:=by
 obtain ⟨i,p,h1,h2,h3⟩:=aR h
 have:=List.mem_of_getElem? h1
 rw [←h2,←h3];exact this
theorem jU {w:Wm}(h:wSg env w):∀(n:Nat) (x:Wd),sg env (Qk w n x)=sg env x
  | 0,x=>rfl
  | n+1,x=>by
    rw [Qk]
    cases hg:Gb w x with
    | none=>rfl
    | some y=>simp only;rw [jU h n y,h _ (Xo hg)]
theorem iK {w:Wm}(h:wWf w):∀(n:Nat) (x:Wd),tW x→tW (Qk w n x)
  | 0,x,hx=>hx
  | n+1,x,hx=>by
    rw [Qk]
    cases hg:Gb w x with
    | none=>exact hx
    | some y=>exact iK h n y (h _ (Xo hg)).2
theorem fQ {a b:Wd}(ha:tW a)(hb:tW b)(h:(a.const&&b.const)=true)(ht:a.text=b.text):a=b:=by
 rw [Bool.and_eq_true] at h
 have h1:=ha.1 h.1
 have h2:=hb.1 h.2
 obtain ⟨c,t,f⟩:=a
 obtain ⟨c',t',f'⟩:=b
 simp only at h h1 h2 ht
 rw [h.1,h.2,h1,h2,ht]
theorem Aaz {w:Wm}{a b:Wd}(h:wWf w)(ha:tW a)(hb:tW b):wWf (Nz w a b).1:=by
 unfold Nz
 split
 · exact h
 split
 · exact h
 split
 ·
  intro p hp
  rcases List.mem_append.1 hp with hp | hp
  · exact h p hp
  · rw [List.mem_singleton.1 hp];exact ⟨hb,ha⟩
 ·
  intro p hp
  rcases List.mem_append.1 hp with hp | hp
  · exact h p hp
  · rw [List.mem_singleton.1 hp];exact ⟨ha,hb⟩
theorem qK {w:Wm}{c:Lit}(h:wWf w):wWf (E9 w c).1:=by rw [Jy];exact Aaz h (iK h _ _ (iJ _)) (iK h _ _ (iJ _))
theorem qR {w:Wm}{c:Lit}(h:wSg env w)(hw:wWf w)(he:sg env (Cb (Ao c.cond))=sg env (Cb (Bi c.cond))):(E9 w c).2=true∧wSg env (E9 w c).1:=by
  rw [Jy]
  have ha:=jU h w.length (Cb (Ao c.cond))
  have hb:=jU h w.length (Cb (Bi c.cond))
  have wa:=iK hw w.length _ (iJ (Ao c.cond))
  have wb:=iK hw w.length _ (iJ (Bi c.cond))
  change sg env (Cf w (Cb (Ao c.cond)))=_ at ha
  change sg env (Cf w (Cb (Bi c.cond)))=_ at hb
  change tW (Cf w (Cb (Ao c.cond))) at wa
  change tW (Cf w (Cb (Bi c.cond))) at wb
  have hab:sg env (Cf w (Cb (Ao c.cond)))=sg env (Cf w (Cb (Bi c.cond))):=by rw [ha,hb,he]
  revert wa wb hab
  generalize Cf w (Cb (Ao c.cond))=a
  generalize Cf w (Cb (Bi c.cond))=b
  intro wa wb hab
  unfold Nz
  by_cases hq:a=b
  · rw [if_pos hq];exact ⟨rfl,h⟩
  rw [if_neg hq]
  cases hc:(a.const&&b.const) with
  | true=>
    have h2:=hc
    rw [Bool.and_eq_true] at h2
    unfold sg at hab
    rw [if_pos h2.1,if_pos h2.2] at hab
    exact absurd (fQ wa wb hc hab) hq
  | false=>
    rw [Ck rfl]
    cases h3:a.const with
    | true=>
      rw [if_pos rfl]
      refine ⟨rfl,fun p hp=>?_⟩
      rcases List.mem_append.1 hp with hp | hp
      · exact h p hp
      · rw [List.mem_singleton.1 hp];exact hab.symm
    | false=>
      rw [Ck rfl]
      refine ⟨rfl,fun p hp=>?_⟩
      rcases List.mem_append.1 hp with hp | hp
      · exact h p hp
      · rw [List.mem_singleton.1 hp];exact hab
theorem dV:∀(l:List Lit) (w:Wm),(∀c∈l,Ce T V true c=true→sg env (Cb (Ao c.cond))=sg env (Cb (Bi c.cond)))→wSg env w→wWf w→(Jb T V l w).2=true∧wSg env (Jb T V l w).1
  | [],w,_,h,_=>⟨rfl,h⟩
  | c::r,w,hl,h,hw=>by
    have hr:=fun x hx=>hl x (List.mem_cons_of_mem _ hx)
    cases h1:Ce T V true c with
    | false=>rw [Md h1];exact dV r w hr h hw
    | true=>
      obtain ⟨h2,h3⟩:=qR (c:=c) h hw (hl c (List.mem_cons_self ..) h1)
      rw [Mk h1 h2]
      exact dV r _ hr h3 (qK hw)
theorem nG {w:Wm}(h:wSg env w):∀(l:List Lit),(∀c∈l,Ce T V false c=true→sg env (Cb (Ao c.cond))≠sg env (Cb (Bi c.cond)))→N6 T V w l=true
  | [],_=>rfl
  | c::r,hl=>by
    have hr:=nG h r fun x hx=>hl x (List.mem_cons_of_mem _ hx)
    rw [N6]
    cases h1:Ce T V false c with
    | false=>exact hr
    | true=>
      have h2:=hl c (List.mem_cons_self ..) h1
      rw [if_neg (by decide),if_neg ?_]
      · exact hr
      · intro he
        have h3:=congrArg (sg env) he
        rw [show sg env (Cf w (Cb (Ao c.cond)))=_ from jU h _ _,show sg env (Cf w (Cb (Bi c.cond)))=_ from jU h _ _] at h3
        exact h2 h3
theorem dS (hE:EnvOK T V env){l:List Lit}(hl:Vk T V l)(ht:∀y∈l,On env y=true):(Ej T V l).2=true:=by
 have key:∀{s:Bool} {c:Lit},c∈l→Ce T V s c=true→(tv env c.cond=true↔sg env (Cb (Ao c.cond))=sg env (Cb (Bi c.cond)))∧tv env c.cond=s:=fun {s c} hc hs=>by
  obtain ⟨h1,h2,h3⟩:=U9 hs
  have hk:=(hl c hc).1
  refine ⟨wL hE hk (Wf hk h2 h3),?_⟩
  have h4:=ht c hc
  unfold On at h4
  rw [h1] at h4
  cases hq:tv env c.cond <;> cases s <;> rw [hq] at h4 <;> first | rfl | cases h4
 obtain ⟨h1,h2⟩:=dV (T:=T) (V:=V) (env:=env) l [] (fun c hc hs=>(key hc hs).1.1 (key hc hs).2) (fun p hp=>by cases hp) (fun p hp=>by cases hp)
 unfold Ej
 rw [h1,Bool.true_and]
 refine nG h2 l fun c hc hs he=>?_
 have h3:=(key hc hs).1.2 he
 rw [(key hc hs).2] at h3
 cases h3
theorem mJ (hE:EnvOK T V env){l:List Lit}(hf:∀y∈l,LitF T V y)(ht:kD env l=true):Qq T V l=true:=by
 have ht':∀y∈l,On env y=true:=List.all_eq_true.1 ht
 cases h:Ja (C9 T V l) with
 | false=>exact uJ (by rw [h];rfl)
 | true=>rw [bR (by rw [h];rfl),dS hE (Wu hf) ht',iZ hE hf h ht'];rfl
/-! ### verdicts -/
theorem Yf:∀(l:List (List Lit)),(Zb T V 0 l).1≠2
  | []=>by show (0:Int)≠2;decide
  | c::r=>by
    rw [Zb]
    split
    · exact Yf r
    split
    · show (1:Int)≠2;decide
    · exact Yf r
theorem vC:∀{l:List (List Lit)} {o:Int},(∃c∈l,Qq T V c=true)→(Zb T V o l).1≠2
  | [],_,⟨c,hc,_⟩=>by cases hc
  | d::r,o,⟨c,hc,hk⟩=>by
    rw [Zb]
    split
    · rename_i h
      rw [Bool.and_eq_true] at h
      rcases List.mem_cons.1 hc with rfl | hc
      · rw [hk] at h;cases h.1
      · exact vC ⟨c,hc,hk⟩
    split
    · show (1:Int)≠2;decide
    · exact Yf r
theorem Xl (hE:EnvOK T V env){c:Cs}(hf:H9 (LitF T V) c)(ht:Py env c.1=true):(B5 T V c).1≠2:=by
  cases h:(!c.2) with
  | true=>rw [Yw h];show (0:Int)≠2;decide
  | false=>
    rw [cQ h]
    obtain ⟨x,hx,hx2⟩:=List.any_eq_true.1 ht
    exact vC ⟨x,hx,mJ hE (hf x hx) hx2⟩
/-- a verdict of yes has a clause that is solved and certain -/
theorem Xc:∀{l:List (List Lit)} {o:Int},o≠1→(Zb T V o l).1=1→∃c∈l,Qq T V c=true∧Lw T V c=true∧Zb T V o l=(1,oA T V c)
  | [],o,ho,h=>absurd h ho
  | c::r,o,ho,h=>by
    cases h1:(!Qq T V c&&decide ((c.length:Int)≤256)) with
    | true=>
      rw [jP h1] at h ⊢
      obtain ⟨d,hd,hx⟩:=Xc ho h
      exact ⟨d,List.mem_cons_of_mem _ hd,hx⟩
    | false=>
      cases h2:Lw T V c with
      | true=>
        refine ⟨c,List.mem_cons_self ..,?_,h2,nM h1 h2⟩
        rw [(Pn h2).2,Bool.and_true] at h1
        simpa using h1
      | false=>
        rw [uK h1 h2] at h ⊢
        obtain ⟨d,hd,hx⟩:=Xc (by decide) h
        exact ⟨d,List.mem_cons_of_mem _ hd,hx⟩
end

/-! ### sums that are not improved any more -/
theorem Yl {bs:List Bd}:∀(m:Nat) (s:Ds×Int),(D9 bs (m+1) s).2<0→∃d,D9 bs (m+1) s=Js bs d∧(Js bs d).2<0
  | 0,s,h=>by
    cases hq:decide ((Js bs s.1).2<0) with
    | true=>rw [Kk hq] at h ⊢;exact ⟨s.1,rfl,h⟩
    | false=>rw [Mg hq] at h;exact absurd h (of_decide_eq_false hq)
  | m+1,s,h=>by
    cases hq:decide ((Js bs s.1).2<0) with
    | true=>rw [Kk hq] at h ⊢;exact ⟨s.1,rfl,h⟩
    | false=>rw [Mg hq] at h ⊢;exact Yl m _ h
theorem sV {bs:List Bd}:∀{i:Nat} {s:Ds×Int},(∀b∈bs,0≤b.x)→0≤s.2→0≤(F8 i bs s).2:=by
  induction bs with
  | nil=>intro i s _ h;exact h
  | cons b r ih=>
    intro i s hb h
    rw [F8]
    refine ih (fun x hx=>hb x (List.mem_cons_of_mem _ hx)) ?_
    cases hq:decide (E2 s.1.sums b.y+b.most<E2 s.1.sums b.x) with
    | false=>rw [Yc hq];exact h
    | true=>rw [Pu hq];exact hb b (List.mem_cons_self ..)
theorem wJ:∀(bs:List Bd) (i:Nat) (s:Ds×Int),(∀b∈bs,0≤b.x)→(F8 i bs s).2<0→F8 i bs s=s∧N9 (gf s.1.sums) bs
  | [],i,s,_,h=>⟨rfl,fun b hb=>by cases hb⟩
  | b::r,i,s,hb,h=>by
    have hr:∀x∈r,0≤x.x:=fun x hx=>hb x (List.mem_cons_of_mem _ hx)
    rw [F8] at h ⊢
    cases hq:decide (E2 s.1.sums b.y+b.most<E2 s.1.sums b.x) with
    | true=>
      rw [Pu hq] at h
      have:=sV (i:=i+1) (s:=(⟨s.1.sums.set b.x.toNat (E2 s.1.sums b.y+b.most),s.1.last.set b.x.toNat (i:Int)⟩,b.x)) hr (hb b (List.mem_cons_self ..))
      omega
    | false=>
      rw [Yc hq] at h ⊢
      obtain ⟨h1,h2⟩:=wJ r (i+1) s hr h
      refine ⟨h1,fun c hc=>?_⟩
      rcases List.mem_cons.1 hc with rfl | hc
      · have h3:=of_decide_eq_false hq
        have h4:¬(gf s.1.sums c.y.toNat+c.most<gf s.1.sums c.x.toNat):=h3
        omega
      · exact h2 c hc
theorem tR {n:Nat}{bs:List Bd}(hm:∀b∈bs,-Jp≤b.most∧b.most≤Jp)(h:(Ew (zn n bs)).ok=true) :
    (Ew (zn n bs)).values.length=n∧E2 (Ew (zn n bs)).values 0=0∧∀b∈bs,Tk (E2 (Ew (zn n bs)).values) b:=by
  cases hz:I6 (zn n bs) != 0 with
  | true=>rw [Wl hz] at h;cases h
  | false=>
    cases he:decide ((Em (zn n bs)).2<0) with
    | false=>rw [dQ hz he] at h;cases h
    | true=>
      have hk:=nV hz hm
      have hs:=(kZ hk).s
      rw [V5 hz he]
      simp only [List.length_map]
      have he':=of_decide_eq_true he
      rw [My] at he'
      obtain ⟨d,h1,h2⟩:=Yl n _ he'
      obtain ⟨h3,h4⟩:=wJ bs 0 (d,-1) (fun b hb=>(hk.bd b hb).1) h2
      rw [←My] at h1
      have h5:(Em (zn n bs)).1=d:=by rw [h1];show (F8 0 bs (d,-1)).1=d;rw [h3]
      rw [h5] at hs ⊢
      have hix:∀k:Int,0≤k→k<(n:Int)→E2 (d.sums.map fun v=>v-E2 d.sums 0) k=E2 d.sums k-E2 d.sums 0:=fun k k0 k1=>by
        have hlt:k.toNat<d.sums.length:=by omega
        have hg:=List.getElem?_eq_getElem hlt
        show ((d.sums.map fun v=>v-E2 d.sums 0)[k.toNat]?).getD 0=(d.sums[k.toNat]?).getD 0-E2 d.sums 0
        rw [List.getElem?_map,hg];rfl
      have hn:=hk.n1
      refine ⟨hs,?_,fun b hb=>?_⟩
      · rw [hix 0 (by omega) (by omega)];omega
      · have hb2:=hk.bd b hb
        have h6:=h4 b hb
        have h7:E2 d.sums b.x≤E2 d.sums b.y+b.most:=h6
        show E2 _ b.x-E2 _ b.y≤b.most
        rw [hix b.x hb2.1 hb2.2.1,hix b.y hb2.2.2.1 hb2.2.2.2]
        omega
/-! ### classes of strings -/
inductive Root (w:Wm):Wd→Wd→Prop
 | here {x:Wd}:Gb w x=none→Root w x x
 | step {x y r:Wd}:Gb w x=some y→Root w y r→Root w x r
theorem Root.one {w:Wm}{x r s:Wd}(h:Root w x r):Root w x s→s=r:=by
  induction h with
  | here h=>
    intro h2
    cases h2 with
    | here _=>rfl
    | step h3 _=>rw [h] at h3;cases h3
  | step h1 _ ih=>
    intro h2
    cases h2 with
    | here h3=>rw [h1] at h3;cases h3
    | step h3 h4=>rw [h1] at h3;cases h3;exact ih h4
theorem nP {w:Wm}(hw:Rv w):∀(n:Nat) (x:Wd),qC w n x→Root w x (Qk w n x)
  | 0,x,h=>.here (Xg hw 0 x h)
  | n+1,x,h=>by
    cases hq:Gb w x with
    | none=>rw [V4 hq];exact .here hq
    | some y=>
      obtain ⟨h1,h2⟩:=Ti hw h hq
      rw [bU h1 hq]
      exact .step hq (nP hw n y h2)
theorem oH {w:Wm}(hw:Rv w)(x:Wd):Root w x (Cf w x):=nP hw _ _ (Rm w x)
theorem of_is {w:Wm}(hw:Rv w){x r:Wd}(h:Root w x r):Cf w x=r:=h.one (oH hw x)
theorem Pt {w:Wm}{k v x:Wd}:Gb (w ++ [(k,v)]) x=match Gb w x with | some y=>some y | none=>if k=x then some v else none:=by
  unfold Gb
  rw [List.find?_append]
  cases w.find? fun p=>decide (p.1=x) with
  | some p=>rfl
  | none=>
    simp only [Option.none_or,Option.map_none]
    by_cases h:k=x
    · rw [if_pos h];simp [h]
    · rw [if_neg h];simp [h]
theorem rB {w:Wm}{k v:Wd}(hv:Gb w v=none)(hkv:k≠v){x r:Wd}(h:Root w x r):Root (w ++ [(k,v)]) x (if r=k then v else r):=by
  induction h with
  | @here x h=>
    by_cases e:x=k
    · rw [if_pos e]
      refine .step (y:=v) (by rw [Pt,h];simp [e]) (.here ?_)
      rw [Pt,hv];simp [hkv]
    · rw [if_neg e]
      refine .here ?_
      rw [Pt,h];simp [Ne.symm e]
  | @step x y r h1 _ ih=>
    exact .step (y:=y) (by rw [Pt,h1]) ih
theorem Lz {w:Wm}(hw:Rv w){k v:Wd}(hv:Gb w v=none)(hkv:k≠v)(x:Wd):Cf (w ++ [(k,v)]) x=if Cf w x=k then v else Cf w x:=
 of_is (Xw hw hv hkv) (rB hv hkv (oH hw x))
def Qy (w:Wm)(x y:Wd):Prop:=Cf w x=Cf w y
theorem rH {w:Wm}(hw:Rv w){a b:Wd}(ha:Gb w a=none)(hb:Gb w b=none){x y:Wd}(h:Qy w x y):Qy (Nz w a b).1 x y:=by
 unfold Qy at *
 unfold Nz
 by_cases e:a=b
 · rw [if_pos e];exact h
 rw [if_neg e]
 split
 · exact h
 split
 · simp only;rw [Lz hw ha (fun q=>e q.symm),Lz hw ha (fun q=>e q.symm),h]
 · simp only;rw [Lz hw hb e,Lz hw hb e,h]
theorem Vh {w:Wm}(hw:Rv w){c:Lit}{x y:Wd}(h:Qy w x y):Qy (E9 w c).1 x y:=by rw [Jy];exact rH hw (I5 hw _) (I5 hw _) h
theorem eC {w:Wm}(hw:Rv w){c:Lit}(h:(E9 w c).2=true):Qy (E9 w c).1 (Cb (Ao c.cond)) (Cb (Bi c.cond)):=by
  rw [Jy] at h ⊢
  have fa:=I5 hw (Cb (Ao c.cond))
  have fb:=I5 hw (Cb (Bi c.cond))
  unfold Qy
  unfold Nz at h ⊢
  by_cases e:Cf w (Cb (Ao c.cond))=Cf w (Cb (Bi c.cond))
  · rw [if_pos e];exact e
  rw [if_neg e] at h ⊢
  cases hc:((Cf w (Cb (Ao c.cond))).const&&(Cf w (Cb (Bi c.cond))).const) with
  | true=>rw [hc,if_pos rfl] at h;cases h
  | false=>
    rw [Ck rfl]
    cases h3:(Cf w (Cb (Ao c.cond))).const with
    | true=>
      rw [if_pos rfl]
      simp only
      rw [Lz hw fa (fun q=>e q.symm),Lz hw fa (fun q=>e q.symm),if_neg e,if_pos rfl]
    | false=>
      rw [Ck rfl]
      simp only
      rw [Lz hw fb e,Lz hw fb e,if_pos rfl,if_neg (fun q=>e q.symm)]
section
variable {T:List Sc} {V:List Va}
theorem Tp:∀(l:List Lit) {w:Wm},Rv w→∀{x y:Wd},Qy w x y→Qy (Jb T V l w).1 x y
  | [],w,_,x,y,h=>h
  | c::r,w,hw,x,y,h=>by
    cases h1:Ce T V true c with
    | false=>rw [Md h1];exact Tp r hw h
    | true=>
      cases h2:(E9 w c).2 with
      | false=>rw [Mp h1 h2];exact Vh hw h
      | true=>rw [Mk h1 h2];exact Tp r (Mu hw c) (Vh hw h)
theorem Rh:∀(l:List Lit) {w:Wm},Rv w→(Jb T V l w).2=true→∀c∈l,Ce T V true c=true→Qy (Jb T V l w).1 (Cb (Ao c.cond)) (Cb (Bi c.cond))
  | [],w,_,_,c,hc,_=>by cases hc
  | d::r,w,hw,h,c,hc,hs=>by
    cases h1:Ce T V true d with
    | false=>
      rw [Md h1] at h ⊢
      rcases List.mem_cons.1 hc with rfl | hc
      · rw [h1] at hs;cases hs
      · exact Rh r hw h c hc hs
    | true=>
      cases h2:(E9 w d).2 with
      | false=>rw [Mp h1 h2] at h;cases h
      | true=>
        rw [Mk h1 h2] at h ⊢
        rcases List.mem_cons.1 hc with rfl | hc
        · exact Tp r (Mu hw c) (eC hw h2)
        · exact Rh r (Mu hw d) h c hc hs
theorem Rf {w:Wm}:∀(l:List Lit),N6 T V w l=true→∀c∈l,Ce T V false c=true→Cf w (Cb (Ao c.cond))≠Cf w (Cb (Bi c.cond))
  | [],_,c,hc,_=>by cases hc
  | d::r,h,c,hc,hs=>by
    rw [N6] at h
    cases h1:Ce T V false d with
    | false=>
      rw [h1] at h
      rcases List.mem_cons.1 hc with rfl | hc
      · rw [h1] at hs;cases hs
      · exact Rf r h c hc hs
    | true=>
      rw [h1,if_neg (by decide)] at h
      by_cases e:Cf w (Cb (Ao d.cond))=Cf w (Cb (Bi d.cond))
      · rw [if_pos e] at h;cases h
      · rw [if_neg e] at h
        rcases List.mem_cons.1 hc with rfl | hc
        · exact e
        · exact Rf r h c hc hs
/-! ### what the classes' map holds -/
/-- keys are no constants; keys and values are words of the clause -/
structure wGood (W:Wd→Prop) (w:Wm):Prop where
 key:∀p∈w,p.1.const=false
 val:∀p∈w,W p.2
theorem xU {W:Wd→Prop}{w:Wm}(h:wGood W w):∀(n:Nat) (x:Wd),W x→W (Qk w n x)
  | 0,x,hx=>hx
  | n+1,x,hx=>by
    rw [Qk]
    cases hg:Gb w x with
    | none=>exact hx
    | some y=>exact xU h n y (h.val _ (Xo hg))
theorem mR {W:Wd→Prop}{w:Wm}(h:wGood W w){x:Wd}(hx:W x):W (Cf w x):=xU h _ _ hx
theorem wI {W:Wd→Prop}{w:Wm}(h:wGood W w){x:Wd}(hx:x.const=true):Cf w x=x:=by
 have:Gb w x=none:=Ww fun p hp e=>by
  have:=h.key p hp
  rw [e,hx] at this;cases this
 exact V4 this
theorem U3 {W:Wd→Prop}{w:Wm}(h:wGood W w){c:Lit}(h0:W (Cb (Ao c.cond)))(h1:W (Cb (Bi c.cond))):wGood W (E9 w c).1:=by
  rw [Jy]
  have a:=mR h h0
  have b:=mR h h1
  revert a b
  generalize Cf w (Cb (Ao c.cond))=x
  generalize Cf w (Cb (Bi c.cond))=y
  intro a b
  unfold Nz
  split
  · exact h
  cases hc:(x.const&&y.const) with
  | true=>rw [if_pos rfl];exact h
  | false=>
    rw [Ck rfl]
    cases h3:x.const with
    | true=>
      rw [h3,Bool.true_and] at hc
      rw [if_pos rfl]
      refine ⟨fun p hp=>?_,fun p hp=>?_⟩
      · rcases List.mem_append.1 hp with hp | hp
        · exact h.key p hp
        · rw [List.mem_singleton.1 hp];exact hc
      · rcases List.mem_append.1 hp with hp | hp
        · exact h.val p hp
        · rw [List.mem_singleton.1 hp];exact a
    | false=>
      rw [Ck rfl]
      refine ⟨fun p hp=>?_,fun p hp=>?_⟩
      · rcases List.mem_append.1 hp with hp | hp
        · exact h.key p hp
        · rw [List.mem_singleton.1 hp];exact h3
      · rcases List.mem_append.1 hp with hp | hp
        · exact h.val p hp
        · rw [List.mem_singleton.1 hp];exact b
theorem Uk {W:Wd→Prop}:∀(l:List Lit) {w:Wm},(∀c∈l,Ce T V true c=true→W (Cb (Ao c.cond))∧W (Cb (Bi c.cond)))→wGood W w→wGood W (Jb T V l w).1
  | [],w,_,h=>h
  | c::r,w,hl,h=>by
    have hr:=fun x hx=>hl x (List.mem_cons_of_mem _ hx)
    cases h1:Ce T V true c with
    | false=>rw [Md h1];exact Uk r hr h
    | true=>
      obtain ⟨a,b⟩:=hl c (List.mem_cons_self ..) h1
      cases h2:(E9 w c).2 with
      | false=>rw [Mp h1 h2];exact U3 h a b
      | true=>rw [Mk h1 h2];exact Uk r hr (U3 h a b)
end
end Go.Proofs.YtkddpedfbicbeaaGreatDoor
