/-
  Several texts in one: S41, S43, S44, S45. No condition.
-/
import Derived.Test.YtkddpedfbicbeaaGreatDoorK10
import Derived.Test.YtkddpedfbicbeaaGreatDoorK11
set_option linter.unusedVariables false
set_option linter.unusedSimpArgs false
namespace Go.Proofs.YtkddpedfbicbeaaGreatDoor
open Go Go.Aw

/-! ### Relaxing functions -/
def Vm (f:Nat→Int)(b:Bd):Nat→Int:=fun k=>if k=b.x.toNat∧f b.y.toNat+b.most<f b.x.toNat then f b.y.toNat+b.most else f k
def Gz (f:Nat→Int)(es:List Bd):Nat→Int:=es.foldl Vm f
theorem mU (f:Nat→Int)(b:Bd)(k:Nat):Vm f b k≤f k:=by
 unfold Vm
 split
 · rename_i h;rw [h.1];omega
 · exact Int.le_refl _
theorem xL (f:Nat→Int)(b:Bd):Vm f b b.x.toNat≤f b.y.toNat+b.most:=by
 unfold Vm
 split
 · exact Int.le_refl _
 · rename_i h;omega
theorem uC {f:Nat→Int}{b:Bd}{k:Nat}(h:k≠b.x.toNat):Vm f b k=f k:=if_neg fun e=>h e.1
theorem kL {f:Nat→Int}{b:Bd}(h:¬f b.y.toNat+b.most<f b.x.toNat):Vm f b=f:=funext fun k=>if_neg fun e=>h e.2
theorem Pb:∀(es:List Bd) (f:Nat→Int) (k:Nat),Gz f es k≤f k
 | [],f,k=>Int.le_refl _
 | b::r,f,k=>Int.le_trans (Pb r (Vm f b) k) (mU f b k)
theorem nL (f:Nat→Int)(a b:List Bd):Gz f (a++b)=Gz (Gz f a) b:=List.foldl_append
/-- no bound is broken -/
def N9 (D:Nat→Int)(bs:List Bd):Prop:=∀b∈bs,D b.x.toNat≤D b.y.toNat+b.most
theorem pS {D f:Nat→Int}{bs:List Bd}(hD:N9 D bs){b:Bd}(hb:b∈bs)(hf:∀k,D k≤f k):∀k,D k≤Vm f b k:=fun k=>by
 unfold Vm
 split
 ·
  rename_i h
  have:=hD b hb
  have:=hf b.y.toNat
  rw [h.1];omega
 · exact hf k
theorem Se {D:Nat→Int}{bs:List Bd}(hD:N9 D bs):∀{es:List Bd} {f:Nat→Int},(∀b∈es,b∈bs)→(∀k,D k≤f k)→∀k,D k≤Gz f es k
 | [],f,_,hf=>hf
 | b::r,f,he,hf=>Se hD (es:=r) (f:=Vm f b) (fun x hx=>he x (List.mem_cons_of_mem _ hx)) (pS hD (he b (List.mem_cons_self ..)) hf)
/-- the next one that becomes final -/
theorem Rm {D:Nat→Int}{bs:List Bd}(hD:N9 D bs):∀{es:List Bd} {f:Nat→Int},(∀b∈es,b∈bs)→(∀k,D k≤f k)→Gz f es=D→(∃k,f k≠D k)→
    ∃b∈bs,f b.x.toNat≠D b.x.toNat∧f b.y.toNat=D b.y.toNat∧D b.x.toNat=D b.y.toNat+b.most
  | [],f,_,_,hr,⟨k,hk⟩=>absurd (congrFun hr k) hk
  | b::r,f,he,hf,hr,hne=>by
    have hb:=he b (List.mem_cons_self ..)
    have he':∀x∈r,x∈bs:=fun x hx=>he x (List.mem_cons_of_mem _ hx)
    by_cases hu:f b.y.toNat+b.most<f b.x.toNat
    · have h1:Vm f b b.x.toNat=f b.y.toNat+b.most:=if_pos ⟨rfl,hu⟩
      have h2:=hD b hb
      have h3:=hf b.y.toNat
      by_cases hv:f b.y.toNat+b.most=D b.x.toNat
      · exact ⟨b,hb,by omega,by omega,by omega⟩
      · have hl:=pS hD hb hf
        obtain ⟨c,hc,c1,c2,c3⟩:=Rm hD (es:=r) (f:=Vm f b) he' hl hr ⟨b.x.toNat,by rw [h1];exact hv⟩
        have h4:=hl c.x.toNat
        have h5:=mU f b c.x.toNat
        refine ⟨c,hc,by omega,?_,c3⟩
        rw [←c2,uC]
        intro e
        rw [e,h1] at c2
        exact hv c2
    · have h1:=kL hu
      exact Rm hD (es:=r) (f:=f) he' hf (by rw [←h1];exact hr) hne
/-- within one round it becomes final -/
theorem iA {D f:Nat→Int}{bs:List Bd}(hD:N9 D bs)(hf:∀k,D k≤f k){b:Bd}(hb:b∈bs)(h1:f b.y.toNat=D b.y.toNat)(h2:D b.x.toNat=D b.y.toNat+b.most):Gz f bs b.x.toNat=D b.x.toNat:=by
 obtain ⟨p,q,e⟩:=List.append_of_mem hb
 have h3:=Se hD (es:=bs) (fun x hx=>hx) hf b.x.toNat
 have h4:Gz f bs=Gz (Vm (Gz f p) b) q:=by rw [e,nL];rfl
 have h5:=Pb q (Vm (Gz f p) b) b.x.toNat
 have h6:=xL (Gz f p) b
 have h7:=Pb p f b.y.toNat
 rw [h4] at h3 ⊢
 omega
/-! ### Counting what is not final -/
def U9 (D f:Nat→Int)(n:Nat):Nat:=(List.range n).countP fun k=>f k != D k
theorem fR {α:Type}{p q:α→Bool}:∀{l:List α} {x:α},(∀y,p y=true→q y=true)→x∈l→q x=true→p x=false→l.countP p<l.countP q
  | a::r,x,h,hx,hq,hp=>by
    have hle:r.countP p≤r.countP q:=List.countP_mono_left fun y _ hy=>h y hy
    rcases List.mem_cons.1 hx with rfl | hx
    · rw [List.countP_cons,List.countP_cons,if_pos hq,if_neg (by rw [hp];decide)];omega
    · have:=fR h hx hq hp
      rw [List.countP_cons,List.countP_cons]
      by_cases ha:p a=true
      · rw [if_pos ha,if_pos (h a ha)];omega
      · rw [if_neg ha];split <;> omega
theorem rM {D f:Nat→Int}{n:Nat}(h:U9 D f n=0):∀k,k<n→f k=D k:=fun k hk=>by
 have:=List.countP_eq_zero.1 h k (List.mem_range.2 hk)
 simpa using this
def Hv (bs:List Bd)(f:Nat→Int):Nat→(Nat→Int)
 | 0=>f
 | m+1=>Gz (Hv bs f m) bs
theorem Tj (bs:List Bd):∀(m:Nat) (f:Nat→Int),Hv bs f (m+1)=Hv bs (Gz f bs) m
  | 0,f=>rfl
  | m+1,f=>by
    show Gz (Hv bs f (m+1)) bs=Gz (Hv bs (Gz f bs) m) bs
    rw [Tj bs m f]
theorem jV {D:Nat→Int}{bs:List Bd}(hD:N9 D bs){f:Nat→Int}(hf:∀k,D k≤f k):∀(m k:Nat),D k≤Hv bs f m k
 | 0,k=>hf k
 | m+1,k=>Se hD (fun _ h=>h) (jV hD hf m) k
theorem oS (bs:List Bd)(f:Nat→Int):∀(m j:Nat),∃es:List Bd,(∀b∈es,b∈bs)∧Gz (Hv bs f j) es=Hv bs f (j+m)
  | 0,j=>⟨[],(fun b h=>by cases h),rfl⟩
  | m+1,j=>by
    obtain ⟨es,h1,h2⟩:=oS bs f m j
    refine ⟨es++bs,fun b hb=>?_,?_⟩
    · rcases List.mem_append.1 hb with h | h
      · exact h1 b h
      · exact h
    · rw [nL,h2];rfl
theorem eF {D:Nat→Int}:∀{bs:List Bd},N9 D bs→Gz D bs=D
  | [],_=>rfl
  | b::r,h=>by
    have h1:Vm D b=D:=kL (by have:=h b (List.mem_cons_self ..);omega)
    show Gz (Vm D b) r=D
    rw [h1];exact eF fun x hx=>h x (List.mem_cons_of_mem _ hx)
/-- every round closes one, as long as one is open -/
theorem kY {D f:Nat→Int}{bs:List Bd}{n:Nat}(hD:N9 D bs)(hbs:∀b∈bs,b.x.toNat<n)(hf:∀k,D k≤f k){es:List Bd}(he:∀b∈es,b∈bs)(hr:Gz f es=D):U9 D (Gz f bs) n=0∨U9 D (Gz f bs) n<U9 D f n:=by
 by_cases hne:∃k,f k≠D k
 ·
  obtain ⟨b,hb,h1,h2,h3⟩:=Rm hD he hf hr hne
  refine .inr (fR (x:=b.x.toNat) (fun y hy=>?_) (List.mem_range.2 (hbs b hb)) (by simpa using h1) (by simpa using iA hD hf hb h2 h3))
  have h4:=Pb bs f y
  have h5:=Se hD (es:=bs) (fun _ h=>h) hf y
  simp only [bne_iff_ne,ne_eq] at hy ⊢
  omega
 ·
  have h1:f=D:=funext fun k=>by
   by_cases h:f k=D k
   · exact h
   · exact absurd ⟨k,h⟩ hne
  left
  rw [h1,eF hD]
  unfold U9
  rw [List.countP_eq_zero]
  intro k _;simp
theorem Z1 {D f:Nat→Int}{bs:List Bd}{n m:Nat}(hD:N9 D bs)(hbs:∀b∈bs,b.x.toNat<n)(hf:∀k,D k≤f k)(hm:Hv bs f m=D):∀j,U9 D (Hv bs f j) n≤n-j
  | 0=>by
    have:=List.countP_le_length (p:=fun k=>f k != D k) (l:=List.range n)
    rw [List.length_range] at this
    exact this
  | j+1=>by
    have ih:=Z1 hD hbs hf hm j
    have hes:∃es:List Bd,(∀b∈es,b∈bs)∧Gz (Hv bs f j) es=D:=by
      by_cases hj:j≤m
      · obtain ⟨es,h1,h2⟩:=oS bs f (m-j) j
        exact ⟨es,h1,by rw [h2,show j+(m-j)=m by omega,hm]⟩
      · refine ⟨[],(fun b h=>by cases h),?_⟩
        obtain ⟨d,rfl⟩:∃d,j=m+d:=⟨j-m,by omega⟩
        show Hv bs f (m+d)=D
        have:∀d,Hv bs f (m+d)=D:=by
          intro d
          induction d with
          | zero=>exact hm
          | succ d ihd=>show Gz (Hv bs f (m+d)) bs=D;rw [ihd,eF hD]
        exact this d
    obtain ⟨es,h1,h2⟩:=hes
    rcases kY hD hbs (jV hD hf j) h1 h2 with h | h
    · show U9 D (Gz (Hv bs f j) bs) n≤_
      omega
    · show U9 D (Gz (Hv bs f j) bs) n≤_
      omega
/-! ### An end -/
def zP (L f:Nat→Int)(n:Nat):Nat:=((List.range n).map fun k=>(f k-L k).toNat).sum
theorem sX {l:List Nat}{f g:Nat→Nat}(h:∀k∈l,f k≤g k):(l.map f).sum≤(l.map g).sum:=by
  induction l with
  | nil=>exact Nat.le_refl _
  | cons a r ih=>
    have:=h a (List.mem_cons_self ..)
    have:=ih fun k hk=>h k (List.mem_cons_of_mem _ hk)
    simp only [List.map_cons,List.sum_cons];omega
theorem qT {l:List Nat}{f g:Nat→Nat}{x:Nat}(h:∀k∈l,f k≤g k)(hx:x∈l)(hlt:f x<g x):(l.map f).sum<(l.map g).sum:=by
  induction l with
  | nil=>cases hx
  | cons a r ih=>
    have h1:=h a (List.mem_cons_self ..)
    simp only [List.map_cons,List.sum_cons]
    rcases List.mem_cons.1 hx with rfl | hx
    · have:=sX (l:=r) (f:=f) (g:=g) fun k hk=>h k (List.mem_cons_of_mem _ hk)
      omega
    · have:=ih (fun k hk=>h k (List.mem_cons_of_mem _ hk)) hx
      omega
theorem xA:∀{bs:List Bd} {f:Nat→Int} {k:Nat},Gz f bs k≠f k→∃b∈bs,b.x.toNat=k
  | [],f,k,h=>absurd rfl h
  | b::r,f,k,h=>by
    by_cases hk:k=b.x.toNat
    · exact ⟨b,List.mem_cons_self ..,hk.symm⟩
    · have h1:Gz (Vm f b) r k≠Vm f b k:=by rw [uC hk];exact h
      obtain ⟨c,hc,e⟩:=xA h1
      exact ⟨c,List.mem_cons_of_mem _ hc,e⟩
theorem nO:∀{bs:List Bd} {f:Nat→Int},Gz f bs=f→N9 f bs
  | [],f,_=>fun b h=>by cases h
  | b::r,f,h=>by
    have h1:Vm f b=f:=funext fun k=>by
      have h2:=congrFun h k
      have h3:=Pb r (Vm f b) k
      have h4:=mU f b k
      have h5:Gz (Vm f b) r k=f k:=h2
      omega
    have h2:Gz f r=f:=by
      have:Gz (Vm f b) r=f:=h
      rwa [h1] at this
    intro c hc
    rcases List.mem_cons.1 hc with rfl | hc
    · have:=xL f c
      rw [h1] at this;exact this
    · exact nO h2 c hc
theorem mB {L:Nat→Int}{bs:List Bd}{n:Nat}(hL:N9 L bs)(hbs:∀b∈bs,b.x.toNat<n):∀(μ:Nat) (f:Nat→Int),(∀k,L k≤f k)→zP L f n=μ→∃m,N9 (Hv bs f m) bs:=by
  intro μ
  induction μ using Nat.strongRecOn with
  | _ μ ih=>
    intro f hf hμ
    by_cases h:Gz f bs=f
    · exact ⟨0,nO h⟩
    · obtain ⟨k,hk⟩:∃k,Gz f bs k≠f k:=by
        by_cases hh:∃k,Gz f bs k≠f k
        · exact hh
        · exact absurd (funext fun k=>by
            by_cases h2:Gz f bs k=f k
            · exact h2
            · exact absurd ⟨k,h2⟩ hh) h
      obtain ⟨b,hb,hbk⟩:=xA hk
      have hl:=Se hL (es:=bs) (fun _ h=>h) hf
      have hlt:zP L (Gz f bs) n<zP L f n:=by
        refine qT (x:=k) (fun j _=>?_) (List.mem_range.2 (by rw [←hbk];exact hbs b hb)) ?_
        · have:=Pb bs f j;omega
        · have:=Pb bs f k
          have:=hl k
          omega
      obtain ⟨m,hm⟩:=ih _ (by rw [←hμ];exact hlt) (Gz f bs) hl rfl
      exact ⟨m+1,by rw [Tj];exact hm⟩
/-- after so many rounds nothing is open -/
theorem lD {p:Nat→Int}{M:Int}{bs:List Bd}{n:Nat}(hp:N9 p bs)(hM:∀k,p k≤M)(hbs:∀b∈bs,b.x.toNat<n∧b.y.toNat<n):N9 (Hv bs (fun _=>0) n) bs:=by
 have hL:N9 (fun k=>p k-M) bs:=fun b hb=>by have:=hp b hb;simp only;omega
 obtain ⟨m,hm⟩:=mB (n:=n) hL (fun b hb=>(hbs b hb).1) _ (fun _=>0) (fun k=>by have:=hM k;omega) rfl
 have hlow:∀k,Hv bs (fun _=>0) m k≤0:=fun k=>by
  have:∀m,Hv bs (fun _=>0) m k≤0:=by
   intro m
   induction m with
   | zero=>exact Int.le_refl _
   | succ m ih=>exact Int.le_trans (Pb bs _ k) ih
  exact this m
 have h1:=Z1 (n:=n) hm (fun b hb=>(hbs b hb).1) hlow rfl n
 have h2:=rM (n:=n) (D:=Hv bs (fun _=>0) m) (f:=Hv bs (fun _=>0) n) (by omega)
 intro b hb
 rw [h2 _ (hbs b hb).1,h2 _ (hbs b hb).2]
 exact hm b hb
/-! ### The lists -/
def gf (l:List Int):Nat→Int:=fun k=>(l[k]?).getD 0
theorem gf_rlx {i:Nat}{b:Bd}{s:Ds×Int}(hx:b.x.toNat<s.1.sums.length):gf (N8 i b s).1.sums=Vm (gf s.1.sums) b∧(N8 i b s).1.sums.length=s.1.sums.length:=by
 unfold N8
 by_cases h:gf s.1.sums b.y.toNat+b.most<gf s.1.sums b.x.toNat
 ·
  have h':decide (Ey s.1.sums b.y+b.most<Ey s.1.sums b.x)=true:=decide_eq_true h
  rw [if_pos h']
  refine ⟨funext fun k=>?_,by simp⟩
  unfold Vm
  by_cases hk:k=b.x.toNat
  ·
   subst hk
   rw [if_pos ⟨rfl,h⟩]
   show ((s.1.sums.set b.x.toNat _)[b.x.toNat]?).getD 0=_
   rw [List.getElem?_set_self hx];rfl
  ·
   rw [if_neg fun e=>hk e.1]
   show ((s.1.sums.set b.x.toNat _)[k]?).getD 0=_
   rw [List.getElem?_set_ne (fun e=>hk e.symm)];rfl
 ·
  have h':decide (Ey s.1.sums b.y+b.most<Ey s.1.sums b.x)=false:=decide_eq_false h
  rw [Ci h']
  exact ⟨(kL h).symm,rfl⟩
theorem gf_go {n:Nat}:∀(bs:List Bd) (i:Nat) (s:Ds×Int),(∀b∈bs,b.x.toNat<n)→s.1.sums.length=n→gf (F7 i bs s).1.sums=Gz (gf s.1.sums) bs∧(F7 i bs s).1.sums.length=n
  | [],i,s,_,hs=>⟨rfl,hs⟩
  | b::r,i,s,hb,hs=>by
    obtain ⟨h1,h2⟩:=gf_rlx (i:=i) (b:=b) (s:=s) (by rw [hs];exact hb b (List.mem_cons_self ..))
    obtain ⟨h3,h4⟩:=gf_go r (i+1) (N8 i b s) (fun x hx=>hb x (List.mem_cons_of_mem _ hx)) (by rw [h2,hs])
    rw [F7]
    exact ⟨by rw [h3,h1];rfl,h4⟩
theorem yT:∀(bs:List Bd) (i:Nat) (s:Ds×Int),N9 (gf s.1.sums) bs→F7 i bs s=s
  | [],i,s,_=>rfl
  | b::r,i,s,h=>by
    have h1:=h b (List.mem_cons_self ..)
    have h2:N8 i b s=s:=by
      unfold N8
      have h':decide (Ey s.1.sums b.y+b.most<Ey s.1.sums b.x)=false:=decide_eq_false (fun h2=>by have h3:gf s.1.sums b.y.toNat+b.most<gf s.1.sums b.x.toNat:=h2;omega)
      rw [Ci h']
    rw [F7,h2]
    exact yT r (i+1) s fun x hx=>h x (List.mem_cons_of_mem _ hx)
theorem X3 {bs:List Bd}{n:Nat}(hb:∀b∈bs,b.x.toNat<n):∀(m:Nat) (s:Ds×Int),s.1.sums.length=n→N9 (Hv bs (gf s.1.sums) m) bs→(D7 bs (m+1) s).2<0
  | 0,s,hs,hf=>by
    have h1:Jq bs s.1=(s.1,-1):=yT bs 0 (s.1,-1) hf
    rw [D7,if_pos (by rw [h1];exact decide_eq_true (show (-1:Int)<0 by decide)),h1]
    show (-1:Int)<0
    decide
  | m+1,s,hs,hf=>by
    rw [D7]
    by_cases h:decide ((Jq bs s.1).2<0)=true
    · rw [if_pos h];exact of_decide_eq_true h
    · rw [if_neg h]
      obtain ⟨h1,h2⟩:=gf_go (n:=n) bs 0 (s.1,-1) hb hs
      refine X3 hb m _ h2 ?_
      have h3:gf (Jq bs s.1).1.sums=Gz (gf s.1.sums) bs:=h1
      rw [h3,←Tj];exact hf
/-- a zone with a model is solved -/
theorem eS {n:Nat}{bs:List Bd}{p:Int→Int}(hz:(I6 (zn n bs) != 0)=false)(hp:∀b∈bs,p b.x-p b.y≤b.most):(Ew (zn n bs)).ok=true:=by
  have hk:=eA (n:=(n:Int)) (bs:=bs) hz
  have hb:∀b∈bs,b.x.toNat<n∧b.y.toNat<n:=fun b h=>by have:=hk.2.2.2 b h;omega
  have hend:decide ((El (zn n bs)).2<0)=true:=by
    rw [M0,decide_eq_true_eq]
    refine X3 (n:=n) (fun b h=>(hb b h).1) n _ (by simp) ?_
    have h0:gf (List.replicate n (0:Int))=fun _=>0:=funext fun k=>by
      unfold gf
      rw [List.getElem?_replicate];split <;> rfl
    show N9 (Hv bs (gf (List.replicate n 0)) n) bs
    rw [h0]
    obtain ⟨M,hM⟩:∃M,∀k,(fun k:Nat=>if k<n then p (k:Int) else 0) k≤M:=by
      have key:∀n:Nat,∃M,0≤M∧∀k:Nat,k<n→p (k:Int)≤M:=by
        intro n
        induction n with
        | zero=>exact ⟨0,Int.le_refl _,fun k h=>absurd h (Nat.not_lt_zero _)⟩
        | succ n ih=>
          obtain ⟨M,h0,h1⟩:=ih
          refine ⟨max M (p (n:Int)),by omega,fun k hk=>?_⟩
          by_cases e:k=n
          · subst e;omega
          · have:=h1 k (by omega);omega
      obtain ⟨M,h0,h1⟩:=key n
      exact ⟨M,fun k=>by simp only;split;exact h1 k (by assumption);exact h0⟩
    refine lD (p:=fun k:Nat=>if k<n then p (k:Int) else 0) (M:=M) (fun b h=>?_) hM hb
    obtain ⟨h1,h2⟩:=hb b h
    have h3:=hp b h
    have h4:=hk.2.2.2 b h
    simp only
    rw [if_pos h1,if_pos h2,show ((b.x.toNat:Nat):Int)=b.x by omega,show ((b.y.toNat:Nat):Int)=b.y by omega]
    omega
  rw [V1 hz hend]

section
variable {T:List Sc} {V:List Va} {env:List (List Ev)}
/-- the forms that clauses hold -/
structure LitF (T:List Sc) (V:List Va) (y:Lit):Prop where
 kok:KOK T V y.cond
 size:At y.cond≤64
 kind:Am T V y.cond=1
 eqB:y.cond.op=9→Am T V (Ao y.cond)≠1
 eqI:y.cond.op=9→Am T V (Ao y.cond)=0→y.neg=false
theorem O6 {v:Vl}(h:Ap v=0):v.kind=0∨v.kind=1∨v.kind=2:=by
 unfold Ap at h
 split at h
 · rename_i h1;simp at h1;omega
 split at h
 · rename_i h1;simp at h1;omega
 · cases h
theorem zA (hE:EnvOK T V env){e:Ex}(hk:KOK T V e){b:Int}{s:Su}(h:(Bp e b s).2=true):Am T V e=0∨Am T V e=1∨Am T V e=2:=by
 have hz:=Be hk.nodes
 rcases Pc hz.1 with c | ⟨c,c1⟩ | ⟨c,hl⟩ | ⟨c,c1,c2,c3⟩
 ·
  have h1:Am T V e=e.val.kind:=by unfold Am;rw [if_pos (by rw [c];rfl)]
  rw [h1];exact O6 (H5 hz.1 (by simpa using c)).1
 ·
  obtain ⟨_,h2,h3⟩:=Ox hE hk c1
  rw [←h3];exact O6 h2
 ·
  left
  have ho:e.op=5∨e.op=6:=by simpa using c
  unfold Am
  rw [if_neg (by simp;omega),if_neg (by simp;omega),if_pos (by simp;omega)]
 · rw [Gy c c1 c2 c3] at h;cases h
theorem btw_lin {a b:Ex}(h:(Ch a b).2=true):(Bp a 1 Ks).2=true:=by
 unfold Ch at h
 cases h1:(Bp a 1 Ks).2 with
 | true=>rfl
 | false=>rw [h1] at h;cases h
theorem gU (hE:EnvOK T V env){y:Lit}(hf:LitF T V y)(ho:(y.cond.op==1)=false)(hn:(Aa T V y).2=true) :
    (y.cond.op=7∨y.cond.op=8∨y.cond.op=9)∧Am T V (Ao y.cond)=0∧Am T V (Bi y.cond)=0∧(Ch (Ao y.cond) (Bi y.cond)).2=true∧Aa T V y=Ch (Ao y.cond) (Bi y.cond):=by
  cases h2:(!comparesS y.cond||Dp T V y.cond) with
  | true=>rw [oK ho h2] at hn;cases hn
  | false=>
    rw [Z6 ho h2] at hn
    have hc:=V3 h2
    have hop:y.cond.op=7∨y.cond.op=8∨y.cond.op=9:=by
      unfold Hn at hc
      simp only [Bool.or_eq_true,beq_iff_eq] at hc
      omega
    have ht:Dp T V y.cond=false:=by
      rw [Bool.or_eq_false_iff] at h2;exact h2.2
    have hl:=jY hf.kok (by omega) (by omega)
    have m0:=A6 (show 0<y.cond.args.length by omega)
    have m1:=Bl (show 1<y.cond.args.length by omega)
    have k0:Am T V (Ao y.cond)=0:=by
      rcases hop with h | h | h
      · have h1:=Oy hf.kok m0;unfold Mu at h1;rw [h] at h1;simpa using h1
      · have h1:=Oy hf.kok m0;unfold Mu at h1;rw [h] at h1;simpa using h1
      · rcases zA hE (A3 hf.kok m0) (btw_lin hn) with h3 | h3 | h3
        · exact h3
        · exact absurd h3 (hf.eqB h)
        · unfold Dp at ht
          rw [h,h3] at ht;cases ht
    have k1:Am T V (Bi y.cond)=0:=by
      rcases hop with h | h | h
      · have h1:=Oy hf.kok m1;unfold Mu at h1;rw [h] at h1;simpa using h1
      · have h1:=Oy hf.kok m1;unfold Mu at h1;rw [h] at h1;simpa using h1
      · rw [In hf.kok h m1];exact k0
    exact ⟨hop,k0,k1,hn,Z6 ho h2⟩
def T9 (p:Int→Int)(b:Bd):Prop:=p b.x-p b.y≤b.most
theorem lit_iff (hE:EnvOK T V env){y:Lit}(hf:LitF T V y)(hn:(Aa T V y).2=true){p:Int→Int}{x z:Int}(hx:p x=eN (T4 env) (Aa T V y).1.plus)(hz:p z=eN (T4 env) (Aa T V y).1.minus) :
    (∀b∈D6 y x z (Aa T V y).1.rest,T9 p b)↔Of env y=true:=by
  cases ho:y.cond.op==1 with
  | true=>
    have h1:y.cond.op=1:=by simpa using ho
    rw [aS ho] at hx hz ⊢
    obtain ⟨_,h2,h3⟩:=Ox hE hf.kok (by rw [ho];rfl)
    have hb:=E7 h2 (h3.trans hf.kind)
    have hv:T4 env (D0 y.cond)=(vl env y.cond).num:=by unfold T4;rw [K6 (Be hf.kok.nodes).1 (by rw [ho];rfl)]
    simp only [eN,List.map_cons,List.map_nil,List.sum_cons,List.sum_nil,hv] at hx hz
    have hnum:(vl env y.cond).num=0∨(vl env y.cond).num=1:=by rw [hb];cases (vl env y.cond).num==1 <;> simp [D2]
    have ht:tv env y.cond=((vl env y.cond).num==1):=rfl
    unfold Of D6
    rw [ht]
    cases hneg:y.neg with
    | true=>
      simp only [h1]
      simp only [T9,List.mem_singleton,forall_eq,beq_self_eq_true,Bool.true_and,Bool.true_or,if_true]
      rw [hx,hz]
      rcases hnum with h | h <;> rw [h] <;> simp
    | false=>
      simp only [h1]
      simp [T9,hx,hz]
      rcases hnum with h | h <;> rw [h] <;> simp
  | false=>
    obtain ⟨hop,k0,k1,hb,he⟩:=gU hE hf ho hn
    have h1:y.cond.op≠1:=by simpa using ho
    have hl:=jY hf.kok (by omega) (by omega)
    have m0:=A6 (show 0<y.cond.args.length by omega)
    have m1:=Bl (show 1<y.cond.args.length by omega)
    have hsz:=Dw (e:=y.cond) (by omega)
    have hs:=hf.size
    obtain ⟨hv,_,_⟩:=fK hE (A3 hf.kok m0) (A3 hf.kok m1) k0 k1 (by omega) hb
    rw [he] at hx hz ⊢
    rw [←hx,←hz] at hv
    unfold Of D6
    rcases hop with h | h | h
    · rw [Sz hE.suits hf.kok h,h]
      cases hneg:y.neg <;> simp [T9] <;> omega
    · rw [lP hE.suits hf.kok h,h]
      cases hneg:y.neg <;> simp [T9] <;> omega
    · rw [vA hE.suits hf.kok h k0,h,hf.eqI h k0]
      simp [T9]
      omega
/-! ### The system of a clause -/
def pv (τ:Tm→Int)(ts:List Tm)(k:Int):Int:=if k≤0 then 0 else ((ts[(k-1).toNat]?).map τ).getD 0
theorem nZ:∀{ts:List Tm} {t:Tm},t∈ts→ts[ts.idxOf t]? = some t
  | u::r,t,h=>by
    rw [List.idxOf_cons]
    by_cases e:u=t
    · subst e;simp
    · have h1:(u==t)=false:=by simpa using e
      rw [h1]
      rcases List.mem_cons.1 h with rfl | h
      · exact absurd rfl e
      · simpa using nZ h
theorem nT:∀{ts r:List Tm} {t:Tm},t∈ts→(ts++r).idxOf t=ts.idxOf t
  | u::s,r,t,h=>by
    rw [List.cons_append,List.idxOf_cons,List.idxOf_cons]
    by_cases e:u=t
    · subst e;simp
    · have h1:(u==t)=false:=by simpa using e
      rw [h1]
      rcases List.mem_cons.1 h with rfl | h
      · exact absurd rfl e
      · simp [nT h]
theorem xH {τ:Tm→Int}{ts l:List Tm}(hl:l.length≤1)(h:∀t∈l,t∈ts):pv τ ts (B6 ts l)=eN τ l:=by
  match l,hl with
  | [],_=>rfl
  | [t],_=>
    have hm:=nZ (h t (List.mem_cons_self ..))
    show pv τ ts (((ts.idxOf t:Nat):Int)+1)=_
    unfold pv
    rw [if_neg (by omega),show ((((ts.idxOf t:Nat):Int)+1)-1).toNat=ts.idxOf t by omega,hm]
    simp [eN]
theorem oE {ts r l:List Tm}(h:∀t∈l,t∈ts):B6 (ts++r) l=B6 ts l:=by
  match l with
  | []=>rfl
  | t::_=>
    show (((ts++r).idxOf t:Nat):Int)+1=_
    rw [nT (h t (List.mem_cons_self ..))];rfl
theorem Z8 (ts l:List Tm):∃r,A4 ts l=ts++r:=by
 unfold A4
 split
 · exact ⟨[],by simp⟩
 ·
  split
  · exact ⟨[],by simp⟩
  · exact ⟨_,rfl⟩
theorem Zw {ts l:List Tm}(hl:l.length≤1):∀t∈l,t∈A4 ts l:=by
  match l,hl with
  | [],_=>intro t h;cases h
  | [u],_=>
    intro t h
    rw [List.mem_singleton.1 h]
    unfold A4
    simp only
    split
    · rename_i h1;simpa using h1
    · simp
def Ot (T:List Sc)(V:List Va)(ts:List Tm)(c:Lit):List Bd:=if (Aa T V c).2 then D6 c (B6 ts (Aa T V c).1.plus) (B6 ts (Aa T V c).1.minus) (Aa T V c).1.rest else []
theorem jL {c:Lit}(h:(Aa T V c).2=true):(Aa T V c).1.plus.length≤1∧(Aa T V c).1.minus.length≤1:=by
 unfold Aa at h ⊢
 split
 · exact ⟨Nat.le_refl _,Nat.zero_le _⟩
 ·
  rename_i h1
  rw [if_neg h1] at h
  split
  · exact ⟨Nat.zero_le _,Nat.zero_le _⟩
  ·
   rename_i h2
   rw [if_neg h2] at h
   unfold Ch at h ⊢
   split
   · exact ⟨Nat.zero_le _,Nat.zero_le _⟩
   ·
    rename_i h3
    rw [if_neg h3] at h
    split
    · exact ⟨Nat.zero_le _,Nat.zero_le _⟩
    ·
     rename_i h4
     rw [if_neg h4] at h
     unfold S5 at h ⊢
     split
     ·
      rename_i h5
      rw [h5] at h
      simp only [Bool.and_eq_true,decide_eq_true_eq] at h
      exact ⟨by simp only;omega,by simp only;omega⟩
     · exact ⟨Nat.zero_le _,Nat.zero_le _⟩
theorem Wl:∀(l:List Lit) (s:Sy),(∃r,(l.foldl (Dd T V) s).ts=s.ts++r)∧(l.foldl (Dd T V) s).bs=s.bs++l.flatMap (Ot T V (l.foldl (Dd T V) s).ts)∧
    ∀c∈l,(Aa T V c).2=true→(∀t∈(Aa T V c).1.plus,t∈(l.foldl (Dd T V) s).ts)∧∀t∈(Aa T V c).1.minus,t∈(l.foldl (Dd T V) s).ts
  | [],s=>⟨⟨[],by simp⟩,by simp,fun c h=>by cases h⟩
  | c::r,s=>by
    rw [List.foldl_cons]
    obtain ⟨⟨q,h1⟩,h2,h3⟩:=Wl r (Dd T V s c)
    cases hn:(Aa T V c).2 with
    | false=>
      have hs:Dd T V s c=s:=Lo (by rw [hn];rfl)
      rw [hs] at h1 h2 h3 ⊢
      refine ⟨⟨q,h1⟩,?_,fun d hd hdn=>?_⟩
      · rw [h2,List.flatMap_cons]
        have:Ot T V (r.foldl (Dd T V) s).ts c = []:=by unfold Ot;rw [hn];rfl
        rw [this];rfl
      · rcases List.mem_cons.1 hd with rfl | hd
        · rw [hn] at hdn;cases hdn
        · exact h3 d hd hdn
    | true=>
      have hs:=Lr (T:=T) (V:=V) (s:=s) (c:=c) (by rw [hn];rfl)
      obtain ⟨lp,lm⟩:=jL hn
      obtain ⟨r1,e1⟩:=Z8 s.ts (Aa T V c).1.plus
      obtain ⟨r2,e2⟩:=Z8 (A4 s.ts (Aa T V c).1.plus) (Aa T V c).1.minus
      have hts:(Dd T V s c).ts=A4 (A4 s.ts (Aa T V c).1.plus) (Aa T V c).1.minus:=by rw [hs]
      have hp:∀t∈(Aa T V c).1.plus,t∈A4 s.ts (Aa T V c).1.plus:=Zw lp
      have hm:∀t∈(Aa T V c).1.minus,t∈A4 (A4 s.ts (Aa T V c).1.plus) (Aa T V c).1.minus:=Zw lm
      have hF:(r.foldl (Dd T V) (Dd T V s c)).ts=A4 s.ts (Aa T V c).1.plus++(r2++q):=by rw [h1,hts,e2,List.append_assoc]
      have hF2:(r.foldl (Dd T V) (Dd T V s c)).ts=A4 (A4 s.ts (Aa T V c).1.plus) (Aa T V c).1.minus++q:=by rw [h1,hts]
      refine ⟨⟨r1++(r2++q),by rw [hF,e1,List.append_assoc]⟩,?_,fun d hd hdn=>?_⟩
      · rw [h2,List.flatMap_cons,←List.append_assoc]
        congr 1
        unfold Ot
        rw [hn,if_pos rfl]
        have n1:B6 (r.foldl (Dd T V) (Dd T V s c)).ts (Aa T V c).1.plus=B6 (A4 s.ts (Aa T V c).1.plus) (Aa T V c).1.plus:=by rw [hF];exact oE hp
        have n2:B6 (r.foldl (Dd T V) (Dd T V s c)).ts (Aa T V c).1.minus=B6 (A4 (A4 s.ts (Aa T V c).1.plus) (Aa T V c).1.minus) (Aa T V c).1.minus:=by rw [hF2];exact oE hm
        rw [n1,n2,hs]
      · rcases List.mem_cons.1 hd with rfl | hd
        · exact ⟨fun t ht=>by rw [hF];exact List.mem_append_left _ (hp t ht),fun t ht=>by rw [hF2];exact List.mem_append_left _ (hm t ht)⟩
        · exact h3 d hd hdn
/-- the bounds of the literals hold exactly if the literals with numbers are true -/
theorem oC (hE:EnvOK T V env){l:List Lit}(hf:∀y∈l,LitF T V y):(∀b∈(Cg T V l).bs,T9 (pv (T4 env) (Cg T V l).ts) b)↔∀y∈l,(Aa T V y).2=true→Of env y=true:=by
 obtain ⟨_,h2,h3⟩:=Wl (T:=T) (V:=V) l ⟨[],[]⟩
 have h2':(Cg T V l).bs=l.flatMap (Ot T V (Cg T V l).ts):=by
  show (l.foldl (Dd T V) ⟨[],[]⟩).bs=_
  rw [h2];rfl
 rw [h2']
 have each:∀y∈l,(Aa T V y).2=true→((∀b∈Ot T V (Cg T V l).ts y,T9 (pv (T4 env) (Cg T V l).ts) b)↔Of env y=true):=fun y hy hn=>by
  obtain ⟨m1,m2⟩:=h3 y hy hn
  obtain ⟨l1,l2⟩:=jL hn
  unfold Ot
  rw [hn,if_pos rfl]
  exact lit_iff hE (hf y hy) hn (xH l1 m1) (xH l2 m2)
 constructor
 ·
  intro h y hy hn
  exact (each y hy hn).1 fun b hb=>h b (List.mem_flatMap.2 ⟨y,hy,hb⟩)
 ·
  intro h b hb
  obtain ⟨y,hy,hb⟩:=List.mem_flatMap.1 hb
  cases hn:(Aa T V y).2 with
  | true=>exact (each y hy hn).2 (h y hy hn) b hb
  | false=>unfold Ot at hb;rw [hn] at hb;cases hb
end

section
variable {T:List Sc} {V:List Va} {env:List (List Ev)}
/-! ### the forms of clauses -/
def H9 (P:Lit→Prop)(c:Cs):Prop:=∀x∈c.1,∀y∈x,P y
theorem Jk {P:Lit→Prop}{a b:Cs}(ha:H9 P a)(hb:H9 P b):H9 P (Ek a b):=by
 unfold Ek
 split
 · intro x hx;cases hx
 ·
  unfold Mo
  split
  · intro x hx;cases hx
  ·
   intro x hx y hy
   obtain ⟨p,hp,hm⟩:=List.mem_flatMap.1 hx
   obtain ⟨q,hq,rfl⟩:=List.mem_map.1 hm
   rcases List.mem_append.1 hy with h | h
   · exact ha p hp y h
   · exact hb q hq y h
theorem Vk {P:Lit→Prop}{a b:Cs}(ha:H9 P a)(hb:H9 P b):H9 P (Jf a b):=by
 unfold Jf
 split
 · intro x hx;cases hx
 ·
  intro x hx y hy
  rcases List.mem_append.1 hx with h | h
  · exact ha x h y hy
  · exact hb x h y hy
theorem Qq {P:Lit→Prop}{l:List Lit}(h:∀y∈l,P y):H9 P (Eg l):=by
 intro x hx y hy
 unfold Eg at hx
 obtain ⟨z,hz,rfl⟩:=List.mem_map.1 hx
 rw [List.mem_singleton.1 hy]
 exact h z hz
def eqF (T:List Sc)(V:List Va)(y:Lit):Prop:=(y.cond.op=9→Am T V (Ao y.cond)≠1)∧(y.cond.op=9→Am T V (Ao y.cond)=0→y.neg=false)
theorem lU (e:Ex):KOK T V e→∀s,H9 (eqF T V) (Da T V e s):=by
 refine Ex.Abu (P:=fun e=>KOK T V e→∀s,H9 (eqF T V) (Da T V e s)) (fun e ih hk s=>?_) e
 rcases Lu s hk with h | ⟨h,hl⟩ | ⟨h,hl⟩ | ⟨h,hl,h1⟩ | ⟨h,hl,h1,h2⟩ | ⟨_,_,_,h,h9⟩
 ·
  cases h1:((e.val.num==1)==s) with
  | true=>rw [Gk h h1];intro x hx y hy;rw [List.mem_singleton.1 hx] at hy;cases hy
  | false=>rw [Gb h h1];intro x hx;cases hx
 · rw [Gn hl h];exact ih _ (A6 hl) (A3 hk (A6 hl)) _
 ·
  have m0:=A6 (show 0<e.args.length by omega)
  have m1:=Bl hl
  cases h1:((e.op==10)==s) with
  | true=>rw [Gc hl h h1];exact Jk (ih _ m0 (A3 hk m0) _) (ih _ m1 (A3 hk m1) _)
  | false=>rw [Gi hl h h1];exact Vk (ih _ m0 (A3 hk m0) _) (ih _ m1 (A3 hk m1) _)
 ·
  have m0:=A6 (show 0<e.args.length by omega)
  have m1:=Bl hl
  have i0:=ih _ m0 (A3 hk m0)
  have i1:=ih _ m1 (A3 hk m1)
  rw [Ge hl h h1]
  exact Vk (Jk (i0 _) (i1 _)) (Jk (i0 _) (i1 _))
 ·
  rw [Gg h h1 h2]
  refine Qq fun y hy=>?_
  rcases List.mem_cons.1 hy with rfl | hy
  · exact ⟨fun h=>absurd (show (7:Int)=9 from h) (by decide),fun h=>absurd (show (7:Int)=9 from h) (by decide)⟩
  · rw [List.mem_singleton.1 hy];exact ⟨fun h=>absurd (show (7:Int)=9 from h) (by decide),fun h=>absurd (show (7:Int)=9 from h) (by decide)⟩
 ·
  rw [h]
  refine Qq fun y hy=>?_
  rw [List.mem_singleton.1 hy]
  refine ⟨fun ho=>?_,fun ho h0=>?_⟩
  ·
   have:=(h9 (by simpa using ho)).1
   simpa using this
  ·
   have:=(h9 (by simpa using ho)).2
   rw [h0] at this
   simpa using this
theorem qH {e:Ex}(hk:KOK T V e)(h1:Am T V e=1)(hs:At e≤64)(s:Bool):H9 (LitF T V) (Da T V e s):=fun x hx y hy=>by
 have a:=P7 e hk s x hx y hy
 have b:=kX e hk h1 s x hx y hy
 have c:=lU e hk s x hx y hy
 exact ⟨a.1,Nat.le_trans a.2 hs,b,c.1,c.2⟩
theorem Xw {l:List Lit}(h:∀y∈l,LitF T V y):U6 T V l:=fun y hy=>⟨(h y hy).kok,(h y hy).size⟩
/-! ### zones -/
theorem Ts {α:Type}{f:α→Int}:∀{l:List α},(∀x∈l,f x=0)→Aq f l=0
  | [],_=>rfl
  | a::r,h=>by
    rw [Aq,if_neg (by rw [h a (List.mem_cons_self ..)];decide)]
    exact Ts fun x hx=>h x (List.mem_cons_of_mem _ hx)
theorem Vf {ts l:List Tm}(h:∀t∈l,t∈ts):0≤B6 ts l∧B6 ts l≤(ts.length:Int):=by
  match l with
  | []=>exact ⟨Int.le_refl _,by show (0:Int)≤_;omega⟩
  | t::r=>
    have:=List.idxOf_lt_length_of_mem (h t (List.mem_cons_self ..))
    show 0≤((ts.idxOf t:Nat):Int)+1∧((ts.idxOf t:Nat):Int)+1≤_
    omega
theorem sC {c:Lit}{x z r:Int}:∀b∈D6 c x z r,(b.x=x∨b.x=z)∧(b.y=x∨b.y=z):=by
 intro b hb
 unfold D6 at hb
 repeat' split at hb
 all_goals
  simp only [List.mem_cons,List.not_mem_nil,or_false] at hb
  rcases hb with rfl | rfl <;> simp
theorem fM:∀(ts:List Tm) (i:Nat),∀b∈Hj T V i ts,0≤b.x∧b.x≤(i:Int)+ts.length∧0≤b.y∧b.y≤(i:Int)+ts.length
  | [],i,b,h=>by cases h
  | t::r,i,b,h=>by
    rw [Hj] at h
    rw [List.length_cons]
    rcases List.mem_cons.1 h with rfl | h
    · simp only;omega
    · rcases List.mem_cons.1 h with rfl | h
      · simp only;omega
      · have:=fM r (i+1) b h;omega
theorem sys_bs (l:List Lit):(Cg T V l).bs=l.flatMap (Ot T V (Cg T V l).ts):=by
 obtain ⟨_,h2,_⟩:=Wl (T:=T) (V:=V) l ⟨[],[]⟩
 show (l.foldl (Dd T V) ⟨[],[]⟩).bs=_
 rw [h2];rfl
theorem Aam (l:List Lit):∀c∈l,(Aa T V c).2=true→(∀t∈(Aa T V c).1.plus,t∈(Cg T V l).ts)∧∀t∈(Aa T V c).1.minus,t∈(Cg T V l).ts:=
 (Wl (T:=T) (V:=V) l ⟨[],[]⟩).2.2
theorem mZ (l:List Lit):∀b∈(C7 T V l).bs,0≤b.x∧b.x<(C7 T V l).n∧0≤b.y∧b.y<(C7 T V l).n:=by
  intro b hb
  show 0≤b.x∧b.x<((Cg T V l).ts.length:Int)+1∧0≤b.y∧b.y<((Cg T V l).ts.length:Int)+1
  rcases List.mem_append.1 (show b∈Hj T V 0 (Cg T V l).ts++(Cg T V l).bs from hb) with h | h
  · have:=fM _ _ b h;omega
  · rw [sys_bs] at h
    obtain ⟨c,hc,hb⟩:=List.mem_flatMap.1 h
    cases hn:(Aa T V c).2 with
    | false=>unfold Ot at hb;rw [hn] at hb;cases hb
    | true=>
      unfold Ot at hb
      rw [hn,if_pos rfl] at hb
      obtain ⟨m1,m2⟩:=Aam l c hc hn
      have r1:=Vf m1
      have r2:=Vf m2
      obtain ⟨h1,h2⟩:=sC b hb
      rcases h1 with h1 | h1 <;> rcases h2 with h2 | h2 <;> omega
theorem qV {l:List Lit}(hl:U6 T V l)(hf:Rt (C7 T V l)=true):I6 (C7 T V l)=0:=by
 unfold Rt at hf
 simp only [Bool.and_eq_true,decide_eq_true_eq] at hf
 have hn:(C7 T V l).n=((Cg T V l).ts.length:Int)+1:=rfl
 unfold I6
 rw [if_neg (by simp;omega),if_neg (by simp;omega)]
 refine Ts fun b hb=>?_
 have h1:=mZ l b hb
 have h2:=Pz hl b hb
 have hbig:Jp=140737488355329:=rfl
 unfold bdE
 rw [if_neg (by simp only [Bool.or_eq_true,decide_eq_true_eq];omega)]
/-! ### limits -/
theorem rP {v:Vl}(h:Ap v=0) : -1099511627776≤v.num∧v.num≤1099511627776:=by
 rcases O6 h with h1 | h1 | h1
 · exact T3 h (.inl h1)
 · exact T3 h (.inr h1)
 ·
  unfold Ap at h
  rw [if_neg (by rw [h1];decide),if_pos (by rw [h1];rfl)] at h
  split at h
  · cases h
  ·
   rename_i h2
   have:v.num=0:=by simpa using h2
   omega
theorem xC (hE:EnvOK T V env){t:Tm}(hk:KOK T V (Ho t))(ho:t.op=1∨t.op=2):(C0 T V t).1≤T4 env t∧T4 env t≤(C0 T V t).2:=by
  obtain ⟨h1,h2,h3⟩:=Ox hE hk (show ((Ho t).op==1||(Ho t).op==2)=true by show (t.op==1||t.op==2)=true;simpa using ho)
  have hr:=rP h2
  cases h:t.op==2 with
  | true=>rw [uQ h];exact h1 h
  | false=>
    cases hb:Am T V (Ho t)==1 with
    | true=>
      rw [uA h hb]
      have hb':Am T V (Ho t)=1:=by simpa using hb
      have:=E7 h2 (h3.trans hb')
      have hnum:(vl env (Ho t)).num=0∨(vl env (Ho t)).num=1:=by rw [this];cases (vl env (Ho t)).num==1 <;> simp [D2]
      show (0:Int)≤(vl env (Ho t)).num∧(vl env (Ho t)).num≤1
      omega
    | false=>rw [xI h hb];exact hr
theorem pv_zero (τ:Tm→Int)(ts:List Tm):pv τ ts 0=0:=rfl
theorem pv_at {τ:Tm→Int}{ts:List Tm}{k:Nat}{t:Tm}(h:ts[k]? = some t):pv τ ts ((k:Int)+1)=τ t:=by
 unfold pv
 rw [if_neg (by omega),show (((k:Int)+1)-1).toNat=k by omega,h];rfl
theorem aA {p:Int→Int}{τ:Tm→Int}(h0:p 0=0):∀(ts:List Tm) (i:Nat),(∀(k:Nat) (t:Tm),ts[k]? = some t→p ((i:Int)+k+1)=τ t)→(∀t∈ts,(C0 T V t).1≤τ t∧τ t≤(C0 T V t).2)→∀b∈Hj T V i ts,T9 p b
  | [],i,_,_,b,h=>by cases h
  | t::r,i,hp,hl,b,h=>by
    have h1:=hp 0 t rfl
    have h2:=hl t (List.mem_cons_self ..)
    rw [show (i:Int)+((0:Nat):Int)+1=(i:Int)+1 by omega] at h1
    rw [Hj] at h
    rcases List.mem_cons.1 h with rfl | h
    · show p ((i:Int)+1)-p 0≤_;rw [h0,h1];simp only;omega
    · rcases List.mem_cons.1 h with rfl | h
      · show p 0-p ((i:Int)+1)≤_;rw [h0,h1];simp only;omega
      · refine aA h0 r (i+1) (fun k u hk=>?_) (fun u hu=>hl u (List.mem_cons_of_mem _ hu)) b h
        rw [show ((i+1:Nat):Int)+k+1=(i:Int)+((k+1:Nat):Int)+1 by omega]
        exact hp (k+1) u (by simpa using hk)
theorem iT (hE:EnvOK T V env){l:List Lit}(hf:∀y∈l,LitF T V y)(hfit:Rt (C7 T V l)=true)(ht:∀y∈l,Of env y=true):(Ew (C7 T V l)).ok=true:=by
 have hl:=Xw hf
 have hz:=qV hl hfit
 rw [oO] at hz ⊢
 refine eS (p:=pv (T4 env) (Cg T V l).ts) (by rw [hz];rfl) fun b hb=>?_
 rcases List.mem_append.1 (show b∈Hj T V 0 (Cg T V l).ts++(Cg T V l).bs from hb) with h | h
 ·
  refine aA (p:=pv (T4 env) (Cg T V l).ts) (τ:=T4 env) rfl _ 0 (fun k t hk=>?_) (fun t ht'=>?_) b h
  · rw [show ((0:Nat):Int)+(k:Int)+1=(k:Int)+1 by omega];exact pv_at hk
  · exact xC hE ((Lw hl).terms t ht') (mH hl t ht').op
 · exact (oC hE hf).2 (fun y hy _=>ht y hy) b h
/-! ### strings -/
def sg (env:List (List Ev))(x:Wd):Fq:=if x.const then x.text else (vl env (Ho x.field)).text
def tX (x:Wd):Prop:=(x.const=true→x.field=tm0)∧(x.const=false→x.text = [])
theorem fL (e:Ex):tX (Ca e):=by
 unfold Ca
 split
 · exact ⟨fun _=>rfl,fun h=>(by cases h)⟩
 · exact ⟨fun h=>(by cases h),fun _=>rfl⟩
theorem sg_as {e:Ex}(hz:By e=0)(h:(e.op==0||e.op==1)=true):sg env (Ca e)=(vl env e).text:=by
  cases h0:e.op==0 with
  | true=>
    rw [cL h0]
    show e.val.text=(B0 _ e).1.text
    rw [Tb hz (by simpa using h0)]
  | false=>
    rw [h0,Bool.false_or] at h
    rw [cZ h0]
    show (vl env (Ho (D0 e))).text=_
    rw [K6 hz (by rw [h];rfl)]
/-- an equation of strings -/
structure StrL (T:List Sc) (V:List Va) (c:Lit):Prop where
 op:c.cond.op=9
 len:c.cond.args.length=2
 d0:(Ao c.cond).op=0∨(Ao c.cond).op=1
 d1:(Bi c.cond).op=0∨(Bi c.cond).op=1
 k0:Am T V (Ao c.cond)=2
 k1:Am T V (Bi c.cond)=2
 m0:Ao c.cond∈c.cond.args
 m1:Bi c.cond∈c.cond.args
theorem We {c:Lit}(hk:KOK T V c.cond)(h:Dp T V c.cond=true)(h2:Cz T V c.cond=true):StrL T V c:=by
 obtain ⟨h3,h4⟩:=Rs hk (show (!textsS T V c.cond || !simpleS T V c.cond)=false by rw [h,h2];rfl)
 unfold Dp at h
 rw [Bool.and_eq_true] at h
 have m0:=A6 (show 0<c.cond.args.length by omega)
 have m1:=Bl (show 1<c.cond.args.length by omega)
 have ho:c.cond.op=9:=by simpa using h.1
 have hk0:Am T V (Ao c.cond)=2:=by simpa using h.2
 exact ⟨ho,h3,by simpa using h4 _ m0,by simpa using h4 _ m1,hk0,by rw [In hk ho m1];exact hk0,m0,m1⟩
theorem Up {s:Bool}{c:Lit}(h:Cl T V s c=true):c.neg = !s∧Dp T V c.cond=true∧Cz T V c.cond=true:=by
 unfold Cl at h
 rw [Bool.and_eq_true,Bool.and_eq_true] at h
 refine ⟨?_,h.2.1,h.2.2⟩
 have:=h.1
 cases hn:c.neg <;> cases s <;> rw [hn] at this <;> first | rfl | cases this
theorem Ta (hE:EnvOK T V env){e:Ex}(hk:KOK T V e)(h:e.op=0∨e.op=1):Ap (vl env e)=0∧(vl env e).kind=Am T V e:=by
 rcases h with h | h
 ·
  have hz:=(Be hk.nodes).1
  have hv:vl env e=e.val:=by show (B0 _ e).1=_;rw [Tb hz h]
  refine ⟨by rw [hv];exact (H5 hz h).1,Sd hE.suits hk⟩
 ·
  obtain ⟨_,h2,h3⟩:=Ox hE hk (by rw [h];rfl)
  exact ⟨h2,h3⟩
theorem Wi {v:Vl}(h:Ap v=0)(hk:v.kind=2):v.num=0:=by
 unfold Ap at h
 rw [if_neg (by rw [hk];decide),if_pos (by rw [hk];rfl)] at h
 split at h
 · cases h
 · rename_i h2;simpa using h2
theorem yZ (hE:EnvOK T V env){c:Lit}(hk:KOK T V c.cond)(hs:StrL T V c):tv env c.cond=true↔sg env (Ca (Ao c.cond))=sg env (Ca (Bi c.cond)):=by
 have k0:=A3 hk hs.m0
 have k1:=A3 hk hs.m1
 rw [vJ hE.suits hk hs.op,nI,sg_as (Be k0.nodes).1 (by simpa using hs.d0),sg_as (Be k1.nodes).1 (by simpa using hs.d1)]
 obtain ⟨a1,a2⟩:=Ta hE k0 hs.d0
 obtain ⟨b1,b2⟩:=Ta hE k1 hs.d1
 rw [hs.k0] at a2
 rw [hs.k1] at b2
 have a3:=Wi a1 a2
 have b3:=Wi b1 b2
 revert a2 a3 b2 b3
 generalize vl env (Ao c.cond)=v
 generalize vl env (Bi c.cond)=w
 intro a2 a3 b2 b3
 constructor
 · intro h;rw [h]
 ·
  intro h
  cases v;cases w
  simp_all
def wSg (env:List (List Ev))(w:Wm):Prop:=∀p∈w,sg env p.1=sg env p.2
def wWf (w:Wm):Prop:=∀p∈w,tX p.1∧tX p.2
theorem Yx {w:Wm}{x y:Wd}(h:F9 w x=some y):(x,y)∈w:=by
 obtain ⟨i,p,h1,h2,h3⟩:=aP h
 have:=List.mem_of_getElem? h1
 rw [←h2,←h3];exact this
theorem eQ {w:Wm}(h:wSg env w):∀(n:Nat) (x:Wd),sg env (Qi w n x)=sg env x
  | 0,x=>rfl
  | n+1,x=>by
    rw [Qi]
    cases hg:F9 w x with
    | none=>rfl
    | some y=>simp only;rw [eQ h n y,h _ (Yx hg)]
theorem fN {w:Wm}(h:wWf w):∀(n:Nat) (x:Wd),tX x→tX (Qi w n x)
  | 0,x,hx=>hx
  | n+1,x,hx=>by
    rw [Qi]
    cases hg:F9 w x with
    | none=>exact hx
    | some y=>exact fN h n y (h _ (Yx hg)).2
theorem eW {a b:Wd}(ha:tX a)(hb:tX b)(h:(a.const&&b.const)=true)(ht:a.text=b.text):a=b:=by
 rw [Bool.and_eq_true] at h
 have h1:=ha.1 h.1
 have h2:=hb.1 h.2
 obtain ⟨c,t,f⟩:=a
 obtain ⟨c',t',f'⟩:=b
 simp only at h h1 h2 ht
 rw [h.1,h.2,h1,h2,ht]
theorem Aas {w:Wm}{a b:Wd}(h:wWf w)(ha:tX a)(hb:tX b):wWf (Nn w a b).1:=by
 unfold Nn
 split
 · exact h
 split
 · exact h
 split
 ·
  intro p hp
  rcases List.mem_append.1 hp with hp | hp
  · exact h p hp
  · rw [List.mem_singleton.1 hp];exact ⟨hb,ha⟩
 ·
  intro p hp
  rcases List.mem_append.1 hp with hp | hp
  · exact h p hp
  · rw [List.mem_singleton.1 hp];exact ⟨ha,hb⟩
theorem rC {w:Wm}{c:Lit}(h:wWf w):wWf (E8 w c).1:=by rw [Jz];exact Aas h (fN h _ _ (fL _)) (fN h _ _ (fL _))
theorem sG {w:Wm}{c:Lit}(h:wSg env w)(hw:wWf w)(he:sg env (Ca (Ao c.cond))=sg env (Ca (Bi c.cond))):(E8 w c).2=true∧wSg env (E8 w c).1:=by
  rw [Jz]
  have ha:=eQ h w.length (Ca (Ao c.cond))
  have hb:=eQ h w.length (Ca (Bi c.cond))
  have wa:=fN hw w.length _ (fL (Ao c.cond))
  have wb:=fN hw w.length _ (fL (Bi c.cond))
  change sg env (Ce w (Ca (Ao c.cond)))=_ at ha
  change sg env (Ce w (Ca (Bi c.cond)))=_ at hb
  change tX (Ce w (Ca (Ao c.cond))) at wa
  change tX (Ce w (Ca (Bi c.cond))) at wb
  have hab:sg env (Ce w (Ca (Ao c.cond)))=sg env (Ce w (Ca (Bi c.cond))):=by rw [ha,hb,he]
  revert wa wb hab
  generalize Ce w (Ca (Ao c.cond))=a
  generalize Ce w (Ca (Bi c.cond))=b
  intro wa wb hab
  unfold Nn
  by_cases hq:a=b
  · rw [if_pos hq];exact ⟨rfl,h⟩
  rw [if_neg hq]
  cases hc:(a.const&&b.const) with
  | true=>
    have h2:=hc
    rw [Bool.and_eq_true] at h2
    unfold sg at hab
    rw [if_pos h2.1,if_pos h2.2] at hab
    exact absurd (eW wa wb hc hab) hq
  | false=>
    rw [Ci rfl]
    cases h3:a.const with
    | true=>
      rw [if_pos rfl]
      refine ⟨rfl,fun p hp=>?_⟩
      rcases List.mem_append.1 hp with hp | hp
      · exact h p hp
      · rw [List.mem_singleton.1 hp];exact hab.symm
    | false=>
      rw [Ci rfl]
      refine ⟨rfl,fun p hp=>?_⟩
      rcases List.mem_append.1 hp with hp | hp
      · exact h p hp
      · rw [List.mem_singleton.1 hp];exact hab
theorem bU:∀(l:List Lit) (w:Wm),(∀c∈l,Cl T V true c=true→sg env (Ca (Ao c.cond))=sg env (Ca (Bi c.cond)))→wSg env w→wWf w→(I8 T V l w).2=true∧wSg env (I8 T V l w).1
  | [],w,_,h,_=>⟨rfl,h⟩
  | c::r,w,hl,h,hw=>by
    have hr:=fun x hx=>hl x (List.mem_cons_of_mem _ hx)
    cases h1:Cl T V true c with
    | false=>rw [Md h1];exact bU r w hr h hw
    | true=>
      obtain ⟨h2,h3⟩:=sG (c:=c) h hw (hl c (List.mem_cons_self ..) h1)
      rw [Mb h1 h2]
      exact bU r _ hr h3 (rC hw)
theorem pQ {w:Wm}(h:wSg env w):∀(l:List Lit),(∀c∈l,Cl T V false c=true→sg env (Ca (Ao c.cond))≠sg env (Ca (Bi c.cond)))→Oa T V w l=true
  | [],_=>rfl
  | c::r,hl=>by
    have hr:=pQ h r fun x hx=>hl x (List.mem_cons_of_mem _ hx)
    rw [Oa]
    cases h1:Cl T V false c with
    | false=>exact hr
    | true=>
      have h2:=hl c (List.mem_cons_self ..) h1
      rw [if_neg (by decide),if_neg ?_]
      · exact hr
      · intro he
        have h3:=congrArg (sg env) he
        rw [show sg env (Ce w (Ca (Ao c.cond)))=_ from eQ h _ _,show sg env (Ce w (Ca (Bi c.cond)))=_ from eQ h _ _] at h3
        exact h2 h3
theorem eE (hE:EnvOK T V env){l:List Lit}(hl:U6 T V l)(ht:∀y∈l,Of env y=true):(Eh T V l).2=true:=by
 have key:∀{s:Bool} {c:Lit},c∈l→Cl T V s c=true→(tv env c.cond=true↔sg env (Ca (Ao c.cond))=sg env (Ca (Bi c.cond)))∧tv env c.cond=s:=fun {s c} hc hs=>by
  obtain ⟨h1,h2,h3⟩:=Up hs
  have hk:=(hl c hc).1
  refine ⟨yZ hE hk (We hk h2 h3),?_⟩
  have h4:=ht c hc
  unfold Of at h4
  rw [h1] at h4
  cases hq:tv env c.cond <;> cases s <;> rw [hq] at h4 <;> first | rfl | cases h4
 obtain ⟨h1,h2⟩:=bU (T:=T) (V:=V) (env:=env) l [] (fun c hc hs=>(key hc hs).1.1 (key hc hs).2) (fun p hp=>by cases hp) (fun p hp=>by cases hp)
 unfold Eh
 rw [h1,Bool.true_and]
 refine pQ h2 l fun c hc hs he=>?_
 have h3:=(key hc hs).1.2 he
 rw [(key hc hs).2] at h3
 cases h3
theorem mE (hE:EnvOK T V env){l:List Lit}(hf:∀y∈l,LitF T V y)(ht:kB env l=true):Ze T V l=true:=by
 have ht':∀y∈l,Of env y=true:=List.all_eq_true.1 ht
 cases h:Rt (C7 T V l) with
 | false=>exact vQ (by rw [h];rfl)
 | true=>rw [eH (by rw [h];rfl),eE hE (Xw hf) ht',iT hE hf h ht'];rfl
/-! ### verdicts -/
theorem Yi:∀(l:List (List Lit)),(Yz T V 0 l).1≠2
  | []=>by show (0:Int)≠2;decide
  | c::r=>by
    rw [Yz]
    split
    · exact Yi r
    split
    · show (1:Int)≠2;decide
    · exact Yi r
theorem uK:∀{l:List (List Lit)} {o:Int},(∃c∈l,Ze T V c=true)→(Yz T V o l).1≠2
  | [],_,⟨c,hc,_⟩=>by cases hc
  | d::r,o,⟨c,hc,hk⟩=>by
    rw [Yz]
    split
    · rename_i h
      rw [Bool.and_eq_true] at h
      rcases List.mem_cons.1 hc with rfl | hc
      · rw [hk] at h;cases h.1
      · exact uK ⟨c,hc,hk⟩
    split
    · show (1:Int)≠2;decide
    · exact Yi r
theorem Yr (hE:EnvOK T V env){c:Cs}(hf:H9 (LitF T V) c)(ht:Pt env c.1=true):(B5 T V c).1≠2:=by
  cases h:(!c.2) with
  | true=>rw [Xt h];show (0:Int)≠2;decide
  | false=>
    rw [cW h]
    obtain ⟨x,hx,hx2⟩:=List.any_eq_true.1 ht
    exact uK ⟨x,hx,mE hE (hf x hx) hx2⟩
/-- a verdict of yes has a clause that is solved and certain -/
theorem Wr:∀{l:List (List Lit)} {o:Int},o≠1→(Yz T V o l).1=1→∃c∈l,Ze T V c=true∧Ln T V c=true∧Yz T V o l=(1,nS T V c)
  | [],o,ho,h=>absurd h ho
  | c::r,o,ho,h=>by
    cases h1:(!solK T V c&&decide ((c.length:Int)≤256)) with
    | true=>
      rw [eO h1] at h ⊢
      obtain ⟨d,hd,hx⟩:=Wr ho h
      exact ⟨d,List.mem_cons_of_mem _ hd,hx⟩
    | false=>
      cases h2:Ln T V c with
      | true=>
        refine ⟨c,List.mem_cons_self ..,?_,h2,oM h1 h2⟩
        rw [(P9 h2).2,Bool.and_true] at h1
        simpa using h1
      | false=>
        rw [vP h1 h2] at h ⊢
        obtain ⟨d,hd,hx⟩:=Wr (by decide) h
        exact ⟨d,List.mem_cons_of_mem _ hd,hx⟩
end

/-! ### sums that are not improved any more -/
theorem Xa {bs:List Bd}:∀(m:Nat) (s:Ds×Int),(D7 bs (m+1) s).2<0→∃d,D7 bs (m+1) s=Jq bs d∧(Jq bs d).2<0
  | 0,s,h=>by
    cases hq:decide ((Jq bs s.1).2<0) with
    | true=>rw [Kh hq] at h ⊢;exact ⟨s.1,rfl,h⟩
    | false=>rw [Ms hq] at h;exact absurd h (of_decide_eq_false hq)
  | m+1,s,h=>by
    cases hq:decide ((Jq bs s.1).2<0) with
    | true=>rw [Kh hq] at h ⊢;exact ⟨s.1,rfl,h⟩
    | false=>rw [Ms hq] at h ⊢;exact Xa m _ h
theorem qD {bs:List Bd}:∀{i:Nat} {s:Ds×Int},(∀b∈bs,0≤b.x)→0≤s.2→0≤(F7 i bs s).2:=by
  induction bs with
  | nil=>intro i s _ h;exact h
  | cons b r ih=>
    intro i s hb h
    rw [F7]
    refine ih (fun x hx=>hb x (List.mem_cons_of_mem _ hx)) ?_
    cases hq:decide (Ey s.1.sums b.y+b.most<Ey s.1.sums b.x) with
    | false=>rw [Xv hq];exact h
    | true=>rw [Pu hq];exact hb b (List.mem_cons_self ..)
theorem vV:∀(bs:List Bd) (i:Nat) (s:Ds×Int),(∀b∈bs,0≤b.x)→(F7 i bs s).2<0→F7 i bs s=s∧N9 (gf s.1.sums) bs
  | [],i,s,_,h=>⟨rfl,fun b hb=>by cases hb⟩
  | b::r,i,s,hb,h=>by
    have hr:∀x∈r,0≤x.x:=fun x hx=>hb x (List.mem_cons_of_mem _ hx)
    rw [F7] at h ⊢
    cases hq:decide (Ey s.1.sums b.y+b.most<Ey s.1.sums b.x) with
    | true=>
      rw [Pu hq] at h
      have:=qD (i:=i+1) (s:=(⟨s.1.sums.set b.x.toNat (Ey s.1.sums b.y+b.most),s.1.last.set b.x.toNat (i:Int)⟩,b.x)) hr (hb b (List.mem_cons_self ..))
      omega
    | false=>
      rw [Xv hq] at h ⊢
      obtain ⟨h1,h2⟩:=vV r (i+1) s hr h
      refine ⟨h1,fun c hc=>?_⟩
      rcases List.mem_cons.1 hc with rfl | hc
      · have h3:=of_decide_eq_false hq
        have h4:¬(gf s.1.sums c.y.toNat+c.most<gf s.1.sums c.x.toNat):=h3
        omega
      · exact h2 c hc
theorem qN {n:Nat}{bs:List Bd}(hm:∀b∈bs,-Jp≤b.most∧b.most≤Jp)(h:(Ew (zn n bs)).ok=true) :
    (Ew (zn n bs)).values.length=n∧Ey (Ew (zn n bs)).values 0=0∧∀b∈bs,T9 (Ey (Ew (zn n bs)).values) b:=by
  cases hz:I6 (zn n bs) != 0 with
  | true=>rw [Vw hz] at h;cases h
  | false=>
    cases he:decide ((El (zn n bs)).2<0) with
    | false=>rw [dP hz he] at h;cases h
    | true=>
      have hk:=oA hz hm
      have hs:=(mV hk).s
      rw [V1 hz he]
      simp only [List.length_map]
      have he':=of_decide_eq_true he
      rw [M0] at he'
      obtain ⟨d,h1,h2⟩:=Xa n _ he'
      obtain ⟨h3,h4⟩:=vV bs 0 (d,-1) (fun b hb=>(hk.bd b hb).1) h2
      rw [←M0] at h1
      have h5:(El (zn n bs)).1=d:=by rw [h1];show (F7 0 bs (d,-1)).1=d;rw [h3]
      rw [h5] at hs ⊢
      have hix:∀k:Int,0≤k→k<(n:Int)→Ey (d.sums.map fun v=>v-Ey d.sums 0) k=Ey d.sums k-Ey d.sums 0:=fun k k0 k1=>by
        have hlt:k.toNat<d.sums.length:=by omega
        have hg:=List.getElem?_eq_getElem hlt
        show ((d.sums.map fun v=>v-Ey d.sums 0)[k.toNat]?).getD 0=(d.sums[k.toNat]?).getD 0-Ey d.sums 0
        rw [List.getElem?_map,hg];rfl
      have hn:=hk.n1
      refine ⟨hs,?_,fun b hb=>?_⟩
      · rw [hix 0 (by omega) (by omega)];omega
      · have hb2:=hk.bd b hb
        have h6:=h4 b hb
        have h7:Ey d.sums b.x≤Ey d.sums b.y+b.most:=h6
        show Ey _ b.x-Ey _ b.y≤b.most
        rw [hix b.x hb2.1 hb2.2.1,hix b.y hb2.2.2.1 hb2.2.2.2]
        omega
/-! ### classes of strings -/
inductive Root (w:Wm):Wd→Wd→Prop
 | here {x:Wd}:F9 w x=none→Root w x x
 | step {x y r:Wd}:F9 w x=some y→Root w y r→Root w x r
theorem Root.one {w:Wm}{x r s:Wd}(h:Root w x r):Root w x s→s=r:=by
  induction h with
  | here h=>
    intro h2
    cases h2 with
    | here _=>rfl
    | step h3 _=>rw [h] at h3;cases h3
  | step h1 _ ih=>
    intro h2
    cases h2 with
    | here h3=>rw [h1] at h3;cases h3
    | step h3 h4=>rw [h1] at h3;cases h3;exact ih h4
theorem nD {w:Wm}(hw:Rp w):∀(n:Nat) (x:Wd),qO w n x→Root w x (Qi w n x)
  | 0,x,h=>.here (Yo hw 0 x h)
  | n+1,x,h=>by
    cases hq:F9 w x with
    | none=>rw [V0 hq];exact .here hq
    | some y=>
      obtain ⟨h1,h2⟩:=Ty hw h hq
      rw [dA h1 hq]
      exact .step hq (nD hw n y h2)
theorem oY {w:Wm}(hw:Rp w)(x:Wd):Root w x (Ce w x):=nD hw _ _ (Rf w x)
theorem of_is {w:Wm}(hw:Rp w){x r:Wd}(h:Root w x r):Ce w x=r:=h.one (oY hw x)
theorem Pn {w:Wm}{k v x:Wd}:F9 (w ++ [(k,v)]) x=match F9 w x with | some y=>some y | none=>if k=x then some v else none:=by
  unfold F9
  rw [List.find?_append]
  cases w.find? fun p=>decide (p.1=x) with
  | some p=>rfl
  | none=>
    simp only [Option.none_or,Option.map_none]
    by_cases h:k=x
    · rw [if_pos h];simp [h]
    · rw [if_neg h];simp [h]
theorem qA {w:Wm}{k v:Wd}(hv:F9 w v=none)(hkv:k≠v){x r:Wd}(h:Root w x r):Root (w ++ [(k,v)]) x (if r=k then v else r):=by
  induction h with
  | @here x h=>
    by_cases e:x=k
    · rw [if_pos e]
      refine .step (y:=v) (by rw [Pn,h];simp [e]) (.here ?_)
      rw [Pn,hv];simp [hkv]
    · rw [if_neg e]
      refine .here ?_
      rw [Pn,h];simp [Ne.symm e]
  | @step x y r h1 _ ih=>
    exact .step (y:=y) (by rw [Pn,h1]) ih
theorem L0 {w:Wm}(hw:Rp w){k v:Wd}(hv:F9 w v=none)(hkv:k≠v)(x:Wd):Ce (w ++ [(k,v)]) x=if Ce w x=k then v else Ce w x:=
 of_is (Yg hw hv hkv) (qA hv hkv (oY hw x))
def Ql (w:Wm)(x y:Wd):Prop:=Ce w x=Ce w y
theorem tM {w:Wm}(hw:Rp w){a b:Wd}(ha:F9 w a=none)(hb:F9 w b=none){x y:Wd}(h:Ql w x y):Ql (Nn w a b).1 x y:=by
 unfold Ql at *
 unfold Nn
 by_cases e:a=b
 · rw [if_pos e];exact h
 rw [if_neg e]
 split
 · exact h
 split
 · simp only;rw [L0 hw ha (fun q=>e q.symm),L0 hw ha (fun q=>e q.symm),h]
 · simp only;rw [L0 hw hb e,L0 hw hb e,h]
theorem Uv {w:Wm}(hw:Rp w){c:Lit}{x y:Wd}(h:Ql w x y):Ql (E8 w c).1 x y:=by rw [Jz];exact tM hw (I0 hw _) (I0 hw _) h
theorem dO {w:Wm}(hw:Rp w){c:Lit}(h:(E8 w c).2=true):Ql (E8 w c).1 (Ca (Ao c.cond)) (Ca (Bi c.cond)):=by
  rw [Jz] at h ⊢
  have fa:=I0 hw (Ca (Ao c.cond))
  have fb:=I0 hw (Ca (Bi c.cond))
  unfold Ql
  unfold Nn at h ⊢
  by_cases e:Ce w (Ca (Ao c.cond))=Ce w (Ca (Bi c.cond))
  · rw [if_pos e];exact e
  rw [if_neg e] at h ⊢
  cases hc:((Ce w (Ca (Ao c.cond))).const&&(Ce w (Ca (Bi c.cond))).const) with
  | true=>rw [hc,if_pos rfl] at h;cases h
  | false=>
    rw [Ci rfl]
    cases h3:(Ce w (Ca (Ao c.cond))).const with
    | true=>
      rw [if_pos rfl]
      simp only
      rw [L0 hw fa (fun q=>e q.symm),L0 hw fa (fun q=>e q.symm),if_neg e,if_pos rfl]
    | false=>
      rw [Ci rfl]
      simp only
      rw [L0 hw fb e,L0 hw fb e,if_pos rfl,if_neg (fun q=>e q.symm)]
section
variable {T:List Sc} {V:List Va}
theorem Tl:∀(l:List Lit) {w:Wm},Rp w→∀{x y:Wd},Ql w x y→Ql (I8 T V l w).1 x y
  | [],w,_,x,y,h=>h
  | c::r,w,hw,x,y,h=>by
    cases h1:Cl T V true c with
    | false=>rw [Md h1];exact Tl r hw h
    | true=>
      cases h2:(E8 w c).2 with
      | false=>rw [Mq h1 h2];exact Uv hw h
      | true=>rw [Mb h1 h2];exact Tl r (Mr hw c) (Uv hw h)
theorem Q9:∀(l:List Lit) {w:Wm},Rp w→(I8 T V l w).2=true→∀c∈l,Cl T V true c=true→Ql (I8 T V l w).1 (Ca (Ao c.cond)) (Ca (Bi c.cond))
  | [],w,_,_,c,hc,_=>by cases hc
  | d::r,w,hw,h,c,hc,hs=>by
    cases h1:Cl T V true d with
    | false=>
      rw [Md h1] at h ⊢
      rcases List.mem_cons.1 hc with rfl | hc
      · rw [h1] at hs;cases hs
      · exact Q9 r hw h c hc hs
    | true=>
      cases h2:(E8 w d).2 with
      | false=>rw [Mq h1 h2] at h;cases h
      | true=>
        rw [Mb h1 h2] at h ⊢
        rcases List.mem_cons.1 hc with rfl | hc
        · exact Tl r (Mr hw c) (dO hw h2)
        · exact Q9 r (Mr hw d) h c hc hs
theorem Rh {w:Wm}:∀(l:List Lit),Oa T V w l=true→∀c∈l,Cl T V false c=true→Ce w (Ca (Ao c.cond))≠Ce w (Ca (Bi c.cond))
  | [],_,c,hc,_=>by cases hc
  | d::r,h,c,hc,hs=>by
    rw [Oa] at h
    cases h1:Cl T V false d with
    | false=>
      rw [h1] at h
      rcases List.mem_cons.1 hc with rfl | hc
      · rw [h1] at hs;cases hs
      · exact Rh r h c hc hs
    | true=>
      rw [h1,if_neg (by decide)] at h
      by_cases e:Ce w (Ca (Ao d.cond))=Ce w (Ca (Bi d.cond))
      · rw [if_pos e] at h;cases h
      · rw [if_neg e] at h
        rcases List.mem_cons.1 hc with rfl | hc
        · exact e
        · exact Rh r h c hc hs
/-! ### what the classes' map holds -/
/-- keys are no constants; keys and values are words of the clause -/
structure wGood (W:Wd→Prop) (w:Wm):Prop where
 key:∀p∈w,p.1.const=false
 val:∀p∈w,W p.2
theorem vT {W:Wd→Prop}{w:Wm}(h:wGood W w):∀(n:Nat) (x:Wd),W x→W (Qi w n x)
  | 0,x,hx=>hx
  | n+1,x,hx=>by
    rw [Qi]
    cases hg:F9 w x with
    | none=>exact hx
    | some y=>exact vT h n y (h.val _ (Yx hg))
theorem kJ {W:Wd→Prop}{w:Wm}(h:wGood W w){x:Wd}(hx:W x):W (Ce w x):=vT h _ _ hx
theorem yJ {W:Wd→Prop}{w:Wm}(h:wGood W w){x:Wd}(hx:x.const=true):Ce w x=x:=by
 have:F9 w x=none:=Xy fun p hp e=>by
  have:=h.key p hp
  rw [e,hx] at this;cases this
 exact V0 this
theorem U3 {W:Wd→Prop}{w:Wm}(h:wGood W w){c:Lit}(h0:W (Ca (Ao c.cond)))(h1:W (Ca (Bi c.cond))):wGood W (E8 w c).1:=by
  rw [Jz]
  have a:=kJ h h0
  have b:=kJ h h1
  revert a b
  generalize Ce w (Ca (Ao c.cond))=x
  generalize Ce w (Ca (Bi c.cond))=y
  intro a b
  unfold Nn
  split
  · exact h
  cases hc:(x.const&&y.const) with
  | true=>rw [if_pos rfl];exact h
  | false=>
    rw [Ci rfl]
    cases h3:x.const with
    | true=>
      rw [h3,Bool.true_and] at hc
      rw [if_pos rfl]
      refine ⟨fun p hp=>?_,fun p hp=>?_⟩
      · rcases List.mem_append.1 hp with hp | hp
        · exact h.key p hp
        · rw [List.mem_singleton.1 hp];exact hc
      · rcases List.mem_append.1 hp with hp | hp
        · exact h.val p hp
        · rw [List.mem_singleton.1 hp];exact a
    | false=>
      rw [Ci rfl]
      refine ⟨fun p hp=>?_,fun p hp=>?_⟩
      · rcases List.mem_append.1 hp with hp | hp
        · exact h.key p hp
        · rw [List.mem_singleton.1 hp];exact h3
      · rcases List.mem_append.1 hp with hp | hp
        · exact h.val p hp
        · rw [List.mem_singleton.1 hp];exact b
theorem T8 {W:Wd→Prop}:∀(l:List Lit) {w:Wm},(∀c∈l,Cl T V true c=true→W (Ca (Ao c.cond))∧W (Ca (Bi c.cond)))→wGood W w→wGood W (I8 T V l w).1
  | [],w,_,h=>h
  | c::r,w,hl,h=>by
    have hr:=fun x hx=>hl x (List.mem_cons_of_mem _ hx)
    cases h1:Cl T V true c with
    | false=>rw [Md h1];exact T8 r hr h
    | true=>
      obtain ⟨a,b⟩:=hl c (List.mem_cons_self ..) h1
      cases h2:(E8 w c).2 with
      | false=>rw [Mq h1 h2];exact U3 h a b
      | true=>rw [Mb h1 h2];exact T8 r hr (U3 h a b)
end
end Go.Proofs.YtkddpedfbicbeaaGreatDoor
