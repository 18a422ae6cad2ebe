/-
  Several texts in one: S41, S43. No condition.
-/
import Derived.Test.YtjedflcpjlgokaaGreatDoorK21
import Derived.Test.YtjedflcpjlgokaaGreatDoorK22
set_option linter.unusedVariables false
set_option linter.unusedSimpArgs false
namespace Go.Proofs.YtjedflcpjlgokaaGreatDoor
open Go Go.Aw

def Uf (f:Nat→Int)(b:Bd):Nat→Int:=fun k=>if k=b.x.toNat∧f b.y.toNat+b.most<f b.x.toNat then f b.y.toNat+b.most else f k
def Gc (f:Nat→Int)(es:List Bd):Nat→Int:=es.foldl Uf f
theorem iS (f:Nat→Int)(b:Bd)(k:Nat):Uf f b k≤f k:=by
 unfold Uf
 split
 · rename_i h;rw [h.1];omega
 · exact Int.le_refl _
theorem uF (f:Nat→Int)(b:Bd):Uf f b b.x.toNat≤f b.y.toNat+b.most:=by
 unfold Uf
 split
 · exact Int.le_refl _
 · rename_i h;omega
theorem rJ {f:Nat→Int}{b:Bd}{k:Nat}(h:k≠b.x.toNat):Uf f b k=f k:=if_neg fun e=>h e.1
theorem kD {f:Nat→Int}{b:Bd}(h:¬f b.y.toNat+b.most<f b.x.toNat):Uf f b=f:=funext fun k=>if_neg fun e=>h e.2
theorem Og:∀(es:List Bd) (f:Nat→Int) (k:Nat),Gc f es k≤f k
 | [],f,k=>Int.le_refl _
 | b::r,f,k=>Int.le_trans (Og r (Uf f b) k) (iS f b k)
theorem kN (f:Nat→Int)(a b:List Bd):Gc f (a++b)=Gc (Gc f a) b:=List.foldl_append
def Ni (D:Nat→Int)(bs:List Bd):Prop:=∀b∈bs,D b.x.toNat≤D b.y.toNat+b.most
theorem lT {D f:Nat→Int}{bs:List Bd}(hD:Ni D bs){b:Bd}(hb:b∈bs)(hf:∀k,D k≤f k):∀k,D k≤Uf f b k:=fun k=>by
 unfold Uf
 split
 ·
  rename_i h
  have:=hD b hb
  have:=hf b.y.toNat
  rw [h.1];omega
 · exact hf k
theorem Q8 {D:Nat→Int}{bs:List Bd}(hD:Ni D bs):∀{es:List Bd} {f:Nat→Int},(∀b∈es,b∈bs)→(∀k,D k≤f k)→∀k,D k≤Gc f es k
 | [],f,_,hf=>hf
 | b::r,f,he,hf=>Q8 hD (es:=r) (f:=Uf f b) (fun x hx=>he x (List.mem_cons_of_mem _ hx)) (lT hD (he b (List.mem_cons_self ..)) hf)
theorem P6 {D:Nat→Int}{bs:List Bd}(hD:Ni D bs):∀{es:List Bd} {f:Nat→Int},(∀b∈es,b∈bs)→(∀k,D k≤f k)→Gc f es=D→(∃k,f k≠D k)→
    ∃b∈bs,f b.x.toNat≠D b.x.toNat∧f b.y.toNat=D b.y.toNat∧D b.x.toNat=D b.y.toNat+b.most
  | [],f,_,_,hr,⟨k,hk⟩=>absurd (congrFun hr k) hk
  | b::r,f,he,hf,hr,hne=>by
    have hb:=he b (List.mem_cons_self ..)
    have he':∀x∈r,x∈bs:=fun x hx=>he x (List.mem_cons_of_mem _ hx)
    by_cases hu:f b.y.toNat+b.most<f b.x.toNat
    · have h1:Uf f b b.x.toNat=f b.y.toNat+b.most:=if_pos ⟨rfl,hu⟩
      have h2:=hD b hb
      have h3:=hf b.y.toNat
      by_cases hv:f b.y.toNat+b.most=D b.x.toNat
      · exact ⟨b,hb,by omega,by omega,by omega⟩
      · have hl:=lT hD hb hf
        obtain ⟨c,hc,c1,c2,c3⟩:=P6 hD (es:=r) (f:=Uf f b) he' hl hr ⟨b.x.toNat,by rw [h1];exact hv⟩
        have h4:=hl c.x.toNat
        have h5:=iS f b c.x.toNat
        refine ⟨c,hc,by omega,?_,c3⟩
        rw [←c2,rJ]
        intro e
        rw [e,h1] at c2
        exact hv c2
    · have h1:=kD hu
      exact P6 hD (es:=r) (f:=f) he' hf (by rw [←h1];exact hr) hne
theorem cZ {D f:Nat→Int}{bs:List Bd}(hD:Ni D bs)(hf:∀k,D k≤f k){b:Bd}(hb:b∈bs)(h1:f b.y.toNat=D b.y.toNat)(h2:D b.x.toNat=D b.y.toNat+b.most):Gc f bs b.x.toNat=D b.x.toNat:=by
 obtain ⟨p,q,e⟩:=List.append_of_mem hb
 have h3:=Q8 hD (es:=bs) (fun x hx=>hx) hf b.x.toNat
 have h4:Gc f bs=Gc (Uf (Gc f p) b) q:=by rw [e,kN];rfl
 have h5:=Og q (Uf (Gc f p) b) b.x.toNat
 have h6:=uF (Gc f p) b
 have h7:=Og p f b.y.toNat
 rw [h4] at h3 ⊢
 omega
def Ud (D f:Nat→Int)(n:Nat):Nat:=(List.range n).countP fun k=>f k != D k
theorem eN {α:Type}{p q:α→Bool}:∀{l:List α} {x:α},(∀y,p y=true→q y=true)→x∈l→q x=true→p x=false→l.countP p<l.countP q
  | a::r,x,h,hx,hq,hp=>by
    have hle:r.countP p≤r.countP q:=List.countP_mono_left fun y _ hy=>h y hy
    rcases List.mem_cons.1 hx with rfl | hx
    · rw [List.countP_cons,List.countP_cons,if_pos hq,if_neg (by rw [hp];decide)];omega
    · have:=eN h hx hq hp
      rw [List.countP_cons,List.countP_cons]
      by_cases ha:p a=true
      · rw [if_pos ha,if_pos (h a ha)];omega
      · rw [if_neg ha];split <;> omega
theorem pX {D f:Nat→Int}{n:Nat}(h:Ud D f n=0):∀k,k<n→f k=D k:=fun k hk=>by
 have:=List.countP_eq_zero.1 h k (List.mem_range.2 hk)
 simpa using this
def Hd (bs:List Bd)(f:Nat→Int):Nat→(Nat→Int)
 | 0=>f
 | m+1=>Gc (Hd bs f m) bs
theorem Sn (bs:List Bd):∀(m:Nat) (f:Nat→Int),Hd bs f (m+1)=Hd bs (Gc f bs) m
  | 0,f=>rfl
  | m+1,f=>by
    show Gc (Hd bs f (m+1)) bs=Gc (Hd bs (Gc f bs) m) bs
    rw [Sn bs m f]
theorem cM {D:Nat→Int}{bs:List Bd}(hD:Ni D bs){f:Nat→Int}(hf:∀k,D k≤f k):∀(m k:Nat),D k≤Hd bs f m k
 | 0,k=>hf k
 | m+1,k=>Q8 hD (fun _ h=>h) (cM hD hf m) k
theorem kI (bs:List Bd)(f:Nat→Int):∀(m j:Nat),∃es:List Bd,(∀b∈es,b∈bs)∧Gc (Hd bs f j) es=Hd bs f (j+m)
  | 0,j=>⟨[],(fun b h=>by cases h),rfl⟩
  | m+1,j=>by
    obtain ⟨es,h1,h2⟩:=kI bs f m j
    refine ⟨es++bs,fun b hb=>?_,?_⟩
    · rcases List.mem_append.1 hb with h | h
      · exact h1 b h
      · exact h
    · rw [kN,h2];rfl
theorem bW {D:Nat→Int}:∀{bs:List Bd},Ni D bs→Gc D bs=D
  | [],_=>rfl
  | b::r,h=>by
    have h1:Uf D b=D:=kD (by have:=h b (List.mem_cons_self ..);omega)
    show Gc (Uf D b) r=D
    rw [h1];exact bW fun x hx=>h x (List.mem_cons_of_mem _ hx)
theorem iP {D f:Nat→Int}{bs:List Bd}{n:Nat}(hD:Ni D bs)(hbs:∀b∈bs,b.x.toNat<n)(hf:∀k,D k≤f k){es:List Bd}(he:∀b∈es,b∈bs)(hr:Gc f es=D):Ud D (Gc f bs) n=0∨Ud D (Gc f bs) n<Ud D f n:=by
 by_cases hne:∃k,f k≠D k
 ·
  obtain ⟨b,hb,h1,h2,h3⟩:=P6 hD he hf hr hne
  refine .inr (eN (x:=b.x.toNat) (fun y hy=>?_) (List.mem_range.2 (hbs b hb)) (by simpa using h1) (by simpa using cZ hD hf hb h2 h3))
  have h4:=Og bs f y
  have h5:=Q8 hD (es:=bs) (fun _ h=>h) hf y
  simp only [bne_iff_ne,ne_eq] at hy ⊢
  omega
 ·
  have h1:f=D:=funext fun k=>by
   by_cases h:f k=D k
   · exact h
   · exact absurd ⟨k,h⟩ hne
  left
  rw [h1,bW hD]
  unfold Ud
  rw [List.countP_eq_zero]
  intro k _;simp
theorem Yu {D f:Nat→Int}{bs:List Bd}{n m:Nat}(hD:Ni D bs)(hbs:∀b∈bs,b.x.toNat<n)(hf:∀k,D k≤f k)(hm:Hd bs f m=D):∀j,Ud D (Hd bs f j) n≤n-j
  | 0=>by
    have:=List.countP_le_length (p:=fun k=>f k != D k) (l:=List.range n)
    rw [List.length_range] at this
    exact this
  | j+1=>by
    have ih:=Yu hD hbs hf hm j
    have hes:∃es:List Bd,(∀b∈es,b∈bs)∧Gc (Hd bs f j) es=D:=by
      by_cases hj:j≤m
      · obtain ⟨es,h1,h2⟩:=kI bs f (m-j) j
        exact ⟨es,h1,by rw [h2,show j+(m-j)=m by omega,hm]⟩
      · refine ⟨[],(fun b h=>by cases h),?_⟩
        obtain ⟨d,rfl⟩:∃d,j=m+d:=⟨j-m,by omega⟩
        show Hd bs f (m+d)=D
        have:∀d,Hd bs f (m+d)=D:=by
          intro d
          induction d with
          | zero=>exact hm
          | succ d ihd=>show Gc (Hd bs f (m+d)) bs=D;rw [ihd,bW hD]
        exact this d
    obtain ⟨es,h1,h2⟩:=hes
    rcases iP hD hbs (cM hD hf j) h1 h2 with h | h
    · show Ud D (Gc (Hd bs f j) bs) n≤_
      omega
    · show Ud D (Gc (Hd bs f j) bs) n≤_
      omega
def sV (L f:Nat→Int)(n:Nat):Nat:=((List.range n).map fun k=>(f k-L k).toNat).sum
theorem oL {l:List Nat}{f g:Nat→Nat}(h:∀k∈l,f k≤g k):(l.map f).sum≤(l.map g).sum:=by
  induction l with
  | nil=>exact Nat.le_refl _
  | cons a r ih=>
    have:=h a (List.mem_cons_self ..)
    have:=ih fun k hk=>h k (List.mem_cons_of_mem _ hk)
    simp only [List.map_cons,List.sum_cons];omega
theorem qJ {l:List Nat}{f g:Nat→Nat}{x:Nat}(h:∀k∈l,f k≤g k)(hx:x∈l)(hlt:f x<g x):(l.map f).sum<(l.map g).sum:=by
  induction l with
  | nil=>cases hx
  | cons a r ih=>
    have h1:=h a (List.mem_cons_self ..)
    simp only [List.map_cons,List.sum_cons]
    rcases List.mem_cons.1 hx with rfl | hx
    · have:=oL (l:=r) (f:=f) (g:=g) fun k hk=>h k (List.mem_cons_of_mem _ hk)
      omega
    · have:=ih (fun k hk=>h k (List.mem_cons_of_mem _ hk)) hx
      omega
theorem uS:∀{bs:List Bd} {f:Nat→Int} {k:Nat},Gc f bs k≠f k→∃b∈bs,b.x.toNat=k
  | [],f,k,h=>absurd rfl h
  | b::r,f,k,h=>by
    by_cases hk:k=b.x.toNat
    · exact ⟨b,List.mem_cons_self ..,hk.symm⟩
    · have h1:Gc (Uf f b) r k≠Uf f b k:=by rw [rJ hk];exact h
      obtain ⟨c,hc,e⟩:=uS h1
      exact ⟨c,List.mem_cons_of_mem _ hc,e⟩
theorem kE:∀{bs:List Bd} {f:Nat→Int},Gc f bs=f→Ni f bs
  | [],f,_=>fun b h=>by cases h
  | b::r,f,h=>by
    have h1:Uf f b=f:=funext fun k=>by
      have h2:=congrFun h k
      have h3:=Og r (Uf f b) k
      have h4:=iS f b k
      have h5:Gc (Uf f b) r k=f k:=h2
      omega
    have h2:Gc f r=f:=by
      have:Gc (Uf f b) r=f:=h
      rwa [h1] at this
    intro c hc
    rcases List.mem_cons.1 hc with rfl | hc
    · have:=uF f c
      rw [h1] at this;exact this
    · exact kE h2 c hc
theorem kB {L:Nat→Int}{bs:List Bd}{n:Nat}(hL:Ni L bs)(hbs:∀b∈bs,b.x.toNat<n):∀(μ:Nat) (f:Nat→Int),(∀k,L k≤f k)→sV L f n=μ→∃m,Ni (Hd bs f m) bs:=by
  intro μ
  induction μ using Nat.strongRecOn with
  | _ μ ih=>
    intro f hf hμ
    by_cases h:Gc f bs=f
    · exact ⟨0,kE h⟩
    · obtain ⟨k,hk⟩:∃k,Gc f bs k≠f k:=by
        by_cases hh:∃k,Gc f bs k≠f k
        · exact hh
        · exact absurd (funext fun k=>by
            by_cases h2:Gc f bs k=f k
            · exact h2
            · exact absurd ⟨k,h2⟩ hh) h
      obtain ⟨b,hb,hbk⟩:=uS hk
      have hl:=Q8 hL (es:=bs) (fun _ h=>h) hf
      have hlt:sV L (Gc f bs) n<sV L f n:=by
        refine qJ (x:=k) (fun j _=>?_) (List.mem_range.2 (by rw [←hbk];exact hbs b hb)) ?_
        · have:=Og bs f j;omega
        · have:=Og bs f k
          have:=hl k
          omega
      obtain ⟨m,hm⟩:=ih _ (by rw [←hμ];exact hlt) (Gc f bs) hl rfl
      exact ⟨m+1,by rw [Sn];exact hm⟩
theorem jN {p:Nat→Int}{M:Int}{bs:List Bd}{n:Nat}(hp:Ni p bs)(hM:∀k,p k≤M)(hbs:∀b∈bs,b.x.toNat<n∧b.y.toNat<n):Ni (Hd bs (fun _=>0) n) bs:=by
 have hL:Ni (fun k=>p k-M) bs:=fun b hb=>by have:=hp b hb;simp only;omega
 obtain ⟨m,hm⟩:=kB (n:=n) hL (fun b hb=>(hbs b hb).1) _ (fun _=>0) (fun k=>by have:=hM k;omega) rfl
 have hlow:∀k,Hd bs (fun _=>0) m k≤0:=fun k=>by
  have:∀m,Hd bs (fun _=>0) m k≤0:=by
   intro m
   induction m with
   | zero=>exact Int.le_refl _
   | succ m ih=>exact Int.le_trans (Og bs _ k) ih
  exact this m
 have h1:=Yu (n:=n) hm (fun b hb=>(hbs b hb).1) hlow rfl n
 have h2:=pX (n:=n) (D:=Hd bs (fun _=>0) m) (f:=Hd bs (fun _=>0) n) (by omega)
 intro b hb
 rw [h2 _ (hbs b hb).1,h2 _ (hbs b hb).2]
 exact hm b hb
def gf (l:List Int):Nat→Int:=fun k=>(l[k]?).getD 0
theorem gf_rlx {i:Nat}{b:Bd}{s:Ds×Int}(hx:b.x.toNat<s.1.sums.length):gf (Nf i b s).1.sums=Uf (gf s.1.sums) b∧(Nf i b s).1.sums.length=s.1.sums.length:=by
 unfold Nf
 by_cases h:gf s.1.sums b.y.toNat+b.most<gf s.1.sums b.x.toNat
 ·
  have h':decide (D7 s.1.sums b.y+b.most<D7 s.1.sums b.x)=true:=decide_eq_true h
  rw [if_pos h']
  refine ⟨funext fun k=>?_,by simp⟩
  unfold Uf
  by_cases hk:k=b.x.toNat
  ·
   subst hk
   rw [if_pos ⟨rfl,h⟩]
   show ((s.1.sums.set b.x.toNat _)[b.x.toNat]?).getD 0=_
   rw [List.getElem?_set_self hx];rfl
  ·
   rw [if_neg fun e=>hk e.1]
   show ((s.1.sums.set b.x.toNat _)[k]?).getD 0=_
   rw [List.getElem?_set_ne (fun e=>hk e.symm)];rfl
 ·
  have h':decide (D7 s.1.sums b.y+b.most<D7 s.1.sums b.x)=false:=decide_eq_false h
  rw [C3 h']
  exact ⟨(kD h).symm,rfl⟩
theorem zS {n:Nat}:∀(bs:List Bd) (i:Nat) (s:Ds×Int),(∀b∈bs,b.x.toNat<n)→s.1.sums.length=n→gf (Fo i bs s).1.sums=Gc (gf s.1.sums) bs∧(Fo i bs s).1.sums.length=n
  | [],i,s,_,hs=>⟨rfl,hs⟩
  | b::r,i,s,hb,hs=>by
    obtain ⟨h1,h2⟩:=gf_rlx (i:=i) (b:=b) (s:=s) (by rw [hs];exact hb b (List.mem_cons_self ..))
    obtain ⟨h3,h4⟩:=zS r (i+1) (Nf i b s) (fun x hx=>hb x (List.mem_cons_of_mem _ hx)) (by rw [h2,hs])
    rw [Fo]
    exact ⟨by rw [h3,h1];rfl,h4⟩
theorem uK:∀(bs:List Bd) (i:Nat) (s:Ds×Int),Ni (gf s.1.sums) bs→Fo i bs s=s
  | [],i,s,_=>rfl
  | b::r,i,s,h=>by
    have h1:=h b (List.mem_cons_self ..)
    have h2:Nf i b s=s:=by
      unfold Nf
      have h':decide (D7 s.1.sums b.y+b.most<D7 s.1.sums b.x)=false:=decide_eq_false (fun h2=>by have h3:gf s.1.sums b.y.toNat+b.most<gf s.1.sums b.x.toNat:=h2;omega)
      rw [C3 h']
    rw [Fo,h2]
    exact uK r (i+1) s fun x hx=>h x (List.mem_cons_of_mem _ hx)
theorem Vc {bs:List Bd}{n:Nat}(hb:∀b∈bs,b.x.toNat<n):∀(m:Nat) (s:Ds×Int),s.1.sums.length=n→Ni (Hd bs (gf s.1.sums) m) bs→(Dw bs (m+1) s).2<0
  | 0,s,hs,hf=>by
    have h1:I7 bs s.1=(s.1,-1):=uK bs 0 (s.1,-1) hf
    rw [Dw,if_pos (by rw [h1];exact decide_eq_true (show (-1:Int)<0 by decide)),h1]
    show (-1:Int)<0
    decide
  | m+1,s,hs,hf=>by
    rw [Dw]
    by_cases h:decide ((I7 bs s.1).2<0)=true
    · rw [if_pos h];exact of_decide_eq_true h
    · rw [if_neg h]
      obtain ⟨h1,h2⟩:=zS (n:=n) bs 0 (s.1,-1) hb hs
      refine Vc hb m _ h2 ?_
      have h3:gf (I7 bs s.1).1.sums=Gc (gf s.1.sums) bs:=h1
      rw [h3,←Sn];exact hf
theorem fG {n:Nat}{bs:List Bd}{p:Int→Int}(hz:(He (zn n bs) != 0)=false)(hp:∀b∈bs,p b.x-p b.y≤b.most):(Dr (zn n bs)).ok=true:=by
  have hk:=bE (n:=(n:Int)) (bs:=bs) hz
  have hb:∀b∈bs,b.x.toNat<n∧b.y.toNat<n:=fun b h=>by have:=hk.2.2.2 b h;omega
  have hend:decide ((D1 (zn n bs)).2<0)=true:=by
    rw [Mn,decide_eq_true_eq]
    refine Vc (n:=n) (fun b h=>(hb b h).1) n _ (by simp) ?_
    have h0:gf (List.replicate n (0:Int))=fun _=>0:=funext fun k=>by
      unfold gf
      rw [List.getElem?_replicate];split <;> rfl
    show Ni (Hd bs (gf (List.replicate n 0)) n) bs
    rw [h0]
    obtain ⟨M,hM⟩:∃M,∀k,(fun k:Nat=>if k<n then p (k:Int) else 0) k≤M:=by
      have key:∀n:Nat,∃M,0≤M∧∀k:Nat,k<n→p (k:Int)≤M:=by
        intro n
        induction n with
        | zero=>exact ⟨0,Int.le_refl _,fun k h=>absurd h (Nat.not_lt_zero _)⟩
        | succ n ih=>
          obtain ⟨M,h0,h1⟩:=ih
          refine ⟨max M (p (n:Int)),by omega,fun k hk=>?_⟩
          by_cases e:k=n
          · subst e;omega
          · have:=h1 k (by omega);omega
      obtain ⟨M,h0,h1⟩:=key n
      exact ⟨M,fun k=>by simp only;split;exact h1 k (by assumption);exact h0⟩
    refine jN (p:=fun k:Nat=>if k<n then p (k:Int) else 0) (M:=M) (fun b h=>?_) hM hb
    obtain ⟨h1,h2⟩:=hb b h
    have h3:=hp b h
    have h4:=hk.2.2.2 b h
    simp only
    rw [if_pos h1,if_pos h2,show ((b.x.toNat:Nat):Int)=b.x by omega,show ((b.y.toNat:Nat):Int)=b.y by omega]
    omega
  rw [Ut hz hend]

section
variable {T:List Sc} {V:List Va} {env:List (List Ev)}
structure LitF (T:List Sc) (V:List Va) (y:Lit):Prop where
 kok:KOK T V y.cond
 size:At y.cond≤64
 kind:Ak T V y.cond=1
 eqB:y.cond.op=9→Ak T V (Ap y.cond)≠1
 eqI:y.cond.op=9→Ak T V (Ap y.cond)=0→y.neg=false
theorem Of {v:Vl}(h:An v=0):v.kind=0∨v.kind=1∨v.kind=2:=by
 unfold An at h
 split at h
 · rename_i h1;simp at h1;omega
 split at h
 · rename_i h1;simp at h1;omega
 · cases h
theorem uT (hE:EnvOK T V env){e:Ex}(hk:KOK T V e){b:Int}{s:Su}(h:(Bh e b s).2=true):Ak T V e=0∨Ak T V e=1∨Ak T V e=2:=by
 have hz:=A8 hk.nodes
 rcases Np hz.1 with c | ⟨c,c1⟩ | ⟨c,hl⟩ | ⟨c,c1,c2,c3⟩
 ·
  have h1:Ak T V e=e.val.kind:=by unfold Ak;rw [if_pos (by rw [c];rfl)]
  rw [h1];exact Of (Im hz.1 (by simpa using c)).1
 ·
  obtain ⟨_,h2,h3⟩:=N9 hE hk c1
  rw [←h3];exact Of h2
 ·
  left
  have ho:e.op=5∨e.op=6:=by simpa using c
  unfold Ak
  rw [if_neg (by simp;omega),if_neg (by simp;omega),if_pos (by simp;omega)]
 · rw [Ge c c1 c2 c3] at h;cases h
theorem wJ {a b:Ex}(h:(Cd a b).2=true):(Bh a 1 Kb).2=true:=by
 unfold Cd at h
 cases h1:(Bh a 1 Kb).2 with
 | true=>rfl
 | false=>rw [h1] at h;cases h
theorem dC (hE:EnvOK T V env){y:Lit}(hf:LitF T V y)(ho:(y.cond.op==1)=false)(hn:(Aa T V y).2=true) :
    (y.cond.op=7∨y.cond.op=8∨y.cond.op=9)∧Ak T V (Ap y.cond)=0∧Ak T V (Bj y.cond)=0∧(Cd (Ap y.cond) (Bj y.cond)).2=true∧Aa T V y=Cd (Ap y.cond) (Bj y.cond):=by
  cases h2:(!Cm y.cond||Ch T V y.cond) with
  | true=>rw [nD ho h2] at hn;cases hn
  | false=>
    rw [Zq ho h2] at hn
    have hc:=Uu h2
    have hop:y.cond.op=7∨y.cond.op=8∨y.cond.op=9:=by
      unfold Cm at hc
      simp only [Bool.or_eq_true,beq_iff_eq] at hc
      omega
    have ht:Ch T V y.cond=false:=by
      rw [Bool.or_eq_false_iff] at h2;exact h2.2
    have hl:=oG hf.kok (by omega) (by omega)
    have m0:=Ba (show 0<y.cond.args.length by omega)
    have m1:=Bw (show 1<y.cond.args.length by omega)
    have k0:Ak T V (Ap y.cond)=0:=by
      rcases hop with h | h | h
      · have h1:=Qh hf.kok m0;unfold Na at h1;rw [h] at h1;simpa using h1
      · have h1:=Qh hf.kok m0;unfold Na at h1;rw [h] at h1;simpa using h1
      · rcases uT hE (Az hf.kok m0) (wJ hn) with h3 | h3 | h3
        · exact h3
        · exact absurd h3 (hf.eqB h)
        · unfold Ch at ht
          rw [h,h3] at ht;cases ht
    have k1:Ak T V (Bj y.cond)=0:=by
      rcases hop with h | h | h
      · have h1:=Qh hf.kok m1;unfold Na at h1;rw [h] at h1;simpa using h1
      · have h1:=Qh hf.kok m1;unfold Na at h1;rw [h] at h1;simpa using h1
      · rw [H8 hf.kok h m1];exact k0
    exact ⟨hop,k0,k1,hn,Zq ho h2⟩
def Sa (p:Int→Int)(b:Bd):Prop:=p b.x-p b.y≤b.most
theorem yH (hE:EnvOK T V env){y:Lit}(hf:LitF T V y)(hn:(Aa T V y).2=true){p:Int→Int}{x z:Int}(hx:p x=cL (Sq env) (Aa T V y).1.plus)(hz:p z=cL (Sq env) (Aa T V y).1.minus) :
    (∀b∈Dx y x z (Aa T V y).1.rest,Sa p b)↔N7 env y=true:=by
  cases ho:y.cond.op==1 with
  | true=>
    have h1:y.cond.op=1:=by simpa using ho
    rw [Yw ho] at hx hz ⊢
    obtain ⟨_,h2,h3⟩:=N9 hE hf.kok (by rw [ho];rfl)
    have hb:=Fk h2 (h3.trans hf.kind)
    have hv:Sq env (Dp y.cond)=(vl env y.cond).num:=by unfold Sq;rw [Kj (A8 hf.kok.nodes).1 (by rw [ho];rfl)]
    simp only [cL,List.map_cons,List.map_nil,List.sum_cons,List.sum_nil,hv] at hx hz
    have hnum:(vl env y.cond).num=0∨(vl env y.cond).num=1:=by rw [hb];cases (vl env y.cond).num==1 <;> simp [Dv]
    have ht:tv env y.cond=((vl env y.cond).num==1):=rfl
    unfold N7 Dx
    rw [ht]
    cases hneg:y.neg with
    | true=>
      simp only [h1]
      simp only [Sa,List.mem_singleton,forall_eq,beq_self_eq_true,Bool.true_and,Bool.true_or,if_true]
      rw [hx,hz]
      rcases hnum with h | h <;> rw [h] <;> simp
    | false=>
      simp only [h1]
      simp [Sa,hx,hz]
      rcases hnum with h | h <;> rw [h] <;> simp
  | false=>
    obtain ⟨hop,k0,k1,hb,he⟩:=dC hE hf ho hn
    have h1:y.cond.op≠1:=by simpa using ho
    have hl:=oG hf.kok (by omega) (by omega)
    have m0:=Ba (show 0<y.cond.args.length by omega)
    have m1:=Bw (show 1<y.cond.args.length by omega)
    have hsz:=Dl (e:=y.cond) (by omega)
    have hs:=hf.size
    obtain ⟨hv,_,_⟩:=dK hE (Az hf.kok m0) (Az hf.kok m1) k0 k1 (by omega) hb
    rw [he] at hx hz ⊢
    rw [←hx,←hz] at hv
    unfold N7 Dx
    rcases hop with h | h | h
    · rw [aG hE.suits hf.kok h,h]
      cases hneg:y.neg <;> simp [Sa] <;> omega
    · rw [tw_leq hE.suits hf.kok h,h]
      cases hneg:y.neg <;> simp [Sa] <;> omega
    · rw [uW hE.suits hf.kok h k0,h,hf.eqI h k0]
      simp [Sa]
      omega
def pv (τ:Tm→Int)(ts:List Tm)(k:Int):Int:=if k≤0 then 0 else ((ts[(k-1).toNat]?).map τ).getD 0
theorem kR:∀{ts:List Tm} {t:Tm},t∈ts→ts[ts.idxOf t]? = some t
  | u::r,t,h=>by
    rw [List.idxOf_cons]
    by_cases e:u=t
    · subst e;simp
    · have h1:(u==t)=false:=by simpa using e
      rw [h1]
      rcases List.mem_cons.1 h with rfl | h
      · exact absurd rfl e
      · simpa using kR h
theorem mG:∀{ts r:List Tm} {t:Tm},t∈ts→(ts++r).idxOf t=ts.idxOf t
  | u::s,r,t,h=>by
    rw [List.cons_append,List.idxOf_cons,List.idxOf_cons]
    by_cases e:u=t
    · subst e;simp
    · have h1:(u==t)=false:=by simpa using e
      rw [h1]
      rcases List.mem_cons.1 h with rfl | h
      · exact absurd rfl e
      · simp [mG h]
theorem tO {τ:Tm→Int}{ts l:List Tm}(hl:l.length≤1)(h:∀t∈l,t∈ts):pv τ ts (B1 ts l)=cL τ l:=by
  match l,hl with
  | [],_=>rfl
  | [t],_=>
    have hm:=kR (h t (List.mem_cons_self ..))
    show pv τ ts (((ts.idxOf t:Nat):Int)+1)=_
    unfold pv
    rw [if_neg (by omega),show ((((ts.idxOf t:Nat):Int)+1)-1).toNat=ts.idxOf t by omega,hm]
    simp [cL]
theorem kU {ts r l:List Tm}(h:∀t∈l,t∈ts):B1 (ts++r) l=B1 ts l:=by
  match l with
  | []=>rfl
  | t::_=>
    show (((ts++r).idxOf t:Nat):Int)+1=_
    rw [mG (h t (List.mem_cons_self ..))];rfl
theorem Zd (ts l:List Tm):∃r,Av ts l=ts++r:=by
 unfold Av
 split
 · exact ⟨[],by simp⟩
 ·
  split
  · exact ⟨[],by simp⟩
  · exact ⟨_,rfl⟩
theorem Zo {ts l:List Tm}(hl:l.length≤1):∀t∈l,t∈Av ts l:=by
  match l,hl with
  | [],_=>intro t h;cases h
  | [u],_=>
    intro t h
    rw [List.mem_singleton.1 h]
    unfold Av
    simp only
    split
    · rename_i h1;simpa using h1
    · simp
def Oj (T:List Sc)(V:List Va)(ts:List Tm)(c:Lit):List Bd:=if (Aa T V c).2 then Dx c (B1 ts (Aa T V c).1.plus) (B1 ts (Aa T V c).1.minus) (Aa T V c).1.rest else []
theorem fW {c:Lit}(h:(Aa T V c).2=true):(Aa T V c).1.plus.length≤1∧(Aa T V c).1.minus.length≤1:=by
 unfold Aa at h ⊢
 split
 · exact ⟨Nat.le_refl _,Nat.zero_le _⟩
 ·
  rename_i h1
  rw [if_neg h1] at h
  split
  · exact ⟨Nat.zero_le _,Nat.zero_le _⟩
  ·
   rename_i h2
   rw [if_neg h2] at h
   unfold Cd at h ⊢
   split
   · exact ⟨Nat.zero_le _,Nat.zero_le _⟩
   ·
    rename_i h3
    rw [if_neg h3] at h
    split
    · exact ⟨Nat.zero_le _,Nat.zero_le _⟩
    ·
     rename_i h4
     rw [if_neg h4] at h
     unfold Q5 at h ⊢
     split
     ·
      rename_i h5
      rw [h5] at h
      simp only [Bool.and_eq_true,decide_eq_true_eq] at h
      exact ⟨by simp only;omega,by simp only;omega⟩
     · exact ⟨Nat.zero_le _,Nat.zero_le _⟩
theorem U8:∀(l:List Lit) (s:Sy),(∃r,(l.foldl (C1 T V) s).ts=s.ts++r)∧(l.foldl (C1 T V) s).bs=s.bs++l.flatMap (Oj T V (l.foldl (C1 T V) s).ts)∧
    ∀c∈l,(Aa T V c).2=true→(∀t∈(Aa T V c).1.plus,t∈(l.foldl (C1 T V) s).ts)∧∀t∈(Aa T V c).1.minus,t∈(l.foldl (C1 T V) s).ts
  | [],s=>⟨⟨[],by simp⟩,by simp,fun c h=>by cases h⟩
  | c::r,s=>by
    rw [List.foldl_cons]
    obtain ⟨⟨q,h1⟩,h2,h3⟩:=U8 r (C1 T V s c)
    cases hn:(Aa T V c).2 with
    | false=>
      have hs:C1 T V s c=s:=Kt (by rw [hn];rfl)
      rw [hs] at h1 h2 h3 ⊢
      refine ⟨⟨q,h1⟩,?_,fun d hd hdn=>?_⟩
      · rw [h2,List.flatMap_cons]
        have:Oj T V (r.foldl (C1 T V) s).ts c = []:=by unfold Oj;rw [hn];rfl
        rw [this];rfl
      · rcases List.mem_cons.1 hd with rfl | hd
        · rw [hn] at hdn;cases hdn
        · exact h3 d hd hdn
    | true=>
      have hs:=Ky (T:=T) (V:=V) (s:=s) (c:=c) (by rw [hn];rfl)
      obtain ⟨lp,lm⟩:=fW hn
      obtain ⟨r1,e1⟩:=Zd s.ts (Aa T V c).1.plus
      obtain ⟨r2,e2⟩:=Zd (Av s.ts (Aa T V c).1.plus) (Aa T V c).1.minus
      have hts:(C1 T V s c).ts=Av (Av s.ts (Aa T V c).1.plus) (Aa T V c).1.minus:=by rw [hs]
      have hp:∀t∈(Aa T V c).1.plus,t∈Av s.ts (Aa T V c).1.plus:=Zo lp
      have hm:∀t∈(Aa T V c).1.minus,t∈Av (Av s.ts (Aa T V c).1.plus) (Aa T V c).1.minus:=Zo lm
      have hF:(r.foldl (C1 T V) (C1 T V s c)).ts=Av s.ts (Aa T V c).1.plus++(r2++q):=by rw [h1,hts,e2,List.append_assoc]
      have hF2:(r.foldl (C1 T V) (C1 T V s c)).ts=Av (Av s.ts (Aa T V c).1.plus) (Aa T V c).1.minus++q:=by rw [h1,hts]
      refine ⟨⟨r1++(r2++q),by rw [hF,e1,List.append_assoc]⟩,?_,fun d hd hdn=>?_⟩
      · rw [h2,List.flatMap_cons,←List.append_assoc]
        congr 1
        unfold Oj
        rw [hn,if_pos rfl]
        have n1:B1 (r.foldl (C1 T V) (C1 T V s c)).ts (Aa T V c).1.plus=B1 (Av s.ts (Aa T V c).1.plus) (Aa T V c).1.plus:=by rw [hF];exact kU hp
        have n2:B1 (r.foldl (C1 T V) (C1 T V s c)).ts (Aa T V c).1.minus=B1 (Av (Av s.ts (Aa T V c).1.plus) (Aa T V c).1.minus) (Aa T V c).1.minus:=by rw [hF2];exact kU hm
        rw [n1,n2,hs]
      · rcases List.mem_cons.1 hd with rfl | hd
        · exact ⟨fun t ht=>by rw [hF];exact List.mem_append_left _ (hp t ht),fun t ht=>by rw [hF2];exact List.mem_append_left _ (hm t ht)⟩
        · exact h3 d hd hdn
theorem nH (hE:EnvOK T V env){l:List Lit}(hf:∀y∈l,LitF T V y):(∀b∈(Cp T V l).bs,Sa (pv (Sq env) (Cp T V l).ts) b)↔∀y∈l,(Aa T V y).2=true→N7 env y=true:=by
 obtain ⟨_,h2,h3⟩:=U8 (T:=T) (V:=V) l ⟨[],[]⟩
 have h2':(Cp T V l).bs=l.flatMap (Oj T V (Cp T V l).ts):=by
  show (l.foldl (C1 T V) ⟨[],[]⟩).bs=_
  rw [h2];rfl
 rw [h2']
 have each:∀y∈l,(Aa T V y).2=true→((∀b∈Oj T V (Cp T V l).ts y,Sa (pv (Sq env) (Cp T V l).ts) b)↔N7 env y=true):=fun y hy hn=>by
  obtain ⟨m1,m2⟩:=h3 y hy hn
  obtain ⟨l1,l2⟩:=fW hn
  unfold Oj
  rw [hn,if_pos rfl]
  exact yH hE (hf y hy) hn (tO l1 m1) (tO l2 m2)
 constructor
 ·
  intro h y hy hn
  exact (each y hy hn).1 fun b hb=>h b (List.mem_flatMap.2 ⟨y,hy,hb⟩)
 ·
  intro h b hb
  obtain ⟨y,hy,hb⟩:=List.mem_flatMap.1 hb
  cases hn:(Aa T V y).2 with
  | true=>exact (each y hy hn).2 (h y hy hn) b hb
  | false=>unfold Oj at hb;rw [hn] at hb;cases hb
end
end Go.Proofs.YtjedflcpjlgokaaGreatDoor
