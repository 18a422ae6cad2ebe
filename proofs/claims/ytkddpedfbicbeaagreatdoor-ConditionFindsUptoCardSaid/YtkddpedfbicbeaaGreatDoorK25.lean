/-
  Several texts in one: S45, S46. No condition.
-/
import Derived.Test.YtkddpedfbicbeaaGreatDoorK24
set_option linter.unusedVariables false
set_option linter.unusedSimpArgs false
namespace Go.Proofs.YtkddpedfbicbeaaGreatDoor
open Go Go.Aw

/-! ### sums that are not improved any more -/
theorem Xa {bs:List Bd}:∀(m:Nat) (s:Ds×Int),(D7 bs (m+1) s).2<0→∃d,D7 bs (m+1) s=Jr bs d∧(Jr bs d).2<0
  | 0,s,h=>by
    cases hq:decide ((Jr bs s.1).2<0) with
    | true=>rw [Kj hq] at h ⊢;exact ⟨s.1,rfl,h⟩
    | false=>rw [Mn hq] at h;exact absurd h (of_decide_eq_false hq)
  | m+1,s,h=>by
    cases hq:decide ((Jr bs s.1).2<0) with
    | true=>rw [Kj hq] at h ⊢;exact ⟨s.1,rfl,h⟩
    | false=>rw [Mn hq] at h ⊢;exact Xa m _ h
theorem pS {bs:List Bd}:∀{i:Nat} {s:Ds×Int},(∀b∈bs,0≤b.x)→0≤s.2→0≤(F8 i bs s).2:=by
  induction bs with
  | nil=>intro i s _ h;exact h
  | cons b r ih=>
    intro i s hb h
    rw [F8]
    refine ih (fun x hx=>hb x (List.mem_cons_of_mem _ hx)) ?_
    cases hq:decide (E0 s.1.sums b.y+b.most<E0 s.1.sums b.x) with
    | false=>rw [X9 hq];exact h
    | true=>rw [Pl hq];exact hb b (List.mem_cons_self ..)
theorem xZ:∀(bs:List Bd) (i:Nat) (s:Ds×Int),(∀b∈bs,0≤b.x)→(F8 i bs s).2<0→F8 i bs s=s∧Oa (gf s.1.sums) bs
  | [],i,s,_,h=>⟨rfl,fun b hb=>by cases hb⟩
  | b::r,i,s,hb,h=>by
    have hr:∀x∈r,0≤x.x:=fun x hx=>hb x (List.mem_cons_of_mem _ hx)
    rw [F8] at h ⊢
    cases hq:decide (E0 s.1.sums b.y+b.most<E0 s.1.sums b.x) with
    | true=>
      rw [Pl hq] at h
      have:=pS (i:=i+1) (s:=(⟨s.1.sums.set b.x.toNat (E0 s.1.sums b.y+b.most),s.1.last.set b.x.toNat (i:Int)⟩,b.x)) hr (hb b (List.mem_cons_self ..))
      omega
    | false=>
      rw [X9 hq] at h ⊢
      obtain ⟨h1,h2⟩:=xZ r (i+1) s hr h
      refine ⟨h1,fun c hc=>?_⟩
      rcases List.mem_cons.1 hc with rfl | hc
      · have h3:=of_decide_eq_false hq
        have h4:¬(gf s.1.sums c.y.toNat+c.most<gf s.1.sums c.x.toNat):=h3
        omega
      · exact h2 c hc
theorem qL {n:Nat}{bs:List Bd}(hm:∀b∈bs,-Jo≤b.most∧b.most≤Jo)(h:(Ew (zn n bs)).ok=true) :
    (Ew (zn n bs)).values.length=n∧E0 (Ew (zn n bs)).values 0=0∧∀b∈bs,Uj (E0 (Ew (zn n bs)).values) b:=by
  cases hz:I4 (zn n bs) != 0 with
  | true=>rw [Wf hz] at h;cases h
  | false=>
    cases he:decide ((Ek (zn n bs)).2<0) with
    | false=>rw [dX hz he] at h;cases h
    | true=>
      have hk:=pI hz hm
      have hs:=(kQ hk).s
      rw [We hz he]
      simp only [List.length_map]
      have he':=of_decide_eq_true he
      rw [M0] at he'
      obtain ⟨d,h1,h2⟩:=Xa n _ he'
      obtain ⟨h3,h4⟩:=xZ bs 0 (d,-1) (fun b hb=>(hk.bd b hb).1) h2
      rw [←M0] at h1
      have h5:(Ek (zn n bs)).1=d:=by rw [h1];show (F8 0 bs (d,-1)).1=d;rw [h3]
      rw [h5] at hs ⊢
      have hix:∀k:Int,0≤k→k<(n:Int)→E0 (d.sums.map fun v=>v-E0 d.sums 0) k=E0 d.sums k-E0 d.sums 0:=fun k k0 k1=>by
        have hlt:k.toNat<d.sums.length:=by omega
        have hg:=List.getElem?_eq_getElem hlt
        show ((d.sums.map fun v=>v-E0 d.sums 0)[k.toNat]?).getD 0=(d.sums[k.toNat]?).getD 0-E0 d.sums 0
        rw [List.getElem?_map,hg];rfl
      have hn:=hk.n1
      refine ⟨hs,?_,fun b hb=>?_⟩
      · rw [hix 0 (by omega) (by omega)];omega
      · have hb2:=hk.bd b hb
        have h6:=h4 b hb
        have h7:E0 d.sums b.x≤E0 d.sums b.y+b.most:=h6
        show E0 _ b.x-E0 _ b.y≤b.most
        rw [hix b.x hb2.1 hb2.2.1,hix b.y hb2.2.2.1 hb2.2.2.2]
        omega
/-! ### classes of strings -/
inductive Root (w:Wm):Wd→Wd→Prop
 | here {x:Wd}:F9 w x=none→Root w x x
 | step {x y r:Wd}:F9 w x=some y→Root w y r→Root w x r
theorem Root.one {w:Wm}{x r s:Wd}(h:Root w x r):Root w x s→s=r:=by
  induction h with
  | here h=>
    intro h2
    cases h2 with
    | here _=>rfl
    | step h3 _=>rw [h] at h3;cases h3
  | step h1 _ ih=>
    intro h2
    cases h2 with
    | here h3=>rw [h1] at h3;cases h3
    | step h3 h4=>rw [h1] at h3;cases h3;exact ih h4
theorem pJ {w:Wm}(hw:Ru w):∀(n:Nat) (x:Wd),qS w n x→Root w x (Qj w n x)
  | 0,x,h=>.here (Yc hw 0 x h)
  | n+1,x,h=>by
    cases hq:F9 w x with
    | none=>rw [Vx hq];exact .here hq
    | some y=>
      obtain ⟨h1,h2⟩:=T8 hw h hq
      rw [dY h1 hq]
      exact .step hq (pJ hw n y h2)
theorem nT {w:Wm}(hw:Ru w)(x:Wd):Root w x (Cc w x):=pJ hw _ _ (Rp w x)
theorem of_is {w:Wm}(hw:Ru w){x r:Wd}(h:Root w x r):Cc w x=r:=h.one (nT hw x)
theorem P0 {w:Wm}{k v x:Wd}:F9 (w ++ [(k,v)]) x=match F9 w x with | some y=>some y | none=>if k=x then some v else none:=by
  unfold F9
  rw [List.find?_append]
  cases w.find? fun p=>decide (p.1=x) with
  | some p=>rfl
  | none=>
    simp only [Option.none_or,Option.map_none]
    by_cases h:k=x
    · rw [if_pos h];simp [h]
    · rw [if_neg h];simp [h]
theorem qD {w:Wm}{k v:Wd}(hv:F9 w v=none)(hkv:k≠v){x r:Wd}(h:Root w x r):Root (w ++ [(k,v)]) x (if r=k then v else r):=by
  induction h with
  | @here x h=>
    by_cases e:x=k
    · rw [if_pos e]
      refine .step (y:=v) (by rw [P0,h];simp [e]) (.here ?_)
      rw [P0,hv];simp [hkv]
    · rw [if_neg e]
      refine .here ?_
      rw [P0,h];simp [Ne.symm e]
  | @step x y r h1 _ ih=>
    exact .step (y:=y) (by rw [P0,h1]) ih
theorem L1 {w:Wm}(hw:Ru w){k v:Wd}(hv:F9 w v=none)(hkv:k≠v)(x:Wd):Cc (w ++ [(k,v)]) x=if Cc w x=k then v else Cc w x:=
 of_is (Yn hw hv hkv) (qD hv hkv (nT hw x))
def Qm (w:Wm)(x y:Wd):Prop:=Cc w x=Cc w y
theorem qF {w:Wm}(hw:Ru w){a b:Wd}(ha:F9 w a=none)(hb:F9 w b=none){x y:Wd}(h:Qm w x y):Qm (Nr w a b).1 x y:=by
 unfold Qm at *
 unfold Nr
 by_cases e:a=b
 · rw [if_pos e];exact h
 rw [if_neg e]
 split
 · exact h
 split
 · simp only;rw [L1 hw ha (fun q=>e q.symm),L1 hw ha (fun q=>e q.symm),h]
 · simp only;rw [L1 hw hb e,L1 hw hb e,h]
theorem Vk {w:Wm}(hw:Ru w){c:Lit}{x y:Wd}(h:Qm w x y):Qm (E8 w c).1 x y:=by rw [Jy];exact qF hw (I1 hw _) (I1 hw _) h
theorem bM {w:Wm}(hw:Ru w){c:Lit}(h:(E8 w c).2=true):Qm (E8 w c).1 (B9 (Ao c.cond)) (B9 (Bg c.cond)):=by
  rw [Jy] at h ⊢
  have fa:=I1 hw (B9 (Ao c.cond))
  have fb:=I1 hw (B9 (Bg c.cond))
  unfold Qm
  unfold Nr at h ⊢
  by_cases e:Cc w (B9 (Ao c.cond))=Cc w (B9 (Bg c.cond))
  · rw [if_pos e];exact e
  rw [if_neg e] at h ⊢
  cases hc:((Cc w (B9 (Ao c.cond))).const&&(Cc w (B9 (Bg c.cond))).const) with
  | true=>rw [hc,if_pos rfl] at h;cases h
  | false=>
    rw [Ci rfl]
    cases h3:(Cc w (B9 (Ao c.cond))).const with
    | true=>
      rw [if_pos rfl]
      simp only
      rw [L1 hw fa (fun q=>e q.symm),L1 hw fa (fun q=>e q.symm),if_neg e,if_pos rfl]
    | false=>
      rw [Ci rfl]
      simp only
      rw [L1 hw fb e,L1 hw fb e,if_pos rfl,if_neg (fun q=>e q.symm)]
section
variable {T:List Sc} {V:List Va}
theorem Ud:∀(l:List Lit) {w:Wm},Ru w→∀{x y:Wd},Qm w x y→Qm (I9 T V l w).1 x y
  | [],w,_,x,y,h=>h
  | c::r,w,hw,x,y,h=>by
    cases h1:Cd T V true c with
    | false=>rw [Mi h1];exact Ud r hw h
    | true=>
      cases h2:(E8 w c).2 with
      | false=>rw [Mm h1 h2];exact Vk hw h
      | true=>rw [Mj h1 h2];exact Ud r (Mu hw c) (Vk hw h)
theorem Rf:∀(l:List Lit) {w:Wm},Ru w→(I9 T V l w).2=true→∀c∈l,Cd T V true c=true→Qm (I9 T V l w).1 (B9 (Ao c.cond)) (B9 (Bg c.cond))
  | [],w,_,_,c,hc,_=>by cases hc
  | d::r,w,hw,h,c,hc,hs=>by
    cases h1:Cd T V true d with
    | false=>
      rw [Mi h1] at h ⊢
      rcases List.mem_cons.1 hc with rfl | hc
      · rw [h1] at hs;cases hs
      · exact Rf r hw h c hc hs
    | true=>
      cases h2:(E8 w d).2 with
      | false=>rw [Mm h1 h2] at h;cases h
      | true=>
        rw [Mj h1 h2] at h ⊢
        rcases List.mem_cons.1 hc with rfl | hc
        · exact Ud r (Mu hw c) (bM hw h2)
        · exact Rf r (Mu hw d) h c hc hs
theorem Q5 {w:Wm}:∀(l:List Lit),N6 T V w l=true→∀c∈l,Cd T V false c=true→Cc w (B9 (Ao c.cond))≠Cc w (B9 (Bg c.cond))
  | [],_,c,hc,_=>by cases hc
  | d::r,h,c,hc,hs=>by
    rw [N6] at h
    cases h1:Cd T V false d with
    | false=>
      rw [h1] at h
      rcases List.mem_cons.1 hc with rfl | hc
      · rw [h1] at hs;cases hs
      · exact Q5 r h c hc hs
    | true=>
      rw [h1,if_neg (by decide)] at h
      by_cases e:Cc w (B9 (Ao d.cond))=Cc w (B9 (Bg d.cond))
      · rw [if_pos e] at h;cases h
      · rw [if_neg e] at h
        rcases List.mem_cons.1 hc with rfl | hc
        · exact e
        · exact Q5 r h c hc hs
/-! ### what the classes' map holds -/
/-- keys are no constants; keys and values are words of the clause -/
structure wGood (W:Wd→Prop) (w:Wm):Prop where
 key:∀p∈w,p.1.const=false
 val:∀p∈w,W p.2
theorem wH {W:Wd→Prop}{w:Wm}(h:wGood W w):∀(n:Nat) (x:Wd),W x→W (Qj w n x)
  | 0,x,hx=>hx
  | n+1,x,hx=>by
    rw [Qj]
    cases hg:F9 w x with
    | none=>exact hx
    | some y=>exact wH h n y (h.val _ (X7 hg))
theorem lD {W:Wd→Prop}{w:Wm}(h:wGood W w){x:Wd}(hx:W x):W (Cc w x):=wH h _ _ hx
theorem vF {W:Wd→Prop}{w:Wm}(h:wGood W w){x:Wd}(hx:x.const=true):Cc w x=x:=by
 have:F9 w x=none:=Xm fun p hp e=>by
  have:=h.key p hp
  rw [e,hx] at this;cases this
 exact Vx this
theorem Uv {W:Wd→Prop}{w:Wm}(h:wGood W w){c:Lit}(h0:W (B9 (Ao c.cond)))(h1:W (B9 (Bg c.cond))):wGood W (E8 w c).1:=by
  rw [Jy]
  have a:=lD h h0
  have b:=lD h h1
  revert a b
  generalize Cc w (B9 (Ao c.cond))=x
  generalize Cc w (B9 (Bg c.cond))=y
  intro a b
  unfold Nr
  split
  · exact h
  cases hc:(x.const&&y.const) with
  | true=>rw [if_pos rfl];exact h
  | false=>
    rw [Ci rfl]
    cases h3:x.const with
    | true=>
      rw [h3,Bool.true_and] at hc
      rw [if_pos rfl]
      refine ⟨fun p hp=>?_,fun p hp=>?_⟩
      · rcases List.mem_append.1 hp with hp | hp
        · exact h.key p hp
        · rw [List.mem_singleton.1 hp];exact hc
      · rcases List.mem_append.1 hp with hp | hp
        · exact h.val p hp
        · rw [List.mem_singleton.1 hp];exact a
    | false=>
      rw [Ci rfl]
      refine ⟨fun p hp=>?_,fun p hp=>?_⟩
      · rcases List.mem_append.1 hp with hp | hp
        · exact h.key p hp
        · rw [List.mem_singleton.1 hp];exact h3
      · rcases List.mem_append.1 hp with hp | hp
        · exact h.val p hp
        · rw [List.mem_singleton.1 hp];exact b
theorem Tf {W:Wd→Prop}:∀(l:List Lit) {w:Wm},(∀c∈l,Cd T V true c=true→W (B9 (Ao c.cond))∧W (B9 (Bg c.cond)))→wGood W w→wGood W (I9 T V l w).1
  | [],w,_,h=>h
  | c::r,w,hl,h=>by
    have hr:=fun x hx=>hl x (List.mem_cons_of_mem _ hx)
    cases h1:Cd T V true c with
    | false=>rw [Mi h1];exact Tf r hr h
    | true=>
      obtain ⟨a,b⟩:=hl c (List.mem_cons_self ..) h1
      cases h2:(E8 w c).2 with
      | false=>rw [Mm h1 h2];exact Uv h a b
      | true=>rw [Mj h1 h2];exact Tf r hr (Uv h a b)
end

/-! ### kinds of fields -/
theorem Rw:∀{l:List Fi} {seen:List (List UInt8)},Ih seen l=0→∀f∈l,0≤f.kind∧f.kind<3
  | [],_,_,f,hf=>by cases hf
  | g::r,seen,h,f,hf=>by
    rw [Ih] at h
    cases h1:(D9 seen g != 0) with
    | true=>rw [if_pos h1] at h;rw [h] at h1;cases h1
    | false=>
      rw [Ci h1] at h
      rcases List.mem_cons.1 hf with rfl | hf
      · have h2:D9 seen f=0:=by simpa using h1
        unfold D9 at h2
        split at h2
        · cases h2
        split at h2
        · cases h2
        split at h2
        · cases h2
        · rename_i h3
          simp only [Bool.or_eq_true,decide_eq_true_eq,not_or] at h3
          omega
      · exact Rw h f hf
theorem Z9:∀{l:List Sc} {seen:List (List UInt8)},J3 seen l=0→∀s∈l,Ij s=0
  | [],_,_,f,hf=>by cases hf
  | g::r,seen,h,s,hs=>by
    rw [J3] at h
    cases h1:(Hx seen g != 0) with
    | true=>rw [if_pos h1] at h;rw [h] at h1;cases h1
    | false=>
      rw [Ci h1] at h
      rcases List.mem_cons.1 hs with rfl | hs
      · have h2:Hx seen s=0:=by simpa using h1
        unfold Hx at h2
        cases h3:(Ij s != 0) with
        | true=>rw [if_pos h3] at h2;exact h2
        | false=>simpa using h3
      · exact Z9 h s hs
theorem eK {T:List Sc}(h:Ea T=0){s:Sc}(hs:s∈T){f:Fi}(hf:f∈s.fields):0≤f.kind∧f.kind<3:=by
 unfold Ea at h
 split at h
 · cases h
 have h1:=Z9 h s hs
 unfold Ij at h1
 split at h1
 · cases h1
 split at h1
 · cases h1
 exact Rw h1 f hf
theorem rJ {k:Int}(h:0≤k∧k<3):Ap ⟨k,0,[]⟩=0:=by
 have:k=0∨k=1∨k=2:=by omega
 rcases this with rfl | rfl | rfl <;> rfl
theorem uQ {w:Vl}{x:Int}(h:Ap w=0)(hk:(w.kind=0∧-1099511627776≤x∧x≤1099511627776)∨(w.kind=1∧0≤x∧x≤1)):Ap { w with num:=x }=0:=by
 have ht:w.text = []:=by
  unfold Ap at h
  rw [if_pos (by rcases hk with hk | hk <;> rw [hk.1] <;> rfl)] at h
  split at h
  · cases h
  · rename_i h1;simpa using h1
 unfold Ap D8
 simp only [ht]
 rcases hk with ⟨h0,h1,h2⟩ | ⟨h0,h1,h2⟩
 · rw [h0];simp;omega
 ·
  rw [h0]
  have:x=0∨x=1:=by omega
  rcases this with rfl | rfl <;> rfl
theorem tI {w:Vl}{s:Fr}(h:Ap w=0)(hk:w.kind=2)(hs:s.length≤64):Ap { w with text:=s }=0:=by
 have hn:=Wl h hk
 unfold Ap D8
 simp only [hk,hn]
 simp
 omega
section
variable {T:List Sc} {V:List Va}
/-- one event that fits its variable -/
structure EvG (i:Nat) (v:Va) (s:Sc) (e:Ev):Prop where
 source:e.source=0
 seq:e.seq=(i:Int)
 type:e.type=v.type
 t0:0≤e.time
 t1:e.time≤1099511627776
 suit:Yv s e
structure EvI (T:List Sc) (V:List Va) (evs:List Ev):Prop where
 len:evs.length=V.length
 at_:∀(i:Nat) (v:Va) (s:Sc),V[i]? = some v→T[v.type.toNat]? = some s→∃e,evs[i]? = some e∧EvG i v s e
theorem Ri {evs:List Ev}(h:EvI T V evs)(j:Nat)(g:Ev→Ev)(hg:∀(v:Va) (s:Sc) (e:Ev),V[j]? = some v→T[v.type.toNat]? = some s→EvG j v s e→EvG j v s (g e)):EvI T V (evs.modify j g):=by
 refine ⟨by rw [List.length_modify];exact h.len,fun i v s hv hs=>?_⟩
 obtain ⟨e,he,hG⟩:=h.at_ i v s hv hs
 rw [List.getElem?_modify,he]
 by_cases hij:j=i
 ·
  subst hij
  exact ⟨g e,by simp,hg v s e hv hs hG⟩
 · exact ⟨e,by simp [hij],hG⟩
theorem zJ {s:Sc}{e:Ev}(h:Yv s e)(k:Nat)(f:Vl→Vl)(hf:∀(w:Vl) (fl:Fi),s.fields[k]? = some fl→lE w fl.kind→lE (f w) fl.kind):Yv s (V3 e k f):=by
 refine ⟨by rw [V5];exact h.1,fun j fl hj=>?_⟩
 obtain ⟨w,hw,hG⟩:=h.2 j fl hj
 show ∃x,(e.values.modify k f)[j]? = some x∧_
 rw [List.getElem?_modify,hw]
 by_cases hkj:k=j
 ·
  subst hkj
  exact ⟨f w,by simp,hf w fl hj hG⟩
 · exact ⟨w,by simp [hkj],hG⟩
theorem wZ {j:Nat}{v:Va}{s:Sc}{e:Ev}(h:EvG j v s e)(k:Nat)(f:Vl→Vl)(hf:∀(w:Vl) (fl:Fi),s.fields[k]? = some fl→lE w fl.kind→lE (f w) fl.kind):EvG j v s (V3 e k f):=
 ⟨h.source,h.seq,h.type,h.t0,h.t1,zJ h.suit k f hf⟩
theorem zA:∀{vs:List Va} {i j:Nat} {v:Va},vs[j]? = some v→(Ht T i vs)[j]? = some (Y1 T (i+j) v)
  | [],i,j,v,h=>by simp at h
  | a::r,i,0,v,h=>by simp at h;subst h;rfl
  | a::r,i,j+1,v,h=>by
    have h':r[j]? = some v:=by simpa using h
    have:=zA (i:=i+1) h'
    rw [show i+1+j=i+(j+1) by omega] at this
    exact this
theorem pH (hT:Ea T=0):EvI T V (Ht T 0 V):=by
 refine ⟨P5,fun i v s hv hs=>⟨_,zA hv,rfl,by show ((0+i:Nat):Int)=_;rw [Nat.zero_add],rfl,Int.le_refl _,by show (0:Int)≤_;decide,?_⟩⟩
 have hvals:(Y1 T (0+i) v).values=s.fields.map zV:=gE hs
 refine ⟨by rw [hvals,List.length_map],fun k f hf=>?_⟩
 rw [hvals,List.getElem?_map,hf]
 exact ⟨_,rfl,rfl,rJ (eK hT (List.mem_of_getElem? hs) (List.mem_of_getElem? hf))⟩
/-- the place of a field -/
theorem Vb {t:Tm}(hk:KOK T V (Hn t))(h1:t.op=1){v:Va}{s:Sc}{fl:Fi}(hv:V[t.v.toNat]? = some v)(hs:T[v.type.toNat]? = some s)(hf:s.fields[t.field.toNat]? = some fl):Am T V (Hn t)=fl.kind:=by
 obtain ⟨v',s',f',_,e1,_,e2,_,e3,e4⟩:=lX hk h1
 have e1':V[t.v.toNat]? = some v':=e1
 rw [hv] at e1';cases e1'
 rw [hs] at e2;cases e2
 have e3':s.fields[t.field.toNat]? = some f':=e3
 rw [hf] at e3';cases e3'
 exact e4
theorem wO {evs:List Ev}(h:EvI T V evs){t:Tm}(hk:KOK T V (Hn t))(ho:t.op=1∨t.op=2)(hkind:t.op=1→Am T V (Hn t)=0∨Am T V (Hn t)=1){x:Int}(hx:(C0 T V t).1≤x∧x≤(C0 T V t).2):EvI T V (Qi evs t x):=by
  unfold Qi
  cases h2:t.op==2 with
  | true=>
    rw [if_pos rfl]
    rw [yP h2] at hx
    exact Ri h _ _ fun v s e _ _ hG=>⟨hG.source,hG.seq,hG.type,hx.1,hx.2,hG.suit⟩
  | false=>
    rw [if_neg (by decide)]
    have h1 : t.op = 1 := by have : t.op ≠ 2 := by simpa using h2
                             omega
    refine Ri h _ _ fun v s e hv hs hG=>wZ hG _ _ fun w fl hf hw=>?_
    have hkf:=Vb hk h1 hv hs hf
    refine ⟨hw.1,uQ hw.2 ?_⟩
    rw [hw.1,←hkf]
    rcases hkind h1 with h0 | h0
    · rw [tU h2 (by rw [h0];rfl)] at hx
      exact .inl ⟨h0,hx⟩
    · rw [vR h2 (by rw [h0];rfl)] at hx
      exact .inr ⟨h0,hx⟩
theorem yK {evs:List Ev}(h:EvI T V evs){t:Tm}(hk:KOK T V (Hn t))(h1:t.op=1)(hkind:Am T V (Hn t)=2){s:Fr}(hs:s.length≤64):EvI T V (Uk evs t s):=by
 unfold Uk
 refine Ri h _ _ fun v sc e hv hsc hG=>wZ hG _ _ fun w fl hf hw=>?_
 have hkf:=Vb hk h1 hv hsc hf
 exact ⟨hw.1,tI hw.2 (by rw [hw.1,←hkf];exact hkind) hs⟩
/-! ### what stands at a place -/
def eG (evs:List Ev)(t:Tm):Int:=if t.op==2 then ((evs[t.v.toNat]?).getD Kl).time else ((((evs[t.v.toNat]?).getD Kl).values[t.field.toNat]?).getD v0).num
def txA (evs:List Ev)(t:Tm):Fr:=((((evs[t.v.toNat]?).getD Kl).values[t.field.toNat]?).getD v0).text
theorem Eh {α:Type}(l:List α)(j i:Nat)(f:α→α)(d:α):((l.modify j f)[i]?).getD d=if j=i∧i<l.length then f ((l[i]?).getD d) else (l[i]?).getD d:=by
  rw [List.getElem?_modify]
  cases hl:l[i]? with
  | none=>
    have:¬i<l.length:=by have:=List.getElem?_eq_none_iff.1 hl;omega
    rw [if_neg (fun e=>this e.2)];rfl
  | some x=>
    have:=A9 hl
    by_cases e:j=i
    · rw [if_pos ⟨e,this⟩];simp [e]
    · rw [if_neg (fun q=>e q.1)];simp [e]
theorem nm_setX (evs:List Ev)(t u:Tm)(s:Fr):eG (Uk evs t s) u=eG evs u:=by
 unfold eG Uk
 rw [Eh]
 split
 · split <;> rfl
 ·
  split
  ·
   show (((((evs[u.v.toNat]?).getD Kl).values.modify t.field.toNat _)[u.field.toNat]?).getD v0).num=_
   rw [Eh]
   split <;> rfl
  · rfl
theorem eV {evs:List Ev}(h:evOK T V evs){t:Tm}(ht:tmOK T V t)(h1:t.op=1):t.v.toNat<evs.length∧t.field.toNat<((evs[t.v.toNat]?).getD Kl).values.length:=by
 have hv:=ht.v1
 have hv0:=ht.v0
 have hf:=ht.f h1
 have hlt:t.v.toNat<evs.length:=by rw [h.len];omega
 have hg:=List.getElem?_eq_getElem hlt
 have:=h.vals t.v.toNat _ hg
 rw [Int.toNat_of_nonneg hv0] at this
 refine ⟨hlt,?_⟩
 rw [hg]
 show t.field.toNat<(evs[t.v.toNat]).values.length
 rw [this];omega
theorem nI {evs:List Ev}(h:evOK T V evs){t:Tm}(ht:tmOK T V t)(h1:t.op=1)(s:Fr):txA (Uk evs t s) t=s:=by
 obtain ⟨hlt,hfl⟩:=eV h ht h1
 unfold txA Uk
 rw [Eh,if_pos ⟨rfl,hlt⟩]
 show (((((evs[t.v.toNat]?).getD Kl).values.modify t.field.toNat _)[t.field.toNat]?).getD v0).text=_
 rw [Eh,if_pos ⟨rfl,hfl⟩]
theorem tm_eq {t u:Tm}(ht:tmOK T V t)(hu:tmOK T V u)(h1:t.op=1)(h2:u.op=1)(hv:t.v.toNat=u.v.toNat)(hf:t.field.toNat=u.field.toNat):t=u:=by
 have a:=ht.v0;have b:=hu.v0;have c:=ht.f h1;have d:=hu.f h2
 have e1:t.v=u.v:=by omega
 have e2:t.field=u.field:=by omega
 have e3:t.op=u.op:=by rw [h1,h2]
 obtain ⟨o,v,f⟩:=t
 obtain ⟨o',v',f'⟩:=u
 simp only at e1 e2 e3
 rw [e1,e2,e3]
theorem mH {evs:List Ev}{t u:Tm}(ht:tmOK T V t)(hu:tmOK T V u)(h1:t.op=1)(h2:u.op=1)(hne:t≠u)(s:Fr):txA (Uk evs t s) u=txA evs u:=by
 unfold txA Uk
 rw [Eh]
 split
 ·
  rename_i h3
  show (((((evs[u.v.toNat]?).getD Kl).values.modify t.field.toNat _)[u.field.toNat]?).getD v0).text=_
  rw [Eh,if_neg (fun e=>hne (tm_eq ht hu h1 h2 h3.1 e.1))]
 · rfl
theorem gP {evs:List Ev}{t:Tm}(h:(t.op==2)=true):eG evs t=((evs[t.v.toNat]?).getD Kl).time:=if_pos h
theorem fF {evs:List Ev}{t:Tm}(h:(t.op==2)=false):eG evs t=((((evs[t.v.toNat]?).getD Kl).values[t.field.toNat]?).getD v0).num:=Ci h
theorem kO {evs:List Ev}{t:Tm}{x:Int}(h:(t.op==2)=true):Qi evs t x=evs.modify t.v.toNat (fun e=>{ e with time:=x }):=if_pos h
theorem kS {evs:List Ev}{t:Tm}{x:Int}(h:(t.op==2)=false):Qi evs t x=evs.modify t.v.toNat (fun e=>V3 e t.field.toNat fun y=>{ y with num:=x }):=Ci h
theorem nm_setN {evs:List Ev}(h:evOK T V evs){t:Tm}(ht:tmOK T V t)(x:Int):eG (Qi evs t x) t=x:=by
  cases h2:t.op==2 with
  | true=>
    have hlt:t.v.toNat<evs.length:=by have:=ht.v0;have:=ht.v1;rw [h.len];omega
    rw [gP h2,kO h2,Eh,if_pos ⟨rfl,hlt⟩]
  | false=>
    have h1 : t.op = 1 := by have : t.op ≠ 2 := by simpa using h2
                             have:=ht.op;omega
    obtain ⟨hlt,hfl⟩:=eV h ht h1
    rw [fF h2,kS h2,Eh,if_pos ⟨rfl,hlt⟩]
    show (((((evs[t.v.toNat]?).getD Kl).values.modify t.field.toNat _)[t.field.toNat]?).getD v0).num=_
    rw [Eh,if_pos ⟨rfl,hfl⟩]
theorem kZ {evs:List Ev}{t u:Tm}(ht:tmOK T V t)(hu:tmOK T V u)(ft:t.op=2→t.field=0)(fu:u.op=2→u.field=0)(hne:t≠u)(x:Int):eG (Qi evs t x) u=eG evs u:=by
  have a:=ht.v0;have b:=hu.v0
  cases h2:t.op==2 with
  | true=>
    cases h3:u.op==2 with
    | true=>
      rw [gP h3,gP h3,kO h2,Eh,if_neg ?_]
      intro q
      apply hne
      have e1:t.op=2:=by simpa using h2
      have e2:u.op=2:=by simpa using h3
      have e3:=ft e1;have e4:=fu e2
      have e5:t.v=u.v:=by have:=q.1;omega
      obtain ⟨o,v,f⟩:=t
      obtain ⟨o',v',f'⟩:=u
      simp only at e1 e2 e3 e4 e5
      rw [e1,e2,e3,e4,e5]
    | false=>
      rw [fF h3,fF h3,kO h2,Eh]
      split <;> rfl
  | false=>
    have h1 : t.op = 1 := by have : t.op ≠ 2 := by simpa using h2
                             have:=ht.op;omega
    cases h3:u.op==2 with
    | true=>
      rw [gP h3,gP h3,kS h2,Eh]
      split <;> rfl
    | false=>
      have hu1 : u.op = 1 := by have : u.op ≠ 2 := by simpa using h3
                                have:=hu.op;omega
      rw [fF h3,fF h3,kS h2,Eh]
      split
      · rename_i h4
        show (((((evs[u.v.toNat]?).getD Kl).values.modify t.field.toNat _)[u.field.toNat]?).getD v0).num=_
        rw [Eh,if_neg (fun e=>hne (tm_eq ht hu h1 hu1 h4.1 e.1))]
      · rfl
theorem kT {t:Tm}(hk:KOK T V (Hn t))(h2:t.op=2):t.field=0:=by
 have hn:=(Bb hk.nodes).1
 have ho:(Hn t).op=2:=h2
 unfold Bw at hn
 split at hn
 · cases hn
 split at hn
 · cases hn
 split at hn
 · cases hn
 split at hn
 · cases hn
 rw [if_neg (by rw [ho];decide)] at hn
 unfold Bk at hn
 split at hn
 · cases hn
 ·
  rename_i h3
  rw [ho] at h3
  have h4:¬(t.field≠0):=fun h=>h3 (by
   have:((Hn t).field != 0)=true:=bne_iff_ne.2 h
   rw [this];simp [Dn])
  omega
/-! ### the numbers of the model -/
theorem bE {vals:List Int}:∀(ts:List Tm) (i:Nat) {evs:List Ev},EvI T V evs→(∀t∈ts,KOK T V (Hn t)∧(t.op=1∨t.op=2)∧(t.op=1→Am T V (Hn t)=0∨Am T V (Hn t)=1))→
    (∀(k:Nat) (t:Tm),ts[k]? = some t→(C0 T V t).1≤E0 vals ((i:Int)+k+1)∧E0 vals ((i:Int)+k+1)≤(C0 T V t).2)→EvI T V (G2 vals i ts evs)
  | [],i,evs,h,_,_=>h
  | t::r,i,evs,h,hk,hx=>by
    rw [G2]
    obtain ⟨k1,k2,k3⟩:=hk t (List.mem_cons_self ..)
    have h0:=hx 0 t rfl
    rw [show (i:Int)+((0:Nat):Int)+1=(i:Int)+1 by omega] at h0
    refine bE r (i+1) (wO h k1 k2 k3 h0) (fun u hu=>hk u (List.mem_cons_of_mem _ hu)) fun k u hu=>?_
    have:=hx (k+1) u (by simpa using hu)
    rw [show ((i+1:Nat):Int)+k+1=(i:Int)+((k+1:Nat):Int)+1 by omega]
    exact this
theorem eS {vals:List Int}:∀(ts:List Tm) (i:Nat) {evs:List Ev},evOK T V evs→evOK T V (G2 vals i ts evs)
 | [],i,evs,h=>h
 | t::r,i,evs,h=>by rw [G2];exact eS r (i+1) (Vz h t _)
theorem gY {vals:List Int}:∀(ts:List Tm) (i:Nat) {evs:List Ev} {u:Tm},tmOK T V u→(u.op=2→u.field=0)→(∀t∈ts,tmOK T V t∧(t.op=2→t.field=0))→u∉ts→eG (G2 vals i ts evs) u=eG evs u
  | [],i,evs,u,_,_,_,_=>rfl
  | t::r,i,evs,u,hu,fu,ht,hn=>by
    obtain ⟨h1,h2⟩:=ht t (List.mem_cons_self ..)
    rw [G2,gY r (i+1) hu fu (fun x hx=>ht x (List.mem_cons_of_mem _ hx)) (fun h=>hn (List.mem_cons_of_mem _ h))]
    exact kZ h1 hu h2 fu (fun e=>hn (by rw [e];exact List.mem_cons_self ..)) _
theorem iZ {vals:List Int}:∀(ts:List Tm) (i:Nat) {evs:List Ev},evOK T V evs→ts.Nodup→(∀t∈ts,tmOK T V t∧(t.op=2→t.field=0))→∀(k:Nat) (t:Tm),ts[k]? = some t→eG (G2 vals i ts evs) t=E0 vals ((i:Int)+k+1)
  | [],i,evs,_,_,_,k,t,h=>by simp at h
  | u::r,i,evs,he,hn,ht,0,t,h=>by
    simp at h;subst h
    obtain ⟨h1,h2⟩:=ht u (List.mem_cons_self ..)
    rw [G2,gY r (i+1) h1 h2 (fun x hx=>ht x (List.mem_cons_of_mem _ hx)) (List.nodup_cons.1 hn).1,nm_setN he h1]
    rw [show (i:Int)+((0:Nat):Int)+1=(i:Int)+1 by omega]
  | u::r,i,evs,he,hn,ht,k+1,t,h=>by
    rw [G2,iZ r (i+1) (Vz he u _) (List.nodup_cons.1 hn).2 (fun x hx=>ht x (List.mem_cons_of_mem _ hx)) k t (by simpa using h)]
    rw [show ((i+1:Nat):Int)+k+1=(i:Int)+((k+1:Nat):Int)+1 by omega]
theorem Vi {ts l:List Tm}(h:ts.Nodup):(A2 ts l).Nodup:=by
  cases l with
  | nil=>exact h
  | cons t r=>
    unfold A2
    simp only
    split
    · exact h
    · rename_i h1
      rw [List.nodup_append]
      refine ⟨h,by simp,fun a ha b hb e=>?_⟩
      rw [List.mem_singleton] at hb
      subst hb;subst e
      exact h1 (by simpa using ha)
theorem aZ:∀(l:List Lit) {s:Sy},s.ts.Nodup→(l.foldl (Dd T V) s).ts.Nodup
  | [],s,h=>h
  | c::r,s,h=>by
    rw [List.foldl_cons]
    refine aZ r ?_
    cases h1 : !(Aa T V c).2 with
    | true=>rw [Le h1];exact h
    | false=>rw [Lo h1];exact Vi (Vi h)
/-! ### what the events' values are -/
theorem Po {evs:List Ev}(hty:Jt T V)(h:EvI T V evs):E6 T V (Dy evs):=by
 refine ⟨by simp [Dy,h.len],fun i v hv=>?_⟩
 obtain ⟨s,hs⟩:=oY hty (List.mem_of_getElem? hv)
 obtain ⟨e,he,hG⟩:=h.at_ i v s hv hs
 exact ⟨s,e,hs,by simp [Dy,he],hG.suit⟩
theorem V1 {evs:List Ev}(hty:Jt T V)(h:EvI T V evs):EnvOK T V (Dy evs):=by
 refine ⟨Po hty h,fun l hl ev hev=>?_⟩
 obtain ⟨e,he,rfl⟩:=List.mem_map.1 hl
 rw [List.mem_singleton] at hev;subst hev
 obtain ⟨i,hi⟩:=List.mem_iff_getElem?.1 he
 have hlt:=A9 hi
 have hv:V[i]? = some (V[i]'(by rw [←h.len];exact hlt)):=List.getElem?_eq_getElem _
 obtain ⟨s,hs⟩:=oY hty (List.mem_of_getElem? hv)
 obtain ⟨e',he',hG⟩:=h.at_ i _ s hv hs
 rw [hi] at he';cases he'
 exact ⟨hG.t0,hG.t1⟩
theorem bind_ev {evs:List Ev}{v:Int}{ev:Ev}(h0:0≤v)(h:Bt (Dy evs) v = [ev]):evs[v.toNat]? = some ev:=by
  unfold Bt at h
  split at h
  · cases h
  · rename_i h1
    cases hq:evs[v.toNat]? with
    | none=>
      have:(Dy evs)[v.toNat]? = none:=by unfold Dy;rw [List.getElem?_map,hq];rfl
      rw [this] at h;cases h
    | some e=>
      have:(Dy evs)[v.toNat]? = some [e]:=by unfold Dy;rw [List.getElem?_map,hq];rfl
      rw [this] at h
      have h2:[e] = [ev]:=h
      cases h2;rfl
theorem nG {evs:List Ev}(hE:EnvOK T V (Dy evs)){t:Tm}(hk:KOK T V (Hn t))(ht:tmOK T V t):Ty (Dy evs) t=eG evs t∧(t.op=1→(vl (Dy evs) (Hn t)).text=txA evs t):=by
 obtain ⟨ev,h1,h2,h3,h4⟩:=Yh hE.suits hE.small hk (show ((Hn t).op==1||(Hn t).op==2)=true by have:=ht.op;show (t.op==1||t.op==2)=true;simpa using this)
 have h5:evs[t.v.toNat]? = some ev:=bind_ev ht.v0 h1
 have hv:vl (Dy evs) (Hn t)=(Lz (Hn t) ev).1:=by show (By _ _).1=_;rw [h4]
 unfold Ty
 rw [hv]
 unfold eG txA
 rw [h5]
 unfold Lz at h2 ⊢
 rcases ht.op with h | h
 ·
  have e1:((Hn t).op==1)=true:=by show (t.op==1)=true;simpa using h
  rw [if_pos e1] at h2 ⊢
  have e2:(t.op==2)=false:=by rw [h];rfl
  rw [e2]
  split at h2
  · cases h2
  ·
   rename_i h6
   rw [if_neg h6]
   exact ⟨rfl,fun _=>rfl⟩
 ·
  have e1:¬((Hn t).op==1)=true:=by show ¬(t.op==1)=true;rw [h];decide
  rw [if_neg e1]
  have e2:(t.op==2)=true:=by rw [h];rfl
  rw [e2]
  exact ⟨rfl,fun h1=>by omega⟩
end
end Go.Proofs.YtkddpedfbicbeaaGreatDoor
