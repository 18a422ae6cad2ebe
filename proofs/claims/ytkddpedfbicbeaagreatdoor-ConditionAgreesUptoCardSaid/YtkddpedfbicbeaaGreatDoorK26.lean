/-
  Several texts in one: S45, S46. No condition.
-/
import Derived.Test.YtkddpedfbicbeaaGreatDoorK25
set_option linter.unusedVariables false
set_option linter.unusedSimpArgs false
namespace Go.Proofs.YtkddpedfbicbeaaGreatDoor
open Go Go.Aw

theorem Xo {bs:List Bd}:∀(m:Nat) (s:Ds×Int),(D2 bs (m+1) s).2<0→∃d,D2 bs (m+1) s=Jn bs d∧(Jn bs d).2<0
  | 0,s,h=>by
    cases hq:decide ((Jn bs s.1).2<0) with
    | true=>rw [Ke hq] at h ⊢;exact ⟨s.1,rfl,h⟩
    | false=>rw [Mk hq] at h;exact absurd h (of_decide_eq_false hq)
  | m+1,s,h=>by
    cases hq:decide ((Jn bs s.1).2<0) with
    | true=>rw [Ke hq] at h ⊢;exact ⟨s.1,rfl,h⟩
    | false=>rw [Mk hq] at h ⊢;exact Xo m _ h
theorem qE {bs:List Bd}:∀{i:Nat} {s:Ds×Int},(∀b∈bs,0≤b.x)→0≤s.2→0≤(F7 i bs s).2:=by
  induction bs with
  | nil=>intro i s _ h;exact h
  | cons b r ih=>
    intro i s hb h
    rw [F7]
    refine ih (fun x hx=>hb x (List.mem_cons_of_mem _ hx)) ?_
    cases hq:decide (Eu s.1.sums b.y+b.most<Eu s.1.sums b.x) with
    | false=>rw [Wq hq];exact h
    | true=>rw [P4 hq];exact hb b (List.mem_cons_self ..)
theorem wF:∀(bs:List Bd) (i:Nat) (s:Ds×Int),(∀b∈bs,0≤b.x)→(F7 i bs s).2<0→F7 i bs s=s∧Od (gf s.1.sums) bs
  | [],i,s,_,h=>⟨rfl,fun b hb=>by cases hb⟩
  | b::r,i,s,hb,h=>by
    have hr:∀x∈r,0≤x.x:=fun x hx=>hb x (List.mem_cons_of_mem _ hx)
    rw [F7] at h ⊢
    cases hq:decide (Eu s.1.sums b.y+b.most<Eu s.1.sums b.x) with
    | true=>
      rw [P4 hq] at h
      have:=qE (i:=i+1) (s:=(⟨s.1.sums.set b.x.toNat (Eu s.1.sums b.y+b.most),s.1.last.set b.x.toNat (i:Int)⟩,b.x)) hr (hb b (List.mem_cons_self ..))
      omega
    | false=>
      rw [Wq hq] at h ⊢
      obtain ⟨h1,h2⟩:=wF r (i+1) s hr h
      refine ⟨h1,fun c hc=>?_⟩
      rcases List.mem_cons.1 hc with rfl | hc
      · have h3:=of_decide_eq_false hq
        have h4:¬(gf s.1.sums c.y.toNat+c.most<gf s.1.sums c.x.toNat):=h3
        omega
      · exact h2 c hc
theorem qG {n:Nat}{bs:List Bd}(hm:∀b∈bs,-Jm≤b.most∧b.most≤Jm)(h:(Er (zn n bs)).ok=true) :
    (Er (zn n bs)).values.length=n∧Eu (Er (zn n bs)).values 0=0∧∀b∈bs,T9 (Eu (Er (zn n bs)).values) b:=by
  cases hz:I1 (zn n bs) != 0 with
  | true=>rw [V8 hz] at h;cases h
  | false=>
    cases he:decide ((Ed (zn n bs)).2<0) with
    | false=>rw [cK hz he] at h;cases h
    | true=>
      have hk:=mR hz hm
      have hs:=(kI hk).s
      rw [V7 hz he]
      simp only [List.length_map]
      have he':=of_decide_eq_true he
      rw [Nh] at he'
      obtain ⟨d,h1,h2⟩:=Xo n _ he'
      obtain ⟨h3,h4⟩:=wF bs 0 (d,-1) (fun b hb=>(hk.bd b hb).1) h2
      rw [←Nh] at h1
      have h5:(Ed (zn n bs)).1=d:=by rw [h1];show (F7 0 bs (d,-1)).1=d;rw [h3]
      rw [h5] at hs ⊢
      have hix:∀k:Int,0≤k→k<(n:Int)→Eu (d.sums.map fun v=>v-Eu d.sums 0) k=Eu d.sums k-Eu d.sums 0:=fun k k0 k1=>by
        have hlt:k.toNat<d.sums.length:=by omega
        have hg:=List.getElem?_eq_getElem hlt
        show ((d.sums.map fun v=>v-Eu d.sums 0)[k.toNat]?).getD 0=(d.sums[k.toNat]?).getD 0-Eu d.sums 0
        rw [List.getElem?_map,hg];rfl
      have hn:=hk.n1
      refine ⟨hs,?_,fun b hb=>?_⟩
      · rw [hix 0 (by omega) (by omega)];omega
      · have hb2:=hk.bd b hb
        have h6:=h4 b hb
        have h7:Eu d.sums b.x≤Eu d.sums b.y+b.most:=h6
        show Eu _ b.x-Eu _ b.y≤b.most
        rw [hix b.x hb2.1 hb2.2.1,hix b.y hb2.2.2.1 hb2.2.2.2]
        omega
inductive Root (w:Wm):Wd→Wd→Prop
 | here {x:Wd}:Ga w x=none→Root w x x
 | step {x y r:Wd}:Ga w x=some y→Root w y r→Root w x r
theorem Root.one {w:Wm}{x r s:Wd}(h:Root w x r):Root w x s→s=r:=by
  induction h with
  | here h=>
    intro h2
    cases h2 with
    | here _=>rfl
    | step h3 _=>rw [h] at h3;cases h3
  | step h1 _ ih=>
    intro h2
    cases h2 with
    | here h3=>rw [h1] at h3;cases h3
    | step h3 h4=>rw [h1] at h3;cases h3;exact ih h4
theorem pF {w:Wm}(hw:Rq w):∀(n:Nat) (x:Wd),sJ w n x→Root w x (Qd w n x)
  | 0,x,h=>.here (Xp hw 0 x h)
  | n+1,x,h=>by
    cases hq:Ga w x with
    | none=>rw [V5 hq];exact .here hq
    | some y=>
      obtain ⟨h1,h2⟩:=Ts hw h hq
      rw [dL h1 hq]
      exact .step hq (pF hw n y h2)
theorem pM {w:Wm}(hw:Rq w)(x:Wd):Root w x (Cb w x):=pF hw _ _ (Q8 w x)
theorem of_is {w:Wm}(hw:Rq w){x r:Wd}(h:Root w x r):Cb w x=r:=h.one (pM hw x)
theorem Pw {w:Wm}{k v x:Wd}:Ga (w ++ [(k,v)]) x=match Ga w x with | some y=>some y | none=>if k=x then some v else none:=by
  unfold Ga
  rw [List.find?_append]
  cases w.find? fun p=>decide (p.1=x) with
  | some p=>rfl
  | none=>
    simp only [Option.none_or,Option.map_none]
    by_cases h:k=x
    · rw [if_pos h];simp [h]
    · rw [if_neg h];simp [h]
theorem qH {w:Wm}{k v:Wd}(hv:Ga w v=none)(hkv:k≠v){x r:Wd}(h:Root w x r):Root (w ++ [(k,v)]) x (if r=k then v else r):=by
  induction h with
  | @here x h=>
    by_cases e:x=k
    · rw [if_pos e]
      refine .step (y:=v) (by rw [Pw,h];simp [e]) (.here ?_)
      rw [Pw,hv];simp [hkv]
    · rw [if_neg e]
      refine .here ?_
      rw [Pw,h];simp [Ne.symm e]
  | @step x y r h1 _ ih=>
    exact .step (y:=y) (by rw [Pw,h1]) ih
theorem L0 {w:Wm}(hw:Rq w){k v:Wd}(hv:Ga w v=none)(hkv:k≠v)(x:Wd):Cb (w ++ [(k,v)]) x=if Cb w x=k then v else Cb w x:=
 of_is (Yv hw hv hkv) (qH hv hkv (pM hw x))
def Ql (w:Wm)(x y:Wd):Prop:=Cb w x=Cb w y
theorem sQ {w:Wm}(hw:Rq w){a b:Wd}(ha:Ga w a=none)(hb:Ga w b=none){x y:Wd}(h:Ql w x y):Ql (Nu w a b).1 x y:=by
 unfold Ql at *
 unfold Nu
 by_cases e:a=b
 · rw [if_pos e];exact h
 rw [if_neg e]
 split
 · exact h
 split
 · simp only;rw [L0 hw ha (fun q=>e q.symm),L0 hw ha (fun q=>e q.symm),h]
 · simp only;rw [L0 hw hb e,L0 hw hb e,h]
theorem Vm {w:Wm}(hw:Rq w){c:Lit}{x y:Wd}(h:Ql w x y):Ql (E3 w c).1 x y:=by rw [Ju];exact sQ hw (I8 hw _) (I8 hw _) h
theorem bK {w:Wm}(hw:Rq w){c:Lit}(h:(E3 w c).2=true):Ql (E3 w c).1 (B8 (Ao c.cond)) (B8 (Bj c.cond)):=by
  rw [Ju] at h ⊢
  have fa:=I8 hw (B8 (Ao c.cond))
  have fb:=I8 hw (B8 (Bj c.cond))
  unfold Ql
  unfold Nu at h ⊢
  by_cases e:Cb w (B8 (Ao c.cond))=Cb w (B8 (Bj c.cond))
  · rw [if_pos e];exact e
  rw [if_neg e] at h ⊢
  cases hc:((Cb w (B8 (Ao c.cond))).const&&(Cb w (B8 (Bj c.cond))).const) with
  | true=>rw [hc,if_pos rfl] at h;cases h
  | false=>
    rw [Cz rfl]
    cases h3:(Cb w (B8 (Ao c.cond))).const with
    | true=>
      rw [if_pos rfl]
      simp only
      rw [L0 hw fa (fun q=>e q.symm),L0 hw fa (fun q=>e q.symm),if_neg e,if_pos rfl]
    | false=>
      rw [Cz rfl]
      simp only
      rw [L0 hw fb e,L0 hw fb e,if_pos rfl,if_neg (fun q=>e q.symm)]
section
variable {T:List Sc} {V:List Va}
theorem Uh:∀(l:List Lit) {w:Wm},Rq w→∀{x y:Wd},Ql w x y→Ql (Jb T V l w).1 x y
  | [],w,_,x,y,h=>h
  | c::r,w,hw,x,y,h=>by
    cases h1:B9 T V true c with
    | false=>rw [Ms h1];exact Uh r hw h
    | true=>
      cases h2:(E3 w c).2 with
      | false=>rw [Mg h1 h2];exact Vm hw h
      | true=>rw [Md h1 h2];exact Uh r (Me hw c) (Vm hw h)
theorem Rj:∀(l:List Lit) {w:Wm},Rq w→(Jb T V l w).2=true→∀c∈l,B9 T V true c=true→Ql (Jb T V l w).1 (B8 (Ao c.cond)) (B8 (Bj c.cond))
  | [],w,_,_,c,hc,_=>by cases hc
  | d::r,w,hw,h,c,hc,hs=>by
    cases h1:B9 T V true d with
    | false=>
      rw [Ms h1] at h ⊢
      rcases List.mem_cons.1 hc with rfl | hc
      · rw [h1] at hs;cases hs
      · exact Rj r hw h c hc hs
    | true=>
      cases h2:(E3 w d).2 with
      | false=>rw [Mg h1 h2] at h;cases h
      | true=>
        rw [Md h1 h2] at h ⊢
        rcases List.mem_cons.1 hc with rfl | hc
        · exact Uh r (Me hw c) (bK hw h2)
        · exact Rj r (Me hw d) h c hc hs
theorem Qz {w:Wm}:∀(l:List Lit),Oe T V w l=true→∀c∈l,B9 T V false c=true→Cb w (B8 (Ao c.cond))≠Cb w (B8 (Bj c.cond))
  | [],_,c,hc,_=>by cases hc
  | d::r,h,c,hc,hs=>by
    rw [Oe] at h
    cases h1:B9 T V false d with
    | false=>
      rw [h1] at h
      rcases List.mem_cons.1 hc with rfl | hc
      · rw [h1] at hs;cases hs
      · exact Qz r h c hc hs
    | true=>
      rw [h1,if_neg (by decide)] at h
      by_cases e:Cb w (B8 (Ao d.cond))=Cb w (B8 (Bj d.cond))
      · rw [if_pos e] at h;cases h
      · rw [if_neg e] at h
        rcases List.mem_cons.1 hc with rfl | hc
        · exact e
        · exact Qz r h c hc hs
structure wGood (W:Wd→Prop) (w:Wm):Prop where
 key:∀p∈w,p.1.const=false
 val:∀p∈w,W p.2
theorem uK {W:Wd→Prop}{w:Wm}(h:wGood W w):∀(n:Nat) (x:Wd),W x→W (Qd w n x)
  | 0,x,hx=>hx
  | n+1,x,hx=>by
    rw [Qd]
    cases hg:Ga w x with
    | none=>exact hx
    | some y=>exact uK h n y (h.val _ (Yw hg))
theorem kO {W:Wd→Prop}{w:Wm}(h:wGood W w){x:Wd}(hx:W x):W (Cb w x):=uK h _ _ hx
theorem wQ {W:Wd→Prop}{w:Wm}(h:wGood W w){x:Wd}(hx:x.const=true):Cb w x=x:=by
 have:Ga w x=none:=Xy fun p hp e=>by
  have:=h.key p hp
  rw [e,hx] at this;cases this
 exact V5 this
theorem U6 {W:Wd→Prop}{w:Wm}(h:wGood W w){c:Lit}(h0:W (B8 (Ao c.cond)))(h1:W (B8 (Bj c.cond))):wGood W (E3 w c).1:=by
  rw [Ju]
  have a:=kO h h0
  have b:=kO h h1
  revert a b
  generalize Cb w (B8 (Ao c.cond))=x
  generalize Cb w (B8 (Bj c.cond))=y
  intro a b
  unfold Nu
  split
  · exact h
  cases hc:(x.const&&y.const) with
  | true=>rw [if_pos rfl];exact h
  | false=>
    rw [Cz rfl]
    cases h3:x.const with
    | true=>
      rw [h3,Bool.true_and] at hc
      rw [if_pos rfl]
      refine ⟨fun p hp=>?_,fun p hp=>?_⟩
      · rcases List.mem_append.1 hp with hp | hp
        · exact h.key p hp
        · rw [List.mem_singleton.1 hp];exact hc
      · rcases List.mem_append.1 hp with hp | hp
        · exact h.val p hp
        · rw [List.mem_singleton.1 hp];exact a
    | false=>
      rw [Cz rfl]
      refine ⟨fun p hp=>?_,fun p hp=>?_⟩
      · rcases List.mem_append.1 hp with hp | hp
        · exact h.key p hp
        · rw [List.mem_singleton.1 hp];exact h3
      · rcases List.mem_append.1 hp with hp | hp
        · exact h.val p hp
        · rw [List.mem_singleton.1 hp];exact b
theorem Tp {W:Wd→Prop}:∀(l:List Lit) {w:Wm},(∀c∈l,B9 T V true c=true→W (B8 (Ao c.cond))∧W (B8 (Bj c.cond)))→wGood W w→wGood W (Jb T V l w).1
  | [],w,_,h=>h
  | c::r,w,hl,h=>by
    have hr:=fun x hx=>hl x (List.mem_cons_of_mem _ hx)
    cases h1:B9 T V true c with
    | false=>rw [Ms h1];exact Tp r hr h
    | true=>
      obtain ⟨a,b⟩:=hl c (List.mem_cons_self ..) h1
      cases h2:(E3 w c).2 with
      | false=>rw [Mg h1 h2];exact U6 h a b
      | true=>rw [Md h1 h2];exact Tp r hr (U6 h a b)
end

theorem S3:∀{l:List Fi} {seen:List (List UInt8)},H0 seen l=0→∀f∈l,0≤f.kind∧f.kind<3
  | [],_,_,f,hf=>by cases hf
  | g::r,seen,h,f,hf=>by
    rw [H0] at h
    cases h1:(D3 seen g != 0) with
    | true=>rw [if_pos h1] at h;rw [h] at h1;cases h1
    | false=>
      rw [Cz h1] at h
      rcases List.mem_cons.1 hf with rfl | hf
      · have h2:D3 seen f=0:=by simpa using h1
        unfold D3 at h2
        split at h2
        · cases h2
        split at h2
        · cases h2
        split at h2
        · cases h2
        · rename_i h3
          simp only [Bool.or_eq_true,decide_eq_true_eq,not_or] at h3
          omega
      · exact S3 h f hf
theorem Z6:∀{l:List Sc} {seen:List (List UInt8)},Jt seen l=0→∀s∈l,If s=0
  | [],_,_,f,hf=>by cases hf
  | g::r,seen,h,s,hs=>by
    rw [Jt] at h
    cases h1:(Hm seen g != 0) with
    | true=>rw [if_pos h1] at h;rw [h] at h1;cases h1
    | false=>
      rw [Cz h1] at h
      rcases List.mem_cons.1 hs with rfl | hs
      · have h2:Hm seen s=0:=by simpa using h1
        unfold Hm at h2
        cases h3:(If s != 0) with
        | true=>rw [if_pos h3] at h2;exact h2
        | false=>simpa using h3
      · exact Z6 h s hs
theorem fX {T:List Sc}(h:Eb T=0){s:Sc}(hs:s∈T){f:Fi}(hf:f∈s.fields):0≤f.kind∧f.kind<3:=by
 unfold Eb at h
 split at h
 · cases h
 have h1:=Z6 h s hs
 unfold If at h1
 split at h1
 · cases h1
 split at h1
 · cases h1
 exact S3 h1 f hf
theorem tG {k:Int}(h:0≤k∧k<3):An ⟨k,0,[]⟩=0:=by
 have:k=0∨k=1∨k=2:=by omega
 rcases this with rfl | rfl | rfl <;> rfl
theorem xJ {w:Vl}{x:Int}(h:An w=0)(hk:(w.kind=0∧-1099511627776≤x∧x≤1099511627776)∨(w.kind=1∧0≤x∧x≤1)):An { w with num:=x }=0:=by
 have ht:w.text = []:=by
  unfold An at h
  rw [if_pos (by rcases hk with hk | hk <;> rw [hk.1] <;> rfl)] at h
  split at h
  · cases h
  · rename_i h1;simpa using h1
 unfold An D5
 simp only [ht]
 rcases hk with ⟨h0,h1,h2⟩ | ⟨h0,h1,h2⟩
 · rw [h0];simp;omega
 ·
  rw [h0]
  have:x=0∨x=1:=by omega
  rcases this with rfl | rfl <;> rfl
theorem rX {w:Vl}{s:Ft}(h:An w=0)(hk:w.kind=2)(hs:s.length≤64):An { w with text:=s }=0:=by
 have hn:=Wo h hk
 unfold An D5
 simp only [hk,hn]
 simp
 omega
section
variable {T:List Sc} {V:List Va}
structure EvG (i:Nat) (v:Va) (s:Sc) (e:Ev):Prop where
 source:e.source=0
 seq:e.seq=(i:Int)
 type:e.type=v.type
 t0:0≤e.time
 t1:e.time≤1099511627776
 suit:Yd s e
structure EvI (T:List Sc) (V:List Va) (evs:List Ev):Prop where
 len:evs.length=V.length
 at_:∀(i:Nat) (v:Va) (s:Sc),V[i]? = some v→T[v.type.toNat]? = some s→∃e,evs[i]? = some e∧EvG i v s e
theorem Q2 {evs:List Ev}(h:EvI T V evs)(j:Nat)(g:Ev→Ev)(hg:∀(v:Va) (s:Sc) (e:Ev),V[j]? = some v→T[v.type.toNat]? = some s→EvG j v s e→EvG j v s (g e)):EvI T V (evs.modify j g):=by
 refine ⟨by rw [List.length_modify];exact h.len,fun i v s hv hs=>?_⟩
 obtain ⟨e,he,hG⟩:=h.at_ i v s hv hs
 rw [List.getElem?_modify,he]
 by_cases hij:j=i
 ·
  subst hij
  exact ⟨g e,by simp,hg v s e hv hs hG⟩
 · exact ⟨e,by simp [hij],hG⟩
theorem Aan {s:Sc}{e:Ev}(h:Yd s e)(k:Nat)(f:Vl→Vl)(hf:∀(w:Vl) (fl:Fi),s.fields[k]? = some fl→rJ w fl.kind→rJ (f w) fl.kind):Yd s (Wi e k f):=by
 refine ⟨by rw [V6];exact h.1,fun j fl hj=>?_⟩
 obtain ⟨w,hw,hG⟩:=h.2 j fl hj
 show ∃x,(e.values.modify k f)[j]? = some x∧_
 rw [List.getElem?_modify,hw]
 by_cases hkj:k=j
 ·
  subst hkj
  exact ⟨f w,by simp,hf w fl hj hG⟩
 · exact ⟨w,by simp [hkj],hG⟩
theorem uF {j:Nat}{v:Va}{s:Sc}{e:Ev}(h:EvG j v s e)(k:Nat)(f:Vl→Vl)(hf:∀(w:Vl) (fl:Fi),s.fields[k]? = some fl→rJ w fl.kind→rJ (f w) fl.kind):EvG j v s (Wi e k f):=
 ⟨h.source,h.seq,h.type,h.t0,h.t1,Aan h.suit k f hf⟩
theorem yO:∀{vs:List Va} {i j:Nat} {v:Va},vs[j]? = some v→(Hs T i vs)[j]? = some (Zi T (i+j) v)
  | [],i,j,v,h=>by simp at h
  | a::r,i,0,v,h=>by simp at h;subst h;rfl
  | a::r,i,j+1,v,h=>by
    have h':r[j]? = some v:=by simpa using h
    have:=yO (i:=i+1) h'
    rw [show i+1+j=i+(j+1) by omega] at this
    exact this
theorem mO (hT:Eb T=0):EvI T V (Hs T 0 V):=by
 refine ⟨S0,fun i v s hv hs=>⟨_,yO hv,rfl,by show ((0+i:Nat):Int)=_;rw [Nat.zero_add],rfl,Int.le_refl _,by show (0:Int)≤_;decide,?_⟩⟩
 have hvals:(Zi T (0+i) v).values=s.fields.map zV:=gL hs
 refine ⟨by rw [hvals,List.length_map],fun k f hf=>?_⟩
 rw [hvals,List.getElem?_map,hf]
 exact ⟨_,rfl,rfl,tG (fX hT (List.mem_of_getElem? hs) (List.mem_of_getElem? hf))⟩
theorem U7 {t:Tm}(hk:KOK T V (Hf t))(h1:t.op=1){v:Va}{s:Sc}{fl:Fi}(hv:V[t.v.toNat]? = some v)(hs:T[v.type.toNat]? = some s)(hf:s.fields[t.field.toNat]? = some fl):Am T V (Hf t)=fl.kind:=by
 obtain ⟨v',s',f',_,e1,_,e2,_,e3,e4⟩:=kG hk h1
 have e1':V[t.v.toNat]? = some v':=e1
 rw [hv] at e1';cases e1'
 rw [hs] at e2;cases e2
 have e3':s.fields[t.field.toNat]? = some f':=e3
 rw [hf] at e3';cases e3'
 exact e4
theorem uM {evs:List Ev}(h:EvI T V evs){t:Tm}(hk:KOK T V (Hf t))(ho:t.op=1∨t.op=2)(hkind:t.op=1→Am T V (Hf t)=0∨Am T V (Hf t)=1){x:Int}(hx:(C3 T V t).1≤x∧x≤(C3 T V t).2):EvI T V (Se evs t x):=by
  unfold Se
  cases h2:t.op==2 with
  | true=>
    rw [if_pos rfl]
    rw [vY h2] at hx
    exact Q2 h _ _ fun v s e _ _ hG=>⟨hG.source,hG.seq,hG.type,hx.1,hx.2,hG.suit⟩
  | false=>
    rw [if_neg (by decide)]
    have h1 : t.op = 1 := by have : t.op ≠ 2 := by simpa using h2
                             omega
    refine Q2 h _ _ fun v s e hv hs hG=>uF hG _ _ fun w fl hf hw=>?_
    have hkf:=U7 hk h1 hv hs hf
    refine ⟨hw.1,xJ hw.2 ?_⟩
    rw [hw.1,←hkf]
    rcases hkind h1 with h0 | h0
    · rw [uZ h2 (by rw [h0];rfl)] at hx
      exact .inl ⟨h0,hx⟩
    · rw [xH h2 (by rw [h0];rfl)] at hx
      exact .inr ⟨h0,hx⟩
theorem xB {evs:List Ev}(h:EvI T V evs){t:Tm}(hk:KOK T V (Hf t))(h1:t.op=1)(hkind:Am T V (Hf t)=2){s:Ft}(hs:s.length≤64):EvI T V (Vo evs t s):=by
 unfold Vo
 refine Q2 h _ _ fun v sc e hv hsc hG=>uF hG _ _ fun w fl hf hw=>?_
 have hkf:=U7 hk h1 hv hsc hf
 exact ⟨hw.1,rX hw.2 (by rw [hw.1,←hkf];exact hkind) hs⟩
def eA (evs:List Ev)(t:Tm):Int:=if t.op==2 then ((evs[t.v.toNat]?).getD Kn).time else ((((evs[t.v.toNat]?).getD Kn).values[t.field.toNat]?).getD v0).num
def txA (evs:List Ev)(t:Tm):Ft:=((((evs[t.v.toNat]?).getD Kn).values[t.field.toNat]?).getD v0).text
theorem D7 {α:Type}(l:List α)(j i:Nat)(f:α→α)(d:α):((l.modify j f)[i]?).getD d=if j=i∧i<l.length then f ((l[i]?).getD d) else (l[i]?).getD d:=by
  rw [List.getElem?_modify]
  cases hl:l[i]? with
  | none=>
    have:¬i<l.length:=by have:=List.getElem?_eq_none_iff.1 hl;omega
    rw [if_neg (fun e=>this e.2)];rfl
  | some x=>
    have:=A8 hl
    by_cases e:j=i
    · rw [if_pos ⟨e,this⟩];simp [e]
    · rw [if_neg (fun q=>e q.1)];simp [e]
theorem nm_setX (evs:List Ev)(t u:Tm)(s:Ft):eA (Vo evs t s) u=eA evs u:=by
 unfold eA Vo
 rw [D7]
 split
 · split <;> rfl
 ·
  split
  ·
   show (((((evs[u.v.toNat]?).getD Kn).values.modify t.field.toNat _)[u.field.toNat]?).getD v0).num=_
   rw [D7]
   split <;> rfl
  · rfl
theorem jD {evs:List Ev}(h:evOK T V evs){t:Tm}(ht:tmOK T V t)(h1:t.op=1):t.v.toNat<evs.length∧t.field.toNat<((evs[t.v.toNat]?).getD Kn).values.length:=by
 have hv:=ht.v1
 have hv0:=ht.v0
 have hf:=ht.f h1
 have hlt:t.v.toNat<evs.length:=by rw [h.len];omega
 have hg:=List.getElem?_eq_getElem hlt
 have:=h.vals t.v.toNat _ hg
 rw [Int.toNat_of_nonneg hv0] at this
 refine ⟨hlt,?_⟩
 rw [hg]
 show t.field.toNat<(evs[t.v.toNat]).values.length
 rw [this];omega
theorem pI {evs:List Ev}(h:evOK T V evs){t:Tm}(ht:tmOK T V t)(h1:t.op=1)(s:Ft):txA (Vo evs t s) t=s:=by
 obtain ⟨hlt,hfl⟩:=jD h ht h1
 unfold txA Vo
 rw [D7,if_pos ⟨rfl,hlt⟩]
 show (((((evs[t.v.toNat]?).getD Kn).values.modify t.field.toNat _)[t.field.toNat]?).getD v0).text=_
 rw [D7,if_pos ⟨rfl,hfl⟩]
theorem tm_eq {t u:Tm}(ht:tmOK T V t)(hu:tmOK T V u)(h1:t.op=1)(h2:u.op=1)(hv:t.v.toNat=u.v.toNat)(hf:t.field.toNat=u.field.toNat):t=u:=by
 have a:=ht.v0;have b:=hu.v0;have c:=ht.f h1;have d:=hu.f h2
 have e1:t.v=u.v:=by omega
 have e2:t.field=u.field:=by omega
 have e3:t.op=u.op:=by rw [h1,h2]
 obtain ⟨o,v,f⟩:=t
 obtain ⟨o',v',f'⟩:=u
 simp only at e1 e2 e3
 rw [e1,e2,e3]
theorem lT {evs:List Ev}{t u:Tm}(ht:tmOK T V t)(hu:tmOK T V u)(h1:t.op=1)(h2:u.op=1)(hne:t≠u)(s:Ft):txA (Vo evs t s) u=txA evs u:=by
 unfold txA Vo
 rw [D7]
 split
 ·
  rename_i h3
  show (((((evs[u.v.toNat]?).getD Kn).values.modify t.field.toNat _)[u.field.toNat]?).getD v0).text=_
  rw [D7,if_neg (fun e=>hne (tm_eq ht hu h1 h2 h3.1 e.1))]
 · rfl
theorem iQ {evs:List Ev}{t:Tm}(h:(t.op==2)=true):eA evs t=((evs[t.v.toNat]?).getD Kn).time:=if_pos h
theorem gQ {evs:List Ev}{t:Tm}(h:(t.op==2)=false):eA evs t=((((evs[t.v.toNat]?).getD Kn).values[t.field.toNat]?).getD v0).num:=Cz h
theorem mI {evs:List Ev}{t:Tm}{x:Int}(h:(t.op==2)=true):Se evs t x=evs.modify t.v.toNat (fun e=>{ e with time:=x }):=if_pos h
theorem kW {evs:List Ev}{t:Tm}{x:Int}(h:(t.op==2)=false):Se evs t x=evs.modify t.v.toNat (fun e=>Wi e t.field.toNat fun y=>{ y with num:=x }):=Cz h
theorem nm_setN {evs:List Ev}(h:evOK T V evs){t:Tm}(ht:tmOK T V t)(x:Int):eA (Se evs t x) t=x:=by
  cases h2:t.op==2 with
  | true=>
    have hlt:t.v.toNat<evs.length:=by have:=ht.v0;have:=ht.v1;rw [h.len];omega
    rw [iQ h2,mI h2,D7,if_pos ⟨rfl,hlt⟩]
  | false=>
    have h1 : t.op = 1 := by have : t.op ≠ 2 := by simpa using h2
                             have:=ht.op;omega
    obtain ⟨hlt,hfl⟩:=jD h ht h1
    rw [gQ h2,kW h2,D7,if_pos ⟨rfl,hlt⟩]
    show (((((evs[t.v.toNat]?).getD Kn).values.modify t.field.toNat _)[t.field.toNat]?).getD v0).num=_
    rw [D7,if_pos ⟨rfl,hfl⟩]
theorem kL {evs:List Ev}{t u:Tm}(ht:tmOK T V t)(hu:tmOK T V u)(ft:t.op=2→t.field=0)(fu:u.op=2→u.field=0)(hne:t≠u)(x:Int):eA (Se evs t x) u=eA evs u:=by
  have a:=ht.v0;have b:=hu.v0
  cases h2:t.op==2 with
  | true=>
    cases h3:u.op==2 with
    | true=>
      rw [iQ h3,iQ h3,mI h2,D7,if_neg ?_]
      intro q
      apply hne
      have e1:t.op=2:=by simpa using h2
      have e2:u.op=2:=by simpa using h3
      have e3:=ft e1;have e4:=fu e2
      have e5:t.v=u.v:=by have:=q.1;omega
      obtain ⟨o,v,f⟩:=t
      obtain ⟨o',v',f'⟩:=u
      simp only at e1 e2 e3 e4 e5
      rw [e1,e2,e3,e4,e5]
    | false=>
      rw [gQ h3,gQ h3,mI h2,D7]
      split <;> rfl
  | false=>
    have h1 : t.op = 1 := by have : t.op ≠ 2 := by simpa using h2
                             have:=ht.op;omega
    cases h3:u.op==2 with
    | true=>
      rw [iQ h3,iQ h3,kW h2,D7]
      split <;> rfl
    | false=>
      have hu1 : u.op = 1 := by have : u.op ≠ 2 := by simpa using h3
                                have:=hu.op;omega
      rw [gQ h3,gQ h3,kW h2,D7]
      split
      · rename_i h4
        show (((((evs[u.v.toNat]?).getD Kn).values.modify t.field.toNat _)[u.field.toNat]?).getD v0).num=_
        rw [D7,if_neg (fun e=>hne (tm_eq ht hu h1 hu1 h4.1 e.1))]
      · rfl
theorem lG {t:Tm}(hk:KOK T V (Hf t))(h2:t.op=2):t.field=0:=by
 have hn:=(Ba hk.nodes).1
 have ho:(Hf t).op=2:=h2
 unfold Bx at hn
 split at hn
 · cases hn
 split at hn
 · cases hn
 split at hn
 · cases hn
 split at hn
 · cases hn
 rw [if_neg (by rw [ho];decide)] at hn
 unfold Bl at hn
 split at hn
 · cases hn
 ·
  rename_i h3
  rw [ho] at h3
  have h4:¬(t.field≠0):=fun h=>h3 (by
   have:((Hf t).field != 0)=true:=bne_iff_ne.2 h
   rw [this];simp [Dt])
  omega
theorem Zl {vals:List Int}:∀(ts:List Tm) (i:Nat) {evs:List Ev},EvI T V evs→(∀t∈ts,KOK T V (Hf t)∧(t.op=1∨t.op=2)∧(t.op=1→Am T V (Hf t)=0∨Am T V (Hf t)=1))→
    (∀(k:Nat) (t:Tm),ts[k]? = some t→(C3 T V t).1≤Eu vals ((i:Int)+k+1)∧Eu vals ((i:Int)+k+1)≤(C3 T V t).2)→EvI T V (Hn vals i ts evs)
  | [],i,evs,h,_,_=>h
  | t::r,i,evs,h,hk,hx=>by
    rw [Hn]
    obtain ⟨k1,k2,k3⟩:=hk t (List.mem_cons_self ..)
    have h0:=hx 0 t rfl
    rw [show (i:Int)+((0:Nat):Int)+1=(i:Int)+1 by omega] at h0
    refine Zl r (i+1) (uM h k1 k2 k3 h0) (fun u hu=>hk u (List.mem_cons_of_mem _ hu)) fun k u hu=>?_
    have:=hx (k+1) u (by simpa using hu)
    rw [show ((i+1:Nat):Int)+k+1=(i:Int)+((k+1:Nat):Int)+1 by omega]
    exact this
theorem jJ {vals:List Int}:∀(ts:List Tm) (i:Nat) {evs:List Ev},evOK T V evs→evOK T V (Hn vals i ts evs)
 | [],i,evs,h=>h
 | t::r,i,evs,h=>by rw [Hn];exact jJ r (i+1) (Wn h t _)
theorem jP {vals:List Int}:∀(ts:List Tm) (i:Nat) {evs:List Ev} {u:Tm},tmOK T V u→(u.op=2→u.field=0)→(∀t∈ts,tmOK T V t∧(t.op=2→t.field=0))→u∉ts→eA (Hn vals i ts evs) u=eA evs u
  | [],i,evs,u,_,_,_,_=>rfl
  | t::r,i,evs,u,hu,fu,ht,hn=>by
    obtain ⟨h1,h2⟩:=ht t (List.mem_cons_self ..)
    rw [Hn,jP r (i+1) hu fu (fun x hx=>ht x (List.mem_cons_of_mem _ hx)) (fun h=>hn (List.mem_cons_of_mem _ h))]
    exact kL h1 hu h2 fu (fun e=>hn (by rw [e];exact List.mem_cons_self ..)) _
theorem iZ {vals:List Int}:∀(ts:List Tm) (i:Nat) {evs:List Ev},evOK T V evs→ts.Nodup→(∀t∈ts,tmOK T V t∧(t.op=2→t.field=0))→∀(k:Nat) (t:Tm),ts[k]? = some t→eA (Hn vals i ts evs) t=Eu vals ((i:Int)+k+1)
  | [],i,evs,_,_,_,k,t,h=>by simp at h
  | u::r,i,evs,he,hn,ht,0,t,h=>by
    simp at h;subst h
    obtain ⟨h1,h2⟩:=ht u (List.mem_cons_self ..)
    rw [Hn,jP r (i+1) h1 h2 (fun x hx=>ht x (List.mem_cons_of_mem _ hx)) (List.nodup_cons.1 hn).1,nm_setN he h1]
    rw [show (i:Int)+((0:Nat):Int)+1=(i:Int)+1 by omega]
  | u::r,i,evs,he,hn,ht,k+1,t,h=>by
    rw [Hn,iZ r (i+1) (Wn he u _) (List.nodup_cons.1 hn).2 (fun x hx=>ht x (List.mem_cons_of_mem _ hx)) k t (by simpa using h)]
    rw [show ((i+1:Nat):Int)+k+1=(i:Int)+((k+1:Nat):Int)+1 by omega]
theorem U5 {ts l:List Tm}(h:ts.Nodup):(A1 ts l).Nodup:=by
  cases l with
  | nil=>exact h
  | cons t r=>
    unfold A1
    simp only
    split
    · exact h
    · rename_i h1
      rw [List.nodup_append]
      refine ⟨h,by simp,fun a ha b hb e=>?_⟩
      rw [List.mem_singleton] at hb
      subst hb;subst e
      exact h1 (by simpa using ha)
theorem Z1:∀(l:List Lit) {s:Sy},s.ts.Nodup→(l.foldl (Dc T V) s).ts.Nodup
  | [],s,h=>h
  | c::r,s,h=>by
    rw [List.foldl_cons]
    refine Z1 r ?_
    cases h1 : !(Aa T V c).2 with
    | true=>rw [Lg h1];exact h
    | false=>rw [Lj h1];exact U5 (U5 h)
theorem T6 {evs:List Ev}(hty:Ln T V)(h:EvI T V evs):Gq T V (Dw evs):=by
 refine ⟨by simp [Dw,h.len],fun i v hv=>?_⟩
 obtain ⟨s,hs⟩:=yA hty (List.mem_of_getElem? hv)
 obtain ⟨e,he,hG⟩:=h.at_ i v s hv hs
 exact ⟨s,e,hs,by simp [Dw,he],hG.suit⟩
theorem pN {evs:List Ev}(hty:Ln T V)(h:EvI T V evs):EnvOK T V (Dw evs):=by
 refine ⟨T6 hty h,fun l hl ev hev=>?_⟩
 obtain ⟨e,he,rfl⟩:=List.mem_map.1 hl
 rw [List.mem_singleton] at hev;subst hev
 obtain ⟨i,hi⟩:=List.mem_iff_getElem?.1 he
 have hlt:=A8 hi
 have hv:V[i]? = some (V[i]'(by rw [←h.len];exact hlt)):=List.getElem?_eq_getElem _
 obtain ⟨s,hs⟩:=yA hty (List.mem_of_getElem? hv)
 obtain ⟨e',he',hG⟩:=h.at_ i _ s hv hs
 rw [hi] at he';cases he'
 exact ⟨hG.t0,hG.t1⟩
theorem Aam {evs:List Ev}{v:Int}{ev:Ev}(h0:0≤v)(h:Bu (Dw evs) v = [ev]):evs[v.toNat]? = some ev:=by
  unfold Bu at h
  split at h
  · cases h
  · rename_i h1
    cases hq:evs[v.toNat]? with
    | none=>
      have:(Dw evs)[v.toNat]? = none:=by unfold Dw;rw [List.getElem?_map,hq];rfl
      rw [this] at h;cases h
    | some e=>
      have:(Dw evs)[v.toNat]? = some [e]:=by unfold Dw;rw [List.getElem?_map,hq];rfl
      rw [this] at h
      have h2:[e] = [ev]:=h
      cases h2;rfl
theorem nL {evs:List Ev}(hE:EnvOK T V (Dw evs)){t:Tm}(hk:KOK T V (Hf t))(ht:tmOK T V t):Tg (Dw evs) t=eA evs t∧(t.op=1→(vl (Dw evs) (Hf t)).text=txA evs t):=by
 obtain ⟨ev,h1,h2,h3,h4⟩:=Y0 hE.suits hE.small hk (show ((Hf t).op==1||(Hf t).op==2)=true by have:=ht.op;show (t.op==1||t.op==2)=true;simpa using this)
 have h5:evs[t.v.toNat]? = some ev:=Aam ht.v0 h1
 have hv:vl (Dw evs) (Hf t)=(L4 (Hf t) ev).1:=by show (Bw _ _).1=_;rw [h4]
 unfold Tg
 rw [hv]
 unfold eA txA
 rw [h5]
 unfold L4 at h2 ⊢
 rcases ht.op with h | h
 ·
  have e1:((Hf t).op==1)=true:=by show (t.op==1)=true;simpa using h
  rw [if_pos e1] at h2 ⊢
  have e2:(t.op==2)=false:=by rw [h];rfl
  rw [e2]
  split at h2
  · cases h2
  ·
   rename_i h6
   rw [if_neg h6]
   exact ⟨rfl,fun _=>rfl⟩
 ·
  have e1:¬((Hf t).op==1)=true:=by show ¬(t.op==1)=true;rw [h];decide
  rw [if_neg e1]
  have e2:(t.op==2)=true:=by rw [h];rfl
  rw [e2]
  exact ⟨rfl,fun h1=>by omega⟩
end
end Go.Proofs.YtkddpedfbicbeaaGreatDoor
