/-
  Several texts in one: S46, S47, S48, S38, S49, S50, Au, S51. No condition.
-/
import Derived.Test.YtkddpedfbicbeaaGreatDoorK12
import Derived.Test.YtkddpedfbicbeaaGreatDoorK11
import Derived.Test.YtkddpedfbicbeaaGreatDoorK07
set_option linter.unusedVariables false
set_option linter.unusedSimpArgs false
namespace Go.Proofs.YtkddpedfbicbeaaGreatDoor
open Go Go.Aw

/-! ### kinds of fields -/
theorem Sp:∀{l:List Fi} {seen:List (List UInt8)},If seen l=0→∀f∈l,0≤f.kind∧f.kind<3
  | [],_,_,f,hf=>by cases hf
  | g::r,seen,h,f,hf=>by
    rw [If] at h
    cases h1:(D8 seen g != 0) with
    | true=>rw [if_pos h1] at h;rw [h] at h1;cases h1
    | false=>
      rw [Ci h1] at h
      rcases List.mem_cons.1 hf with rfl | hf
      · have h2:D8 seen f=0:=by simpa using h1
        unfold D8 at h2
        split at h2
        · cases h2
        split at h2
        · cases h2
        split at h2
        · cases h2
        · rename_i h3
          simp only [Bool.or_eq_true,decide_eq_true_eq,not_or] at h3
          omega
      · exact Sp h f hf
theorem Zq:∀{l:List Sc} {seen:List (List UInt8)},J0 seen l=0→∀s∈l,Ik s=0
  | [],_,_,f,hf=>by cases hf
  | g::r,seen,h,s,hs=>by
    rw [J0] at h
    cases h1:(Hu seen g != 0) with
    | true=>rw [if_pos h1] at h;rw [h] at h1;cases h1
    | false=>
      rw [Ci h1] at h
      rcases List.mem_cons.1 hs with rfl | hs
      · have h2:Hu seen s=0:=by simpa using h1
        unfold Hu at h2
        cases h3:(Ik s != 0) with
        | true=>rw [if_pos h3] at h2;exact h2
        | false=>simpa using h3
      · exact Zq h s hs
theorem gQ {T:List Sc}(h:Ea T=0){s:Sc}(hs:s∈T){f:Fi}(hf:f∈s.fields):0≤f.kind∧f.kind<3:=by
 unfold Ea at h
 split at h
 · cases h
 have h1:=Zq h s hs
 unfold Ik at h1
 split at h1
 · cases h1
 split at h1
 · cases h1
 exact Sp h1 f hf
theorem tG {k:Int}(h:0≤k∧k<3):Ap ⟨k,0,[]⟩=0:=by
 have:k=0∨k=1∨k=2:=by omega
 rcases this with rfl | rfl | rfl <;> rfl
theorem yB {w:Vl}{x:Int}(h:Ap w=0)(hk:(w.kind=0∧-1099511627776≤x∧x≤1099511627776)∨(w.kind=1∧0≤x∧x≤1)):Ap { w with num:=x }=0:=by
 have ht:w.text = []:=by
  unfold Ap at h
  rw [if_pos (by rcases hk with hk | hk <;> rw [hk.1] <;> rfl)] at h
  split at h
  · cases h
  · rename_i h1;simpa using h1
 unfold Ap D9
 simp only [ht]
 rcases hk with ⟨h0,h1,h2⟩ | ⟨h0,h1,h2⟩
 · rw [h0];simp;omega
 ·
  rw [h0]
  have:x=0∨x=1:=by omega
  rcases this with rfl | rfl <;> rfl
theorem qK {w:Vl}{s:Fq}(h:Ap w=0)(hk:w.kind=2)(hs:s.length≤64):Ap { w with text:=s }=0:=by
 have hn:=Wi h hk
 unfold Ap D9
 simp only [hk,hn]
 simp
 omega
section
variable {T:List Sc} {V:List Va}
/-- one event that fits its variable -/
structure EvG (i:Nat) (v:Va) (s:Sc) (e:Ev):Prop where
 source:e.source=0
 seq:e.seq=(i:Int)
 type:e.type=v.type
 t0:0≤e.time
 t1:e.time≤1099511627776
 suit:Wo s e
structure EvI (T:List Sc) (V:List Va) (evs:List Ev):Prop where
 len:evs.length=V.length
 at_:∀(i:Nat) (v:Va) (s:Sc),V[i]? = some v→T[v.type.toNat]? = some s→∃e,evs[i]? = some e∧EvG i v s e
theorem Rb {evs:List Ev}(h:EvI T V evs)(j:Nat)(g:Ev→Ev)(hg:∀(v:Va) (s:Sc) (e:Ev),V[j]? = some v→T[v.type.toNat]? = some s→EvG j v s e→EvG j v s (g e)):EvI T V (evs.modify j g):=by
 refine ⟨by rw [List.length_modify];exact h.len,fun i v s hv hs=>?_⟩
 obtain ⟨e,he,hG⟩:=h.at_ i v s hv hs
 rw [List.getElem?_modify,he]
 by_cases hij:j=i
 ·
  subst hij
  exact ⟨g e,by simp,hg v s e hv hs hG⟩
 · exact ⟨e,by simp [hij],hG⟩
theorem suit_at {s:Sc}{e:Ev}(h:Wo s e)(k:Nat)(f:Vl→Vl)(hf:∀(w:Vl) (fl:Fi),s.fields[k]? = some fl→kE w fl.kind→kE (f w) fl.kind):Wo s (Vy e k f):=by
 refine ⟨by rw [V5];exact h.1,fun j fl hj=>?_⟩
 obtain ⟨w,hw,hG⟩:=h.2 j fl hj
 show ∃x,(e.values.modify k f)[j]? = some x∧_
 rw [List.getElem?_modify,hw]
 by_cases hkj:k=j
 ·
  subst hkj
  exact ⟨f w,by simp,hf w fl hj hG⟩
 · exact ⟨w,by simp [hkj],hG⟩
theorem wH {j:Nat}{v:Va}{s:Sc}{e:Ev}(h:EvG j v s e)(k:Nat)(f:Vl→Vl)(hf:∀(w:Vl) (fl:Fi),s.fields[k]? = some fl→kE w fl.kind→kE (f w) fl.kind):EvG j v s (Vy e k f):=
 ⟨h.source,h.seq,h.type,h.t0,h.t1,suit_at h.suit k f hf⟩
theorem yE:∀{vs:List Va} {i j:Nat} {v:Va},vs[j]? = some v→(H0 T i vs)[j]? = some (Zb T (i+j) v)
  | [],i,j,v,h=>by simp at h
  | a::r,i,0,v,h=>by simp at h;subst h;rfl
  | a::r,i,j+1,v,h=>by
    have h':r[j]? = some v:=by simpa using h
    have:=yE (i:=i+1) h'
    rw [show i+1+j=i+(j+1) by omega] at this
    exact this
theorem oI (hT:Ea T=0):EvI T V (H0 T 0 V):=by
 refine ⟨P0,fun i v s hv hs=>⟨_,yE hv,rfl,by show ((0+i:Nat):Int)=_;rw [Nat.zero_add],rfl,Int.le_refl _,by show (0:Int)≤_;decide,?_⟩⟩
 have hvals:(Zb T (0+i) v).values=s.fields.map zV:=iF hs
 refine ⟨by rw [hvals,List.length_map],fun k f hf=>?_⟩
 rw [hvals,List.getElem?_map,hf]
 exact ⟨_,rfl,rfl,tG (gQ hT (List.mem_of_getElem? hs) (List.mem_of_getElem? hf))⟩
/-- the place of a field -/
theorem Us {t:Tm}(hk:KOK T V (Ho t))(h1:t.op=1){v:Va}{s:Sc}{fl:Fi}(hv:V[t.v.toNat]? = some v)(hs:T[v.type.toNat]? = some s)(hf:s.fields[t.field.toNat]? = some fl):Am T V (Ho t)=fl.kind:=by
 obtain ⟨v',s',f',_,e1,_,e2,_,e3,e4⟩:=mG hk h1
 have e1':V[t.v.toNat]? = some v':=e1
 rw [hv] at e1';cases e1'
 rw [hs] at e2;cases e2
 have e3':s.fields[t.field.toNat]? = some f':=e3
 rw [hf] at e3';cases e3'
 exact e4
theorem yA {evs:List Ev}(h:EvI T V evs){t:Tm}(hk:KOK T V (Ho t))(ho:t.op=1∨t.op=2)(hkind:t.op=1→Am T V (Ho t)=0∨Am T V (Ho t)=1){x:Int}(hx:(C0 T V t).1≤x∧x≤(C0 T V t).2):EvI T V (Qh evs t x):=by
  unfold Qh
  cases h2:t.op==2 with
  | true=>
    rw [if_pos rfl]
    rw [uQ h2] at hx
    exact Rb h _ _ fun v s e _ _ hG=>⟨hG.source,hG.seq,hG.type,hx.1,hx.2,hG.suit⟩
  | false=>
    rw [if_neg (by decide)]
    have h1 : t.op = 1 := by have : t.op ≠ 2 := by simpa using h2
                             omega
    refine Rb h _ _ fun v s e hv hs hG=>wH hG _ _ fun w fl hf hw=>?_
    have hkf:=Us hk h1 hv hs hf
    refine ⟨hw.1,yB hw.2 ?_⟩
    rw [hw.1,←hkf]
    rcases hkind h1 with h0 | h0
    · rw [xI h2 (by rw [h0];rfl)] at hx
      exact .inl ⟨h0,hx⟩
    · rw [uA h2 (by rw [h0];rfl)] at hx
      exact .inr ⟨h0,hx⟩
theorem yP {evs:List Ev}(h:EvI T V evs){t:Tm}(hk:KOK T V (Ho t))(h1:t.op=1)(hkind:Am T V (Ho t)=2){s:Fq}(hs:s.length≤64):EvI T V (Uf evs t s):=by
 unfold Uf
 refine Rb h _ _ fun v sc e hv hsc hG=>wH hG _ _ fun w fl hf hw=>?_
 have hkf:=Us hk h1 hv hsc hf
 exact ⟨hw.1,qK hw.2 (by rw [hw.1,←hkf];exact hkind) hs⟩
/-! ### what stands at a place -/
def eM (evs:List Ev)(t:Tm):Int:=if t.op==2 then ((evs[t.v.toNat]?).getD Km).time else ((((evs[t.v.toNat]?).getD Km).values[t.field.toNat]?).getD v0).num
def txA (evs:List Ev)(t:Tm):Fq:=((((evs[t.v.toNat]?).getD Km).values[t.field.toNat]?).getD v0).text
theorem Ed {α:Type}(l:List α)(j i:Nat)(f:α→α)(d:α):((l.modify j f)[i]?).getD d=if j=i∧i<l.length then f ((l[i]?).getD d) else (l[i]?).getD d:=by
  rw [List.getElem?_modify]
  cases hl:l[i]? with
  | none=>
    have:¬i<l.length:=by have:=List.getElem?_eq_none_iff.1 hl;omega
    rw [if_neg (fun e=>this e.2)];rfl
  | some x=>
    have:=Bb hl
    by_cases e:j=i
    · rw [if_pos ⟨e,this⟩];simp [e]
    · rw [if_neg (fun q=>e q.1)];simp [e]
theorem Abf (evs:List Ev)(t u:Tm)(s:Fq):eM (Uf evs t s) u=eM evs u:=by
 unfold eM Uf
 rw [Ed]
 split
 · split <;> rfl
 ·
  split
  ·
   show (((((evs[u.v.toNat]?).getD Km).values.modify t.field.toNat _)[u.field.toNat]?).getD v0).num=_
   rw [Ed]
   split <;> rfl
  · rfl
theorem gD {evs:List Ev}(h:evOK T V evs){t:Tm}(ht:tmOK T V t)(h1:t.op=1):t.v.toNat<evs.length∧t.field.toNat<((evs[t.v.toNat]?).getD Km).values.length:=by
 have hv:=ht.v1
 have hv0:=ht.v0
 have hf:=ht.f h1
 have hlt:t.v.toNat<evs.length:=by rw [h.len];omega
 have hg:=List.getElem?_eq_getElem hlt
 have:=h.vals t.v.toNat _ hg
 rw [Int.toNat_of_nonneg hv0] at this
 refine ⟨hlt,?_⟩
 rw [hg]
 show t.field.toNat<(evs[t.v.toNat]).values.length
 rw [this];omega
theorem pE {evs:List Ev}(h:evOK T V evs){t:Tm}(ht:tmOK T V t)(h1:t.op=1)(s:Fq):txA (Uf evs t s) t=s:=by
 obtain ⟨hlt,hfl⟩:=gD h ht h1
 unfold txA Uf
 rw [Ed,if_pos ⟨rfl,hlt⟩]
 show (((((evs[t.v.toNat]?).getD Km).values.modify t.field.toNat _)[t.field.toNat]?).getD v0).text=_
 rw [Ed,if_pos ⟨rfl,hfl⟩]
theorem tm_eq {t u:Tm}(ht:tmOK T V t)(hu:tmOK T V u)(h1:t.op=1)(h2:u.op=1)(hv:t.v.toNat=u.v.toNat)(hf:t.field.toNat=u.field.toNat):t=u:=by
 have a:=ht.v0;have b:=hu.v0;have c:=ht.f h1;have d:=hu.f h2
 have e1:t.v=u.v:=by omega
 have e2:t.field=u.field:=by omega
 have e3:t.op=u.op:=by rw [h1,h2]
 obtain ⟨o,v,f⟩:=t
 obtain ⟨o',v',f'⟩:=u
 simp only at e1 e2 e3
 rw [e1,e2,e3]
theorem mR {evs:List Ev}{t u:Tm}(ht:tmOK T V t)(hu:tmOK T V u)(h1:t.op=1)(h2:u.op=1)(hne:t≠u)(s:Fq):txA (Uf evs t s) u=txA evs u:=by
 unfold txA Uf
 rw [Ed]
 split
 ·
  rename_i h3
  show (((((evs[u.v.toNat]?).getD Km).values.modify t.field.toNat _)[u.field.toNat]?).getD v0).text=_
  rw [Ed,if_neg (fun e=>hne (tm_eq ht hu h1 h2 h3.1 e.1))]
 · rfl
theorem jR {evs:List Ev}{t:Tm}(h:(t.op==2)=true):eM evs t=((evs[t.v.toNat]?).getD Km).time:=if_pos h
theorem jW {evs:List Ev}{t:Tm}(h:(t.op==2)=false):eM evs t=((((evs[t.v.toNat]?).getD Km).values[t.field.toNat]?).getD v0).num:=Ci h
theorem lC {evs:List Ev}{t:Tm}{x:Int}(h:(t.op==2)=true):Qh evs t x=evs.modify t.v.toNat (fun e=>{ e with time:=x }):=if_pos h
theorem kP {evs:List Ev}{t:Tm}{x:Int}(h:(t.op==2)=false):Qh evs t x=evs.modify t.v.toNat (fun e=>Vy e t.field.toNat fun y=>{ y with num:=x }):=Ci h
theorem Aa8 {evs:List Ev}(h:evOK T V evs){t:Tm}(ht:tmOK T V t)(x:Int):eM (Qh evs t x) t=x:=by
  cases h2:t.op==2 with
  | true=>
    have hlt:t.v.toNat<evs.length:=by have:=ht.v0;have:=ht.v1;rw [h.len];omega
    rw [jR h2,lC h2,Ed,if_pos ⟨rfl,hlt⟩]
  | false=>
    have h1 : t.op = 1 := by have : t.op ≠ 2 := by simpa using h2
                             have:=ht.op;omega
    obtain ⟨hlt,hfl⟩:=gD h ht h1
    rw [jW h2,kP h2,Ed,if_pos ⟨rfl,hlt⟩]
    show (((((evs[t.v.toNat]?).getD Km).values.modify t.field.toNat _)[t.field.toNat]?).getD v0).num=_
    rw [Ed,if_pos ⟨rfl,hfl⟩]
theorem lW {evs:List Ev}{t u:Tm}(ht:tmOK T V t)(hu:tmOK T V u)(ft:t.op=2→t.field=0)(fu:u.op=2→u.field=0)(hne:t≠u)(x:Int):eM (Qh evs t x) u=eM evs u:=by
  have a:=ht.v0;have b:=hu.v0
  cases h2:t.op==2 with
  | true=>
    cases h3:u.op==2 with
    | true=>
      rw [jR h3,jR h3,lC h2,Ed,if_neg ?_]
      intro q
      apply hne
      have e1:t.op=2:=by simpa using h2
      have e2:u.op=2:=by simpa using h3
      have e3:=ft e1;have e4:=fu e2
      have e5:t.v=u.v:=by have:=q.1;omega
      obtain ⟨o,v,f⟩:=t
      obtain ⟨o',v',f'⟩:=u
      simp only at e1 e2 e3 e4 e5
      rw [e1,e2,e3,e4,e5]
    | false=>
      rw [jW h3,jW h3,lC h2,Ed]
      split <;> rfl
  | false=>
    have h1 : t.op = 1 := by have : t.op ≠ 2 := by simpa using h2
                             have:=ht.op;omega
    cases h3:u.op==2 with
    | true=>
      rw [jR h3,jR h3,kP h2,Ed]
      split <;> rfl
    | false=>
      have hu1 : u.op = 1 := by have : u.op ≠ 2 := by simpa using h3
                                have:=hu.op;omega
      rw [jW h3,jW h3,kP h2,Ed]
      split
      · rename_i h4
        show (((((evs[u.v.toNat]?).getD Km).values.modify t.field.toNat _)[u.field.toNat]?).getD v0).num=_
        rw [Ed,if_neg (fun e=>hne (tm_eq ht hu h1 hu1 h4.1 e.1))]
      · rfl
theorem mN {t:Tm}(hk:KOK T V (Ho t))(h2:t.op=2):t.field=0:=by
 have hn:=(Be hk.nodes).1
 have ho:(Ho t).op=2:=h2
 unfold By at hn
 split at hn
 · cases hn
 split at hn
 · cases hn
 split at hn
 · cases hn
 split at hn
 · cases hn
 rw [if_neg (by rw [ho];decide)] at hn
 unfold Bm at hn
 split at hn
 · cases hn
 ·
  rename_i h3
  rw [ho] at h3
  have h4:¬(t.field≠0):=fun h=>h3 (by
   have:((Ho t).field != 0)=true:=bne_iff_ne.2 h
   rw [this];simp [Dn])
  omega
/-! ### the numbers of the model -/
theorem Z0 {vals:List Int}:∀(ts:List Tm) (i:Nat) {evs:List Ev},EvI T V evs→(∀t∈ts,KOK T V (Ho t)∧(t.op=1∨t.op=2)∧(t.op=1→Am T V (Ho t)=0∨Am T V (Ho t)=1))→
    (∀(k:Nat) (t:Tm),ts[k]? = some t→(C0 T V t).1≤Ey vals ((i:Int)+k+1)∧Ey vals ((i:Int)+k+1)≤(C0 T V t).2)→EvI T V (Gs vals i ts evs)
  | [],i,evs,h,_,_=>h
  | t::r,i,evs,h,hk,hx=>by
    rw [Gs]
    obtain ⟨k1,k2,k3⟩:=hk t (List.mem_cons_self ..)
    have h0:=hx 0 t rfl
    rw [show (i:Int)+((0:Nat):Int)+1=(i:Int)+1 by omega] at h0
    refine Z0 r (i+1) (yA h k1 k2 k3 h0) (fun u hu=>hk u (List.mem_cons_of_mem _ hu)) fun k u hu=>?_
    have:=hx (k+1) u (by simpa using hu)
    rw [show ((i+1:Nat):Int)+k+1=(i:Int)+((k+1:Nat):Int)+1 by omega]
    exact this
theorem gV {vals:List Int}:∀(ts:List Tm) (i:Nat) {evs:List Ev},evOK T V evs→evOK T V (Gs vals i ts evs)
 | [],i,evs,h=>h
 | t::r,i,evs,h=>by rw [Gs];exact gV r (i+1) (Wf h t _)
theorem fD {vals:List Int}:∀(ts:List Tm) (i:Nat) {evs:List Ev} {u:Tm},tmOK T V u→(u.op=2→u.field=0)→(∀t∈ts,tmOK T V t∧(t.op=2→t.field=0))→u∉ts→eM (Gs vals i ts evs) u=eM evs u
  | [],i,evs,u,_,_,_,_=>rfl
  | t::r,i,evs,u,hu,fu,ht,hn=>by
    obtain ⟨h1,h2⟩:=ht t (List.mem_cons_self ..)
    rw [Gs,fD r (i+1) hu fu (fun x hx=>ht x (List.mem_cons_of_mem _ hx)) (fun h=>hn (List.mem_cons_of_mem _ h))]
    exact lW h1 hu h2 fu (fun e=>hn (by rw [e];exact List.mem_cons_self ..)) _
theorem fP {vals:List Int}:∀(ts:List Tm) (i:Nat) {evs:List Ev},evOK T V evs→ts.Nodup→(∀t∈ts,tmOK T V t∧(t.op=2→t.field=0))→∀(k:Nat) (t:Tm),ts[k]? = some t→eM (Gs vals i ts evs) t=Ey vals ((i:Int)+k+1)
  | [],i,evs,_,_,_,k,t,h=>by simp at h
  | u::r,i,evs,he,hn,ht,0,t,h=>by
    simp at h;subst h
    obtain ⟨h1,h2⟩:=ht u (List.mem_cons_self ..)
    rw [Gs,fD r (i+1) h1 h2 (fun x hx=>ht x (List.mem_cons_of_mem _ hx)) (List.nodup_cons.1 hn).1,Aa8 he h1]
    rw [show (i:Int)+((0:Nat):Int)+1=(i:Int)+1 by omega]
  | u::r,i,evs,he,hn,ht,k+1,t,h=>by
    rw [Gs,fP r (i+1) (Wf he u _) (List.nodup_cons.1 hn).2 (fun x hx=>ht x (List.mem_cons_of_mem _ hx)) k t (by simpa using h)]
    rw [show ((i+1:Nat):Int)+k+1=(i:Int)+((k+1:Nat):Int)+1 by omega]
theorem Un {ts l:List Tm}(h:ts.Nodup):(A4 ts l).Nodup:=by
  cases l with
  | nil=>exact h
  | cons t r=>
    unfold A4
    simp only
    split
    · exact h
    · rename_i h1
      rw [List.nodup_append]
      refine ⟨h,by simp,fun a ha b hb e=>?_⟩
      rw [List.mem_singleton] at hb
      subst hb;subst e
      exact h1 (by simpa using ha)
theorem Z2:∀(l:List Lit) {s:Sy},s.ts.Nodup→(l.foldl (Dd T V) s).ts.Nodup
  | [],s,h=>h
  | c::r,s,h=>by
    rw [List.foldl_cons]
    refine Z2 r ?_
    cases h1 : !(Aa T V c).2 with
    | true=>rw [Lo h1];exact h
    | false=>rw [Lr h1];exact Un (Un h)
/-! ### what the events' values are -/
theorem Pm {evs:List Ev}(hty:Jv T V)(h:EvI T V evs):E6 T V (Dz evs):=by
 refine ⟨by simp [Dz,h.len],fun i v hv=>?_⟩
 obtain ⟨s,hs⟩:=pM hty (List.mem_of_getElem? hv)
 obtain ⟨e,he,hG⟩:=h.at_ i v s hv hs
 exact ⟨s,e,hs,by simp [Dz,he],hG.suit⟩
theorem Wh {evs:List Ev}(hty:Jv T V)(h:EvI T V evs):EnvOK T V (Dz evs):=by
 refine ⟨Pm hty h,fun l hl ev hev=>?_⟩
 obtain ⟨e,he,rfl⟩:=List.mem_map.1 hl
 rw [List.mem_singleton] at hev;subst hev
 obtain ⟨i,hi⟩:=List.mem_iff_getElem?.1 he
 have hlt:=Bb hi
 have hv:V[i]? = some (V[i]'(by rw [←h.len];exact hlt)):=List.getElem?_eq_getElem _
 obtain ⟨s,hs⟩:=pM hty (List.mem_of_getElem? hv)
 obtain ⟨e',he',hG⟩:=h.at_ i _ s hv hs
 rw [hi] at he';cases he'
 exact ⟨hG.t0,hG.t1⟩
theorem bind_ev {evs:List Ev}{v:Int}{ev:Ev}(h0:0≤v)(h:Bv (Dz evs) v = [ev]):evs[v.toNat]? = some ev:=by
  unfold Bv at h
  split at h
  · cases h
  · rename_i h1
    cases hq:evs[v.toNat]? with
    | none=>
      have:(Dz evs)[v.toNat]? = none:=by unfold Dz;rw [List.getElem?_map,hq];rfl
      rw [this] at h;cases h
    | some e=>
      have:(Dz evs)[v.toNat]? = some [e]:=by unfold Dz;rw [List.getElem?_map,hq];rfl
      rw [this] at h
      have h2:[e] = [ev]:=h
      cases h2;rfl
theorem nR {evs:List Ev}(hE:EnvOK T V (Dz evs)){t:Tm}(hk:KOK T V (Ho t))(ht:tmOK T V t):T4 (Dz evs) t=eM evs t∧(t.op=1→(vl (Dz evs) (Ho t)).text=txA evs t):=by
 obtain ⟨ev,h1,h2,h3,h4⟩:=Wz hE.suits hE.small hk (show ((Ho t).op==1||(Ho t).op==2)=true by have:=ht.op;show (t.op==1||t.op==2)=true;simpa using this)
 have h5:evs[t.v.toNat]? = some ev:=bind_ev ht.v0 h1
 have hv:vl (Dz evs) (Ho t)=(Lx (Ho t) ev).1:=by show (B0 _ _).1=_;rw [h4]
 unfold T4
 rw [hv]
 unfold eM txA
 rw [h5]
 unfold Lx at h2 ⊢
 rcases ht.op with h | h
 ·
  have e1:((Ho t).op==1)=true:=by show (t.op==1)=true;simpa using h
  rw [if_pos e1] at h2 ⊢
  have e2:(t.op==2)=false:=by rw [h];rfl
  rw [e2]
  split at h2
  · cases h2
  ·
   rename_i h6
   rw [if_neg h6]
   exact ⟨rfl,fun _=>rfl⟩
 ·
  have e1:¬((Ho t).op==1)=true:=by show ¬(t.op==1)=true;rw [h];decide
  rw [if_neg e1]
  have e2:(t.op==2)=true:=by rw [h];rfl
  rw [e2]
  exact ⟨rfl,fun h1=>by omega⟩
end

/-! ### what is used -/
theorem Tt (U:Um)(n m:Fq)(b:Bool):Fe (Tn U n b) m=if n=m then b else Fe U m:=by
  unfold Tn
  induction U with
  | nil=>show Fe [(n,b)] m=_;rfl
  | cons q r ih=>
    obtain ⟨k,c⟩:=q
    rw [eY]
    by_cases h:k=n
    · rw [if_pos h]
      subst h
      show Fe ((k,b)::r) m=_
      rw [Fe,Fe]
      by_cases h2:k=m
      · rw [if_pos h2,if_pos h2]
      · rw [if_neg h2,if_neg h2,if_neg h2]
    · rw [if_neg h]
      cases hu:eY r n with
      | none=>
        rw [hu] at ih
        show Fe ((k,c)::(r ++ [(n,b)])) m=_
        have ih':Fe (r ++ [(n,b)]) m=if n=m then b else Fe r m:=ih
        rw [Fe,Fe,ih']
        by_cases h2:k=m
        · rw [if_pos h2,if_pos h2,if_neg (fun e=>h (h2.trans e.symm))]
        · rw [if_neg h2,if_neg h2]
      | some j=>
        rw [hu] at ih
        show Fe ((k,c)::r.modify j fun _=>(n,b)) m=_
        have ih':Fe (r.modify j fun _=>(n,b)) m=if n=m then b else Fe r m:=ih
        rw [Fe,Fe,ih']
        by_cases h2:k=m
        · rw [if_pos h2,if_pos h2,if_neg (fun e=>h (h2.trans e.symm))]
        · rw [if_neg h2,if_neg h2]
theorem Te {U:Um}:∀(f k:Nat),(∀i,i<k→Fe U (wN i)=true)→U.length≤f+k→Fe U (wN (Ui U f k))=false∧Ui U f k≤U.length
  | 0,k,h,hl=>by
    have hk:=O9 h
    cases hq:Fe U (wN k) with
    | false=>exact ⟨hq,hk⟩
    | true=>
      have:=O9 (U:=U) (j:=k+1) (fun i hi=>by
        rcases Nat.lt_or_ge i k with h2 | h2
        · exact h i h2
        · rw [show i=k by omega];exact hq)
      omega
  | f+1,k,h,hl=>by
    cases hq:Fe U (wN k) with
    | false=>rw [nY hq];exact ⟨hq,O9 h⟩
    | true=>
      rw [nQ hq]
      exact Te f (k+1) (fun i hi=>by
        rcases Nat.lt_or_ge i k with h2 | h2
        · exact h i h2
        · rw [show i=k by omega];exact hq) (by omega)
theorem Xe (U:Um):Fe U (dD U)=false:=(Te U.length 0 (fun i h=>absurd h (by omega)) (by omega)).1
theorem tP {U:Um}(h:U.length≤1000000):(dD U).length≤64:=by
 have h1:=(Te (U:=U) U.length 0 (fun i h=>absurd h (by omega)) (by omega)).2
 have h2:=Go.Lib.itoa_length_le ((Ui U U.length 0:Nat):Int) (by omega) (by omega)
 show (Go.Lib.itoa ((Ui U U.length 0:Nat):Int)).length+1≤64
 omega
/-! ### the words of a clause -/
section
variable {T:List Sc} {V:List Va}
/-- a word of an equation between strings -/
structure WordL (T:List Sc) (V:List Va) (l:List Lit) (x:Wd):Prop where
 ex:∃c∈l,Dp T V c.cond=true∧Cz T V c.cond=true∧∃a∈c.cond.args,x=Ca a
abbrev Mv (p:Um×List Wd):Prop:=∀x∈p.2,x.const=true→Fe p.1 x.text=true
theorem colA_ok {p:Um×List Wd}(h:Mv p)(a:Ex):Mv (Xj p a):=by
 intro x hx hc
 unfold Xj
 simp only
 rw [Tt]
 rcases List.mem_append.1 hx with hx | hx
 ·
  split
  · rename_i e;rw [e,h x hx hc,Bool.true_or]
  · exact h x hx hc
 ·
  rw [List.mem_singleton.1 hx] at hc ⊢
  rw [if_pos rfl,hc,Bool.or_true]
theorem Zz:∀(xs:List Ex) {p:Um×List Wd},Mv p→Mv (xs.foldl Xj p)
 | [],p,h=>h
 | a::r,p,h=>by rw [List.foldl_cons];exact Zz r (colA_ok h a)
theorem Lt:∀(xs:List Ex) (p:Um×List Wd),(xs.foldl Xj p).2=p.2++xs.map Ca
  | [],p=>by simp
  | a::r,p=>by
    rw [List.foldl_cons,Lt r]
    show (p.2 ++ [Ca a])++r.map Ca=_
    simp
theorem gG:∀(xs:List Ex) (p:Um×List Wd),(xs.foldl Xj p).1.length≤p.1.length+xs.length
  | [],p=>by simp
  | a::r,p=>by
    rw [List.foldl_cons]
    have:=gG r (Xj p a)
    have h2:=Xk p.1 (Ca a).text (Fe p.1 (Ca a).text||(Ca a).const)
    have h3:(Xj p a).1.length≤p.1.length+1:=h2
    rw [List.length_cons];omega
theorem Abh {p:Um×List Wd}(h:Mv p)(c:Lit):Mv (T1 T V p c):=by
 cases hc:(!textsS T V c.cond || !simpleS T V c.cond) with
 | true=>rw [Rw hc];exact h
 | false=>rw [Mh hc];exact Zz _ h
theorem aX:∀(l:List Lit) {p:Um×List Wd},Mv p→Mv (l.foldl (T1 T V) p)
 | [],p,h=>h
 | c::r,p,h=>by rw [List.foldl_cons];exact aX r (Abh h c)
theorem jJ (l:List Lit):Mv (Hc T V l):=aX l (fun x hx=>by cases hx)
theorem Xr {l:List Lit}{P:Wd→Prop}(hP:∀c∈l,Dp T V c.cond=true→Cz T V c.cond=true→∀a∈c.cond.args,P (Ca a)):∀(m:List Lit) {p:Um×List Wd},(∀c∈m,c∈l)→(∀x∈p.2,P x)→∀x∈(m.foldl (T1 T V) p).2,P x
  | [],p,_,h=>h
  | c::r,p,hm,h=>by
    rw [List.foldl_cons]
    refine Xr hP r (fun x hx=>hm x (List.mem_cons_of_mem _ hx)) ?_
    cases hc:(!textsS T V c.cond || !simpleS T V c.cond) with
    | true=>rw [Rw hc];exact h
    | false=>
      rw [Mh hc,Lt]
      rw [Bool.or_eq_false_iff,Bool.not_eq_false',Bool.not_eq_false'] at hc
      intro x hx
      rcases List.mem_append.1 hx with hx | hx
      · exact h x hx
      · obtain ⟨a,ha,rfl⟩:=List.mem_map.1 hx
        exact hP c (hm c (List.mem_cons_self ..)) hc.1 hc.2 a ha
theorem bJ:∀(m:List Lit) (p:Um×List Wd),∀x∈p.2,x∈(m.foldl (T1 T V) p).2
  | [],p,x,h=>h
  | c::r,p,x,h=>by
    rw [List.foldl_cons]
    refine bJ r _ x ?_
    cases hc:(!textsS T V c.cond || !simpleS T V c.cond) with
    | true=>rw [Rw hc];exact h
    | false=>rw [Mh hc,Lt];exact List.mem_append_left _ h
theorem jN:∀(m:List Lit) (p:Um×List Wd),∀c∈m,Dp T V c.cond=true→Cz T V c.cond=true→∀a∈c.cond.args,Ca a∈(m.foldl (T1 T V) p).2
  | [],p,c,hc,_,_,_,_=>by cases hc
  | d::r,p,c,hc,h1,h2,a,ha=>by
    rw [List.foldl_cons]
    rcases List.mem_cons.1 hc with rfl | hc
    · refine bJ r _ _ ?_
      rw [Mh (show (!textsS T V c.cond || !simpleS T V c.cond)=false by rw [h1,h2];rfl),Lt]
      exact List.mem_append_right _ (List.mem_map.2 ⟨a,ha,rfl⟩)
    · exact jN r _ c hc h1 h2 a ha
theorem Nv {l:List Lit}{c:Lit}(hc:c∈l)(h1:Dp T V c.cond=true)(h2:Cz T V c.cond=true){a:Ex}(ha:a∈c.cond.args):Ca a∈(Hc T V l).2:=jN l _ c hc h1 h2 a ha
theorem fQ {l:List Lit}{x:Wd}(hx:x∈(Hc T V l).2):WordL T V l x:=
 ⟨Xr (T:=T) (V:=V) (l:=l) (P:=fun x=>∃c∈l,Dp T V c.cond=true∧Cz T V c.cond=true∧∃a∈c.cond.args,x=Ca a) (fun c hc h1 h2 a ha=>⟨c,hc,h1,h2,a,ha,rfl⟩) l (fun _ h=>h) (fun x h=>by cases h) x hx⟩
theorem Yl:∀(m:List Lit),U6 T V m→∀(p:Um×List Wd),(m.foldl (T1 T V) p).1.length≤p.1.length+2*m.length∧(m.foldl (T1 T V) p).2.length≤p.2.length+2*m.length
  | [],_,p=>by simp
  | c::r,hl,p=>by
    rw [List.foldl_cons]
    have ih:=Yl r (fun x hx=>hl x (List.mem_cons_of_mem _ hx)) (T1 T V p c)
    rw [List.length_cons]
    cases hc:(!textsS T V c.cond || !simpleS T V c.cond) with
    | true=>rw [Rw hc] at ih ⊢;omega
    | false=>
      obtain ⟨h2,_⟩:=Rs (hl c (List.mem_cons_self ..)).1 hc
      rw [Mh hc] at ih ⊢
      have h3:=gG c.cond.args p
      have h4:=congrArg List.length (Lt c.cond.args p)
      rw [List.length_append,List.length_map] at h4
      omega
/-- what is known of a word -/
structure WOK (T:List Sc) (V:List Va) (x:Wd):Prop where
 wf:tX x
 fld:x.const=false→KOK T V (Ho x.field)∧tmOK T V x.field∧x.field.op=1∧Am T V (Ho x.field)=2
 txt:x.const=true→x.text.length≤64
theorem vE {v:Vl}(h:Ap v=0)(hk:v.kind=2):v.text.length≤64:=by
 have hn:=Wi h hk
 unfold Ap D9 at h
 simp [hk,hn] at h
 omega
theorem uI {l:List Lit}(hl:U6 T V l){x:Wd}(h:WordL T V l x):WOK T V x:=by
 obtain ⟨c,hc,h1,h2,a,ha,rfl⟩:=h.ex
 have hk:=(hl c hc).1
 have hs:=We hk h1 h2
 have hka:=A3 hk ha
 have hkind:Am T V a=2:=by rw [In hk hs.op ha];exact hs.k0
 have hd:(a.op==0||a.op==1)=true:=(Rs hk (show (!textsS T V c.cond || !simpleS T V c.cond)=false by rw [h1,h2];rfl)).2 a ha
 have hz:=(Be hka.nodes).1
 refine ⟨fL a,fun hcf=>?_,fun hct=>?_⟩
 ·
  have h0:(a.op==0)=false:=by
   cases h0:a.op==0 with
   | false=>rfl
   | true=>rw [cL h0] at hcf;cases hcf
  have h1':a.op=1:=by rw [h0,Bool.false_or] at hd;simpa using hd
  obtain ⟨w1,w2⟩:=pA hka hd hcf
  have e:Ho (Ca a).field=a:=by
   rw [cZ h0]
   show Ho (D0 a)=a
   exact K6 hz (by rw [h1'];rfl)
  exact ⟨by rw [e];exact hka,w1,w2,by rw [e];exact hkind⟩
 ·
  have h0:(a.op==0)=true:=by
   cases h0:a.op==0 with
   | true=>rfl
   | false=>rw [cZ h0] at hct;cases hct
  rw [cL h0]
  have hv:=(H5 hz (by simpa using h0)).1
  have hvk:a.val.kind=2:=by
   unfold Am at hkind
   rw [if_pos (by rw [h0];rfl)] at hkind
   exact hkind
  show a.val.text.length≤64
  exact vE hv hvk
/-! ### naming -/
theorem Sm {N:Nm}{r:Wd}{s:Fq}(h:Ii N r=some s):(r,s)∈N:=by
  unfold Ii at h
  cases hf:N.find? fun p=>decide (p.1=r) with
  | none=>rw [hf] at h;cases h
  | some p=>
    rw [hf] at h
    have h1:=List.find?_some hf
    have h2:=List.mem_of_find?_eq_some hf
    have e1:p.1=r:=by simpa using h1
    have e2:p.2=s:=by simpa using h
    rw [←e1,←e2];exact h2
theorem sA {N:Nm}{r q:Wd}{s t:Fq}(h:Ii N r=some s):Ii (N ++ [(q,t)]) r=some s:=by
 unfold Ii at h ⊢
 rw [List.find?_append]
 cases hf:N.find? fun p=>decide (p.1=r) with
 | none=>rw [hf] at h;cases h
 | some p=>rw [hf] at h;exact h
structure NI (W:Wd→Prop) (U:Um) (N:Nm):Prop where
 used:∀p∈N,Fe U p.2=true
 texts:∀x,W x→x.const=true→Fe U x.text=true
 con:∀p∈N,p.1.const=true→p.2=p.1.text∧W p.1
 free:∀p∈N,p.1.const=false→∀x,W x→x.const=true→x.text≠p.2
 inj:∀p∈N,∀q∈N,p.2=q.2→p.1=q.1
 len:∀p∈N,p.2.length≤64
theorem yM {W:Wd→Prop}(hW:∀x,W x→WOK T V x){U:Um}{N:Nm}(h:NI W U N){r:Wd}(hr:W r)(hU:U.length≤1000000):NI W (Z4 U N r).1 (Z4 U N r).2:=by
  cases hg:Ii N r with
  | some s=>rw [cF (by rw [hg];rfl)];exact h
  | none=>
    rw [cR hg]
    have hmono:∀m,Fe U m=true→Fe (Tn U (J3 U r) true) m=true:=fun m hm=>by
      rw [Tt];split
      · rfl
      · exact hm
    have hnew:∀p∈N,p.2=J3 U r→p.1=r:=fun p hp e=>by
      unfold J3 at e
      cases hc:r.const with
      | true=>
        rw [hc,if_pos rfl] at e
        cases hpc:p.1.const with
        | true=>
          obtain ⟨c1,c2⟩:=h.con p hp hpc
          exact eW (hW _ c2).wf (hW _ hr).wf (by rw [hpc,hc];rfl) (by rw [←c1];exact e)
        | false=>exact absurd e.symm (h.free p hp hpc r hr hc)
      | false=>
        rw [hc,if_neg (by decide)] at e
        have h1:=h.used p hp
        rw [e,Xe] at h1;cases h1
    refine ⟨fun p hp=>?_,fun x hx hc=>hmono _ (h.texts x hx hc),fun p hp hc=>?_,fun p hp hc x hx hxc=>?_,fun p hp q hq e=>?_,fun p hp=>?_⟩
    · rcases List.mem_append.1 hp with hp | hp
      · exact hmono _ (h.used p hp)
      · rw [List.mem_singleton.1 hp];simp only;rw [Tt,if_pos rfl]
    · rcases List.mem_append.1 hp with hp | hp
      · exact h.con p hp hc
      · rw [List.mem_singleton.1 hp] at hc ⊢
        simp only at hc ⊢
        unfold J3
        rw [if_pos hc];exact ⟨rfl,hr⟩
    · rcases List.mem_append.1 hp with hp | hp
      · exact h.free p hp hc x hx hxc
      · rw [List.mem_singleton.1 hp] at hc ⊢
        simp only at hc ⊢
        unfold J3
        rw [if_neg (by rw [hc];decide)]
        intro e
        have h1:=h.texts x hx hxc
        rw [e,Xe] at h1;cases h1
    · rcases List.mem_append.1 hp with hp | hp <;> rcases List.mem_append.1 hq with hq | hq
      · exact h.inj p hp q hq e
      · rw [List.mem_singleton.1 hq] at e ⊢
        exact hnew p hp e
      · rw [List.mem_singleton.1 hp] at e ⊢
        exact (hnew q hq e.symm).symm
      · rw [List.mem_singleton.1 hp,List.mem_singleton.1 hq]
    · rcases List.mem_append.1 hp with hp | hp
      · exact h.len p hp
      · rw [List.mem_singleton.1 hp]
        simp only
        unfold J3
        cases hc:r.const with
        | true=>rw [if_pos rfl];exact (hW _ hr).txt hc
        | false=>rw [if_neg (by decide)];exact tP hU
theorem X1 {U:Um}{N:Nm}{r q:Wd}{s:Fq}(h:Ii N q=some s):Ii (Z4 U N r).2 q=some s:=by
 cases hg:Ii N r with
 | some t=>rw [cF (by rw [hg];rfl)];exact h
 | none=>rw [cR hg];exact sA h
theorem Abb {W:Wd→Prop}(hW:∀x,W x→WOK T V x){U:Um}{N:Nm}(h:NI W U N){r:Wd}(hr:W r)(hU:U.length≤1000000):(nmT U N r).length≤64:=by
 have h1:=eG U N r
 exact (yM hW h hr hU).len _ (Sm h1)
/-- so far all fields of the words hold the names of their classes -/
structure NS (T:List Sc) (V:List Va) (W:Wd→Prop) (w:Wm) (done:List Wd) (s:Ns) (b:Nat):Prop where
 ni:NI W s.1 s.2.1
 ulen:s.1.length≤b
 evi:EvI T V s.2.2
 eok:evOK T V s.2.2
 has:∀x∈done,∃t,Ii s.2.1 (Ce w x)=some t∧(x.const=false→txA s.2.2 x.field=t)
theorem ns_step {W:Wd→Prop}(hW:∀x,W x→WOK T V x){w:Wm}(hw:wGood W w){done:List Wd}{s:Ns}{b:Nat}(h:NS T V W w done s b)(hb:b≤1000000)(hd:∀x∈done,W x){x:Wd}(hx:W x):NS T V W w (done ++ [x]) (H6 w s x) (b+1):=by
  have hr:=kJ hw hx
  have hU:s.1.length≤1000000:=Nat.le_trans h.ulen hb
  have hni:=yM hW h.ni hr hU
  have hget:=eG s.1 s.2.1 (Ce w x)
  have hlen:=Abb hW h.ni hr hU
  have hul:(Z4 s.1 s.2.1 (Ce w x)).1.length≤b+1:=by have:=bX s.1 s.2.1 (Ce w x);have:=h.ulen;omega
  cases hc:x.const with
  | true=>
    rw [S6 hc]
    refine ⟨hni,hul,h.evi,h.eok,fun y hy=>?_⟩
    rcases List.mem_append.1 hy with hy | hy
    · obtain ⟨t,h1,h2⟩:=h.has y hy
      exact ⟨t,X1 h1,h2⟩
    · rw [List.mem_singleton.1 hy]
      exact ⟨_,hget,fun e=>by rw [hc] at e;cases e⟩
  | false=>
    rw [Sa hc]
    obtain ⟨k1,k2,k3,k4⟩:=(hW x hx).fld hc
    refine ⟨hni,hul,yP h.evi k1 k3 k4 hlen,mY h.eok _ _,fun y hy=>?_⟩
    rcases List.mem_append.1 hy with hy | hy
    · obtain ⟨t,h1,h2⟩:=h.has y hy
      refine ⟨t,X1 h1,fun hyc=>?_⟩
      obtain ⟨j1,j2,j3,j4⟩:=(hW y (hd y hy)).fld hyc
      by_cases e:x.field=y.field
      · have hxy:x=y:=by
          have a:=(hW x hx).wf.2 hc
          have b:=(hW y (hd y hy)).wf.2 hyc
          obtain ⟨xc,xt,xf⟩:=x
          obtain ⟨yc,yt,yf⟩:=y
          simp only at a b hc hyc e
          rw [a,b,hc,hyc,e]
        subst hxy
        simp only
        rw [pE h.eok k2 k3]
        have h3:=X1 (U:=s.1) (r:=Ce w x) h1
        rw [hget] at h3
        exact Option.some.inj h3
      · simp only
        rw [mR k2 j2 k3 j3 e]
        exact h2 hyc
    · rw [List.mem_singleton.1 hy]
      exact ⟨_,hget,fun _=>pE h.eok k2 k3 _⟩
theorem nB {W:Wd→Prop}(hW:∀x,W x→WOK T V x){w:Wm}(hw:wGood W w):∀(ws:List Wd) {done:List Wd} {s:Ns} {b:Nat},NS T V W w done s b→b+ws.length≤1000000→(∀x∈done,W x)→(∀x∈ws,W x)→NS T V W w (done++ws) (ws.foldl (H6 w) s) (b+ws.length)
  | [],done,s,b,h,_,_,_=>by rw [List.append_nil];exact h
  | x::r,done,s,b,h,hb,hd,hx=>by
    rw [List.length_cons] at hb
    have h1:=ns_step hW hw h (by omega) hd (hx x (List.mem_cons_self ..))
    have h2:=nB hW hw r h1 (by omega) (fun y hy=>by
      rcases List.mem_append.1 hy with hy | hy
      · exact hd y hy
      · rw [List.mem_singleton.1 hy];exact hx x (List.mem_cons_self ..)) fun y hy=>hx y (List.mem_cons_of_mem _ hy)
    rw [List.append_assoc] at h2
    rw [List.foldl_cons,List.length_cons,show b+(r.length+1)=b+1+r.length by omega]
    exact h2
theorem Vb (w:Wm)(t:Tm):∀(ws:List Wd) (s:Ns),eM (ws.foldl (H6 w) s).2.2 t=eM s.2.2 t
  | [],s=>rfl
  | x::r,s=>by
    rw [List.foldl_cons,Vb w t r]
    cases hc:x.const with
    | true=>rw [S6 hc]
    | false=>rw [Sa hc];exact Abf _ _ _ _
end

section
variable {T:List Sc} {V:List Va}
/-! ### kinds of terms -/
abbrev R0 (T:List Sc)(V:List Va)(t:Tm):Prop:=Am T V (Ho t)=0
theorem Zo (e:Ex):KOK T V e→Am T V e=0→∀{b:Int} {s:Su},(∀p∈s.ts,R0 T V p.1)→∀p∈(Bp e b s).1.ts,R0 T V p.1:=by
  refine Ex.Abu (P:=fun e=>KOK T V e→Am T V e=0→∀{b:Int} {s:Su},(∀p∈s.ts,R0 T V p.1)→∀p∈(Bp e b s).1.ts,R0 T V p.1) (fun e ih hk h0 b s hs=>?_) e
  have hz:=Be hk.nodes
  rcases Pc hz.1 with h | ⟨h,h1⟩ | ⟨h,hl⟩ | ⟨h,h1,h2,h3⟩
  · rw [Fv h];exact hs
  · rw [B7 h h1]
    intro p hp'
    have hme:R0 T V (D0 e):=by show Am T V (Ho (D0 e))=0;rw [K6 hz.1 h1];exact h0
    have key:∀{ts:List (Tm×Int)},(∀p∈ts,R0 T V p.1)→∀p∈Io (D0 e) b ts,R0 T V p.1:=by
      intro ts
      induction ts with
      | nil=>intro _ p hp';rw [Io,List.mem_singleton] at hp';rw [hp'];exact hme
      | cons q r ihr=>
        intro hts p hp'
        rw [Io] at hp'
        split at hp'
        · rcases List.mem_cons.1 hp' with rfl | hp'
          · exact hts q (List.mem_cons_self ..)
          · exact hts p (List.mem_cons_of_mem _ hp')
        · rcases List.mem_cons.1 hp' with rfl | hp'
          · exact hts p (List.mem_cons_self ..)
          · exact ihr (fun p hp'=>hts p (List.mem_cons_of_mem _ hp')) p hp'
    exact key hs p hp'
  · have m0:=A6 (show 0<e.args.length by omega)
    have m1:=Bl hl
    have k0:=Sw hk h m0
    have k1:=Sw hk h m1
    have key:∀c,∀p∈(if !(Bp (Ao e) b s).2 then ((Bp (Ao e) b s).1,false) else Bp (Bi e) c (Bp (Ao e) b s).1).1.ts,R0 T V p.1:=fun c=>by
      have i0:=ih _ m0 (A3 hk m0) k0 (b:=b) hs
      split
      · exact i0
      · exact ih _ m1 (A3 hk m1) k1 i0
    rcases h with h | h
    · rw [J5 (c:=b) hl (.inl ⟨h,rfl⟩)];exact key b
    · rw [J5 (c:=0-b) hl (.inr ⟨h,rfl⟩)];exact key _
  · rw [Gy h h1 h2 h3];exact hs
theorem Za {a b:Ex}(ha:KOK T V a)(hb:KOK T V b)(ka:Am T V a=0)(kb:Am T V b=0):(∀t∈(Ch a b).1.plus,R0 T V t)∧∀t∈(Ch a b).1.minus,R0 T V t:=by
  have h0:(∀t∈tV.plus,R0 T V t)∧∀t∈tV.minus,R0 T V t:=⟨fun t h=>(by cases h),fun t h=>(by cases h)⟩
  unfold Ch
  split
  · exact h0
  rename_i h1
  split
  · exact h0
  have he:(Bp b (-1) (Bp a 1 Ks).1).1=C8 a b:=by unfold C8;rw [if_neg h1]
  rw [he]
  have hse:∀p∈(C8 a b).ts,R0 T V p.1:=by
    have q1:=Zo a ha ka (b:=1) (s:=Ks) (fun p hp=>(by cases hp))
    unfold C8
    split
    · exact q1
    · exact Zo b hb kb q1
  unfold S5
  cases hp:Dt (C8 a b).ts [] [] with
  | none=>exact h0
  | some p=>
    obtain ⟨p,m⟩:=p
    exact I5 (P:=R0 T V) hse (fun t h=>by cases h) (fun t h=>by cases h) hp
abbrev uE (T:List Sc)(V:List Va)(t:Tm):Prop:=Am T V (Ho t)=0∨Am T V (Ho t)=1
theorem Zg {env:List (List Ev)}(hE:EnvOK T V env){y:Lit}(hf:LitF T V y)(hn:(Aa T V y).2=true):(∀t∈(Aa T V y).1.plus,uE T V t)∧∀t∈(Aa T V y).1.minus,uE T V t:=by
  cases h:y.cond.op==1 with
  | true=>
    rw [aS h]
    refine ⟨fun t ht=>?_,fun t ht=>by cases ht⟩
    rw [List.mem_singleton.1 ht]
    right
    rw [K6 (Be hf.kok.nodes).1 (by rw [h];rfl)]
    exact hf.kind
  | false=>
    obtain ⟨hop,k0,k1,hb,he⟩:=gU hE hf h hn
    have hl:=jY hf.kok (by omega) (by omega)
    have m0:=A6 (show 0<y.cond.args.length by omega)
    have m1:=Bl (show 1<y.cond.args.length by omega)
    rw [he]
    obtain ⟨q1,q2⟩:=Za (A3 hf.kok m0) (A3 hf.kok m1) k0 k1
    exact ⟨fun t ht=>.inl (q1 t ht),fun t ht=>.inl (q2 t ht)⟩
theorem Z7 {env:List (List Ev)}(hE:EnvOK T V env):∀{l:List Lit},(∀y∈l,LitF T V y)→∀{s:Sy},(∀t∈s.ts,uE T V t)→∀t∈(l.foldl (Dd T V) s).ts,uE T V t
  | [],_,s,hs=>hs
  | c::r,hl,s,hs=>by
    rw [List.foldl_cons]
    refine Z7 hE (fun x hx=>hl x (List.mem_cons_of_mem _ hx)) ?_
    cases h : !(Aa T V c).2 with
    | true=>rw [Lo h];exact hs
    | false=>
      rw [Lr h]
      obtain ⟨h1,h2⟩:=Zg hE (hl c (List.mem_cons_self ..)) (by simpa using h)
      exact Le (Le hs h1) h2
theorem nN:∀{ts:List Tm} {i k:Nat} {t:Tm},ts[k]? = some t→(⟨(i:Int)+k+1,0,(C0 T V t).2⟩:Bd)∈Hj T V i ts∧(⟨0,(i:Int)+k+1,0-(C0 T V t).1⟩:Bd)∈Hj T V i ts
  | [],i,k,t,h=>by simp at h
  | u::r,i,0,t,h=>by
    simp at h;subst h
    rw [Hj,show (i:Int)+((0:Nat):Int)+1=(i:Int)+1 by omega]
    exact ⟨List.mem_cons_self ..,List.mem_cons_of_mem _ (List.mem_cons_self ..)⟩
  | u::r,i,k+1,t,h=>by
    obtain ⟨h1,h2⟩:=nN (i:=i+1) (show r[k]? = some t by simpa using h)
    rw [Hj,show (i:Int)+((k+1:Nat):Int)+1=((i+1:Nat):Int)+k+1 by omega]
    exact ⟨List.mem_cons_of_mem _ (List.mem_cons_of_mem _ h1),List.mem_cons_of_mem _ (List.mem_cons_of_mem _ h2)⟩
/-! ### what a simple literal is -/
theorem bR {y:Lit}(hf:LitF T V y)(h:Cz T V y.cond=true):(Aa T V y).2=true∨Dp T V y.cond=true:=by
  cases h1:y.cond.op==1 with
  | true=>left;rw [aS h1]
  | false=>
    cases h2 : !comparesS y.cond with
    | true=>rw [fX h1 h2] at h;cases h
    | false=>
      cases h3:Dp T V y.cond with
      | true=>exact .inr rfl
      | false=>
        left
        rw [Z6 h1 (by rw [h2,h3];rfl)]
        unfold Cz at h
        rw [Ci h1,Ci h2,Ci h3] at h
        exact h
/-- the events of a clause that is solved and certain -/
theorem dJ {l:List Lit}(hT:Ea T=0)(hty:Jv T V)(hf:∀y∈l,LitF T V y)(hk:Ze T V l=true)(hc:Ln T V l=true):EvI T V (nS T V l)∧kB (Dz (nS T V l)) l=true:=by
  have hl:=Xw hf
  obtain ⟨hfit,hlen⟩:=P9 hc
  have hlen':l.length≤256:=by have:=of_decide_eq_true hlen;omega
  have hfit':(!fitsS (C7 T V l))=false:=by rw [hfit];rfl
  rw [eH hfit',Bool.and_eq_true] at hk
  obtain ⟨hstr,hok⟩:=hk
  have hE0:EnvOK T V (Dz (H0 T 0 V)):=Wh hty (oI hT)
  have hsv:Lv T V l=(Ew (C7 T V l)).values:=mP hfit'
  have hsat:=qN (n:=zN T V l) (bs:=(C7 T V l).bs) (Pz hl) hok
  have hsat1:(Lv T V l).length=zN T V l:=by rw [hsv];exact hsat.1
  have hsat2:Ey (Lv T V l) 0=0:=by rw [hsv];exact hsat.2.1
  have hsat3:∀b∈(C7 T V l).bs,T9 (Ey (Lv T V l)) b:=by rw [hsv];exact hsat.2.2
  clear hsat
  have hts:∀t∈(Cg T V l).ts,KOK T V (Ho t)∧tmOK T V t∧uE T V t:=fun t ht=>⟨(Lw hl).terms t ht,mH hl t ht,Z7 hE0 hf (s:=⟨[],[]⟩) (fun t h=>by cases h) t ht⟩
  have hlim:∀(k:Nat) (t:Tm),(Cg T V l).ts[k]? = some t→(C0 T V t).1≤Ey (Lv T V l) (((0:Nat):Int)+k+1)∧Ey (Lv T V l) (((0:Nat):Int)+k+1)≤(C0 T V t).2:=fun k t ht=>by
    obtain ⟨h1,h2⟩:=nN (T:=T) (V:=V) (i:=0) ht
    have s1:=hsat3 _ (List.mem_append_left _ h1)
    have s2:=hsat3 _ (List.mem_append_left _ h2)
    unfold T9 at s1 s2
    simp only [hsat2] at s1 s2
    omega
  have hev1:EvI T V (Gs (Lv T V l) 0 (Cg T V l).ts (H0 T 0 V)):=Z0 _ 0 (oI hT) (fun t ht=>⟨(hts t ht).1,(hts t ht).2.1.op,fun _=>(hts t ht).2.2⟩) hlim
  have hok1:evOK T V (Gs (Lv T V l) 0 (Cg T V l).ts (H0 T 0 V)):=gV _ 0 mK
  have hnm1:∀(k:Nat) (t:Tm),(Cg T V l).ts[k]? = some t→eM (Gs (Lv T V l) 0 (Cg T V l).ts (H0 T 0 V)) t=Ey (Lv T V l) (((0:Nat):Int)+k+1):=
    fP _ 0 mK (Z2 l (by simp)) fun t ht=>⟨(hts t ht).2.1,mN (hts t ht).1⟩
  -- the words
  have hW:∀x,x∈(Hc T V l).2→WOK T V x:=fun x hx=>uI hl (fQ hx)
  have hw:wGood (fun x=>x∈(Hc T V l).2) (Eh T V l).1:=by
    refine T8 l (fun c hc hs=>?_) ⟨fun p hp=>(by cases hp),fun p hp=>(by cases hp)⟩
    obtain ⟨_,h2,h3⟩:=Up hs
    have hS:=We (hl c hc).1 h2 h3
    exact ⟨Nv hc h2 h3 hS.m0,Nv hc h2 h3 hS.m1⟩
  have hcl:=Yl (T:=T) (V:=V) l hl ([],[])
  have h0:NS T V (fun x=>x∈(Hc T V l).2) (Eh T V l).1 [] ((Hc T V l).1,[],Gs (Lv T V l) 0 (Cg T V l).ts (H0 T 0 V)) 512:=
    ⟨⟨fun p hp=>(by cases hp),fun x hx hxc=>jJ l x hx hxc,fun p hp=>(by cases hp),fun p hp=>(by cases hp),fun p hp=>(by cases hp),fun p hp=>(by cases hp)⟩,by
      have:(Hc T V l).1.length≤([]:Um).length+2*l.length:=hcl.1
      simp only [List.length_nil] at this
      simp only;omega,hev1,hok1,fun x hx=>by cases hx⟩
  have hN:=nB hW hw (Hc T V l).2 h0 (by
    have:(Hc T V l).2.length≤([]:List Wd).length+2*l.length:=hcl.2
    simp only [List.length_nil] at this
    omega) (fun x hx=>by cases hx) (fun x hx=>hx)
  rw [List.nil_append] at hN
  have hev:EvI T V (nS T V l):=hN.evi
  refine ⟨hev,?_⟩
  have hE:=Wh hty hev
  have hnm:∀t,eM (nS T V l) t=eM (Gs (Lv T V l) 0 (Cg T V l).ts (H0 T 0 V)) t:=fun t=>Vb _ t _ _
  have hsg:∀x∈(Hc T V l).2,∃t,Ii ((Hc T V l).2.foldl (H6 (Eh T V l).1) ((Hc T V l).1,[],Gs (Lv T V l) 0 (Cg T V l).ts (H0 T 0 V))).2.1 (Ce (Eh T V l).1 x)=some t∧sg (Dz (nS T V l)) x=t:=fun x hx=>by
    obtain ⟨t,h1,h2⟩:=hN.has x hx
    refine ⟨t,h1,?_⟩
    unfold sg
    cases hxc:x.const with
    | true=>
      rw [if_pos rfl]
      rw [yJ hw hxc] at h1
      exact (hN.ni.con _ (Sm h1) hxc).1.symm
    | false=>
      rw [if_neg (by decide)]
      obtain ⟨k1,k2,k3,k4⟩:=(hW x hx).fld hxc
      rw [(nR hE k1 k2).2 k3]
      exact h2 hxc
  -- the numbers
  have hpv:∀k:Int,0≤k→k<(C7 T V l).n→pv (T4 (Dz (nS T V l))) (Cg T V l).ts k=Ey (Lv T V l) k:=fun k k0 k1=>by
    have hn:(C7 T V l).n=((Cg T V l).ts.length:Int)+1:=rfl
    rcases Int.lt_or_le 0 k with h | h
    · obtain ⟨j,hj⟩:∃j:Nat,k=(j:Int)+1:=⟨(k-1).toNat,by omega⟩
      subst hj
      have hlt:j<(Cg T V l).ts.length:=by omega
      have hg:=List.getElem?_eq_getElem hlt
      obtain ⟨q1,q2,_⟩:=hts _ (List.mem_of_getElem? hg)
      rw [pv_at hg,(nR hE q1 q2).1,hnm,hnm1 j _ hg,show ((0:Nat):Int)+(j:Int)+1=(j:Int)+1 by omega]
    · have:k=0:=by omega
      subst this
      rw [hsat2];rfl
  have hnum:∀y∈l,(Aa T V y).2=true→Of (Dz (nS T V l)) y=true:=by
    refine (oC hE hf).1 fun b hb=>?_
    have hbz:b∈(C7 T V l).bs:=List.mem_append_right _ hb
    have h1:=mZ l b hbz
    have h2:=hsat3 b hbz
    unfold T9 at h2 ⊢
    rw [hpv b.x h1.1 h1.2.1,hpv b.y h1.2.2.1 h1.2.2.2]
    exact h2
  refine List.all_eq_true.2 fun y hy=>?_
  have hsim:Cz T V y.cond=true:=by
    unfold Ln at hc
    rw [Bool.and_eq_true] at hc
    exact List.all_eq_true.1 hc.1 y hy
  rcases bR (hf y hy) hsim with h | h
  · exact hnum y hy h
  · have hS:=We (hf y hy).kok h hsim
    have m0:=Nv hy h hsim hS.m0
    have m1:=Nv hy h hsim hS.m1
    obtain ⟨t0,a0,b0⟩:=hsg _ m0
    obtain ⟨t1,a1,b1⟩:=hsg _ m1
    have htv:=yZ hE (hf y hy).kok hS
    have hstr':=hstr
    unfold Eh at hstr'
    rw [Bool.and_eq_true] at hstr'
    unfold Of
    cases hn:y.neg with
    | false=>
      have hs:Cl T V true y=true:=by unfold Cl;rw [hn,h,hsim];rfl
      have hj:Ce (Eh T V l).1 (Ca (Ao y.cond))=Ce (Eh T V l).1 (Ca (Bi y.cond)):=Q9 l Vx hstr'.1 y hy hs
      rw [hj,a1] at a0
      have:tv (Dz (nS T V l)) y.cond=true:=htv.2 (by rw [b0,b1];exact (Option.some.inj a0).symm)
      rw [this];rfl
    | true=>
      have hs:Cl T V false y=true:=by unfold Cl;rw [hn,h,hsim];rfl
      have hj:Ce (Eh T V l).1 (Ca (Ao y.cond))≠Ce (Eh T V l).1 (Ca (Bi y.cond)):=Rh l hstr'.2 y hy hs
      have:tv (Dz (nS T V l)) y.cond=false:=by
        rw [Bool.eq_false_iff]
        intro e
        have h3:=htv.1 e
        rw [b0,b1] at h3
        exact hj (hN.ni.inj _ (Sm a0) _ (Sm a1) h3)
      rw [this];rfl
/-! ### the events suit -/
theorem Zt:∀{l:List Vl} {m:List Fi},(∀(k:Nat) (f:Fi),m[k]? = some f→∃w,l[k]? = some w∧kE w f.kind)→N0 l m=0
  | [],[],_=>rfl
  | [],_::_,_=>rfl
  | _::_,[],_=>rfl
  | v::r,g::s,h=>by
    obtain ⟨w,hw,hG⟩:=h 0 g rfl
    simp at hw;subst hw
    have h0:Tk v g=0:=by
      unfold Tk
      rw [if_neg (by rw [hG.2];decide),if_neg (by rw [hG.1];simp)]
    rw [N0,if_neg (by rw [h0];decide)]
    exact Zt fun k f hf=>by
      have:=h (k+1) f (by simpa using hf)
      simpa using this
theorem kD {evs:List Ev}(hT:Ea T=0)(hty:Jv T V)(hV:V.length≤1000)(h:EvI T V evs):Jm T V evs=true:=by
 unfold Jm
 have hany:(evs.zip V).any (Pv T)=false:=by
  rw [List.any_eq_false]
  intro p hp
  obtain ⟨i,hi⟩:=List.mem_iff_getElem?.1 hp
  rw [List.getElem?_zip_eq_some] at hi
  obtain ⟨h1,h2⟩:=hi
  obtain ⟨s,hs⟩:=pM hty (List.mem_of_getElem? h2)
  obtain ⟨e,he,hG⟩:=h.at_ i p.2 s h2 hs
  rw [h1] at he;cases he
  have hi':=Bb h2
  have hty':=hty p.2 (List.mem_of_getElem? h2)
  have hsl:=Bb hs
  have hnum:Fj p.1=0:=by
   unfold Fj
   rw [hG.source,hG.seq,if_neg (by decide),if_neg ?_]
   have:=hG.t0;have:=hG.t1
   simp only [Bool.or_eq_true,decide_eq_true_eq];omega
  have hfo:Er T p.1=s.fields:=by unfold Er;rw [hG.type,hs];rfl
  have hval:Iz T p.1=0:=by
   unfold Iz
   rw [if_neg (by rw [hnum];decide),if_neg ?_,hfo,if_neg ?_]
   · exact Zt hG.suit.2
   · rw [hG.suit.1];simp
   · rw [hG.type];simp only [Bool.or_eq_true,decide_eq_true_eq];omega
  unfold Pv F2
  rw [if_neg (by rw [hT];decide),hval,hG.type];simp
 rw [hany,Ci rfl,h.len];simp
/-- events of the scene, with their times -/
theorem env_of {l:List Ev}(h:Jm T V l=true):EnvOK T V (Dz l):=by
  refine ⟨uD h,fun x hx ev hev=>?_⟩
  obtain ⟨hl,h1⟩:=Ul h
  obtain ⟨e,he,rfl⟩:=List.mem_map.1 hx
  rw [List.mem_singleton] at hev;subst hev
  obtain ⟨i,hi⟩:=List.mem_iff_getElem?.1 he
  have hlt:=Bb hi
  obtain ⟨e',he',hc,_⟩:=h1 i (V[i]'(by omega)) (List.getElem?_eq_getElem (by omega))
  rw [hi] at he';cases he'
  have hv:=Ux hc
  unfold Iz at hv
  cases h2:(Fj ev != 0) with
  | true=>rw [if_pos h2] at hv;rw [hv] at h2;cases h2
  | false=>
    have h3:Fj ev=0:=by simpa using h2
    unfold Fj at h3
    split at h3
    · cases h3
    split at h3
    · cases h3
    · rename_i h4
      simp only [Bool.or_eq_true,decide_eq_true_eq,not_or] at h4
      omega
end

section
variable {T:List Sc} {V:List Va} {l:List Ev} {e:Ex}
/-- what the scene gives -/
structure SceneOK (T:List Sc) (V:List Va) (l:List Ev) (e:Ex):Prop where
 kc:KC T V e
 kind:Am T V e=1
 suits:E6 T V (Dz l)
theorem SceneOK.neg (h:SceneOK T V l e):Cy e=if Bx (Fc e) != 0 then (V7,Bx (Fc e)) else (Fc e,0):=by
 unfold Cy
 rw [if_neg (by rw [h.kc.check];decide)]
theorem SceneOK.negE (h:SceneOK T V l e):(Cy e).2=0∨(Cy e).2=5∨(Cy e).2=12:=by
 rw [h.neg]
 have:=sM (oQ e h.kc.kok h.kind).1.nodes
 cases h1:(Bx (Fc e) != 0) with
 | true=>rw [if_pos rfl];exact this
 | false=>rw [Ci rfl];exact .inl rfl
/-- the truth that the law's loops find -/
def litU (l:List Ev)(y:Lit):Bool:=Kr ⟨Dz l,-1,Km⟩ y.cond != y.neg
end

section
variable {T:List Sc} {V:List Va} {env:List (List Ev)}
/-- a condition that is checked -/
structure CondOK (T:List Sc) (V:List Va) (e:Ex):Prop where
 kc:KC T V e
 kind:Am T V e=1
theorem CondOK.zero {e:Ex}(h:CondOK T V e):Eb T V e=0:=kc_cond h.kc h.kind
theorem CondOK.lits {e:Ex}(h:CondOK T V e)(s:Bool):H9 (LitF T V) (Da T V e s):=qH h.kc.kok h.kind (Ir h.kc) s
theorem cond_ok {e:Ex}(h:Eb T V e=0):CondOK T V e:=by
 have:=Sl (T:=T) (V:=V) (e:=e) (by rw [h];rfl)
 exact ⟨this.1,this.2⟩
theorem mJ (h1:Ea T=0)(h2:Hz T V=0):(Db T V (Em true)).2=0:=by
 have hc:Bx (Em true)=0:=by decide +kernel
 unfold Db
 rw [if_neg (by rw [h1];decide),if_neg (by rw [h2];decide),if_neg (by rw [hc];decide),Ee];rfl
theorem wW {es:List Ex}(h1:Ea T=0)(h2:Hz T V=0)(hl:es.length≤256)(h:∀e∈es,CondOK T V e):Ef T V es=0:=by
 unfold Ef
 rw [if_neg (by rw [mJ h1 h2];decide),if_neg (by simp;omega)]
 exact Ts fun e he=>(h e he).zero
theorem wR (h:Hz T V=0):V.length≤16:=by
 unfold Hz at h
 split at h
 · cases h
 ·
  rename_i h1
  simp only [decide_eq_true_eq] at h1
  omega
theorem aI {P:Lit→Prop}:H9 P ([[]],true):=fun x hx y hy=>by rw [List.mem_singleton.1 hx] at hy;cases hy
theorem Yu:∀(es:List Ex) {c:Cs},H9 (LitF T V) c→(∀e∈es,CondOK T V e)→H9 (LitF T V) (Ke T V es c)
 | [],c,h,_=>h
 | e::r,c,h,he=>Yu r (c:=Ek c (Da T V e true)) (Jk h ((he e (List.mem_cons_self ..)).lits true)) fun x hx=>he x (List.mem_cons_of_mem _ hx)
theorem Ra (hS:E6 T V env):∀(es:List Ex) {c:Cs},(∀e∈es,CondOK T V e)→(Ke T V es c).2=true→c.2=true∧Pt env (Ke T V es c).1=(Pt env c.1&&es.all (tv env))
  | [],c,_,h=>⟨h,by simp [Ke]⟩
  | e::r,c,he,h=>by
    have hk:=he e (List.mem_cons_self ..)
    obtain ⟨h1,h2⟩:=Ra hS r (c:=Ek c (Da T V e true)) (fun x hx=>he x (List.mem_cons_of_mem _ hx)) h
    obtain ⟨h3,h4,h5⟩:=Pe (env:=env) h1
    refine ⟨h3,?_⟩
    show Pt env (Ke T V r (Ek c (Da T V e true))).1=_
    rw [h2,h5,Rg hS e hk.kc.kok hk.kind true h4,List.all_cons]
    cases Pt env c.1 <;> cases tv env e <;> rfl
theorem pN (hE:EnvOK T V env){es:List Ex}(he:∀e∈es,CondOK T V e)(ht:es.all (tv env)=true):(B5 T V (Ke T V es ([[]],true))).1≠2:=by
  cases h:(Ke T V es ([[]],true)).2 with
  | false=>rw [Xt (by rw [h];rfl)];show (0:Int)≠2;decide
  | true=>
    refine Yr hE (Yu es aI he) ?_
    rw [(Ra hE.suits es he h).2,ht];rfl
theorem Vi (hT:Ea T=0)(hty:Jv T V){c:Cs}(hf:H9 (LitF T V) c)(h:(B5 T V c).1=1):c.2=true∧EvI T V (B5 T V c).2∧Pt (Dz (B5 T V c).2) c.1=true:=by
  cases h2:c.2 with
  | false=>rw [Xt (by rw [h2];rfl)] at h;exact absurd h (by decide)
  | true=>
    rw [cW (by rw [h2];rfl)] at h ⊢
    obtain ⟨x,hx,hk,hc,he⟩:=Wr (by decide) h
    rw [he]
    obtain ⟨h3,h4⟩:=dJ hT hty (hf x hx) hk hc
    exact ⟨rfl,h3,List.any_eq_true.2 ⟨x,hx,h4⟩⟩
theorem kA (hT:Ea T=0)(hty:Jv T V){es:List Ex}(he:∀e∈es,CondOK T V e)(h:(B5 T V (Ke T V es ([[]],true))).1=1) :
  EvI T V (B5 T V (Ke T V es ([[]],true))).2∧es.all (tv (Dz (B5 T V (Ke T V es ([[]],true))).2))=true:=by
 obtain ⟨h1,h2,h3⟩:=Vi hT hty (Yu es aI he) h
 refine ⟨h2,?_⟩
 rw [(Ra (Pm hty h2) es he h1).2,Bool.and_eq_true] at h3
 exact h3.2
theorem pW {a b:Ex}(ha:CondOK T V a)(hb:CondOK T V b):H9 (LitF T V) (K2 T V a b):=Jk (ha.lits true) (hb.lits false)
theorem bD (hS:E6 T V env){a b:Ex}(ha:CondOK T V a)(hb:CondOK T V b)(h:(K2 T V a b).2=true):Pt env (K2 T V a b).1=(tv env a && !tv env b):=by
 obtain ⟨h3,h4,h5⟩:=Pe (env:=env) h
 unfold K2
 rw [h5,Rg hS a ha.kc.kok ha.kind true h3,Rg hS b hb.kc.kok hb.kind false h4]
 cases tv env a <;> cases tv env b <;> rfl
/-- what a verdict of an implication says -/
theorem R5 {a b:Ex}(h1:Ea T=0)(h2:Hz T V=0)(ha:CondOK T V a)(hb:CondOK T V b):Ef T V [a,b]=0:=
 wW h1 h2 (by simp) fun e he=>by
  rcases List.mem_cons.1 he with rfl | he
  · exact ha
  · rw [List.mem_singleton.1 he];exact hb
theorem X5 {a b:Ex}(h0:Ef T V [a,b]=0):(C9 T V a b).2=0∧((C9 T V a b).1=1→(B5 T V (K2 T V a b)).1=2)∧((C9 T V a b).1=2→(B5 T V (K2 T V a b)).1=1)∧((C9 T V a b).1=0→(B5 T V (K2 T V a b)).1=0):=by
  have h:(Ef T V [a,b] != 0)=false:=by rw [h0];rfl
  cases h1:((B5 T V (K2 T V a b)).1==1) with
  | true=>
    rw [Imp_2 h h1]
    have:(B5 T V (K2 T V a b)).1=1:=by simpa using h1
    refine ⟨rfl,fun e=>absurd e (by decide),fun _=>this,fun e=>absurd e (by decide)⟩
  | false=>
    cases h2:((B5 T V (K2 T V a b)).1==2) with
    | true=>
      rw [Imp_3 h h1 h2]
      have:(B5 T V (K2 T V a b)).1=2:=by simpa using h2
      exact ⟨rfl,fun _=>this,fun e=>absurd e (by decide),fun e=>absurd e (by decide)⟩
    | false=>
      rw [Imp_4 h h1 h2]
      have n1:(B5 T V (K2 T V a b)).1≠1:=by simpa using h1
      have n2:(B5 T V (K2 T V a b)).1≠2:=by simpa using h2
      exact ⟨rfl,fun e=>absurd e n1,fun e=>absurd e n2,fun e=>e⟩
/-- an implication that is claimed holds for all events -/
theorem imp_yes {a b:Ex}(h1:Ea T=0)(h2:Hz T V=0)(ha:CondOK T V a)(hb:CondOK T V b)(hE:EnvOK T V env)(h:(C9 T V a b).1=1)(ht:tv env a=true):tv env b=true:=by
  have hv:=(X5 (R5 h1 h2 ha hb)).2.1 h
  cases hq:tv env b with
  | true=>rfl
  | false=>
    exfalso
    cases hc:(K2 T V a b).2 with
    | false=>rw [Xt (by rw [hc];rfl)] at hv;exact absurd hv (by decide)
    | true=>
      refine Yr hE (pW ha hb) ?_ hv
      rw [bD hE.suits ha hb hc,ht,hq];rfl
/-- an implication that is denied has events -/
theorem imp_no {a b:Ex}(h1:Ea T=0)(h2:Hz T V=0)(ha:CondOK T V a)(hb:CondOK T V b)(h:(C9 T V a b).1=2):∃evs,EvI T V evs∧tv (Dz evs) a=true∧tv (Dz evs) b=false:=by
 have hv:=(X5 (R5 h1 h2 ha hb)).2.2.1 h
 obtain ⟨q1,q2,q3⟩:=Vi h1 ha.kc.kok.ty (pW ha hb) hv
 rw [bD (Pm ha.kc.kok.ty q2) ha hb q1,Bool.and_eq_true,Bool.not_eq_true'] at q3
 exact ⟨_,q2,q3.1,q3.2⟩
/-! ### negations, disjunctions -/
theorem xM {b:Ex}(hb:CondOK T V b)(h:(Cy b).2=0):CondOK T V (Cy b).1∧∀env,E6 T V env→tv env (Cy b).1 = !tv env b:=by
  obtain ⟨k1,k2,k3⟩:=oQ b hb.kc.kok hb.kind
  have hN:Cy b=if Bx (Fc b) != 0 then (V7,Bx (Fc b)) else (Fc b,0):=by
    unfold Cy
    rw [if_neg (by rw [hb.kc.check];decide)]
  rw [hN] at h ⊢
  cases h1:(Bx (Fc b) != 0) with
  | true=>rw [h1,if_pos rfl] at h;simp only at h;rw [h] at h1;cases h1
  | false=>
    rw [Ci rfl]
    exact ⟨⟨⟨k1,hb.kc.types,hb.kc.vars,by simpa using h1⟩,k2⟩,k3⟩
/-! ### the laws -/
theorem Q5 {l:List Ev}{e:Ex}(h:Tw T V l e=true):CondOK T V e∧EnvOK T V (Dz l):=by
 obtain ⟨_,_,_,h4,h5⟩:=fH h
 exact ⟨cond_ok h5,env_of h4⟩
theorem CondOK.truth {e:Ex}(h:CondOK T V e)(hS:E6 T V env):Kr ⟨env,-1,Km⟩ e=tv env e:=yV hS h.kc.kok h.kind h.kc.check
/-- what the law Finds says -/
structure FindOK (T:List Sc) (V:List Va) (l:List Ev) (a b:Ex):Prop where
 ca:CondOK T V a
 cb:CondOK T V b
 env:EnvOK T V (Dz l)
theorem Aao {l:List Ev}{a b:Ex}(h1:Tw T V l a=true)(h2:Tw T V l b=true):FindOK T V l a b:=⟨(Q5 h1).1,(Q5 h2).1,(Q5 h1).2⟩
section
variable {l:List Ev} {a b:Ex}
theorem FindOK.all (h:FindOK T V l a b):∀e∈[a,b],CondOK T V e:=fun e he=>by
 rcases List.mem_cons.1 he with rfl | he
 · exact h.ca
 · rw [List.mem_singleton.1 he];exact h.cb
theorem FindOK.poss (h:FindOK T V l a b):B3 T V [a,b]=((B5 T V (Ke T V [a,b] ([[]],true))).1,(B5 T V (Ke T V [a,b] ([[]],true))).2,0):=
 xS (by rw [R5 h.ca.kc.types h.ca.kc.vars h.ca h.cb];rfl) rfl
theorem FindOK.err (h:FindOK T V l a b):(B3 T V [a,b]).2.2=0:=by rw [h.poss]
theorem FindOK.no (h:FindOK T V l a b)(hv:(B3 T V [a,b]).1=2):(Kr ⟨Dz l,-1,Km⟩ a&&Kr ⟨Dz l,-1,Km⟩ b)=false:=by
 rw [h.poss] at hv
 rw [h.ca.truth h.env.suits,h.cb.truth h.env.suits,Bool.eq_false_iff]
 intro ht
 refine pN h.env h.all ?_ hv
 simpa using ht
theorem FindOK.yes (h:FindOK T V l a b)(hv:(B3 T V [a,b]).1=1):Jm T V (B3 T V [a,b]).2.1=true∧(Kr ⟨Dz (B3 T V [a,b]).2.1,-1,Km⟩ a&&Kr ⟨Dz (B3 T V [a,b]).2.1,-1,Km⟩ b)=true:=by
 rw [h.poss] at hv ⊢
 obtain ⟨h1,h2⟩:=kA h.ca.kc.types h.ca.kc.kok.ty h.all hv
 have hS:=Pm h.ca.kc.kok.ty h1
 refine ⟨kD h.ca.kc.types h.ca.kc.kok.ty (by have:=wR h.ca.kc.vars;omega) h1,?_⟩
 simp only
 rw [h.ca.truth hS,h.cb.truth hS]
 simpa using h2
theorem FindOK.negE (h:FindOK T V l a b):(Cy b).2=0∨(Cy b).2=5∨(Cy b).2=12:=
 SceneOK.negE (l:=l) ⟨h.cb.kc,h.cb.kind,h.env.suits⟩
theorem FindOK.imp (h:FindOK T V l a b)(h0:(Cy b).2=0):(C9 T V a (Cy b).1).2=0∧((B3 T V [a,b]).1=1→(C9 T V a (Cy b).1).1≠1)∧((B3 T V [a,b]).1=2→(C9 T V a (Cy b).1).1≠2):=by
 obtain ⟨hn,ht⟩:=xM h.cb h0
 refine ⟨(X5 (R5 h.ca.kc.types h.ca.kc.vars h.ca hn)).1,fun hv hw=>?_,fun hv hw=>?_⟩
 ·
  rw [h.poss] at hv
  obtain ⟨h1,h2⟩:=kA h.ca.kc.types h.ca.kc.kok.ty h.all hv
  have hE:=Wh h.ca.kc.kok.ty h1
  simp only [List.all_cons,List.all_nil,Bool.and_true,Bool.and_eq_true] at h2
  have h3:=imp_yes h.ca.kc.types h.ca.kc.vars h.ca hn hE hw h2.1
  rw [ht _ hE.suits,h2.2] at h3
  cases h3
 ·
  rw [h.poss] at hv
  obtain ⟨evs,h1,h2,h3⟩:=imp_no h.ca.kc.types h.ca.kc.vars h.ca hn hw
  have hE:=Wh h.ca.kc.kok.ty h1
  rw [ht _ hE.suits,Bool.not_eq_false'] at h3
  exact pN hE h.all (by simp [h2,h3]) hv
end
end

/-! ### a difference the other way round -/
def evN0 (τ:Tm→Int)(e:Ex)(vs:List Int):Int:=
 if e.op==0 then 0 else if e.op==1||e.op==2 then τ (D0 e) else if e.op==5 then Qd 0 vs+Yb 0 vs else if e.op==6 then Qd 0 vs-Yb 0 vs else 0
def evT (τ:Tm→Int):Ex→Int:=Q2 (evN0 τ)
def okK (p:Tm×Int):Bool:=p.2==0||p.2==1||p.2 == -1
def posL (ts:List (Tm×Int)):List Tm:=(ts.filter fun p=>p.2==1).map (·.1)
def negL (ts:List (Tm×Int)):List Tm:=(ts.filter fun p=>p.2 == -1).map (·.1)
def ind (t:Tm):Tm→Int:=fun u=>if u=t then 1 else 0
/-! ### plain conditions have simple literals -/
section
variable {T:List Sc} {V:List Va}
/-! ### few clauses -/
abbrev half1 (n:Nat):Nat:=(n-1) / 2
end
end Go.Proofs.YtkddpedfbicbeaaGreatDoor

namespace Go.Aw
open Go

section
variable {P:Program} {T:List (Nat×TD)} {d:Option Nat} {ty:TypeId} {pos:String} {aft:Array Edge} {gd:Option (Nat×Bool)} {ρ:Operand→AV} {K:List HO→Prop}

theorem Fg {x i:Operand}{t e len:Nat}{td te:TD}{k:IntKind}{n:Int}{cs cs':List AV}(hT:Hq P T)(h:ρ x = .ptr cs)(hi:ρ i = .int k n)(ht:Bu T t=some td)(hk:td.kind = .array len e)
  (hte:Bu T e=some te) (h0:0≤n) (hc:n<len) (ho:cs.drop (n.toNat*te.size)=cs'):Di P ⟨d,.indexAddr t x i,ty,pos,aft,gd⟩ ρ K (.ptr cs'):=
 .of_run fun g w a hr=>by
  obtain ⟨b,o,he,fv,h1,h2⟩:=(h▸hr x (by simp [Op.operands]):Rep g w _ _).inv_ptr
  have h4:=(hi▸hr i (by simp [Op.operands]):Rep g w _ _).inv_int
  have hu:=P4 (hT t td ht) hk
  refine ⟨.pointer (some ⟨b,o+n.toNat*te.size,none⟩),?_,?_⟩
  ·
   simp only [execOp,he,h4,Instr.indexAt,asIntOf,Sem.run_bind,Sem.run_pure,Result.andThen_ok,Ba hu,Instr.sureAddr]
   simp [h0,hc,G1 (hT e te hte),Hx]
  ·
   subst ho
   refine .ptr b (o+n.toNat*te.size) _ (fun j=>fv (n.toNat*te.size+j)) (fun j x hj=>?_) (fun j x hj=>?_)
   ·
    rw [List.getElem?_drop] at hj
    have:=h1 (n.toNat*te.size+j) x hj
    rwa [Nat.add_assoc]
   ·
    rw [List.getElem?_drop] at hj
    exact h2 (n.toNat*te.size+j) x hj

/-- An array behind a pointer, as a slice. -/
theorem dR {x:Operand}{t e n z:Nat}{td te:TD}{cs:List AV}{es:List (List AV)}(hT:Hq P T)(hx:ρ x = .ptr cs)(hcs:cs=es.flatten)(ht:Bu T t=some td)(hk:td.kind = .array n e)(hte:Bu T e=some te)(hz:te.size=z)
  (hl:Nat.beq es.length n=true) (hm:Nat.ble n maxLen=true) (hzs:es.all (fun e=>Nat.beq e.length z)=true) (h0:Nat.beq n 0=false):Di P ⟨d,.slice t x none none none,ty,pos,aft,gd⟩ ρ K (.sl z es):=
 .of_run fun g w a hr=>by
  subst hcs
  obtain ⟨b,o,he,fv,h3,h4⟩:=(hx▸hr x (by simp [Op.operands]):Rep g w _ _).inv_ptr
  have hu:=P4 (hT t td ht) hk
  have hsz:=G1 (hT e te hte) w
  have hn0:n≠0:=by rintro rfl;exact absurd h0 (by decide)
  have hln:=Nat.eq_of_beq_eq_true hl
  have hz':∀e∈es,e.length=z:=fun e he=>Nat.eq_of_beq_eq_true (List.all_eq_true.1 hzs e he)
  refine ⟨.slice (some ⟨b,o,none⟩) n n,?_,.sl b o n n z es hln.symm (Nat.le_refl _) (Nat.le_of_ble_eq_true hm) hz' (fun i j=>fv (i*z+j)) (fun i e hi j x hj=>?_) (fun i e hi j x hj=>?_)⟩
  ·
   have e0:((n:Nat)=0)=False:=by simp [hn0]
   simp only [execOp,he,Instr.sliceAt,Sem.run_bind,Ba hu,Result.andThen_ok,Instr.sureAddr,Sem.run_pure,Instr.sliceBounds,Option.map_none,hsz,hn0,if_false,Nat.sub_zero,Nat.zero_mul,Hx,Nat.add_zero,e0]
  ·
   have:=h3 _ x (dS es hz' i e hi j x hj)
   rwa [←Nat.add_assoc] at this
  · exact h4 _ x (dS es hz' i e hi j x hj)
end
end Go.Aw

namespace Go.Proofs.YtkddpedfbicbeaaGreatDoor
open Go Go.Aw

section
variable {T:List Sc} {V:List Va}
theorem yQ (evs:List Ev)(t:Tm)(s:Fq):(Uf evs t s).length=evs.length:=List.length_modify ..
theorem vU (evs:List Ev)(t:Tm)(x:Int):(Qh evs t x).length=evs.length:=by unfold Qh;split <;> exact List.length_modify ..
theorem Z9 (vals:List Int):∀(ts:List Tm) (i:Nat) (evs:List Ev),(Gs vals i ts evs).length=evs.length
 | [],i,evs=>rfl
 | t::r,i,evs=>by rw [Gs,Z9 vals r,vU]
theorem Sq (w:Wm):∀(ws:List Wd) (s:Ns),(ws.foldl (H6 w) s).2.2.length=s.2.2.length
  | [],s=>rfl
  | x::r,s=>by
    rw [List.foldl_cons,Sq w r]
    cases hc:x.const with
    | true=>rw [S6 hc]
    | false=>rw [Sa hc];exact yQ ..
theorem evC_len (c:List Lit):(nS T V c).length=V.length:=by
 show ((Hc T V c).2.foldl (H6 (Eh T V c).1) _).2.2.length=_
 rw [Sq]
 show (Gs _ 0 _ _).length=_
 rw [Z9,P0]
theorem cO:∀(l:List (List Lit)) (o:Int),(Yz T V o l).2.length≤V.length
  | [],o=>Nat.zero_le _
  | c::r,o=>by
    rw [Yz]
    split
    · exact cO r o
    split
    · show (nS T V c).length≤_;rw [evC_len];exact Nat.le_refl _
    · exact cO r 0
theorem eP (es:List Ex):(B3 T V es).2.1.length≤V.length:=by
 unfold B3
 split
 · exact Nat.zero_le _
 ·
  show (B5 T V _).2.length≤_
  unfold B5
  split
  · exact Nat.zero_le _
  · exact cO _ _
section
variable {l:List Ev} {a b:Ex}
theorem iE (h:(!sceneS T V l a || !sceneS T V l b)=false):FindOK T V l a b:=by
 rw [Bool.or_eq_false_iff,Bool.not_eq_false',Bool.not_eq_false'] at h
 exact Aao h.1 h.2
def tr2 (l:List Ev)(a b:Ex):Bool:=Kr ⟨Dz l,-1,Km⟩ a&&Kr ⟨Dz l,-1,Km⟩ b
theorem FindOK.cond3 (h:FindOK T V l a b):((((B3 T V [a,b]).1==2)&&tr2 l a b)||(((B3 T V [a,b]).1==1)&&((!suitsS T V (B3 T V [a,b]).2.1)||(!tr2 (B3 T V [a,b]).2.1 a b))))=false:=by
  rw [Bool.or_eq_false_iff]
  constructor
  · cases h1:(B3 T V [a,b]).1==2 with
    | false=>rfl
    | true=>exact h.no (by simpa using h1)
  · cases h1:(B3 T V [a,b]).1==1 with
    | false=>rfl
    | true=>
      obtain ⟨q1,q2⟩:=h.yes (by simpa using h1)
      rw [q1,show tr2 (B3 T V [a,b]).2.1 a b=true from q2];rfl
theorem FindOK.last (h:FindOK T V l a b)(h0:(Cy b).2=0):(((true&&((C9 T V a (Cy b).1).2==0))&&(!(((B3 T V [a,b]).1==1)&&((C9 T V a (Cy b).1).1==1))))&&(!(((B3 T V [a,b]).1==2)&&((C9 T V a (Cy b).1).1==2))))=true:=by
 obtain ⟨q1,q2,q3⟩:=h.imp h0
 rw [q1]
 have e1:(((B3 T V [a,b]).1==1)&&((C9 T V a (Cy b).1).1==1))=false:=by
  cases h1:(B3 T V [a,b]).1==1 with
  | false=>rfl
  | true=>have:=q2 (by simpa using h1);simpa using this
 have e2:(((B3 T V [a,b]).1==2)&&((C9 T V a (Cy b).1).1==2))=false:=by
  cases h1:(B3 T V [a,b]).1==2 with
  | false=>rfl
  | true=>have:=q3 (by simpa using h1);simpa using this
 rw [e1,e2];rfl
theorem FindOK.negC (h:FindOK T V l a b)(h0:((Cy b).2 != 0)=true):(((Cy b).2==5)||((Cy b).2==12))=true:=by
 rcases h.negE with q | q | q
 · rw [q] at h0;cases h0
 · rw [q];rfl
 · rw [q];rfl
/-! ### Agrees -/
end
end
end Go.Proofs.YtkddpedfbicbeaaGreatDoor
