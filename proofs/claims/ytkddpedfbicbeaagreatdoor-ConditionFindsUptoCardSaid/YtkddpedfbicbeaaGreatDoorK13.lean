/-
  Several texts in one: S46, S47, S48, S38, S49, S50, Au, S51. No condition.
-/
import Derived.Test.YtkddpedfbicbeaaGreatDoorK12
import Derived.Test.YtkddpedfbicbeaaGreatDoorK11
import Derived.Test.YtkddpedfbicbeaaGreatDoorK07
set_option linter.unusedVariables false
set_option linter.unusedSimpArgs false
namespace Go.Proofs.YtkddpedfbicbeaaGreatDoor
open Go Go.Aw

/-! ### kinds of fields -/
theorem Si:∀{l:List Fi} {seen:List (List UInt8)},Ij seen l=0→∀f∈l,0≤f.kind∧f.kind<3
  | [],_,_,f,hf=>by cases hf
  | g::r,seen,h,f,hf=>by
    rw [Ij] at h
    cases h1:(Eb seen g != 0) with
    | true=>rw [if_pos h1] at h;rw [h] at h1;cases h1
    | false=>
      rw [Ck h1] at h
      rcases List.mem_cons.1 hf with rfl | hf
      · have h2:Eb seen f=0:=by simpa using h1
        unfold Eb at h2
        split at h2
        · cases h2
        split at h2
        · cases h2
        split at h2
        · cases h2
        · rename_i h3
          simp only [Bool.or_eq_true,decide_eq_true_eq,not_or] at h3
          omega
      · exact Si h f hf
theorem Zm:∀{l:List Sc} {seen:List (List UInt8)},J0 seen l=0→∀s∈l,Il s=0
  | [],_,_,f,hf=>by cases hf
  | g::r,seen,h,s,hs=>by
    rw [J0] at h
    cases h1:(H1 seen g != 0) with
    | true=>rw [if_pos h1] at h;rw [h] at h1;cases h1
    | false=>
      rw [Ck h1] at h
      rcases List.mem_cons.1 hs with rfl | hs
      · have h2:H1 seen s=0:=by simpa using h1
        unfold H1 at h2
        cases h3:(Il s != 0) with
        | true=>rw [if_pos h3] at h2;exact h2
        | false=>simpa using h3
      · exact Zm h s hs
theorem fY {T:List Sc}(h:Ed T=0){s:Sc}(hs:s∈T){f:Fi}(hf:f∈s.fields):0≤f.kind∧f.kind<3:=by
 unfold Ed at h
 split at h
 · cases h
 have h1:=Zm h s hs
 unfold Il at h1
 split at h1
 · cases h1
 split at h1
 · cases h1
 exact Si h1 f hf
theorem rK {k:Int}(h:0≤k∧k<3):Ap ⟨k,0,[]⟩=0:=by
 have:k=0∨k=1∨k=2:=by omega
 rcases this with rfl | rfl | rfl <;> rfl
theorem xE {w:Vl}{x:Int}(h:Ap w=0)(hk:(w.kind=0∧-1099511627776≤x∧x≤1099511627776)∨(w.kind=1∧0≤x∧x≤1)):Ap { w with num:=x }=0:=by
 have ht:w.text = []:=by
  unfold Ap at h
  rw [if_pos (by rcases hk with hk | hk <;> rw [hk.1] <;> rfl)] at h
  split at h
  · cases h
  · rename_i h1;simpa using h1
 unfold Ap Ea
 simp only [ht]
 rcases hk with ⟨h0,h1,h2⟩ | ⟨h0,h1,h2⟩
 · rw [h0];simp;omega
 ·
  rw [h0]
  have:x=0∨x=1:=by omega
  rcases this with rfl | rfl <;> rfl
theorem tU {w:Vl}{s:Ft}(h:Ap w=0)(hk:w.kind=2)(hs:s.length≤64):Ap { w with text:=s }=0:=by
 have hn:=V3 h hk
 unfold Ap Ea
 simp only [hk,hn]
 simp
 omega
section
variable {T:List Sc} {V:List Va}
/-- one event that fits its variable -/
structure EvG (i:Nat) (v:Va) (s:Sc) (e:Ev):Prop where
 source:e.source=0
 seq:e.seq=(i:Int)
 type:e.type=v.type
 t0:0≤e.time
 t1:e.time≤1099511627776
 suit:X6 s e
structure EvI (T:List Sc) (V:List Va) (evs:List Ev):Prop where
 len:evs.length=V.length
 at_:∀(i:Nat) (v:Va) (s:Sc),V[i]? = some v→T[v.type.toNat]? = some s→∃e,evs[i]? = some e∧EvG i v s e
theorem Ru {evs:List Ev}(h:EvI T V evs)(j:Nat)(g:Ev→Ev)(hg:∀(v:Va) (s:Sc) (e:Ev),V[j]? = some v→T[v.type.toNat]? = some s→EvG j v s e→EvG j v s (g e)):EvI T V (evs.modify j g):=by
 refine ⟨by rw [List.length_modify];exact h.len,fun i v s hv hs=>?_⟩
 obtain ⟨e,he,hG⟩:=h.at_ i v s hv hs
 rw [List.getElem?_modify,he]
 by_cases hij:j=i
 ·
  subst hij
  exact ⟨g e,by simp,hg v s e hv hs hG⟩
 · exact ⟨e,by simp [hij],hG⟩
theorem Aas {s:Sc}{e:Ev}(h:X6 s e)(k:Nat)(f:Vl→Vl)(hf:∀(w:Vl) (fl:Fi),s.fields[k]? = some fl→mG w fl.kind→mG (f w) fl.kind):X6 s (Wb e k f):=by
 refine ⟨by rw [V7];exact h.1,fun j fl hj=>?_⟩
 obtain ⟨w,hw,hG⟩:=h.2 j fl hj
 show ∃x,(e.values.modify k f)[j]? = some x∧_
 rw [List.getElem?_modify,hw]
 by_cases hkj:k=j
 ·
  subst hkj
  exact ⟨f w,by simp,hf w fl hj hG⟩
 · exact ⟨w,by simp [hkj],hG⟩
theorem wD {j:Nat}{v:Va}{s:Sc}{e:Ev}(h:EvG j v s e)(k:Nat)(f:Vl→Vl)(hf:∀(w:Vl) (fl:Fi),s.fields[k]? = some fl→mG w fl.kind→mG (f w) fl.kind):EvG j v s (Wb e k f):=
 ⟨h.source,h.seq,h.type,h.t0,h.t1,Aas h.suit k f hf⟩
theorem wU:∀{vs:List Va} {i j:Nat} {v:Va},vs[j]? = some v→(Hz T i vs)[j]? = some (Zh T (i+j) v)
  | [],i,j,v,h=>by simp at h
  | a::r,i,0,v,h=>by simp at h;subst h;rfl
  | a::r,i,j+1,v,h=>by
    have h':r[j]? = some v:=by simpa using h
    have:=wU (i:=i+1) h'
    rw [show i+1+j=i+(j+1) by omega] at this
    exact this
theorem oL (hT:Ed T=0):EvI T V (Hz T 0 V):=by
 refine ⟨Qd,fun i v s hv hs=>⟨_,wU hv,rfl,by show ((0+i:Nat):Int)=_;rw [Nat.zero_add],rfl,Int.le_refl _,by show (0:Int)≤_;decide,?_⟩⟩
 have hvals:(Zh T (0+i) v).values=s.fields.map zV:=iH hs
 refine ⟨by rw [hvals,List.length_map],fun k f hf=>?_⟩
 rw [hvals,List.getElem?_map,hf]
 exact ⟨_,rfl,rfl,rK (fY hT (List.mem_of_getElem? hs) (List.mem_of_getElem? hf))⟩
/-- the place of a field -/
theorem U7 {t:Tm}(hk:KOK T V (Hq t))(h1:t.op=1){v:Va}{s:Sc}{fl:Fi}(hv:V[t.v.toNat]? = some v)(hs:T[v.type.toNat]? = some s)(hf:s.fields[t.field.toNat]? = some fl):Am T V (Hq t)=fl.kind:=by
 obtain ⟨v',s',f',_,e1,_,e2,_,e3,e4⟩:=mT hk h1
 have e1':V[t.v.toNat]? = some v':=e1
 rw [hv] at e1';cases e1'
 rw [hs] at e2;cases e2
 have e3':s.fields[t.field.toNat]? = some f':=e3
 rw [hf] at e3';cases e3'
 exact e4
theorem yW {evs:List Ev}(h:EvI T V evs){t:Tm}(hk:KOK T V (Hq t))(ho:t.op=1∨t.op=2)(hkind:t.op=1→Am T V (Hq t)=0∨Am T V (Hq t)=1){x:Int}(hx:(C1 T V t).1≤x∧x≤(C1 T V t).2):EvI T V (Ql evs t x):=by
  unfold Ql
  cases h2:t.op==2 with
  | true=>
    rw [if_pos rfl]
    rw [zF h2] at hx
    exact Ru h _ _ fun v s e _ _ hG=>⟨hG.source,hG.seq,hG.type,hx.1,hx.2,hG.suit⟩
  | false=>
    rw [if_neg (by decide)]
    have h1 : t.op = 1 := by have : t.op ≠ 2 := by simpa using h2
                             omega
    refine Ru h _ _ fun v s e hv hs hG=>wD hG _ _ fun w fl hf hw=>?_
    have hkf:=U7 hk h1 hv hs hf
    refine ⟨hw.1,xE hw.2 ?_⟩
    rw [hw.1,←hkf]
    rcases hkind h1 with h0 | h0
    · rw [uD h2 (by rw [h0];rfl)] at hx
      exact .inl ⟨h0,hx⟩
    · rw [yZ h2 (by rw [h0];rfl)] at hx
      exact .inr ⟨h0,hx⟩
theorem yX {evs:List Ev}(h:EvI T V evs){t:Tm}(hk:KOK T V (Hq t))(h1:t.op=1)(hkind:Am T V (Hq t)=2){s:Ft}(hs:s.length≤64):EvI T V (Tz evs t s):=by
 unfold Tz
 refine Ru h _ _ fun v sc e hv hsc hG=>wD hG _ _ fun w fl hf hw=>?_
 have hkf:=U7 hk h1 hv hsc hf
 exact ⟨hw.1,tU hw.2 (by rw [hw.1,←hkf];exact hkind) hs⟩
/-! ### what stands at a place -/
def eO (evs:List Ev)(t:Tm):Int:=if t.op==2 then ((evs[t.v.toNat]?).getD Kn).time else ((((evs[t.v.toNat]?).getD Kn).values[t.field.toNat]?).getD v0).num
def txA (evs:List Ev)(t:Tm):Ft:=((((evs[t.v.toNat]?).getD Kn).values[t.field.toNat]?).getD v0).text
theorem Ee {α:Type}(l:List α)(j i:Nat)(f:α→α)(d:α):((l.modify j f)[i]?).getD d=if j=i∧i<l.length then f ((l[i]?).getD d) else (l[i]?).getD d:=by
  rw [List.getElem?_modify]
  cases hl:l[i]? with
  | none=>
    have:¬i<l.length:=by have:=List.getElem?_eq_none_iff.1 hl;omega
    rw [if_neg (fun e=>this e.2)];rfl
  | some x=>
    have:=Bb hl
    by_cases e:j=i
    · rw [if_pos ⟨e,this⟩];simp [e]
    · rw [if_neg (fun q=>e q.1)];simp [e]
theorem nm_setX (evs:List Ev)(t u:Tm)(s:Ft):eO (Tz evs t s) u=eO evs u:=by
 unfold eO Tz
 rw [Ee]
 split
 · split <;> rfl
 ·
  split
  ·
   show (((((evs[u.v.toNat]?).getD Kn).values.modify t.field.toNat _)[u.field.toNat]?).getD v0).num=_
   rw [Ee]
   split <;> rfl
  · rfl
theorem jC {evs:List Ev}(h:evOK T V evs){t:Tm}(ht:tmOK T V t)(h1:t.op=1):t.v.toNat<evs.length∧t.field.toNat<((evs[t.v.toNat]?).getD Kn).values.length:=by
 have hv:=ht.v1
 have hv0:=ht.v0
 have hf:=ht.f h1
 have hlt:t.v.toNat<evs.length:=by rw [h.len];omega
 have hg:=List.getElem?_eq_getElem hlt
 have:=h.vals t.v.toNat _ hg
 rw [Int.toNat_of_nonneg hv0] at this
 refine ⟨hlt,?_⟩
 rw [hg]
 show t.field.toNat<(evs[t.v.toNat]).values.length
 rw [this];omega
theorem oZ {evs:List Ev}(h:evOK T V evs){t:Tm}(ht:tmOK T V t)(h1:t.op=1)(s:Ft):txA (Tz evs t s) t=s:=by
 obtain ⟨hlt,hfl⟩:=jC h ht h1
 unfold txA Tz
 rw [Ee,if_pos ⟨rfl,hlt⟩]
 show (((((evs[t.v.toNat]?).getD Kn).values.modify t.field.toNat _)[t.field.toNat]?).getD v0).text=_
 rw [Ee,if_pos ⟨rfl,hfl⟩]
theorem tm_eq {t u:Tm}(ht:tmOK T V t)(hu:tmOK T V u)(h1:t.op=1)(h2:u.op=1)(hv:t.v.toNat=u.v.toNat)(hf:t.field.toNat=u.field.toNat):t=u:=by
 have a:=ht.v0;have b:=hu.v0;have c:=ht.f h1;have d:=hu.f h2
 have e1:t.v=u.v:=by omega
 have e2:t.field=u.field:=by omega
 have e3:t.op=u.op:=by rw [h1,h2]
 obtain ⟨o,v,f⟩:=t
 obtain ⟨o',v',f'⟩:=u
 simp only at e1 e2 e3
 rw [e1,e2,e3]
theorem kQ {evs:List Ev}{t u:Tm}(ht:tmOK T V t)(hu:tmOK T V u)(h1:t.op=1)(h2:u.op=1)(hne:t≠u)(s:Ft):txA (Tz evs t s) u=txA evs u:=by
 unfold txA Tz
 rw [Ee]
 split
 ·
  rename_i h3
  show (((((evs[u.v.toNat]?).getD Kn).values.modify t.field.toNat _)[u.field.toNat]?).getD v0).text=_
  rw [Ee,if_neg (fun e=>hne (tm_eq ht hu h1 h2 h3.1 e.1))]
 · rfl
theorem eT {evs:List Ev}{t:Tm}(h:(t.op==2)=true):eO evs t=((evs[t.v.toNat]?).getD Kn).time:=if_pos h
theorem fB {evs:List Ev}{t:Tm}(h:(t.op==2)=false):eO evs t=((((evs[t.v.toNat]?).getD Kn).values[t.field.toNat]?).getD v0).num:=Ck h
theorem lY {evs:List Ev}{t:Tm}{x:Int}(h:(t.op==2)=true):Ql evs t x=evs.modify t.v.toNat (fun e=>{ e with time:=x }):=if_pos h
theorem lO {evs:List Ev}{t:Tm}{x:Int}(h:(t.op==2)=false):Ql evs t x=evs.modify t.v.toNat (fun e=>Wb e t.field.toNat fun y=>{ y with num:=x }):=Ck h
theorem zS {evs:List Ev}(h:evOK T V evs){t:Tm}(ht:tmOK T V t)(x:Int):eO (Ql evs t x) t=x:=by
  cases h2:t.op==2 with
  | true=>
    have hlt:t.v.toNat<evs.length:=by have:=ht.v0;have:=ht.v1;rw [h.len];omega
    rw [eT h2,lY h2,Ee,if_pos ⟨rfl,hlt⟩]
  | false=>
    have h1 : t.op = 1 := by have : t.op ≠ 2 := by simpa using h2
                             have:=ht.op;omega
    obtain ⟨hlt,hfl⟩:=jC h ht h1
    rw [fB h2,lO h2,Ee,if_pos ⟨rfl,hlt⟩]
    show (((((evs[t.v.toNat]?).getD Kn).values.modify t.field.toNat _)[t.field.toNat]?).getD v0).num=_
    rw [Ee,if_pos ⟨rfl,hfl⟩]
theorem mH {evs:List Ev}{t u:Tm}(ht:tmOK T V t)(hu:tmOK T V u)(ft:t.op=2→t.field=0)(fu:u.op=2→u.field=0)(hne:t≠u)(x:Int):eO (Ql evs t x) u=eO evs u:=by
  have a:=ht.v0;have b:=hu.v0
  cases h2:t.op==2 with
  | true=>
    cases h3:u.op==2 with
    | true=>
      rw [eT h3,eT h3,lY h2,Ee,if_neg ?_]
      intro q
      apply hne
      have e1:t.op=2:=by simpa using h2
      have e2:u.op=2:=by simpa using h3
      have e3:=ft e1;have e4:=fu e2
      have e5:t.v=u.v:=by have:=q.1;omega
      obtain ⟨o,v,f⟩:=t
      obtain ⟨o',v',f'⟩:=u
      simp only at e1 e2 e3 e4 e5
      rw [e1,e2,e3,e4,e5]
    | false=>
      rw [fB h3,fB h3,lY h2,Ee]
      split <;> rfl
  | false=>
    have h1 : t.op = 1 := by have : t.op ≠ 2 := by simpa using h2
                             have:=ht.op;omega
    cases h3:u.op==2 with
    | true=>
      rw [eT h3,eT h3,lO h2,Ee]
      split <;> rfl
    | false=>
      have hu1 : u.op = 1 := by have : u.op ≠ 2 := by simpa using h3
                                have:=hu.op;omega
      rw [fB h3,fB h3,lO h2,Ee]
      split
      · rename_i h4
        show (((((evs[u.v.toNat]?).getD Kn).values.modify t.field.toNat _)[u.field.toNat]?).getD v0).num=_
        rw [Ee,if_neg (fun e=>hne (tm_eq ht hu h1 hu1 h4.1 e.1))]
      · rfl
theorem mI {t:Tm}(hk:KOK T V (Hq t))(h2:t.op=2):t.field=0:=by
 have hn:=(Be hk.nodes).1
 have ho:(Hq t).op=2:=h2
 unfold By at hn
 split at hn
 · cases hn
 split at hn
 · cases hn
 split at hn
 · cases hn
 split at hn
 · cases hn
 rw [if_neg (by rw [ho];decide)] at hn
 unfold Bm at hn
 split at hn
 · cases hn
 ·
  rename_i h3
  rw [ho] at h3
  have h4:¬(t.field≠0):=fun h=>h3 (by
   have:((Hq t).field != 0)=true:=bne_iff_ne.2 h
   rw [this];simp [Dp])
  omega
/-! ### the numbers of the model -/
theorem bL {vals:List Int}:∀(ts:List Tm) (i:Nat) {evs:List Ev},EvI T V evs→(∀t∈ts,KOK T V (Hq t)∧(t.op=1∨t.op=2)∧(t.op=1→Am T V (Hq t)=0∨Am T V (Hq t)=1))→
    (∀(k:Nat) (t:Tm),ts[k]? = some t→(C1 T V t).1≤E2 vals ((i:Int)+k+1)∧E2 vals ((i:Int)+k+1)≤(C1 T V t).2)→EvI T V (G4 vals i ts evs)
  | [],i,evs,h,_,_=>h
  | t::r,i,evs,h,hk,hx=>by
    rw [G4]
    obtain ⟨k1,k2,k3⟩:=hk t (List.mem_cons_self ..)
    have h0:=hx 0 t rfl
    rw [show (i:Int)+((0:Nat):Int)+1=(i:Int)+1 by omega] at h0
    refine bL r (i+1) (yW h k1 k2 k3 h0) (fun u hu=>hk u (List.mem_cons_of_mem _ hu)) fun k u hu=>?_
    have:=hx (k+1) u (by simpa using hu)
    rw [show ((i+1:Nat):Int)+k+1=(i:Int)+((k+1:Nat):Int)+1 by omega]
    exact this
theorem fP {vals:List Int}:∀(ts:List Tm) (i:Nat) {evs:List Ev},evOK T V evs→evOK T V (G4 vals i ts evs)
 | [],i,evs,h=>h
 | t::r,i,evs,h=>by rw [G4];exact fP r (i+1) (Wj h t _)
theorem jY {vals:List Int}:∀(ts:List Tm) (i:Nat) {evs:List Ev} {u:Tm},tmOK T V u→(u.op=2→u.field=0)→(∀t∈ts,tmOK T V t∧(t.op=2→t.field=0))→u∉ts→eO (G4 vals i ts evs) u=eO evs u
  | [],i,evs,u,_,_,_,_=>rfl
  | t::r,i,evs,u,hu,fu,ht,hn=>by
    obtain ⟨h1,h2⟩:=ht t (List.mem_cons_self ..)
    rw [G4,jY r (i+1) hu fu (fun x hx=>ht x (List.mem_cons_of_mem _ hx)) (fun h=>hn (List.mem_cons_of_mem _ h))]
    exact mH h1 hu h2 fu (fun e=>hn (by rw [e];exact List.mem_cons_self ..)) _
theorem iS {vals:List Int}:∀(ts:List Tm) (i:Nat) {evs:List Ev},evOK T V evs→ts.Nodup→(∀t∈ts,tmOK T V t∧(t.op=2→t.field=0))→∀(k:Nat) (t:Tm),ts[k]? = some t→eO (G4 vals i ts evs) t=E2 vals ((i:Int)+k+1)
  | [],i,evs,_,_,_,k,t,h=>by simp at h
  | u::r,i,evs,he,hn,ht,0,t,h=>by
    simp at h;subst h
    obtain ⟨h1,h2⟩:=ht u (List.mem_cons_self ..)
    rw [G4,jY r (i+1) h1 h2 (fun x hx=>ht x (List.mem_cons_of_mem _ hx)) (List.nodup_cons.1 hn).1,zS he h1]
    rw [show (i:Int)+((0:Nat):Int)+1=(i:Int)+1 by omega]
  | u::r,i,evs,he,hn,ht,k+1,t,h=>by
    rw [G4,iS r (i+1) (Wj he u _) (List.nodup_cons.1 hn).2 (fun x hx=>ht x (List.mem_cons_of_mem _ hx)) k t (by simpa using h)]
    rw [show ((i+1:Nat):Int)+k+1=(i:Int)+((k+1:Nat):Int)+1 by omega]
theorem Vj {ts l:List Tm}(h:ts.Nodup):(A4 ts l).Nodup:=by
  cases l with
  | nil=>exact h
  | cons t r=>
    unfold A4
    simp only
    split
    · exact h
    · rename_i h1
      rw [List.nodup_append]
      refine ⟨h,by simp,fun a ha b hb e=>?_⟩
      rw [List.mem_singleton] at hb
      subst hb;subst e
      exact h1 (by simpa using ha)
theorem Zu:∀(l:List Lit) {s:Sy},s.ts.Nodup→(l.foldl (Df T V) s).ts.Nodup
  | [],s,h=>h
  | c::r,s,h=>by
    rw [List.foldl_cons]
    refine Zu r ?_
    cases h1 : !(Aa T V c).2 with
    | true=>rw [Ly h1];exact h
    | false=>rw [Lq h1];exact Vj (Vj h)
/-! ### what the events' values are -/
theorem P5 {evs:List Ev}(hty:Jv T V)(h:EvI T V evs):E8 T V (D0 evs):=by
 refine ⟨by simp [D0,h.len],fun i v hv=>?_⟩
 obtain ⟨s,hs⟩:=nI hty (List.mem_of_getElem? hv)
 obtain ⟨e,he,hG⟩:=h.at_ i v s hv hs
 exact ⟨s,e,hs,by simp [D0,he],hG.suit⟩
theorem Wg {evs:List Ev}(hty:Jv T V)(h:EvI T V evs):EnvOK T V (D0 evs):=by
 refine ⟨P5 hty h,fun l hl ev hev=>?_⟩
 obtain ⟨e,he,rfl⟩:=List.mem_map.1 hl
 rw [List.mem_singleton] at hev;subst hev
 obtain ⟨i,hi⟩:=List.mem_iff_getElem?.1 he
 have hlt:=Bb hi
 have hv:V[i]? = some (V[i]'(by rw [←h.len];exact hlt)):=List.getElem?_eq_getElem _
 obtain ⟨s,hs⟩:=nI hty (List.mem_of_getElem? hv)
 obtain ⟨e',he',hG⟩:=h.at_ i _ s hv hs
 rw [hi] at he';cases he'
 exact ⟨hG.t0,hG.t1⟩
theorem bind_ev {evs:List Ev}{v:Int}{ev:Ev}(h0:0≤v)(h:Bv (D0 evs) v = [ev]):evs[v.toNat]? = some ev:=by
  unfold Bv at h
  split at h
  · cases h
  · rename_i h1
    cases hq:evs[v.toNat]? with
    | none=>
      have:(D0 evs)[v.toNat]? = none:=by unfold D0;rw [List.getElem?_map,hq];rfl
      rw [this] at h;cases h
    | some e=>
      have:(D0 evs)[v.toNat]? = some [e]:=by unfold D0;rw [List.getElem?_map,hq];rfl
      rw [this] at h
      have h2:[e] = [ev]:=h
      cases h2;rfl
theorem pA {evs:List Ev}(hE:EnvOK T V (D0 evs)){t:Tm}(hk:KOK T V (Hq t))(ht:tmOK T V t):T2 (D0 evs) t=eO evs t∧(t.op=1→(vl (D0 evs) (Hq t)).text=txA evs t):=by
 obtain ⟨ev,h1,h2,h3,h4⟩:=X3 hE.suits hE.small hk (show ((Hq t).op==1||(Hq t).op==2)=true by have:=ht.op;show (t.op==1||t.op==2)=true;simpa using this)
 have h5:evs[t.v.toNat]? = some ev:=bind_ev ht.v0 h1
 have hv:vl (D0 evs) (Hq t)=(L2 (Hq t) ev).1:=by show (B0 _ _).1=_;rw [h4]
 unfold T2
 rw [hv]
 unfold eO txA
 rw [h5]
 unfold L2 at h2 ⊢
 rcases ht.op with h | h
 ·
  have e1:((Hq t).op==1)=true:=by show (t.op==1)=true;simpa using h
  rw [if_pos e1] at h2 ⊢
  have e2:(t.op==2)=false:=by rw [h];rfl
  rw [e2]
  split at h2
  · cases h2
  ·
   rename_i h6
   rw [if_neg h6]
   exact ⟨rfl,fun _=>rfl⟩
 ·
  have e1:¬((Hq t).op==1)=true:=by show ¬(t.op==1)=true;rw [h];decide
  rw [if_neg e1]
  have e2:(t.op==2)=true:=by rw [h];rfl
  rw [e2]
  exact ⟨rfl,fun h1=>by omega⟩
end

/-! ### what is used -/
theorem T4 (U:Um)(n m:Ft)(b:Bool):Ff (Uc U n b) m=if n=m then b else Ff U m:=by
  unfold Uc
  induction U with
  | nil=>show Ff [(n,b)] m=_;rfl
  | cons q r ih=>
    obtain ⟨k,c⟩:=q
    rw [iO]
    by_cases h:k=n
    · rw [if_pos h]
      subst h
      show Ff ((k,b)::r) m=_
      rw [Ff,Ff]
      by_cases h2:k=m
      · rw [if_pos h2,if_pos h2]
      · rw [if_neg h2,if_neg h2,if_neg h2]
    · rw [if_neg h]
      cases hu:iO r n with
      | none=>
        rw [hu] at ih
        show Ff ((k,c)::(r ++ [(n,b)])) m=_
        have ih':Ff (r ++ [(n,b)]) m=if n=m then b else Ff r m:=ih
        rw [Ff,Ff,ih']
        by_cases h2:k=m
        · rw [if_pos h2,if_pos h2,if_neg (fun e=>h (h2.trans e.symm))]
        · rw [if_neg h2,if_neg h2]
      | some j=>
        rw [hu] at ih
        show Ff ((k,c)::r.modify j fun _=>(n,b)) m=_
        have ih':Ff (r.modify j fun _=>(n,b)) m=if n=m then b else Ff r m:=ih
        rw [Ff,Ff,ih']
        by_cases h2:k=m
        · rw [if_pos h2,if_pos h2,if_neg (fun e=>h (h2.trans e.symm))]
        · rw [if_neg h2,if_neg h2]
theorem Uj {U:Um}:∀(f k:Nat),(∀i,i<k→Ff U (wN i)=true)→U.length≤f+k→Ff U (wN (Uf U f k))=false∧Uf U f k≤U.length
  | 0,k,h,hl=>by
    have hk:=Pj h
    cases hq:Ff U (wN k) with
    | false=>exact ⟨hq,hk⟩
    | true=>
      have:=Pj (U:=U) (j:=k+1) (fun i hi=>by
        rcases Nat.lt_or_ge i k with h2 | h2
        · exact h i h2
        · rw [show i=k by omega];exact hq)
      omega
  | f+1,k,h,hl=>by
    cases hq:Ff U (wN k) with
    | false=>rw [oE hq];exact ⟨hq,Pj h⟩
    | true=>
      rw [oJ hq]
      exact Uj f (k+1) (fun i hi=>by
        rcases Nat.lt_or_ge i k with h2 | h2
        · exact h i h2
        · rw [show i=k by omega];exact hq) (by omega)
theorem Yr (U:Um):Ff U (dH U)=false:=(Uj U.length 0 (fun i h=>absurd h (by omega)) (by omega)).1
theorem tG {U:Um}(h:U.length≤1000000):(dH U).length≤64:=by
 have h1:=(Uj (U:=U) U.length 0 (fun i h=>absurd h (by omega)) (by omega)).2
 have h2:=Go.Lib.itoa_length_le ((Uf U U.length 0:Nat):Int) (by omega) (by omega)
 show (Go.Lib.itoa ((Uf U U.length 0:Nat):Int)).length+1≤64
 omega
/-! ### the words of a clause -/
section
variable {T:List Sc} {V:List Va}
/-- a word of an equation between strings -/
structure WordL (T:List Sc) (V:List Va) (l:List Lit) (x:Wd):Prop where
 ex:∃c∈l,Cr T V c.cond=true∧B7 T V c.cond=true∧∃a∈c.cond.args,x=Cb a
abbrev Nw (p:Um×List Wd):Prop:=∀x∈p.2,x.const=true→Ff p.1 x.text=true
theorem colA_ok {p:Um×List Wd}(h:Nw p)(a:Ex):Nw (Yi p a):=by
 intro x hx hc
 unfold Yi
 simp only
 rw [T4]
 rcases List.mem_append.1 hx with hx | hx
 ·
  split
  · rename_i e;rw [e,h x hx hc,Bool.true_or]
  · exact h x hx hc
 ·
  rw [List.mem_singleton.1 hx] at hc ⊢
  rw [if_pos rfl,hc,Bool.or_true]
theorem aU:∀(xs:List Ex) {p:Um×List Wd},Nw p→Nw (xs.foldl Yi p)
 | [],p,h=>h
 | a::r,p,h=>by rw [List.foldl_cons];exact aU r (colA_ok h a)
theorem Lx:∀(xs:List Ex) (p:Um×List Wd),(xs.foldl Yi p).2=p.2++xs.map Cb
  | [],p=>by simp
  | a::r,p=>by
    rw [List.foldl_cons,Lx r]
    show (p.2 ++ [Cb a])++r.map Cb=_
    simp
theorem jQ:∀(xs:List Ex) (p:Um×List Wd),(xs.foldl Yi p).1.length≤p.1.length+xs.length
  | [],p=>by simp
  | a::r,p=>by
    rw [List.foldl_cons]
    have:=jQ r (Yi p a)
    have h2:=Xq p.1 (Cb a).text (Ff p.1 (Cb a).text||(Cb a).const)
    have h3:(Yi p a).1.length≤p.1.length+1:=h2
    rw [List.length_cons];omega
theorem colL_ok {p:Um×List Wd}(h:Nw p)(c:Lit):Nw (Un T V p c):=by
 cases hc:(!Cr T V c.cond || !B7 T V c.cond) with
 | true=>rw [Tc hc];exact h
 | false=>rw [Mh hc];exact aU _ h
theorem Zp:∀(l:List Lit) {p:Um×List Wd},Nw p→Nw (l.foldl (Un T V) p)
 | [],p,h=>h
 | c::r,p,h=>by rw [List.foldl_cons];exact Zp r (colL_ok h c)
theorem gQ (l:List Lit):Nw (Hh T V l):=Zp l (fun x hx=>by cases hx)
theorem Ya {l:List Lit}{P:Wd→Prop}(hP:∀c∈l,Cr T V c.cond=true→B7 T V c.cond=true→∀a∈c.cond.args,P (Cb a)):∀(m:List Lit) {p:Um×List Wd},(∀c∈m,c∈l)→(∀x∈p.2,P x)→∀x∈(m.foldl (Un T V) p).2,P x
  | [],p,_,h=>h
  | c::r,p,hm,h=>by
    rw [List.foldl_cons]
    refine Ya hP r (fun x hx=>hm x (List.mem_cons_of_mem _ hx)) ?_
    cases hc:(!Cr T V c.cond || !B7 T V c.cond) with
    | true=>rw [Tc hc];exact h
    | false=>
      rw [Mh hc,Lx]
      rw [Bool.or_eq_false_iff,Bool.not_eq_false',Bool.not_eq_false'] at hc
      intro x hx
      rcases List.mem_append.1 hx with hx | hx
      · exact h x hx
      · obtain ⟨a,ha,rfl⟩:=List.mem_map.1 hx
        exact hP c (hm c (List.mem_cons_self ..)) hc.1 hc.2 a ha
theorem aP:∀(m:List Lit) (p:Um×List Wd),∀x∈p.2,x∈(m.foldl (Un T V) p).2
  | [],p,x,h=>h
  | c::r,p,x,h=>by
    rw [List.foldl_cons]
    refine aP r _ x ?_
    cases hc:(!Cr T V c.cond || !B7 T V c.cond) with
    | true=>rw [Tc hc];exact h
    | false=>rw [Mh hc,Lx];exact List.mem_append_left _ h
theorem jB:∀(m:List Lit) (p:Um×List Wd),∀c∈m,Cr T V c.cond=true→B7 T V c.cond=true→∀a∈c.cond.args,Cb a∈(m.foldl (Un T V) p).2
  | [],p,c,hc,_,_,_,_=>by cases hc
  | d::r,p,c,hc,h1,h2,a,ha=>by
    rw [List.foldl_cons]
    rcases List.mem_cons.1 hc with rfl | hc
    · refine aP r _ _ ?_
      rw [Mh (show (!Cr T V c.cond || !B7 T V c.cond)=false by rw [h1,h2];rfl),Lx]
      exact List.mem_append_right _ (List.mem_map.2 ⟨a,ha,rfl⟩)
    · exact jB r _ c hc h1 h2 a ha
theorem Nr {l:List Lit}{c:Lit}(hc:c∈l)(h1:Cr T V c.cond=true)(h2:B7 T V c.cond=true){a:Ex}(ha:a∈c.cond.args):Cb a∈(Hh T V l).2:=jB l _ c hc h1 h2 a ha
theorem fZ {l:List Lit}{x:Wd}(hx:x∈(Hh T V l).2):WordL T V l x:=
 ⟨Ya (T:=T) (V:=V) (l:=l) (P:=fun x=>∃c∈l,Cr T V c.cond=true∧B7 T V c.cond=true∧∃a∈c.cond.args,x=Cb a) (fun c hc h1 h2 a ha=>⟨c,hc,h1,h2,a,ha,rfl⟩) l (fun _ h=>h) (fun x h=>by cases h) x hx⟩
theorem Yh:∀(m:List Lit),Vk T V m→∀(p:Um×List Wd),(m.foldl (Un T V) p).1.length≤p.1.length+2*m.length∧(m.foldl (Un T V) p).2.length≤p.2.length+2*m.length
  | [],_,p=>by simp
  | c::r,hl,p=>by
    rw [List.foldl_cons]
    have ih:=Yh r (fun x hx=>hl x (List.mem_cons_of_mem _ hx)) (Un T V p c)
    rw [List.length_cons]
    cases hc:(!Cr T V c.cond || !B7 T V c.cond) with
    | true=>rw [Tc hc] at ih ⊢;omega
    | false=>
      obtain ⟨h2,_⟩:=Te (hl c (List.mem_cons_self ..)).1 hc
      rw [Mh hc] at ih ⊢
      have h3:=jQ c.cond.args p
      have h4:=congrArg List.length (Lx c.cond.args p)
      rw [List.length_append,List.length_map] at h4
      omega
/-- what is known of a word -/
structure WOK (T:List Sc) (V:List Va) (x:Wd):Prop where
 wf:tW x
 fld:x.const=false→KOK T V (Hq x.field)∧tmOK T V x.field∧x.field.op=1∧Am T V (Hq x.field)=2
 txt:x.const=true→x.text.length≤64
theorem yN {v:Vl}(h:Ap v=0)(hk:v.kind=2):v.text.length≤64:=by
 have hn:=V3 h hk
 unfold Ap Ea at h
 simp [hk,hn] at h
 omega
theorem xC {l:List Lit}(hl:Vk T V l){x:Wd}(h:WordL T V l x):WOK T V x:=by
 obtain ⟨c,hc,h1,h2,a,ha,rfl⟩:=h.ex
 have hk:=(hl c hc).1
 have hs:=Wf hk h1 h2
 have hka:=A3 hk ha
 have hkind:Am T V a=2:=by rw [Im hk hs.op ha];exact hs.k0
 have hd:(a.op==0||a.op==1)=true:=(Te hk (show (!Cr T V c.cond || !B7 T V c.cond)=false by rw [h1,h2];rfl)).2 a ha
 have hz:=(Be hka.nodes).1
 refine ⟨iJ a,fun hcf=>?_,fun hct=>?_⟩
 ·
  have h0:(a.op==0)=false:=by
   cases h0:a.op==0 with
   | false=>rfl
   | true=>rw [dX h0] at hcf;cases hcf
  have h1':a.op=1:=by rw [h0,Bool.false_or] at hd;simpa using hd
  obtain ⟨w1,w2⟩:=nK hka hd hcf
  have e:Hq (Cb a).field=a:=by
   rw [cO h0]
   show Hq (D3 a)=a
   exact K1 hz (by rw [h1'];rfl)
  exact ⟨by rw [e];exact hka,w1,w2,by rw [e];exact hkind⟩
 ·
  have h0:(a.op==0)=true:=by
   cases h0:a.op==0 with
   | true=>rfl
   | false=>rw [cO h0] at hct;cases hct
  rw [dX h0]
  have hv:=(Ia hz (by simpa using h0)).1
  have hvk:a.val.kind=2:=by
   unfold Am at hkind
   rw [if_pos (by rw [h0];rfl)] at hkind
   exact hkind
  show a.val.text.length≤64
  exact yN hv hvk
/-! ### naming -/
theorem Tg {N:Nm}{r:Wd}{s:Ft}(h:Ic N r=some s):(r,s)∈N:=by
  unfold Ic at h
  cases hf:N.find? fun p=>decide (p.1=r) with
  | none=>rw [hf] at h;cases h
  | some p=>
    rw [hf] at h
    have h1:=List.find?_some hf
    have h2:=List.mem_of_find?_eq_some hf
    have e1:p.1=r:=by simpa using h1
    have e2:p.2=s:=by simpa using h
    rw [←e1,←e2];exact h2
theorem qD {N:Nm}{r q:Wd}{s t:Ft}(h:Ic N r=some s):Ic (N ++ [(q,t)]) r=some s:=by
 unfold Ic at h ⊢
 rw [List.find?_append]
 cases hf:N.find? fun p=>decide (p.1=r) with
 | none=>rw [hf] at h;cases h
 | some p=>rw [hf] at h;exact h
structure NI (W:Wd→Prop) (U:Um) (N:Nm):Prop where
 used:∀p∈N,Ff U p.2=true
 texts:∀x,W x→x.const=true→Ff U x.text=true
 con:∀p∈N,p.1.const=true→p.2=p.1.text∧W p.1
 free:∀p∈N,p.1.const=false→∀x,W x→x.const=true→x.text≠p.2
 inj:∀p∈N,∀q∈N,p.2=q.2→p.1=q.1
 len:∀p∈N,p.2.length≤64
theorem xD {W:Wd→Prop}(hW:∀x,W x→WOK T V x){U:Um}{N:Nm}(h:NI W U N){r:Wd}(hr:W r)(hU:U.length≤1000000):NI W (aW U N r).1 (aW U N r).2:=by
  cases hg:Ic N r with
  | some s=>rw [bQ (by rw [hg];rfl)];exact h
  | none=>
    rw [dL hg]
    have hmono:∀m,Ff U m=true→Ff (Uc U (J2 U r) true) m=true:=fun m hm=>by
      rw [T4];split
      · rfl
      · exact hm
    have hnew:∀p∈N,p.2=J2 U r→p.1=r:=fun p hp e=>by
      unfold J2 at e
      cases hc:r.const with
      | true=>
        rw [hc,if_pos rfl] at e
        cases hpc:p.1.const with
        | true=>
          obtain ⟨c1,c2⟩:=h.con p hp hpc
          exact fQ (hW _ c2).wf (hW _ hr).wf (by rw [hpc,hc];rfl) (by rw [←c1];exact e)
        | false=>exact absurd e.symm (h.free p hp hpc r hr hc)
      | false=>
        rw [hc,if_neg (by decide)] at e
        have h1:=h.used p hp
        rw [e,Yr] at h1;cases h1
    refine ⟨fun p hp=>?_,fun x hx hc=>hmono _ (h.texts x hx hc),fun p hp hc=>?_,fun p hp hc x hx hxc=>?_,fun p hp q hq e=>?_,fun p hp=>?_⟩
    · rcases List.mem_append.1 hp with hp | hp
      · exact hmono _ (h.used p hp)
      · rw [List.mem_singleton.1 hp];simp only;rw [T4,if_pos rfl]
    · rcases List.mem_append.1 hp with hp | hp
      · exact h.con p hp hc
      · rw [List.mem_singleton.1 hp] at hc ⊢
        simp only at hc ⊢
        unfold J2
        rw [if_pos hc];exact ⟨rfl,hr⟩
    · rcases List.mem_append.1 hp with hp | hp
      · exact h.free p hp hc x hx hxc
      · rw [List.mem_singleton.1 hp] at hc ⊢
        simp only at hc ⊢
        unfold J2
        rw [if_neg (by rw [hc];decide)]
        intro e
        have h1:=h.texts x hx hxc
        rw [e,Yr] at h1;cases h1
    · rcases List.mem_append.1 hp with hp | hp <;> rcases List.mem_append.1 hq with hq | hq
      · exact h.inj p hp q hq e
      · rw [List.mem_singleton.1 hq] at e ⊢
        exact hnew p hp e
      · rw [List.mem_singleton.1 hp] at e ⊢
        exact (hnew q hq e.symm).symm
      · rw [List.mem_singleton.1 hp,List.mem_singleton.1 hq]
    · rcases List.mem_append.1 hp with hp | hp
      · exact h.len p hp
      · rw [List.mem_singleton.1 hp]
        simp only
        unfold J2
        cases hc:r.const with
        | true=>rw [if_pos rfl];exact (hW _ hr).txt hc
        | false=>rw [if_neg (by decide)];exact tG hU
theorem W0 {U:Um}{N:Nm}{r q:Wd}{s:Ft}(h:Ic N q=some s):Ic (aW U N r).2 q=some s:=by
 cases hg:Ic N r with
 | some t=>rw [bQ (by rw [hg];rfl)];exact h
 | none=>rw [dL hg];exact qD h
theorem nmT_len {W:Wd→Prop}(hW:∀x,W x→WOK T V x){U:Um}{N:Nm}(h:NI W U N){r:Wd}(hr:W r)(hU:U.length≤1000000):(nmT U N r).length≤64:=by
 have h1:=cG U N r
 exact (xD hW h hr hU).len _ (Tg h1)
/-- so far all fields of the words hold the names of their classes -/
structure NS (T:List Sc) (V:List Va) (W:Wd→Prop) (w:Wm) (done:List Wd) (s:Ns) (b:Nat):Prop where
 ni:NI W s.1 s.2.1
 ulen:s.1.length≤b
 evi:EvI T V s.2.2
 eok:evOK T V s.2.2
 has:∀x∈done,∃t,Ic s.2.1 (Cf w x)=some t∧(x.const=false→txA s.2.2 x.field=t)
theorem ns_step {W:Wd→Prop}(hW:∀x,W x→WOK T V x){w:Wm}(hw:wGood W w){done:List Wd}{s:Ns}{b:Nat}(h:NS T V W w done s b)(hb:b≤1000000)(hd:∀x∈done,W x){x:Wd}(hx:W x):NS T V W w (done ++ [x]) (H7 w s x) (b+1):=by
  have hr:=mR hw hx
  have hU:s.1.length≤1000000:=Nat.le_trans h.ulen hb
  have hni:=xD hW h.ni hr hU
  have hget:=cG s.1 s.2.1 (Cf w x)
  have hlen:=nmT_len hW h.ni hr hU
  have hul:(aW s.1 s.2.1 (Cf w x)).1.length≤b+1:=by have:=dM s.1 s.2.1 (Cf w x);have:=h.ulen;omega
  cases hc:x.const with
  | true=>
    rw [Ta hc]
    refine ⟨hni,hul,h.evi,h.eok,fun y hy=>?_⟩
    rcases List.mem_append.1 hy with hy | hy
    · obtain ⟨t,h1,h2⟩:=h.has y hy
      exact ⟨t,W0 h1,h2⟩
    · rw [List.mem_singleton.1 hy]
      exact ⟨_,hget,fun e=>by rw [hc] at e;cases e⟩
  | false=>
    rw [Sq hc]
    obtain ⟨k1,k2,k3,k4⟩:=(hW x hx).fld hc
    refine ⟨hni,hul,yX h.evi k1 k3 k4 hlen,nW h.eok _ _,fun y hy=>?_⟩
    rcases List.mem_append.1 hy with hy | hy
    · obtain ⟨t,h1,h2⟩:=h.has y hy
      refine ⟨t,W0 h1,fun hyc=>?_⟩
      obtain ⟨j1,j2,j3,j4⟩:=(hW y (hd y hy)).fld hyc
      by_cases e:x.field=y.field
      · have hxy:x=y:=by
          have a:=(hW x hx).wf.2 hc
          have b:=(hW y (hd y hy)).wf.2 hyc
          obtain ⟨xc,xt,xf⟩:=x
          obtain ⟨yc,yt,yf⟩:=y
          simp only at a b hc hyc e
          rw [a,b,hc,hyc,e]
        subst hxy
        simp only
        rw [oZ h.eok k2 k3]
        have h3:=W0 (U:=s.1) (r:=Cf w x) h1
        rw [hget] at h3
        exact Option.some.inj h3
      · simp only
        rw [kQ k2 j2 k3 j3 e]
        exact h2 hyc
    · rw [List.mem_singleton.1 hy]
      exact ⟨_,hget,fun _=>oZ h.eok k2 k3 _⟩
theorem oB {W:Wd→Prop}(hW:∀x,W x→WOK T V x){w:Wm}(hw:wGood W w):∀(ws:List Wd) {done:List Wd} {s:Ns} {b:Nat},NS T V W w done s b→b+ws.length≤1000000→(∀x∈done,W x)→(∀x∈ws,W x)→NS T V W w (done++ws) (ws.foldl (H7 w) s) (b+ws.length)
  | [],done,s,b,h,_,_,_=>by rw [List.append_nil];exact h
  | x::r,done,s,b,h,hb,hd,hx=>by
    rw [List.length_cons] at hb
    have h1:=ns_step hW hw h (by omega) hd (hx x (List.mem_cons_self ..))
    have h2:=oB hW hw r h1 (by omega) (fun y hy=>by
      rcases List.mem_append.1 hy with hy | hy
      · exact hd y hy
      · rw [List.mem_singleton.1 hy];exact hx x (List.mem_cons_self ..)) fun y hy=>hx y (List.mem_cons_of_mem _ hy)
    rw [List.append_assoc] at h2
    rw [List.foldl_cons,List.length_cons,show b+(r.length+1)=b+1+r.length by omega]
    exact h2
theorem Uy (w:Wm)(t:Tm):∀(ws:List Wd) (s:Ns),eO (ws.foldl (H7 w) s).2.2 t=eO s.2.2 t
  | [],s=>rfl
  | x::r,s=>by
    rw [List.foldl_cons,Uy w t r]
    cases hc:x.const with
    | true=>rw [Ta hc]
    | false=>rw [Sq hc];exact nm_setX _ _ _ _
end

section
variable {T:List Sc} {V:List Va}
/-! ### kinds of terms -/
abbrev Tf (T:List Sc)(V:List Va)(t:Tm):Prop:=Am T V (Hq t)=0
theorem aF (e:Ex):KOK T V e→Am T V e=0→∀{b:Int} {s:Su},(∀p∈s.ts,Tf T V p.1)→∀p∈(Bp e b s).1.ts,Tf T V p.1:=by
  refine Ex.Abb (P:=fun e=>KOK T V e→Am T V e=0→∀{b:Int} {s:Su},(∀p∈s.ts,Tf T V p.1)→∀p∈(Bp e b s).1.ts,Tf T V p.1) (fun e ih hk h0 b s hs=>?_) e
  have hz:=Be hk.nodes
  rcases Ox hz.1 with h | ⟨h,h1⟩ | ⟨h,hl⟩ | ⟨h,h1,h2,h3⟩
  · rw [Fy h];exact hs
  · rw [B8 h h1]
    intro p hp'
    have hme:Tf T V (D3 e):=by show Am T V (Hq (D3 e))=0;rw [K1 hz.1 h1];exact h0
    have key:∀{ts:List (Tm×Int)},(∀p∈ts,Tf T V p.1)→∀p∈Io (D3 e) b ts,Tf T V p.1:=by
      intro ts
      induction ts with
      | nil=>intro _ p hp';rw [Io,List.mem_singleton] at hp';rw [hp'];exact hme
      | cons q r ihr=>
        intro hts p hp'
        rw [Io] at hp'
        split at hp'
        · rcases List.mem_cons.1 hp' with rfl | hp'
          · exact hts q (List.mem_cons_self ..)
          · exact hts p (List.mem_cons_of_mem _ hp')
        · rcases List.mem_cons.1 hp' with rfl | hp'
          · exact hts p (List.mem_cons_self ..)
          · exact ihr (fun p hp'=>hts p (List.mem_cons_of_mem _ hp')) p hp'
    exact key hs p hp'
  · have m0:=A6 (show 0<e.args.length by omega)
    have m1:=Bk hl
    have k0:=S2 hk h m0
    have k1:=S2 hk h m1
    have key:∀c,∀p∈(if !(Bp (Ao e) b s).2 then ((Bp (Ao e) b s).1,false) else Bp (Bi e) c (Bp (Ao e) b s).1).1.ts,Tf T V p.1:=fun c=>by
      have i0:=ih _ m0 (A3 hk m0) k0 (b:=b) hs
      split
      · exact i0
      · exact ih _ m1 (A3 hk m1) k1 i0
    rcases h with h | h
    · rw [J9 (c:=b) hl (.inl ⟨h,rfl⟩)];exact key b
    · rw [J9 (c:=0-b) hl (.inr ⟨h,rfl⟩)];exact key _
  · rw [Gx h h1 h2 h3];exact hs
theorem Zf {a b:Ex}(ha:KOK T V a)(hb:KOK T V b)(ka:Am T V a=0)(kb:Am T V b=0):(∀t∈(Cj a b).1.plus,Tf T V t)∧∀t∈(Cj a b).1.minus,Tf T V t:=by
  have h0:(∀t∈tY.plus,Tf T V t)∧∀t∈tY.minus,Tf T V t:=⟨fun t h=>(by cases h),fun t h=>(by cases h)⟩
  unfold Cj
  split
  · exact h0
  rename_i h1
  split
  · exact h0
  have he:(Bp b (-1) (Bp a 1 Kx).1).1=Da a b:=by unfold Da;rw [if_neg h1]
  rw [he]
  have hse:∀p∈(Da a b).ts,Tf T V p.1:=by
    have q1:=aF a ha ka (b:=1) (s:=Kx) (fun p hp=>(by cases hp))
    unfold Da
    split
    · exact q1
    · exact aF b hb kb q1
  unfold Rx
  cases hp:Dv (Da a b).ts [] [] with
  | none=>exact h0
  | some p=>
    obtain ⟨p,m⟩:=p
    exact I9 (P:=Tf T V) hse (fun t h=>by cases h) (fun t h=>by cases h) hp
abbrev uH (T:List Sc)(V:List Va)(t:Tm):Prop:=Am T V (Hq t)=0∨Am T V (Hq t)=1
theorem Ze {env:List (List Ev)}(hE:EnvOK T V env){y:Lit}(hf:LitF T V y)(hn:(Aa T V y).2=true):(∀t∈(Aa T V y).1.plus,uH T V t)∧∀t∈(Aa T V y).1.minus,uH T V t:=by
  cases h:y.cond.op==1 with
  | true=>
    rw [aD h]
    refine ⟨fun t ht=>?_,fun t ht=>by cases ht⟩
    rw [List.mem_singleton.1 ht]
    right
    rw [K1 (Be hf.kok.nodes).1 (by rw [h];rfl)]
    exact hf.kind
  | false=>
    obtain ⟨hop,k0,k1,hb,he⟩:=fO hE hf h hn
    have hl:=iE hf.kok (by omega) (by omega)
    have m0:=A6 (show 0<y.cond.args.length by omega)
    have m1:=Bk (show 1<y.cond.args.length by omega)
    rw [he]
    obtain ⟨q1,q2⟩:=Zf (A3 hf.kok m0) (A3 hf.kok m1) k0 k1
    exact ⟨fun t ht=>.inl (q1 t ht),fun t ht=>.inl (q2 t ht)⟩
theorem Z7 {env:List (List Ev)}(hE:EnvOK T V env):∀{l:List Lit},(∀y∈l,LitF T V y)→∀{s:Sy},(∀t∈s.ts,uH T V t)→∀t∈(l.foldl (Df T V) s).ts,uH T V t
  | [],_,s,hs=>hs
  | c::r,hl,s,hs=>by
    rw [List.foldl_cons]
    refine Z7 hE (fun x hx=>hl x (List.mem_cons_of_mem _ hx)) ?_
    cases h : !(Aa T V c).2 with
    | true=>rw [Ly h];exact hs
    | false=>
      rw [Lq h]
      obtain ⟨h1,h2⟩:=Ze hE (hl c (List.mem_cons_self ..)) (by simpa using h)
      exact Lb (Lb hs h1) h2
theorem oO:∀{ts:List Tm} {i k:Nat} {t:Tm},ts[k]? = some t→(⟨(i:Int)+k+1,0,(C1 T V t).2⟩:Bd)∈Hn T V i ts∧(⟨0,(i:Int)+k+1,0-(C1 T V t).1⟩:Bd)∈Hn T V i ts
  | [],i,k,t,h=>by simp at h
  | u::r,i,0,t,h=>by
    simp at h;subst h
    rw [Hn,show (i:Int)+((0:Nat):Int)+1=(i:Int)+1 by omega]
    exact ⟨List.mem_cons_self ..,List.mem_cons_of_mem _ (List.mem_cons_self ..)⟩
  | u::r,i,k+1,t,h=>by
    obtain ⟨h1,h2⟩:=oO (i:=i+1) (show r[k]? = some t by simpa using h)
    rw [Hn,show (i:Int)+((k+1:Nat):Int)+1=((i+1:Nat):Int)+k+1 by omega]
    exact ⟨List.mem_cons_of_mem _ (List.mem_cons_of_mem _ h1),List.mem_cons_of_mem _ (List.mem_cons_of_mem _ h2)⟩
/-! ### what a simple literal is -/
theorem dW {y:Lit}(hf:LitF T V y)(h:B7 T V y.cond=true):(Aa T V y).2=true∨Cr T V y.cond=true:=by
  cases h1:y.cond.op==1 with
  | true=>left;rw [aD h1]
  | false=>
    cases h2 : !Cv y.cond with
    | true=>rw [gT h1 h2] at h;cases h
    | false=>
      cases h3:Cr T V y.cond with
      | true=>exact .inr rfl
      | false=>
        left
        rw [bH h1 (by rw [h2,h3];rfl)]
        unfold B7 at h
        rw [Ck h1,Ck h2,Ck h3] at h
        exact h
/-- the events of a clause that is solved and certain -/
theorem bY {l:List Lit}(hT:Ed T=0)(hty:Jv T V)(hf:∀y∈l,LitF T V y)(hk:Qq T V l=true)(hc:Lw T V l=true):EvI T V (oA T V l)∧kD (D0 (oA T V l)) l=true:=by
  have hl:=Wu hf
  obtain ⟨hfit,hlen⟩:=Pn hc
  have hlen':l.length≤256:=by have:=of_decide_eq_true hlen;omega
  have hfit':(!Ja (C9 T V l))=false:=by rw [hfit];rfl
  rw [bR hfit',Bool.and_eq_true] at hk
  obtain ⟨hstr,hok⟩:=hk
  have hE0:EnvOK T V (D0 (Hz T 0 V)):=Wg hty (oL hT)
  have hsv:Ln T V l=(Ew (C9 T V l)).values:=lJ hfit'
  have hsat:=tR (n:=zN T V l) (bs:=(C9 T V l).bs) (Px hl) hok
  have hsat1:(Ln T V l).length=zN T V l:=by rw [hsv];exact hsat.1
  have hsat2:E2 (Ln T V l) 0=0:=by rw [hsv];exact hsat.2.1
  have hsat3:∀b∈(C9 T V l).bs,Tk (E2 (Ln T V l)) b:=by rw [hsv];exact hsat.2.2
  clear hsat
  have hts:∀t∈(Ci T V l).ts,KOK T V (Hq t)∧tmOK T V t∧uH T V t:=fun t ht=>⟨(Lp hl).terms t ht,kK hl t ht,Z7 hE0 hf (s:=⟨[],[]⟩) (fun t h=>by cases h) t ht⟩
  have hlim:∀(k:Nat) (t:Tm),(Ci T V l).ts[k]? = some t→(C1 T V t).1≤E2 (Ln T V l) (((0:Nat):Int)+k+1)∧E2 (Ln T V l) (((0:Nat):Int)+k+1)≤(C1 T V t).2:=fun k t ht=>by
    obtain ⟨h1,h2⟩:=oO (T:=T) (V:=V) (i:=0) ht
    have s1:=hsat3 _ (List.mem_append_left _ h1)
    have s2:=hsat3 _ (List.mem_append_left _ h2)
    unfold Tk at s1 s2
    simp only [hsat2] at s1 s2
    omega
  have hev1:EvI T V (G4 (Ln T V l) 0 (Ci T V l).ts (Hz T 0 V)):=bL _ 0 (oL hT) (fun t ht=>⟨(hts t ht).1,(hts t ht).2.1.op,fun _=>(hts t ht).2.2⟩) hlim
  have hok1:evOK T V (G4 (Ln T V l) 0 (Ci T V l).ts (Hz T 0 V)):=fP _ 0 mS
  have hnm1:∀(k:Nat) (t:Tm),(Ci T V l).ts[k]? = some t→eO (G4 (Ln T V l) 0 (Ci T V l).ts (Hz T 0 V)) t=E2 (Ln T V l) (((0:Nat):Int)+k+1):=
    iS _ 0 mS (Zu l (by simp)) fun t ht=>⟨(hts t ht).2.1,mI (hts t ht).1⟩
  -- the words
  have hW:∀x,x∈(Hh T V l).2→WOK T V x:=fun x hx=>xC hl (fZ hx)
  have hw:wGood (fun x=>x∈(Hh T V l).2) (Ej T V l).1:=by
    refine Uk l (fun c hc hs=>?_) ⟨fun p hp=>(by cases hp),fun p hp=>(by cases hp)⟩
    obtain ⟨_,h2,h3⟩:=U9 hs
    have hS:=Wf (hl c hc).1 h2 h3
    exact ⟨Nr hc h2 h3 hS.m0,Nr hc h2 h3 hS.m1⟩
  have hcl:=Yh (T:=T) (V:=V) l hl ([],[])
  have h0:NS T V (fun x=>x∈(Hh T V l).2) (Ej T V l).1 [] ((Hh T V l).1,[],G4 (Ln T V l) 0 (Ci T V l).ts (Hz T 0 V)) 512:=
    ⟨⟨fun p hp=>(by cases hp),fun x hx hxc=>gQ l x hx hxc,fun p hp=>(by cases hp),fun p hp=>(by cases hp),fun p hp=>(by cases hp),fun p hp=>(by cases hp)⟩,by
      have:(Hh T V l).1.length≤([]:Um).length+2*l.length:=hcl.1
      simp only [List.length_nil] at this
      simp only;omega,hev1,hok1,fun x hx=>by cases hx⟩
  have hN:=oB hW hw (Hh T V l).2 h0 (by
    have:(Hh T V l).2.length≤([]:List Wd).length+2*l.length:=hcl.2
    simp only [List.length_nil] at this
    omega) (fun x hx=>by cases hx) (fun x hx=>hx)
  rw [List.nil_append] at hN
  have hev:EvI T V (oA T V l):=hN.evi
  refine ⟨hev,?_⟩
  have hE:=Wg hty hev
  have hnm:∀t,eO (oA T V l) t=eO (G4 (Ln T V l) 0 (Ci T V l).ts (Hz T 0 V)) t:=fun t=>Uy _ t _ _
  have hsg:∀x∈(Hh T V l).2,∃t,Ic ((Hh T V l).2.foldl (H7 (Ej T V l).1) ((Hh T V l).1,[],G4 (Ln T V l) 0 (Ci T V l).ts (Hz T 0 V))).2.1 (Cf (Ej T V l).1 x)=some t∧sg (D0 (oA T V l)) x=t:=fun x hx=>by
    obtain ⟨t,h1,h2⟩:=hN.has x hx
    refine ⟨t,h1,?_⟩
    unfold sg
    cases hxc:x.const with
    | true=>
      rw [if_pos rfl]
      rw [wI hw hxc] at h1
      exact (hN.ni.con _ (Tg h1) hxc).1.symm
    | false=>
      rw [if_neg (by decide)]
      obtain ⟨k1,k2,k3,k4⟩:=(hW x hx).fld hxc
      rw [(pA hE k1 k2).2 k3]
      exact h2 hxc
  -- the numbers
  have hpv:∀k:Int,0≤k→k<(C9 T V l).n→pv (T2 (D0 (oA T V l))) (Ci T V l).ts k=E2 (Ln T V l) k:=fun k k0 k1=>by
    have hn:(C9 T V l).n=((Ci T V l).ts.length:Int)+1:=rfl
    rcases Int.lt_or_le 0 k with h | h
    · obtain ⟨j,hj⟩:∃j:Nat,k=(j:Int)+1:=⟨(k-1).toNat,by omega⟩
      subst hj
      have hlt:j<(Ci T V l).ts.length:=by omega
      have hg:=List.getElem?_eq_getElem hlt
      obtain ⟨q1,q2,_⟩:=hts _ (List.mem_of_getElem? hg)
      rw [pv_at hg,(pA hE q1 q2).1,hnm,hnm1 j _ hg,show ((0:Nat):Int)+(j:Int)+1=(j:Int)+1 by omega]
    · have:k=0:=by omega
      subst this
      rw [hsat2];rfl
  have hnum:∀y∈l,(Aa T V y).2=true→On (D0 (oA T V l)) y=true:=by
    refine (oM hE hf).1 fun b hb=>?_
    have hbz:b∈(C9 T V l).bs:=List.mem_append_right _ hb
    have h1:=nJ l b hbz
    have h2:=hsat3 b hbz
    unfold Tk at h2 ⊢
    rw [hpv b.x h1.1 h1.2.1,hpv b.y h1.2.2.1 h1.2.2.2]
    exact h2
  refine List.all_eq_true.2 fun y hy=>?_
  have hsim:B7 T V y.cond=true:=by
    unfold Lw at hc
    rw [Bool.and_eq_true] at hc
    exact List.all_eq_true.1 hc.1 y hy
  rcases dW (hf y hy) hsim with h | h
  · exact hnum y hy h
  · have hS:=Wf (hf y hy).kok h hsim
    have m0:=Nr hy h hsim hS.m0
    have m1:=Nr hy h hsim hS.m1
    obtain ⟨t0,a0,b0⟩:=hsg _ m0
    obtain ⟨t1,a1,b1⟩:=hsg _ m1
    have htv:=wL hE (hf y hy).kok hS
    have hstr':=hstr
    unfold Ej at hstr'
    rw [Bool.and_eq_true] at hstr'
    unfold On
    cases hn:y.neg with
    | false=>
      have hs:Ce T V true y=true:=by unfold Ce;rw [hn,h,hsim];rfl
      have hj:Cf (Ej T V l).1 (Cb (Ao y.cond))=Cf (Ej T V l).1 (Cb (Bi y.cond)):=Rh l V9 hstr'.1 y hy hs
      rw [hj,a1] at a0
      have:tv (D0 (oA T V l)) y.cond=true:=htv.2 (by rw [b0,b1];exact (Option.some.inj a0).symm)
      rw [this];rfl
    | true=>
      have hs:Ce T V false y=true:=by unfold Ce;rw [hn,h,hsim];rfl
      have hj:Cf (Ej T V l).1 (Cb (Ao y.cond))≠Cf (Ej T V l).1 (Cb (Bi y.cond)):=Rf l hstr'.2 y hy hs
      have:tv (D0 (oA T V l)) y.cond=false:=by
        rw [Bool.eq_false_iff]
        intro e
        have h3:=htv.1 e
        rw [b0,b1] at h3
        exact hj (hN.ni.inj _ (Tg a0) _ (Tg a1) h3)
      rw [this];rfl
/-! ### the events suit -/
theorem Z8:∀{l:List Vl} {m:List Fi},(∀(k:Nat) (f:Fi),m[k]? = some f→∃w,l[k]? = some w∧mG w f.kind)→N4 l m=0
  | [],[],_=>rfl
  | [],_::_,_=>rfl
  | _::_,[],_=>rfl
  | v::r,g::s,h=>by
    obtain ⟨w,hw,hG⟩:=h 0 g rfl
    simp at hw;subst hw
    have h0:Ua v g=0:=by
      unfold Ua
      rw [if_neg (by rw [hG.2];decide),if_neg (by rw [hG.1];simp)]
    rw [N4,if_neg (by rw [h0];decide)]
    exact Z8 fun k f hf=>by
      have:=h (k+1) f (by simpa using hf)
      simpa using this
theorem mN {evs:List Ev}(hT:Ed T=0)(hty:Jv T V)(hV:V.length≤1000)(h:EvI T V evs):Iz T V evs=true:=by
 unfold Iz
 have hany:(evs.zip V).any (Qh T)=false:=by
  rw [List.any_eq_false]
  intro p hp
  obtain ⟨i,hi⟩:=List.mem_iff_getElem?.1 hp
  rw [List.getElem?_zip_eq_some] at hi
  obtain ⟨h1,h2⟩:=hi
  obtain ⟨s,hs⟩:=nI hty (List.mem_of_getElem? h2)
  obtain ⟨e,he,hG⟩:=h.at_ i p.2 s h2 hs
  rw [h1] at he;cases he
  have hi':=Bb h2
  have hty':=hty p.2 (List.mem_of_getElem? h2)
  have hsl:=Bb hs
  have hnum:Fl p.1=0:=by
   unfold Fl
   rw [hG.source,hG.seq,if_neg (by decide),if_neg ?_]
   have:=hG.t0;have:=hG.t1
   simp only [Bool.or_eq_true,decide_eq_true_eq];omega
  have hfo:E1 T p.1=s.fields:=by unfold E1;rw [hG.type,hs];rfl
  have hval:I1 T p.1=0:=by
   unfold I1
   rw [if_neg (by rw [hnum];decide),if_neg ?_,hfo,if_neg ?_]
   · exact Z8 hG.suit.2
   · rw [hG.suit.1];simp
   · rw [hG.type];simp only [Bool.or_eq_true,decide_eq_true_eq];omega
  unfold Qh F7
  rw [if_neg (by rw [hT];decide),hval,hG.type];simp
 rw [hany,Ck rfl,h.len];simp
/-- events of the scene, with their times -/
theorem env_of {l:List Ev}(h:Iz T V l=true):EnvOK T V (D0 l):=by
  refine ⟨yU h,fun x hx ev hev=>?_⟩
  obtain ⟨hl,h1⟩:=Uq h
  obtain ⟨e,he,rfl⟩:=List.mem_map.1 hx
  rw [List.mem_singleton] at hev;subst hev
  obtain ⟨i,hi⟩:=List.mem_iff_getElem?.1 he
  have hlt:=Bb hi
  obtain ⟨e',he',hc,_⟩:=h1 i (V[i]'(by omega)) (List.getElem?_eq_getElem (by omega))
  rw [hi] at he';cases he'
  have hv:=Vm hc
  unfold I1 at hv
  cases h2:(Fl ev != 0) with
  | true=>rw [if_pos h2] at hv;rw [hv] at h2;cases h2
  | false=>
    have h3:Fl ev=0:=by simpa using h2
    unfold Fl at h3
    split at h3
    · cases h3
    split at h3
    · cases h3
    · rename_i h4
      simp only [Bool.or_eq_true,decide_eq_true_eq,not_or] at h4
      omega
end

section
variable {T:List Sc} {V:List Va} {l:List Ev} {e:Ex}
/-- what the scene gives -/
structure SceneOK (T:List Sc) (V:List Va) (l:List Ev) (e:Ex):Prop where
 kc:KC T V e
 kind:Am T V e=1
 suits:E8 T V (D0 l)
theorem SceneOK.neg (h:SceneOK T V l e):C2 e=if Bx (Fk e) != 0 then (Wc,Bx (Fk e)) else (Fk e,0):=by
 unfold C2
 rw [if_neg (by rw [h.kc.check];decide)]
theorem SceneOK.negE (h:SceneOK T V l e):(C2 e).2=0∨(C2 e).2=5∨(C2 e).2=12:=by
 rw [h.neg]
 have:=qQ (oG e h.kc.kok h.kind).1.nodes
 cases h1:(Bx (Fk e) != 0) with
 | true=>rw [if_pos rfl];exact this
 | false=>rw [Ck rfl];exact .inl rfl
/-- the truth that the law's loops find -/
def litU (l:List Ev)(y:Lit):Bool:=Ks ⟨D0 l,-1,Kn⟩ y.cond != y.neg
end

section
variable {T:List Sc} {V:List Va} {env:List (List Ev)}
/-- a condition that is checked -/
structure CondOK (T:List Sc) (V:List Va) (e:Ex):Prop where
 kc:KC T V e
 kind:Am T V e=1
theorem CondOK.zero {e:Ex}(h:CondOK T V e):Ec T V e=0:=kc_cond h.kc h.kind
theorem CondOK.lits {e:Ex}(h:CondOK T V e)(s:Bool):H9 (LitF T V) (Dc T V e s):=sB h.kc.kok h.kind (It h.kc) s
theorem cond_ok {e:Ex}(h:Ec T V e=0):CondOK T V e:=by
 have:=S7 (T:=T) (V:=V) (e:=e) (by rw [h];rfl)
 exact ⟨this.1,this.2⟩
theorem lZ (h1:Ed T=0)(h2:Hy T V=0):(Dd T V (Er true)).2=0:=by
 have hc:Bx (Er true)=0:=by decide +kernel
 unfold Dd
 rw [if_neg (by rw [h1];decide),if_neg (by rw [h2];decide),if_neg (by rw [hc];decide),Ei];rfl
theorem uI {es:List Ex}(h1:Ed T=0)(h2:Hy T V=0)(hl:es.length≤256)(h:∀e∈es,CondOK T V e):Ef T V es=0:=by
 unfold Ef
 rw [if_neg (by rw [lZ h1 h2];decide),if_neg (by simp;omega)]
 exact Tn fun e he=>(h e he).zero
theorem yY (h:Hy T V=0):V.length≤16:=by
 unfold Hy at h
 split at h
 · cases h
 ·
  rename_i h1
  simp only [decide_eq_true_eq] at h1
  omega
theorem aT {P:Lit→Prop}:H9 P ([[]],true):=fun x hx y hy=>by rw [List.mem_singleton.1 hx] at hy;cases hy
theorem Yu:∀(es:List Ex) {c:Cs},H9 (LitF T V) c→(∀e∈es,CondOK T V e)→H9 (LitF T V) (Kg T V es c)
 | [],c,h,_=>h
 | e::r,c,h,he=>Yu r (c:=En c (Dc T V e true)) (Jk h ((he e (List.mem_cons_self ..)).lits true)) fun x hx=>he x (List.mem_cons_of_mem _ hx)
theorem Rp (hS:E8 T V env):∀(es:List Ex) {c:Cs},(∀e∈es,CondOK T V e)→(Kg T V es c).2=true→c.2=true∧Py env (Kg T V es c).1=(Py env c.1&&es.all (tv env))
  | [],c,_,h=>⟨h,by simp [Kg]⟩
  | e::r,c,he,h=>by
    have hk:=he e (List.mem_cons_self ..)
    obtain ⟨h1,h2⟩:=Rp hS r (c:=En c (Dc T V e true)) (fun x hx=>he x (List.mem_cons_of_mem _ hx)) h
    obtain ⟨h3,h4,h5⟩:=Oi (env:=env) h1
    refine ⟨h3,?_⟩
    show Py env (Kg T V r (En c (Dc T V e true))).1=_
    rw [h2,h5,Q6 hS e hk.kc.kok hk.kind true h4,List.all_cons]
    cases Py env c.1 <;> cases tv env e <;> rfl
theorem pW (hE:EnvOK T V env){es:List Ex}(he:∀e∈es,CondOK T V e)(ht:es.all (tv env)=true):(B5 T V (Kg T V es ([[]],true))).1≠2:=by
  cases h:(Kg T V es ([[]],true)).2 with
  | false=>rw [Yw (by rw [h];rfl)];show (0:Int)≠2;decide
  | true=>
    refine Xl hE (Yu es aT he) ?_
    rw [(Rp hE.suits es he h).2,ht];rfl
theorem Vd (hT:Ed T=0)(hty:Jv T V){c:Cs}(hf:H9 (LitF T V) c)(h:(B5 T V c).1=1):c.2=true∧EvI T V (B5 T V c).2∧Py (D0 (B5 T V c).2) c.1=true:=by
  cases h2:c.2 with
  | false=>rw [Yw (by rw [h2];rfl)] at h;exact absurd h (by decide)
  | true=>
    rw [cQ (by rw [h2];rfl)] at h ⊢
    obtain ⟨x,hx,hk,hc,he⟩:=Xc (by decide) h
    rw [he]
    obtain ⟨h3,h4⟩:=bY hT hty (hf x hx) hk hc
    exact ⟨rfl,h3,List.any_eq_true.2 ⟨x,hx,h4⟩⟩
theorem kC (hT:Ed T=0)(hty:Jv T V){es:List Ex}(he:∀e∈es,CondOK T V e)(h:(B5 T V (Kg T V es ([[]],true))).1=1) :
  EvI T V (B5 T V (Kg T V es ([[]],true))).2∧es.all (tv (D0 (B5 T V (Kg T V es ([[]],true))).2))=true:=by
 obtain ⟨h1,h2,h3⟩:=Vd hT hty (Yu es aT he) h
 refine ⟨h2,?_⟩
 rw [(Rp (P5 hty h2) es he h1).2,Bool.and_eq_true] at h3
 exact h3.2
theorem pG {a b:Ex}(ha:CondOK T V a)(hb:CondOK T V b):H9 (LitF T V) (K5 T V a b):=Jk (ha.lits true) (hb.lits false)
theorem Zo (hS:E8 T V env){a b:Ex}(ha:CondOK T V a)(hb:CondOK T V b)(h:(K5 T V a b).2=true):Py env (K5 T V a b).1=(tv env a && !tv env b):=by
 obtain ⟨h3,h4,h5⟩:=Oi (env:=env) h
 unfold K5
 rw [h5,Q6 hS a ha.kc.kok ha.kind true h3,Q6 hS b hb.kc.kok hb.kind false h4]
 cases tv env a <;> cases tv env b <;> rfl
/-- what a verdict of an implication says -/
theorem S8 {a b:Ex}(h1:Ed T=0)(h2:Hy T V=0)(ha:CondOK T V a)(hb:CondOK T V b):Ef T V [a,b]=0:=
 uI h1 h2 (by simp) fun e he=>by
  rcases List.mem_cons.1 he with rfl | he
  · exact ha
  · rw [List.mem_singleton.1 he];exact hb
theorem Xt {a b:Ex}(h0:Ef T V [a,b]=0):(Db T V a b).2=0∧((Db T V a b).1=1→(B5 T V (K5 T V a b)).1=2)∧((Db T V a b).1=2→(B5 T V (K5 T V a b)).1=1)∧((Db T V a b).1=0→(B5 T V (K5 T V a b)).1=0):=by
  have h:(Ef T V [a,b] != 0)=false:=by rw [h0];rfl
  cases h1:((B5 T V (K5 T V a b)).1==1) with
  | true=>
    rw [Imp_2 h h1]
    have:(B5 T V (K5 T V a b)).1=1:=by simpa using h1
    refine ⟨rfl,fun e=>absurd e (by decide),fun _=>this,fun e=>absurd e (by decide)⟩
  | false=>
    cases h2:((B5 T V (K5 T V a b)).1==2) with
    | true=>
      rw [Imp_3 h h1 h2]
      have:(B5 T V (K5 T V a b)).1=2:=by simpa using h2
      exact ⟨rfl,fun _=>this,fun e=>absurd e (by decide),fun e=>absurd e (by decide)⟩
    | false=>
      rw [Imp_4 h h1 h2]
      have n1:(B5 T V (K5 T V a b)).1≠1:=by simpa using h1
      have n2:(B5 T V (K5 T V a b)).1≠2:=by simpa using h2
      exact ⟨rfl,fun e=>absurd e n1,fun e=>absurd e n2,fun e=>e⟩
/-- an implication that is claimed holds for all events -/
theorem imp_yes {a b:Ex}(h1:Ed T=0)(h2:Hy T V=0)(ha:CondOK T V a)(hb:CondOK T V b)(hE:EnvOK T V env)(h:(Db T V a b).1=1)(ht:tv env a=true):tv env b=true:=by
  have hv:=(Xt (S8 h1 h2 ha hb)).2.1 h
  cases hq:tv env b with
  | true=>rfl
  | false=>
    exfalso
    cases hc:(K5 T V a b).2 with
    | false=>rw [Yw (by rw [hc];rfl)] at hv;exact absurd hv (by decide)
    | true=>
      refine Xl hE (pG ha hb) ?_ hv
      rw [Zo hE.suits ha hb hc,ht,hq];rfl
/-- an implication that is denied has events -/
theorem imp_no {a b:Ex}(h1:Ed T=0)(h2:Hy T V=0)(ha:CondOK T V a)(hb:CondOK T V b)(h:(Db T V a b).1=2):∃evs,EvI T V evs∧tv (D0 evs) a=true∧tv (D0 evs) b=false:=by
 have hv:=(Xt (S8 h1 h2 ha hb)).2.2.1 h
 obtain ⟨q1,q2,q3⟩:=Vd h1 ha.kc.kok.ty (pG ha hb) hv
 rw [Zo (P5 ha.kc.kok.ty q2) ha hb q1,Bool.and_eq_true,Bool.not_eq_true'] at q3
 exact ⟨_,q2,q3.1,q3.2⟩
/-! ### negations, disjunctions -/
theorem zP {b:Ex}(hb:CondOK T V b)(h:(C2 b).2=0):CondOK T V (C2 b).1∧∀env,E8 T V env→tv env (C2 b).1 = !tv env b:=by
  obtain ⟨k1,k2,k3⟩:=oG b hb.kc.kok hb.kind
  have hN:C2 b=if Bx (Fk b) != 0 then (Wc,Bx (Fk b)) else (Fk b,0):=by
    unfold C2
    rw [if_neg (by rw [hb.kc.check];decide)]
  rw [hN] at h ⊢
  cases h1:(Bx (Fk b) != 0) with
  | true=>rw [h1,if_pos rfl] at h;simp only at h;rw [h] at h1;cases h1
  | false=>
    rw [Ck rfl]
    exact ⟨⟨⟨k1,hb.kc.types,hb.kc.vars,by simpa using h1⟩,k2⟩,k3⟩
/-! ### the laws -/
theorem Q7 {l:List Ev}{e:Ex}(h:Pk T V l e=true):CondOK T V e∧EnvOK T V (D0 l):=by
 obtain ⟨_,_,_,h4,h5⟩:=gS h
 exact ⟨cond_ok h5,env_of h4⟩
theorem CondOK.truth {e:Ex}(h:CondOK T V e)(hS:E8 T V env):Ks ⟨env,-1,Kn⟩ e=tv env e:=uB hS h.kc.kok h.kind h.kc.check
/-- what the law Finds says -/
structure FindOK (T:List Sc) (V:List Va) (l:List Ev) (a b:Ex):Prop where
 ca:CondOK T V a
 cb:CondOK T V b
 env:EnvOK T V (D0 l)
theorem find_ok {l:List Ev}{a b:Ex}(h1:Pk T V l a=true)(h2:Pk T V l b=true):FindOK T V l a b:=⟨(Q7 h1).1,(Q7 h2).1,(Q7 h1).2⟩
section
variable {l:List Ev} {a b:Ex}
theorem FindOK.all (h:FindOK T V l a b):∀e∈[a,b],CondOK T V e:=fun e he=>by
 rcases List.mem_cons.1 he with rfl | he
 · exact h.ca
 · rw [List.mem_singleton.1 he];exact h.cb
theorem FindOK.poss (h:FindOK T V l a b):B3 T V [a,b]=((B5 T V (Kg T V [a,b] ([[]],true))).1,(B5 T V (Kg T V [a,b] ([[]],true))).2,0):=
 vZ (by rw [S8 h.ca.kc.types h.ca.kc.vars h.ca h.cb];rfl) rfl
theorem FindOK.err (h:FindOK T V l a b):(B3 T V [a,b]).2.2=0:=by rw [h.poss]
theorem FindOK.no (h:FindOK T V l a b)(hv:(B3 T V [a,b]).1=2):(Ks ⟨D0 l,-1,Kn⟩ a&&Ks ⟨D0 l,-1,Kn⟩ b)=false:=by
 rw [h.poss] at hv
 rw [h.ca.truth h.env.suits,h.cb.truth h.env.suits,Bool.eq_false_iff]
 intro ht
 refine pW h.env h.all ?_ hv
 simpa using ht
theorem FindOK.yes (h:FindOK T V l a b)(hv:(B3 T V [a,b]).1=1):Iz T V (B3 T V [a,b]).2.1=true∧(Ks ⟨D0 (B3 T V [a,b]).2.1,-1,Kn⟩ a&&Ks ⟨D0 (B3 T V [a,b]).2.1,-1,Kn⟩ b)=true:=by
 rw [h.poss] at hv ⊢
 obtain ⟨h1,h2⟩:=kC h.ca.kc.types h.ca.kc.kok.ty h.all hv
 have hS:=P5 h.ca.kc.kok.ty h1
 refine ⟨mN h.ca.kc.types h.ca.kc.kok.ty (by have:=yY h.ca.kc.vars;omega) h1,?_⟩
 simp only
 rw [h.ca.truth hS,h.cb.truth hS]
 simpa using h2
theorem FindOK.negE (h:FindOK T V l a b):(C2 b).2=0∨(C2 b).2=5∨(C2 b).2=12:=
 SceneOK.negE (l:=l) ⟨h.cb.kc,h.cb.kind,h.env.suits⟩
theorem FindOK.imp (h:FindOK T V l a b)(h0:(C2 b).2=0):(Db T V a (C2 b).1).2=0∧((B3 T V [a,b]).1=1→(Db T V a (C2 b).1).1≠1)∧((B3 T V [a,b]).1=2→(Db T V a (C2 b).1).1≠2):=by
 obtain ⟨hn,ht⟩:=zP h.cb h0
 refine ⟨(Xt (S8 h.ca.kc.types h.ca.kc.vars h.ca hn)).1,fun hv hw=>?_,fun hv hw=>?_⟩
 ·
  rw [h.poss] at hv
  obtain ⟨h1,h2⟩:=kC h.ca.kc.types h.ca.kc.kok.ty h.all hv
  have hE:=Wg h.ca.kc.kok.ty h1
  simp only [List.all_cons,List.all_nil,Bool.and_true,Bool.and_eq_true] at h2
  have h3:=imp_yes h.ca.kc.types h.ca.kc.vars h.ca hn hE hw h2.1
  rw [ht _ hE.suits,h2.2] at h3
  cases h3
 ·
  rw [h.poss] at hv
  obtain ⟨evs,h1,h2,h3⟩:=imp_no h.ca.kc.types h.ca.kc.vars h.ca hn hw
  have hE:=Wg h.ca.kc.kok.ty h1
  rw [ht _ hE.suits,Bool.not_eq_false'] at h3
  exact pW hE h.all (by simp [h2,h3]) hv
end
end

/-! ### a difference the other way round -/
def evN0 (τ:Tm→Int)(e:Ex)(vs:List Int):Int:=
 if e.op==0 then 0 else if e.op==1||e.op==2 then τ (D3 e) else if e.op==5 then Qm 0 vs+Yo 0 vs else if e.op==6 then Qm 0 vs-Yo 0 vs else 0
def evT (τ:Tm→Int):Ex→Int:=Rs (evN0 τ)
def okK (p:Tm×Int):Bool:=p.2==0||p.2==1||p.2 == -1
def posL (ts:List (Tm×Int)):List Tm:=(ts.filter fun p=>p.2==1).map (·.1)
def negL (ts:List (Tm×Int)):List Tm:=(ts.filter fun p=>p.2 == -1).map (·.1)
def ind (t:Tm):Tm→Int:=fun u=>if u=t then 1 else 0
/-! ### plain conditions have simple literals -/
section
variable {T:List Sc} {V:List Va}
/-! ### few clauses -/
abbrev half1 (n:Nat):Nat:=(n-1) / 2
end
end Go.Proofs.YtkddpedfbicbeaaGreatDoor

namespace Go.Aw
open Go

section
variable {P:Program} {T:List (Nat×TD)} {d:Option Nat} {ty:TypeId} {pos:String} {aft:Array Edge} {gd:Option (Nat×Bool)} {ρ:Operand→AV} {K:List HO→Prop}

theorem Fj {x i:Operand}{t e len:Nat}{td te:TD}{k:IntKind}{n:Int}{cs cs':List AV}(hT:Hr P T)(h:ρ x = .ptr cs)(hi:ρ i = .int k n)(ht:Bu T t=some td)(hk:td.kind = .array len e)
  (hte:Bu T e=some te) (h0:0≤n) (hc:n<len) (ho:cs.drop (n.toNat*te.size)=cs'):Dl P ⟨d,.indexAddr t x i,ty,pos,aft,gd⟩ ρ K (.ptr cs'):=
 .of_run fun g w a hr=>by
  obtain ⟨b,o,he,fv,h1,h2⟩:=(h▸hr x (by simp [Op.operands]):Rep g w _ _).inv_ptr
  have h4:=(hi▸hr i (by simp [Op.operands]):Rep g w _ _).inv_int
  have hu:=P7 (hT t td ht) hk
  refine ⟨.pointer (some ⟨b,o+n.toNat*te.size,none⟩),?_,?_⟩
  ·
   simp only [execOp,he,h4,Instr.indexAt,asIntOf,Sem.run_bind,Sem.run_pure,Result.andThen_ok,A9 hu,Instr.sureAddr]
   simp [h0,hc,Gz (hT e te hte),Hw]
  ·
   subst ho
   refine .ptr b (o+n.toNat*te.size) _ (fun j=>fv (n.toNat*te.size+j)) (fun j x hj=>?_) (fun j x hj=>?_)
   ·
    rw [List.getElem?_drop] at hj
    have:=h1 (n.toNat*te.size+j) x hj
    rwa [Nat.add_assoc]
   ·
    rw [List.getElem?_drop] at hj
    exact h2 (n.toNat*te.size+j) x hj

/-- An array behind a pointer, as a slice. -/
theorem eH {x:Operand}{t e n z:Nat}{td te:TD}{cs:List AV}{es:List (List AV)}(hT:Hr P T)(hx:ρ x = .ptr cs)(hcs:cs=es.flatten)(ht:Bu T t=some td)(hk:td.kind = .array n e)(hte:Bu T e=some te)(hz:te.size=z)
  (hl:Nat.beq es.length n=true) (hm:Nat.ble n maxLen=true) (hzs:es.all (fun e=>Nat.beq e.length z)=true) (h0:Nat.beq n 0=false):Dl P ⟨d,.slice t x none none none,ty,pos,aft,gd⟩ ρ K (.sl z es):=
 .of_run fun g w a hr=>by
  subst hcs
  obtain ⟨b,o,he,fv,h3,h4⟩:=(hx▸hr x (by simp [Op.operands]):Rep g w _ _).inv_ptr
  have hu:=P7 (hT t td ht) hk
  have hsz:=Gz (hT e te hte) w
  have hn0:n≠0:=by rintro rfl;exact absurd h0 (by decide)
  have hln:=Nat.eq_of_beq_eq_true hl
  have hz':∀e∈es,e.length=z:=fun e he=>Nat.eq_of_beq_eq_true (List.all_eq_true.1 hzs e he)
  refine ⟨.slice (some ⟨b,o,none⟩) n n,?_,.sl b o n n z es hln.symm (Nat.le_refl _) (Nat.le_of_ble_eq_true hm) hz' (fun i j=>fv (i*z+j)) (fun i e hi j x hj=>?_) (fun i e hi j x hj=>?_)⟩
  ·
   have e0:((n:Nat)=0)=False:=by simp [hn0]
   simp only [execOp,he,Instr.sliceAt,Sem.run_bind,A9 hu,Result.andThen_ok,Instr.sureAddr,Sem.run_pure,Instr.sliceBounds,Option.map_none,hsz,hn0,if_false,Nat.sub_zero,Nat.zero_mul,Hw,Nat.add_zero,e0]
  ·
   have:=h3 _ x (bV es hz' i e hi j x hj)
   rwa [←Nat.add_assoc] at this
  · exact h4 _ x (bV es hz' i e hi j x hj)
end
end Go.Aw

namespace Go.Proofs.YtkddpedfbicbeaaGreatDoor
open Go Go.Aw

section
variable {T:List Sc} {V:List Va}
theorem xR (evs:List Ev)(t:Tm)(s:Ft):(Tz evs t s).length=evs.length:=List.length_modify ..
theorem vW (evs:List Ev)(t:Tm)(x:Int):(Ql evs t x).length=evs.length:=by unfold Ql;split <;> exact List.length_modify ..
theorem aY (vals:List Int):∀(ts:List Tm) (i:Nat) (evs:List Ev),(G4 vals i ts evs).length=evs.length
 | [],i,evs=>rfl
 | t::r,i,evs=>by rw [G4,aY vals r,vW]
theorem Sf (w:Wm):∀(ws:List Wd) (s:Ns),(ws.foldl (H7 w) s).2.2.length=s.2.2.length
  | [],s=>rfl
  | x::r,s=>by
    rw [List.foldl_cons,Sf w r]
    cases hc:x.const with
    | true=>rw [Ta hc]
    | false=>rw [Sq hc];exact xR ..
theorem evC_len (c:List Lit):(oA T V c).length=V.length:=by
 show ((Hh T V c).2.foldl (H7 (Ej T V c).1) _).2.2.length=_
 rw [Sf]
 show (G4 _ 0 _ _).length=_
 rw [aY,Qd]
theorem eA:∀(l:List (List Lit)) (o:Int),(Zb T V o l).2.length≤V.length
  | [],o=>Nat.zero_le _
  | c::r,o=>by
    rw [Zb]
    split
    · exact eA r o
    split
    · show (oA T V c).length≤_;rw [evC_len];exact Nat.le_refl _
    · exact eA r 0
theorem eS (es:List Ex):(B3 T V es).2.1.length≤V.length:=by
 unfold B3
 split
 · exact Nat.zero_le _
 ·
  show (B5 T V _).2.length≤_
  unfold B5
  split
  · exact Nat.zero_le _
  · exact eA _ _
section
variable {l:List Ev} {a b:Ex}
theorem jH (h:(!Pk T V l a || !Pk T V l b)=false):FindOK T V l a b:=by
 rw [Bool.or_eq_false_iff,Bool.not_eq_false',Bool.not_eq_false'] at h
 exact find_ok h.1 h.2
def tr2 (l:List Ev)(a b:Ex):Bool:=Ks ⟨D0 l,-1,Kn⟩ a&&Ks ⟨D0 l,-1,Kn⟩ b
theorem FindOK.cond3 (h:FindOK T V l a b):((((B3 T V [a,b]).1==2)&&tr2 l a b)||(((B3 T V [a,b]).1==1)&&((!Iz T V (B3 T V [a,b]).2.1)||(!tr2 (B3 T V [a,b]).2.1 a b))))=false:=by
  rw [Bool.or_eq_false_iff]
  constructor
  · cases h1:(B3 T V [a,b]).1==2 with
    | false=>rfl
    | true=>exact h.no (by simpa using h1)
  · cases h1:(B3 T V [a,b]).1==1 with
    | false=>rfl
    | true=>
      obtain ⟨q1,q2⟩:=h.yes (by simpa using h1)
      rw [q1,show tr2 (B3 T V [a,b]).2.1 a b=true from q2];rfl
theorem FindOK.last (h:FindOK T V l a b)(h0:(C2 b).2=0):(((true&&((Db T V a (C2 b).1).2==0))&&(!(((B3 T V [a,b]).1==1)&&((Db T V a (C2 b).1).1==1))))&&(!(((B3 T V [a,b]).1==2)&&((Db T V a (C2 b).1).1==2))))=true:=by
 obtain ⟨q1,q2,q3⟩:=h.imp h0
 rw [q1]
 have e1:(((B3 T V [a,b]).1==1)&&((Db T V a (C2 b).1).1==1))=false:=by
  cases h1:(B3 T V [a,b]).1==1 with
  | false=>rfl
  | true=>have:=q2 (by simpa using h1);simpa using this
 have e2:(((B3 T V [a,b]).1==2)&&((Db T V a (C2 b).1).1==2))=false:=by
  cases h1:(B3 T V [a,b]).1==2 with
  | false=>rfl
  | true=>have:=q3 (by simpa using h1);simpa using this
 rw [e1,e2];rfl
theorem FindOK.negC (h:FindOK T V l a b)(h0:((C2 b).2 != 0)=true):(((C2 b).2==5)||((C2 b).2==12))=true:=by
 rcases h.negE with q | q | q
 · rw [q] at h0;cases h0
 · rw [q];rfl
 · rw [q];rfl
/-! ### Agrees -/
end
end
end Go.Proofs.YtkddpedfbicbeaaGreatDoor
