/-
  Several texts in one: S46, S47, S48, S38, S49, S50, Au, S51. No condition.
-/
import Derived.Test.YtkddpedfbicbeaaGreatDoorK12
import Derived.Test.YtkddpedfbicbeaaGreatDoorK11
import Derived.Test.YtkddpedfbicbeaaGreatDoorK07
set_option linter.unusedVariables false
set_option linter.unusedSimpArgs false
namespace Go.Proofs.YtkddpedfbicbeaaGreatDoor
open Go Go.Aw

/-! ### kinds of fields -/
theorem Sl:∀{l:List Fi} {seen:List (List UInt8)},Ii seen l=0→∀f∈l,0≤f.kind∧f.kind<3
  | [],_,_,f,hf=>by cases hf
  | g::r,seen,h,f,hf=>by
    rw [Ii] at h
    cases h1:(Eb seen g != 0) with
    | true=>rw [if_pos h1] at h;rw [h] at h1;cases h1
    | false=>
      rw [Ck h1] at h
      rcases List.mem_cons.1 hf with rfl | hf
      · have h2:Eb seen f=0:=by simpa using h1
        unfold Eb at h2
        split at h2
        · cases h2
        split at h2
        · cases h2
        split at h2
        · cases h2
        · rename_i h3
          simp only [Bool.or_eq_true,decide_eq_true_eq,not_or] at h3
          omega
      · exact Sl h f hf
theorem aU:∀{l:List Sc} {seen:List (List UInt8)},Jz seen l=0→∀s∈l,Il s=0
  | [],_,_,f,hf=>by cases hf
  | g::r,seen,h,s,hs=>by
    rw [Jz] at h
    cases h1:(Hw seen g != 0) with
    | true=>rw [if_pos h1] at h;rw [h] at h1;cases h1
    | false=>
      rw [Ck h1] at h
      rcases List.mem_cons.1 hs with rfl | hs
      · have h2:Hw seen s=0:=by simpa using h1
        unfold Hw at h2
        cases h3:(Il s != 0) with
        | true=>rw [if_pos h3] at h2;exact h2
        | false=>simpa using h3
      · exact aU h s hs
theorem jA {T:List Sc}(h:Ed T=0){s:Sc}(hs:s∈T){f:Fi}(hf:f∈s.fields):0≤f.kind∧f.kind<3:=by
 unfold Ed at h
 split at h
 · cases h
 have h1:=aU h s hs
 unfold Il at h1
 split at h1
 · cases h1
 split at h1
 · cases h1
 exact Sl h1 f hf
theorem tJ {k:Int}(h:0≤k∧k<3):Ap ⟨k,0,[]⟩=0:=by
 have:k=0∨k=1∨k=2:=by omega
 rcases this with rfl | rfl | rfl <;> rfl
theorem zO {w:Vl}{x:Int}(h:Ap w=0)(hk:(w.kind=0∧-1099511627776≤x∧x≤1099511627776)∨(w.kind=1∧0≤x∧x≤1)):Ap { w with num:=x }=0:=by
 have ht:w.text = []:=by
  unfold Ap at h
  rw [if_pos (by rcases hk with hk | hk <;> rw [hk.1] <;> rfl)] at h
  split at h
  · cases h
  · rename_i h1;simpa using h1
 unfold Ap Ea
 simp only [ht]
 rcases hk with ⟨h0,h1,h2⟩ | ⟨h0,h1,h2⟩
 · rw [h0];simp;omega
 ·
  rw [h0]
  have:x=0∨x=1:=by omega
  rcases this with rfl | rfl <;> rfl
theorem tG {w:Vl}{s:Fs}(h:Ap w=0)(hk:w.kind=2)(hs:s.length≤64):Ap { w with text:=s }=0:=by
 have hn:=V0 h hk
 unfold Ap Ea
 simp only [hk,hn]
 simp
 omega
section
variable {T:List Sc} {V:List Va}
/-- one event that fits its variable -/
structure EvG (i:Nat) (v:Va) (s:Sc) (e:Ev):Prop where
 source:e.source=0
 seq:e.seq=(i:Int)
 type:e.type=v.type
 t0:0≤e.time
 t1:e.time≤1099511627776
 suit:Wp s e
structure EvI (T:List Sc) (V:List Va) (evs:List Ev):Prop where
 len:evs.length=V.length
 at_:∀(i:Nat) (v:Va) (s:Sc),V[i]? = some v→T[v.type.toNat]? = some s→∃e,evs[i]? = some e∧EvG i v s e
theorem Re {evs:List Ev}(h:EvI T V evs)(j:Nat)(g:Ev→Ev)(hg:∀(v:Va) (s:Sc) (e:Ev),V[j]? = some v→T[v.type.toNat]? = some s→EvG j v s e→EvG j v s (g e)):EvI T V (evs.modify j g):=by
 refine ⟨by rw [List.length_modify];exact h.len,fun i v s hv hs=>?_⟩
 obtain ⟨e,he,hG⟩:=h.at_ i v s hv hs
 rw [List.getElem?_modify,he]
 by_cases hij:j=i
 ·
  subst hij
  exact ⟨g e,by simp,hg v s e hv hs hG⟩
 · exact ⟨e,by simp [hij],hG⟩
theorem Aad {s:Sc}{e:Ev}(h:Wp s e)(k:Nat)(f:Vl→Vl)(hf:∀(w:Vl) (fl:Fi),s.fields[k]? = some fl→mI w fl.kind→mI (f w) fl.kind):Wp s (Vy e k f):=by
 refine ⟨by rw [V2];exact h.1,fun j fl hj=>?_⟩
 obtain ⟨w,hw,hG⟩:=h.2 j fl hj
 show ∃x,(e.values.modify k f)[j]? = some x∧_
 rw [List.getElem?_modify,hw]
 by_cases hkj:k=j
 ·
  subst hkj
  exact ⟨f w,by simp,hf w fl hj hG⟩
 · exact ⟨w,by simp [hkj],hG⟩
theorem uI {j:Nat}{v:Va}{s:Sc}{e:Ev}(h:EvG j v s e)(k:Nat)(f:Vl→Vl)(hf:∀(w:Vl) (fl:Fi),s.fields[k]? = some fl→mI w fl.kind→mI (f w) fl.kind):EvG j v s (Vy e k f):=
 ⟨h.source,h.seq,h.type,h.t0,h.t1,Aad h.suit k f hf⟩
theorem wM:∀{vs:List Va} {i j:Nat} {v:Va},vs[j]? = some v→(Hx T i vs)[j]? = some (Zf T (i+j) v)
  | [],i,j,v,h=>by simp at h
  | a::r,i,0,v,h=>by simp at h;subst h;rfl
  | a::r,i,j+1,v,h=>by
    have h':r[j]? = some v:=by simpa using h
    have:=wM (i:=i+1) h'
    rw [show i+1+j=i+(j+1) by omega] at this
    exact this
theorem oW (hT:Ed T=0):EvI T V (Hx T 0 V):=by
 refine ⟨Py,fun i v s hv hs=>⟨_,wM hv,rfl,by show ((0+i:Nat):Int)=_;rw [Nat.zero_add],rfl,Int.le_refl _,by show (0:Int)≤_;decide,?_⟩⟩
 have hvals:(Zf T (0+i) v).values=s.fields.map zV:=fN hs
 refine ⟨by rw [hvals,List.length_map],fun k f hf=>?_⟩
 rw [hvals,List.getElem?_map,hf]
 exact ⟨_,rfl,rfl,tJ (jA hT (List.mem_of_getElem? hs) (List.mem_of_getElem? hf))⟩
/-- the place of a field -/
theorem U9 {t:Tm}(hk:KOK T V (Hp t))(h1:t.op=1){v:Va}{s:Sc}{fl:Fi}(hv:V[t.v.toNat]? = some v)(hs:T[v.type.toNat]? = some s)(hf:s.fields[t.field.toNat]? = some fl):Am T V (Hp t)=fl.kind:=by
 obtain ⟨v',s',f',_,e1,_,e2,_,e3,e4⟩:=mC hk h1
 have e1':V[t.v.toNat]? = some v':=e1
 rw [hv] at e1';cases e1'
 rw [hs] at e2;cases e2
 have e3':s.fields[t.field.toNat]? = some f':=e3
 rw [hf] at e3';cases e3'
 exact e4
theorem vX {evs:List Ev}(h:EvI T V evs){t:Tm}(hk:KOK T V (Hp t))(ho:t.op=1∨t.op=2)(hkind:t.op=1→Am T V (Hp t)=0∨Am T V (Hp t)=1){x:Int}(hx:(C1 T V t).1≤x∧x≤(C1 T V t).2):EvI T V (Qm evs t x):=by
  unfold Qm
  cases h2:t.op==2 with
  | true=>
    rw [if_pos rfl]
    rw [wU h2] at hx
    exact Re h _ _ fun v s e _ _ hG=>⟨hG.source,hG.seq,hG.type,hx.1,hx.2,hG.suit⟩
  | false=>
    rw [if_neg (by decide)]
    have h1 : t.op = 1 := by have : t.op ≠ 2 := by simpa using h2
                             omega
    refine Re h _ _ fun v s e hv hs hG=>uI hG _ _ fun w fl hf hw=>?_
    have hkf:=U9 hk h1 hv hs hf
    refine ⟨hw.1,zO hw.2 ?_⟩
    rw [hw.1,←hkf]
    rcases hkind h1 with h0 | h0
    · rw [uW h2 (by rw [h0];rfl)] at hx
      exact .inl ⟨h0,hx⟩
    · rw [vT h2 (by rw [h0];rfl)] at hx
      exact .inr ⟨h0,hx⟩
theorem wQ {evs:List Ev}(h:EvI T V evs){t:Tm}(hk:KOK T V (Hp t))(h1:t.op=1)(hkind:Am T V (Hp t)=2){s:Fs}(hs:s.length≤64):EvI T V (T4 evs t s):=by
 unfold T4
 refine Re h _ _ fun v sc e hv hsc hG=>uI hG _ _ fun w fl hf hw=>?_
 have hkf:=U9 hk h1 hv hsc hf
 exact ⟨hw.1,tG hw.2 (by rw [hw.1,←hkf];exact hkind) hs⟩
/-! ### what stands at a place -/
def eO (evs:List Ev)(t:Tm):Int:=if t.op==2 then ((evs[t.v.toNat]?).getD Kn).time else ((((evs[t.v.toNat]?).getD Kn).values[t.field.toNat]?).getD v0).num
def txA (evs:List Ev)(t:Tm):Fs:=((((evs[t.v.toNat]?).getD Kn).values[t.field.toNat]?).getD v0).text
theorem Ee {α:Type}(l:List α)(j i:Nat)(f:α→α)(d:α):((l.modify j f)[i]?).getD d=if j=i∧i<l.length then f ((l[i]?).getD d) else (l[i]?).getD d:=by
  rw [List.getElem?_modify]
  cases hl:l[i]? with
  | none=>
    have:¬i<l.length:=by have:=List.getElem?_eq_none_iff.1 hl;omega
    rw [if_neg (fun e=>this e.2)];rfl
  | some x=>
    have:=Bb hl
    by_cases e:j=i
    · rw [if_pos ⟨e,this⟩];simp [e]
    · rw [if_neg (fun q=>e q.1)];simp [e]
theorem nm_setX (evs:List Ev)(t u:Tm)(s:Fs):eO (T4 evs t s) u=eO evs u:=by
 unfold eO T4
 rw [Ee]
 split
 · split <;> rfl
 ·
  split
  ·
   show (((((evs[u.v.toNat]?).getD Kn).values.modify t.field.toNat _)[u.field.toNat]?).getD v0).num=_
   rw [Ee]
   split <;> rfl
  · rfl
theorem gS {evs:List Ev}(h:evOK T V evs){t:Tm}(ht:tmOK T V t)(h1:t.op=1):t.v.toNat<evs.length∧t.field.toNat<((evs[t.v.toNat]?).getD Kn).values.length:=by
 have hv:=ht.v1
 have hv0:=ht.v0
 have hf:=ht.f h1
 have hlt:t.v.toNat<evs.length:=by rw [h.len];omega
 have hg:=List.getElem?_eq_getElem hlt
 have:=h.vals t.v.toNat _ hg
 rw [Int.toNat_of_nonneg hv0] at this
 refine ⟨hlt,?_⟩
 rw [hg]
 show t.field.toNat<(evs[t.v.toNat]).values.length
 rw [this];omega
theorem oQ {evs:List Ev}(h:evOK T V evs){t:Tm}(ht:tmOK T V t)(h1:t.op=1)(s:Fs):txA (T4 evs t s) t=s:=by
 obtain ⟨hlt,hfl⟩:=gS h ht h1
 unfold txA T4
 rw [Ee,if_pos ⟨rfl,hlt⟩]
 show (((((evs[t.v.toNat]?).getD Kn).values.modify t.field.toNat _)[t.field.toNat]?).getD v0).text=_
 rw [Ee,if_pos ⟨rfl,hfl⟩]
theorem tm_eq {t u:Tm}(ht:tmOK T V t)(hu:tmOK T V u)(h1:t.op=1)(h2:u.op=1)(hv:t.v.toNat=u.v.toNat)(hf:t.field.toNat=u.field.toNat):t=u:=by
 have a:=ht.v0;have b:=hu.v0;have c:=ht.f h1;have d:=hu.f h2
 have e1:t.v=u.v:=by omega
 have e2:t.field=u.field:=by omega
 have e3:t.op=u.op:=by rw [h1,h2]
 obtain ⟨o,v,f⟩:=t
 obtain ⟨o',v',f'⟩:=u
 simp only at e1 e2 e3
 rw [e1,e2,e3]
theorem lU {evs:List Ev}{t u:Tm}(ht:tmOK T V t)(hu:tmOK T V u)(h1:t.op=1)(h2:u.op=1)(hne:t≠u)(s:Fs):txA (T4 evs t s) u=txA evs u:=by
 unfold txA T4
 rw [Ee]
 split
 ·
  rename_i h3
  show (((((evs[u.v.toNat]?).getD Kn).values.modify t.field.toNat _)[u.field.toNat]?).getD v0).text=_
  rw [Ee,if_neg (fun e=>hne (tm_eq ht hu h1 h2 h3.1 e.1))]
 · rfl
theorem eR {evs:List Ev}{t:Tm}(h:(t.op==2)=true):eO evs t=((evs[t.v.toNat]?).getD Kn).time:=if_pos h
theorem gL {evs:List Ev}{t:Tm}(h:(t.op==2)=false):eO evs t=((((evs[t.v.toNat]?).getD Kn).values[t.field.toNat]?).getD v0).num:=Ck h
theorem mG {evs:List Ev}{t:Tm}{x:Int}(h:(t.op==2)=true):Qm evs t x=evs.modify t.v.toNat (fun e=>{ e with time:=x }):=if_pos h
theorem lO {evs:List Ev}{t:Tm}{x:Int}(h:(t.op==2)=false):Qm evs t x=evs.modify t.v.toNat (fun e=>Vy e t.field.toNat fun y=>{ y with num:=x }):=Ck h
theorem nm_setN {evs:List Ev}(h:evOK T V evs){t:Tm}(ht:tmOK T V t)(x:Int):eO (Qm evs t x) t=x:=by
  cases h2:t.op==2 with
  | true=>
    have hlt:t.v.toNat<evs.length:=by have:=ht.v0;have:=ht.v1;rw [h.len];omega
    rw [eR h2,mG h2,Ee,if_pos ⟨rfl,hlt⟩]
  | false=>
    have h1 : t.op = 1 := by have : t.op ≠ 2 := by simpa using h2
                             have:=ht.op;omega
    obtain ⟨hlt,hfl⟩:=gS h ht h1
    rw [gL h2,lO h2,Ee,if_pos ⟨rfl,hlt⟩]
    show (((((evs[t.v.toNat]?).getD Kn).values.modify t.field.toNat _)[t.field.toNat]?).getD v0).num=_
    rw [Ee,if_pos ⟨rfl,hfl⟩]
theorem kQ {evs:List Ev}{t u:Tm}(ht:tmOK T V t)(hu:tmOK T V u)(ft:t.op=2→t.field=0)(fu:u.op=2→u.field=0)(hne:t≠u)(x:Int):eO (Qm evs t x) u=eO evs u:=by
  have a:=ht.v0;have b:=hu.v0
  cases h2:t.op==2 with
  | true=>
    cases h3:u.op==2 with
    | true=>
      rw [eR h3,eR h3,mG h2,Ee,if_neg ?_]
      intro q
      apply hne
      have e1:t.op=2:=by simpa using h2
      have e2:u.op=2:=by simpa using h3
      have e3:=ft e1;have e4:=fu e2
      have e5:t.v=u.v:=by have:=q.1;omega
      obtain ⟨o,v,f⟩:=t
      obtain ⟨o',v',f'⟩:=u
      simp only at e1 e2 e3 e4 e5
      rw [e1,e2,e3,e4,e5]
    | false=>
      rw [gL h3,gL h3,mG h2,Ee]
      split <;> rfl
  | false=>
    have h1 : t.op = 1 := by have : t.op ≠ 2 := by simpa using h2
                             have:=ht.op;omega
    cases h3:u.op==2 with
    | true=>
      rw [eR h3,eR h3,lO h2,Ee]
      split <;> rfl
    | false=>
      have hu1 : u.op = 1 := by have : u.op ≠ 2 := by simpa using h3
                                have:=hu.op;omega
      rw [gL h3,gL h3,lO h2,Ee]
      split
      · rename_i h4
        show (((((evs[u.v.toNat]?).getD Kn).values.modify t.field.toNat _)[u.field.toNat]?).getD v0).num=_
        rw [Ee,if_neg (fun e=>hne (tm_eq ht hu h1 hu1 h4.1 e.1))]
      · rfl
theorem mJ {t:Tm}(hk:KOK T V (Hp t))(h2:t.op=2):t.field=0:=by
 have hn:=(Be hk.nodes).1
 have ho:(Hp t).op=2:=h2
 unfold By at hn
 split at hn
 · cases hn
 split at hn
 · cases hn
 split at hn
 · cases hn
 split at hn
 · cases hn
 rw [if_neg (by rw [ho];decide)] at hn
 unfold Bm at hn
 split at hn
 · cases hn
 ·
  rename_i h3
  rw [ho] at h3
  have h4:¬(t.field≠0):=fun h=>h3 (by
   have:((Hp t).field != 0)=true:=bne_iff_ne.2 h
   rw [this];simp [Dp])
  omega
/-! ### the numbers of the model -/
theorem bB {vals:List Int}:∀(ts:List Tm) (i:Nat) {evs:List Ev},EvI T V evs→(∀t∈ts,KOK T V (Hp t)∧(t.op=1∨t.op=2)∧(t.op=1→Am T V (Hp t)=0∨Am T V (Hp t)=1))→
    (∀(k:Nat) (t:Tm),ts[k]? = some t→(C1 T V t).1≤E3 vals ((i:Int)+k+1)∧E3 vals ((i:Int)+k+1)≤(C1 T V t).2)→EvI T V (Gw vals i ts evs)
  | [],i,evs,h,_,_=>h
  | t::r,i,evs,h,hk,hx=>by
    rw [Gw]
    obtain ⟨k1,k2,k3⟩:=hk t (List.mem_cons_self ..)
    have h0:=hx 0 t rfl
    rw [show (i:Int)+((0:Nat):Int)+1=(i:Int)+1 by omega] at h0
    refine bB r (i+1) (vX h k1 k2 k3 h0) (fun u hu=>hk u (List.mem_cons_of_mem _ hu)) fun k u hu=>?_
    have:=hx (k+1) u (by simpa using hu)
    rw [show ((i+1:Nat):Int)+k+1=(i:Int)+((k+1:Nat):Int)+1 by omega]
    exact this
theorem gI {vals:List Int}:∀(ts:List Tm) (i:Nat) {evs:List Ev},evOK T V evs→evOK T V (Gw vals i ts evs)
 | [],i,evs,h=>h
 | t::r,i,evs,h=>by rw [Gw];exact gI r (i+1) (V3 h t _)
theorem fL {vals:List Int}:∀(ts:List Tm) (i:Nat) {evs:List Ev} {u:Tm},tmOK T V u→(u.op=2→u.field=0)→(∀t∈ts,tmOK T V t∧(t.op=2→t.field=0))→u∉ts→eO (Gw vals i ts evs) u=eO evs u
  | [],i,evs,u,_,_,_,_=>rfl
  | t::r,i,evs,u,hu,fu,ht,hn=>by
    obtain ⟨h1,h2⟩:=ht t (List.mem_cons_self ..)
    rw [Gw,fL r (i+1) hu fu (fun x hx=>ht x (List.mem_cons_of_mem _ hx)) (fun h=>hn (List.mem_cons_of_mem _ h))]
    exact kQ h1 hu h2 fu (fun e=>hn (by rw [e];exact List.mem_cons_self ..)) _
theorem iQ {vals:List Int}:∀(ts:List Tm) (i:Nat) {evs:List Ev},evOK T V evs→ts.Nodup→(∀t∈ts,tmOK T V t∧(t.op=2→t.field=0))→∀(k:Nat) (t:Tm),ts[k]? = some t→eO (Gw vals i ts evs) t=E3 vals ((i:Int)+k+1)
  | [],i,evs,_,_,_,k,t,h=>by simp at h
  | u::r,i,evs,he,hn,ht,0,t,h=>by
    simp at h;subst h
    obtain ⟨h1,h2⟩:=ht u (List.mem_cons_self ..)
    rw [Gw,fL r (i+1) h1 h2 (fun x hx=>ht x (List.mem_cons_of_mem _ hx)) (List.nodup_cons.1 hn).1,nm_setN he h1]
    rw [show (i:Int)+((0:Nat):Int)+1=(i:Int)+1 by omega]
  | u::r,i,evs,he,hn,ht,k+1,t,h=>by
    rw [Gw,iQ r (i+1) (V3 he u _) (List.nodup_cons.1 hn).2 (fun x hx=>ht x (List.mem_cons_of_mem _ hx)) k t (by simpa using h)]
    rw [show ((i+1:Nat):Int)+k+1=(i:Int)+((k+1:Nat):Int)+1 by omega]
theorem Uw {ts l:List Tm}(h:ts.Nodup):(A4 ts l).Nodup:=by
  cases l with
  | nil=>exact h
  | cons t r=>
    unfold A4
    simp only
    split
    · exact h
    · rename_i h1
      rw [List.nodup_append]
      refine ⟨h,by simp,fun a ha b hb e=>?_⟩
      rw [List.mem_singleton] at hb
      subst hb;subst e
      exact h1 (by simpa using ha)
theorem bF:∀(l:List Lit) {s:Sy},s.ts.Nodup→(l.foldl (Df T V) s).ts.Nodup
  | [],s,h=>h
  | c::r,s,h=>by
    rw [List.foldl_cons]
    refine bF r ?_
    cases h1 : !(Aa T V c).2 with
    | true=>rw [Lv h1];exact h
    | false=>rw [Lg h1];exact Uw (Uw h)
/-! ### what the events' values are -/
theorem P7 {evs:List Ev}(hty:Jx T V)(h:EvI T V evs):E8 T V (D2 evs):=by
 refine ⟨by simp [D2,h.len],fun i v hv=>?_⟩
 obtain ⟨s,hs⟩:=nG hty (List.mem_of_getElem? hv)
 obtain ⟨e,he,hG⟩:=h.at_ i v s hv hs
 exact ⟨s,e,hs,by simp [D2,he],hG.suit⟩
theorem Wi {evs:List Ev}(hty:Jx T V)(h:EvI T V evs):EnvOK T V (D2 evs):=by
 refine ⟨P7 hty h,fun l hl ev hev=>?_⟩
 obtain ⟨e,he,rfl⟩:=List.mem_map.1 hl
 rw [List.mem_singleton] at hev;subst hev
 obtain ⟨i,hi⟩:=List.mem_iff_getElem?.1 he
 have hlt:=Bb hi
 have hv:V[i]? = some (V[i]'(by rw [←h.len];exact hlt)):=List.getElem?_eq_getElem _
 obtain ⟨s,hs⟩:=nG hty (List.mem_of_getElem? hv)
 obtain ⟨e',he',hG⟩:=h.at_ i _ s hv hs
 rw [hi] at he';cases he'
 exact ⟨hG.t0,hG.t1⟩
theorem Aaa {evs:List Ev}{v:Int}{ev:Ev}(h0:0≤v)(h:Bv (D2 evs) v = [ev]):evs[v.toNat]? = some ev:=by
  unfold Bv at h
  split at h
  · cases h
  · rename_i h1
    cases hq:evs[v.toNat]? with
    | none=>
      have:(D2 evs)[v.toNat]? = none:=by unfold D2;rw [List.getElem?_map,hq];rfl
      rw [this] at h;cases h
    | some e=>
      have:(D2 evs)[v.toNat]? = some [e]:=by unfold D2;rw [List.getElem?_map,hq];rfl
      rw [this] at h
      have h2:[e] = [ev]:=h
      cases h2;rfl
theorem oJ {evs:List Ev}(hE:EnvOK T V (D2 evs)){t:Tm}(hk:KOK T V (Hp t))(ht:tmOK T V t):Tk (D2 evs) t=eO evs t∧(t.op=1→(vl (D2 evs) (Hp t)).text=txA evs t):=by
 obtain ⟨ev,h1,h2,h3,h4⟩:=Za hE.suits hE.small hk (show ((Hp t).op==1||(Hp t).op==2)=true by have:=ht.op;show (t.op==1||t.op==2)=true;simpa using this)
 have h5:evs[t.v.toNat]? = some ev:=Aaa ht.v0 h1
 have hv:vl (D2 evs) (Hp t)=(Lz (Hp t) ev).1:=by show (B0 _ _).1=_;rw [h4]
 unfold Tk
 rw [hv]
 unfold eO txA
 rw [h5]
 unfold Lz at h2 ⊢
 rcases ht.op with h | h
 ·
  have e1:((Hp t).op==1)=true:=by show (t.op==1)=true;simpa using h
  rw [if_pos e1] at h2 ⊢
  have e2:(t.op==2)=false:=by rw [h];rfl
  rw [e2]
  split at h2
  · cases h2
  ·
   rename_i h6
   rw [if_neg h6]
   exact ⟨rfl,fun _=>rfl⟩
 ·
  have e1:¬((Hp t).op==1)=true:=by show ¬(t.op==1)=true;rw [h];decide
  rw [if_neg e1]
  have e2:(t.op==2)=true:=by rw [h];rfl
  rw [e2]
  exact ⟨rfl,fun h1=>by omega⟩
end

/-! ### what is used -/
theorem Uc (U:Um)(n m:Fs)(b:Bool):Fj (Uj U n b) m=if n=m then b else Fj U m:=by
  unfold Uj
  induction U with
  | nil=>show Fj [(n,b)] m=_;rfl
  | cons q r ih=>
    obtain ⟨k,c⟩:=q
    rw [iJ]
    by_cases h:k=n
    · rw [if_pos h]
      subst h
      show Fj ((k,b)::r) m=_
      rw [Fj,Fj]
      by_cases h2:k=m
      · rw [if_pos h2,if_pos h2]
      · rw [if_neg h2,if_neg h2,if_neg h2]
    · rw [if_neg h]
      cases hu:iJ r n with
      | none=>
        rw [hu] at ih
        show Fj ((k,c)::(r ++ [(n,b)])) m=_
        have ih':Fj (r ++ [(n,b)]) m=if n=m then b else Fj r m:=ih
        rw [Fj,Fj,ih']
        by_cases h2:k=m
        · rw [if_pos h2,if_pos h2,if_neg (fun e=>h (h2.trans e.symm))]
        · rw [if_neg h2,if_neg h2]
      | some j=>
        rw [hu] at ih
        show Fj ((k,c)::r.modify j fun _=>(n,b)) m=_
        have ih':Fj (r.modify j fun _=>(n,b)) m=if n=m then b else Fj r m:=ih
        rw [Fj,Fj,ih']
        by_cases h2:k=m
        · rw [if_pos h2,if_pos h2,if_neg (fun e=>h (h2.trans e.symm))]
        · rw [if_neg h2,if_neg h2]
theorem Ud {U:Um}:∀(f k:Nat),(∀i,i<k→Fj U (wN i)=true)→U.length≤f+k→Fj U (wN (Tu U f k))=false∧Tu U f k≤U.length
  | 0,k,h,hl=>by
    have hk:=Pc h
    cases hq:Fj U (wN k) with
    | false=>exact ⟨hq,hk⟩
    | true=>
      have:=Pc (U:=U) (j:=k+1) (fun i hi=>by
        rcases Nat.lt_or_ge i k with h2 | h2
        · exact h i h2
        · rw [show i=k by omega];exact hq)
      omega
  | f+1,k,h,hl=>by
    cases hq:Fj U (wN k) with
    | false=>rw [pX hq];exact ⟨hq,Pc h⟩
    | true=>
      rw [pO hq]
      exact Ud f (k+1) (fun i hi=>by
        rcases Nat.lt_or_ge i k with h2 | h2
        · exact h i h2
        · rw [show i=k by omega];exact hq) (by omega)
theorem Xh (U:Um):Fj U (bP U)=false:=(Ud U.length 0 (fun i h=>absurd h (by omega)) (by omega)).1
theorem rQ {U:Um}(h:U.length≤1000000):(bP U).length≤64:=by
 have h1:=(Ud (U:=U) U.length 0 (fun i h=>absurd h (by omega)) (by omega)).2
 have h2:=Go.Lib.itoa_length_le ((Tu U U.length 0:Nat):Int) (by omega) (by omega)
 show (Go.Lib.itoa ((Tu U U.length 0:Nat):Int)).length+1≤64
 omega
/-! ### the words of a clause -/
section
variable {T:List Sc} {V:List Va}
/-- a word of an equation between strings -/
structure WordL (T:List Sc) (V:List Va) (l:List Lit) (x:Wd):Prop where
 ex:∃c∈l,Cq T V c.cond=true∧B7 T V c.cond=true∧∃a∈c.cond.args,x=Ca a
abbrev Ng (p:Um×List Wd):Prop:=∀x∈p.2,x.const=true→Fj p.1 x.text=true
theorem colA_ok {p:Um×List Wd}(h:Ng p)(a:Ex):Ng (Xt p a):=by
 intro x hx hc
 unfold Xt
 simp only
 rw [Uc]
 rcases List.mem_append.1 hx with hx | hx
 ·
  split
  · rename_i e;rw [e,h x hx hc,Bool.true_or]
  · exact h x hx hc
 ·
  rw [List.mem_singleton.1 hx] at hc ⊢
  rw [if_pos rfl,hc,Bool.or_true]
theorem Zm:∀(xs:List Ex) {p:Um×List Wd},Ng p→Ng (xs.foldl Xt p)
 | [],p,h=>h
 | a::r,p,h=>by rw [List.foldl_cons];exact Zm r (colA_ok h a)
theorem Lr:∀(xs:List Ex) (p:Um×List Wd),(xs.foldl Xt p).2=p.2++xs.map Ca
  | [],p=>by simp
  | a::r,p=>by
    rw [List.foldl_cons,Lr r]
    show (p.2 ++ [Ca a])++r.map Ca=_
    simp
theorem fY:∀(xs:List Ex) (p:Um×List Wd),(xs.foldl Xt p).1.length≤p.1.length+xs.length
  | [],p=>by simp
  | a::r,p=>by
    rw [List.foldl_cons]
    have:=fY r (Xt p a)
    have h2:=Ys p.1 (Ca a).text (Fj p.1 (Ca a).text||(Ca a).const)
    have h3:(Xt p a).1.length≤p.1.length+1:=h2
    rw [List.length_cons];omega
theorem colL_ok {p:Um×List Wd}(h:Ng p)(c:Lit):Ng (Tn T V p c):=by
 cases hc:(!Cq T V c.cond || !B7 T V c.cond) with
 | true=>rw [Td hc];exact h
 | false=>rw [Mj hc];exact Zm _ h
theorem bJ:∀(l:List Lit) {p:Um×List Wd},Ng p→Ng (l.foldl (Tn T V) p)
 | [],p,h=>h
 | c::r,p,h=>by rw [List.foldl_cons];exact bJ r (colL_ok h c)
theorem jQ (l:List Lit):Ng (Hh T V l):=bJ l (fun x hx=>by cases hx)
theorem Yr {l:List Lit}{P:Wd→Prop}(hP:∀c∈l,Cq T V c.cond=true→B7 T V c.cond=true→∀a∈c.cond.args,P (Ca a)):∀(m:List Lit) {p:Um×List Wd},(∀c∈m,c∈l)→(∀x∈p.2,P x)→∀x∈(m.foldl (Tn T V) p).2,P x
  | [],p,_,h=>h
  | c::r,p,hm,h=>by
    rw [List.foldl_cons]
    refine Yr hP r (fun x hx=>hm x (List.mem_cons_of_mem _ hx)) ?_
    cases hc:(!Cq T V c.cond || !B7 T V c.cond) with
    | true=>rw [Td hc];exact h
    | false=>
      rw [Mj hc,Lr]
      rw [Bool.or_eq_false_iff,Bool.not_eq_false',Bool.not_eq_false'] at hc
      intro x hx
      rcases List.mem_append.1 hx with hx | hx
      · exact h x hx
      · obtain ⟨a,ha,rfl⟩:=List.mem_map.1 hx
        exact hP c (hm c (List.mem_cons_self ..)) hc.1 hc.2 a ha
theorem Z5:∀(m:List Lit) (p:Um×List Wd),∀x∈p.2,x∈(m.foldl (Tn T V) p).2
  | [],p,x,h=>h
  | c::r,p,x,h=>by
    rw [List.foldl_cons]
    refine Z5 r _ x ?_
    cases hc:(!Cq T V c.cond || !B7 T V c.cond) with
    | true=>rw [Td hc];exact h
    | false=>rw [Mj hc,Lr];exact List.mem_append_left _ h
theorem iR:∀(m:List Lit) (p:Um×List Wd),∀c∈m,Cq T V c.cond=true→B7 T V c.cond=true→∀a∈c.cond.args,Ca a∈(m.foldl (Tn T V) p).2
  | [],p,c,hc,_,_,_,_=>by cases hc
  | d::r,p,c,hc,h1,h2,a,ha=>by
    rw [List.foldl_cons]
    rcases List.mem_cons.1 hc with rfl | hc
    · refine Z5 r _ _ ?_
      rw [Mj (show (!Cq T V c.cond || !B7 T V c.cond)=false by rw [h1,h2];rfl),Lr]
      exact List.mem_append_right _ (List.mem_map.2 ⟨a,ha,rfl⟩)
    · exact iR r _ c hc h1 h2 a ha
theorem Nw {l:List Lit}{c:Lit}(hc:c∈l)(h1:Cq T V c.cond=true)(h2:B7 T V c.cond=true){a:Ex}(ha:a∈c.cond.args):Ca a∈(Hh T V l).2:=iR l _ c hc h1 h2 a ha
theorem fQ {l:List Lit}{x:Wd}(hx:x∈(Hh T V l).2):WordL T V l x:=
 ⟨Yr (T:=T) (V:=V) (l:=l) (P:=fun x=>∃c∈l,Cq T V c.cond=true∧B7 T V c.cond=true∧∃a∈c.cond.args,x=Ca a) (fun c hc h1 h2 a ha=>⟨c,hc,h1,h2,a,ha,rfl⟩) l (fun _ h=>h) (fun x h=>by cases h) x hx⟩
theorem Yh:∀(m:List Lit),U4 T V m→∀(p:Um×List Wd),(m.foldl (Tn T V) p).1.length≤p.1.length+2*m.length∧(m.foldl (Tn T V) p).2.length≤p.2.length+2*m.length
  | [],_,p=>by simp
  | c::r,hl,p=>by
    rw [List.foldl_cons]
    have ih:=Yh r (fun x hx=>hl x (List.mem_cons_of_mem _ hx)) (Tn T V p c)
    rw [List.length_cons]
    cases hc:(!Cq T V c.cond || !B7 T V c.cond) with
    | true=>rw [Td hc] at ih ⊢;omega
    | false=>
      obtain ⟨h2,_⟩:=R5 (hl c (List.mem_cons_self ..)).1 hc
      rw [Mj hc] at ih ⊢
      have h3:=fY c.cond.args p
      have h4:=congrArg List.length (Lr c.cond.args p)
      rw [List.length_append,List.length_map] at h4
      omega
/-- what is known of a word -/
structure WOK (T:List Sc) (V:List Va) (x:Wd):Prop where
 wf:tZ x
 fld:x.const=false→KOK T V (Hp x.field)∧tmOK T V x.field∧x.field.op=1∧Am T V (Hp x.field)=2
 txt:x.const=true→x.text.length≤64
theorem wF {v:Vl}(h:Ap v=0)(hk:v.kind=2):v.text.length≤64:=by
 have hn:=V0 h hk
 unfold Ap Ea at h
 simp [hk,hn] at h
 omega
theorem uV {l:List Lit}(hl:U4 T V l){x:Wd}(h:WordL T V l x):WOK T V x:=by
 obtain ⟨c,hc,h1,h2,a,ha,rfl⟩:=h.ex
 have hk:=(hl c hc).1
 have hs:=Wb hk h1 h2
 have hka:=A3 hk ha
 have hkind:Am T V a=2:=by rw [Im hk hs.op ha];exact hs.k0
 have hd:(a.op==0||a.op==1)=true:=(R5 hk (show (!Cq T V c.cond || !B7 T V c.cond)=false by rw [h1,h2];rfl)).2 a ha
 have hz:=(Be hka.nodes).1
 refine ⟨eY a,fun hcf=>?_,fun hct=>?_⟩
 ·
  have h0:(a.op==0)=false:=by
   cases h0:a.op==0 with
   | false=>rfl
   | true=>rw [dJ h0] at hcf;cases hcf
  have h1':a.op=1:=by rw [h0,Bool.false_or] at hd;simpa using hd
  obtain ⟨w1,w2⟩:=oI hka hd hcf
  have e:Hp (Ca a).field=a:=by
   rw [dA h0]
   show Hp (D4 a)=a
   exact K7 hz (by rw [h1'];rfl)
  exact ⟨by rw [e];exact hka,w1,w2,by rw [e];exact hkind⟩
 ·
  have h0:(a.op==0)=true:=by
   cases h0:a.op==0 with
   | true=>rfl
   | false=>rw [dA h0] at hct;cases hct
  rw [dJ h0]
  have hv:=(H4 hz (by simpa using h0)).1
  have hvk:a.val.kind=2:=by
   unfold Am at hkind
   rw [if_pos (by rw [h0];rfl)] at hkind
   exact hkind
  show a.val.text.length≤64
  exact wF hv hvk
/-! ### naming -/
theorem Sz {N:Nm}{r:Wd}{s:Fs}(h:Ik N r=some s):(r,s)∈N:=by
  unfold Ik at h
  cases hf:N.find? fun p=>decide (p.1=r) with
  | none=>rw [hf] at h;cases h
  | some p=>
    rw [hf] at h
    have h1:=List.find?_some hf
    have h2:=List.mem_of_find?_eq_some hf
    have e1:p.1=r:=by simpa using h1
    have e2:p.2=s:=by simpa using h
    rw [←e1,←e2];exact h2
theorem sD {N:Nm}{r q:Wd}{s t:Fs}(h:Ik N r=some s):Ik (N ++ [(q,t)]) r=some s:=by
 unfold Ik at h ⊢
 rw [List.find?_append]
 cases hf:N.find? fun p=>decide (p.1=r) with
 | none=>rw [hf] at h;cases h
 | some p=>rw [hf] at h;exact h
structure NI (W:Wd→Prop) (U:Um) (N:Nm):Prop where
 used:∀p∈N,Fj U p.2=true
 texts:∀x,W x→x.const=true→Fj U x.text=true
 con:∀p∈N,p.1.const=true→p.2=p.1.text∧W p.1
 free:∀p∈N,p.1.const=false→∀x,W x→x.const=true→x.text≠p.2
 inj:∀p∈N,∀q∈N,p.2=q.2→p.1=q.1
 len:∀p∈N,p.2.length≤64
theorem wA {W:Wd→Prop}(hW:∀x,W x→WOK T V x){U:Um}{N:Nm}(h:NI W U N){r:Wd}(hr:W r)(hU:U.length≤1000000):NI W (aN U N r).1 (aN U N r).2:=by
  cases hg:Ik N r with
  | some s=>rw [dE (by rw [hg];rfl)];exact h
  | none=>
    rw [bS hg]
    have hmono:∀m,Fj U m=true→Fj (Uj U (J4 U r) true) m=true:=fun m hm=>by
      rw [Uc];split
      · rfl
      · exact hm
    have hnew:∀p∈N,p.2=J4 U r→p.1=r:=fun p hp e=>by
      unfold J4 at e
      cases hc:r.const with
      | true=>
        rw [hc,if_pos rfl] at e
        cases hpc:p.1.const with
        | true=>
          obtain ⟨c1,c2⟩:=h.con p hp hpc
          exact fX (hW _ c2).wf (hW _ hr).wf (by rw [hpc,hc];rfl) (by rw [←c1];exact e)
        | false=>exact absurd e.symm (h.free p hp hpc r hr hc)
      | false=>
        rw [hc,if_neg (by decide)] at e
        have h1:=h.used p hp
        rw [e,Xh] at h1;cases h1
    refine ⟨fun p hp=>?_,fun x hx hc=>hmono _ (h.texts x hx hc),fun p hp hc=>?_,fun p hp hc x hx hxc=>?_,fun p hp q hq e=>?_,fun p hp=>?_⟩
    · rcases List.mem_append.1 hp with hp | hp
      · exact hmono _ (h.used p hp)
      · rw [List.mem_singleton.1 hp];simp only;rw [Uc,if_pos rfl]
    · rcases List.mem_append.1 hp with hp | hp
      · exact h.con p hp hc
      · rw [List.mem_singleton.1 hp] at hc ⊢
        simp only at hc ⊢
        unfold J4
        rw [if_pos hc];exact ⟨rfl,hr⟩
    · rcases List.mem_append.1 hp with hp | hp
      · exact h.free p hp hc x hx hxc
      · rw [List.mem_singleton.1 hp] at hc ⊢
        simp only at hc ⊢
        unfold J4
        rw [if_neg (by rw [hc];decide)]
        intro e
        have h1:=h.texts x hx hxc
        rw [e,Xh] at h1;cases h1
    · rcases List.mem_append.1 hp with hp | hp <;> rcases List.mem_append.1 hq with hq | hq
      · exact h.inj p hp q hq e
      · rw [List.mem_singleton.1 hq] at e ⊢
        exact hnew p hp e
      · rw [List.mem_singleton.1 hp] at e ⊢
        exact (hnew q hq e.symm).symm
      · rw [List.mem_singleton.1 hp,List.mem_singleton.1 hq]
    · rcases List.mem_append.1 hp with hp | hp
      · exact h.len p hp
      · rw [List.mem_singleton.1 hp]
        simp only
        unfold J4
        cases hc:r.const with
        | true=>rw [if_pos rfl];exact (hW _ hr).txt hc
        | false=>rw [if_neg (by decide)];exact rQ hU
theorem Yi {U:Um}{N:Nm}{r q:Wd}{s:Fs}(h:Ik N q=some s):Ik (aN U N r).2 q=some s:=by
 cases hg:Ik N r with
 | some t=>rw [dE (by rw [hg];rfl)];exact h
 | none=>rw [bS hg];exact sD h
theorem nmT_len {W:Wd→Prop}(hW:∀x,W x→WOK T V x){U:Um}{N:Nm}(h:NI W U N){r:Wd}(hr:W r)(hU:U.length≤1000000):(nmT U N r).length≤64:=by
 have h1:=dY U N r
 exact (wA hW h hr hU).len _ (Sz h1)
/-- so far all fields of the words hold the names of their classes -/
structure NS (T:List Sc) (V:List Va) (W:Wd→Prop) (w:Wm) (done:List Wd) (s:Ns) (b:Nat):Prop where
 ni:NI W s.1 s.2.1
 ulen:s.1.length≤b
 evi:EvI T V s.2.2
 eok:evOK T V s.2.2
 has:∀x∈done,∃t,Ik s.2.1 (Cf w x)=some t∧(x.const=false→txA s.2.2 x.field=t)
theorem ns_step {W:Wd→Prop}(hW:∀x,W x→WOK T V x){w:Wm}(hw:wGood W w){done:List Wd}{s:Ns}{b:Nat}(h:NS T V W w done s b)(hb:b≤1000000)(hd:∀x∈done,W x){x:Wd}(hx:W x):NS T V W w (done ++ [x]) (Ia w s x) (b+1):=by
  have hr:=kF hw hx
  have hU:s.1.length≤1000000:=Nat.le_trans h.ulen hb
  have hni:=wA hW h.ni hr hU
  have hget:=dY s.1 s.2.1 (Cf w x)
  have hlen:=nmT_len hW h.ni hr hU
  have hul:(aN s.1 s.2.1 (Cf w x)).1.length≤b+1:=by have:=cJ s.1 s.2.1 (Cf w x);have:=h.ulen;omega
  cases hc:x.const with
  | true=>
    rw [S7 hc]
    refine ⟨hni,hul,h.evi,h.eok,fun y hy=>?_⟩
    rcases List.mem_append.1 hy with hy | hy
    · obtain ⟨t,h1,h2⟩:=h.has y hy
      exact ⟨t,Yi h1,h2⟩
    · rw [List.mem_singleton.1 hy]
      exact ⟨_,hget,fun e=>by rw [hc] at e;cases e⟩
  | false=>
    rw [S1 hc]
    obtain ⟨k1,k2,k3,k4⟩:=(hW x hx).fld hc
    refine ⟨hni,hul,wQ h.evi k1 k3 k4 hlen,nQ h.eok _ _,fun y hy=>?_⟩
    rcases List.mem_append.1 hy with hy | hy
    · obtain ⟨t,h1,h2⟩:=h.has y hy
      refine ⟨t,Yi h1,fun hyc=>?_⟩
      obtain ⟨j1,j2,j3,j4⟩:=(hW y (hd y hy)).fld hyc
      by_cases e:x.field=y.field
      · have hxy:x=y:=by
          have a:=(hW x hx).wf.2 hc
          have b:=(hW y (hd y hy)).wf.2 hyc
          obtain ⟨xc,xt,xf⟩:=x
          obtain ⟨yc,yt,yf⟩:=y
          simp only at a b hc hyc e
          rw [a,b,hc,hyc,e]
        subst hxy
        simp only
        rw [oQ h.eok k2 k3]
        have h3:=Yi (U:=s.1) (r:=Cf w x) h1
        rw [hget] at h3
        exact Option.some.inj h3
      · simp only
        rw [lU k2 j2 k3 j3 e]
        exact h2 hyc
    · rw [List.mem_singleton.1 hy]
      exact ⟨_,hget,fun _=>oQ h.eok k2 k3 _⟩
theorem nR {W:Wd→Prop}(hW:∀x,W x→WOK T V x){w:Wm}(hw:wGood W w):∀(ws:List Wd) {done:List Wd} {s:Ns} {b:Nat},NS T V W w done s b→b+ws.length≤1000000→(∀x∈done,W x)→(∀x∈ws,W x)→NS T V W w (done++ws) (ws.foldl (Ia w) s) (b+ws.length)
  | [],done,s,b,h,_,_,_=>by rw [List.append_nil];exact h
  | x::r,done,s,b,h,hb,hd,hx=>by
    rw [List.length_cons] at hb
    have h1:=ns_step hW hw h (by omega) hd (hx x (List.mem_cons_self ..))
    have h2:=nR hW hw r h1 (by omega) (fun y hy=>by
      rcases List.mem_append.1 hy with hy | hy
      · exact hd y hy
      · rw [List.mem_singleton.1 hy];exact hx x (List.mem_cons_self ..)) fun y hy=>hx y (List.mem_cons_of_mem _ hy)
    rw [List.append_assoc] at h2
    rw [List.foldl_cons,List.length_cons,show b+(r.length+1)=b+1+r.length by omega]
    exact h2
theorem Ux (w:Wm)(t:Tm):∀(ws:List Wd) (s:Ns),eO (ws.foldl (Ia w) s).2.2 t=eO s.2.2 t
  | [],s=>rfl
  | x::r,s=>by
    rw [List.foldl_cons,Ux w t r]
    cases hc:x.const with
    | true=>rw [S7 hc]
    | false=>rw [S1 hc];exact nm_setX _ _ _ _
end

section
variable {T:List Sc} {V:List Va}
/-! ### kinds of terms -/
abbrev Tf (T:List Sc)(V:List Va)(t:Tm):Prop:=Am T V (Hp t)=0
theorem Zp (e:Ex):KOK T V e→Am T V e=0→∀{b:Int} {s:Su},(∀p∈s.ts,Tf T V p.1)→∀p∈(Bp e b s).1.ts,Tf T V p.1:=by
  refine Ex.Aao (P:=fun e=>KOK T V e→Am T V e=0→∀{b:Int} {s:Su},(∀p∈s.ts,Tf T V p.1)→∀p∈(Bp e b s).1.ts,Tf T V p.1) (fun e ih hk h0 b s hs=>?_) e
  have hz:=Be hk.nodes
  rcases O7 hz.1 with h | ⟨h,h1⟩ | ⟨h,hl⟩ | ⟨h,h1,h2,h3⟩
  · rw [Fx h];exact hs
  · rw [B8 h h1]
    intro p hp'
    have hme:Tf T V (D4 e):=by show Am T V (Hp (D4 e))=0;rw [K7 hz.1 h1];exact h0
    have key:∀{ts:List (Tm×Int)},(∀p∈ts,Tf T V p.1)→∀p∈Io (D4 e) b ts,Tf T V p.1:=by
      intro ts
      induction ts with
      | nil=>intro _ p hp';rw [Io,List.mem_singleton] at hp';rw [hp'];exact hme
      | cons q r ihr=>
        intro hts p hp'
        rw [Io] at hp'
        split at hp'
        · rcases List.mem_cons.1 hp' with rfl | hp'
          · exact hts q (List.mem_cons_self ..)
          · exact hts p (List.mem_cons_of_mem _ hp')
        · rcases List.mem_cons.1 hp' with rfl | hp'
          · exact hts p (List.mem_cons_self ..)
          · exact ihr (fun p hp'=>hts p (List.mem_cons_of_mem _ hp')) p hp'
    exact key hs p hp'
  · have m0:=A6 (show 0<e.args.length by omega)
    have m1:=Bk hl
    have k0:=R0 hk h m0
    have k1:=R0 hk h m1
    have key:∀c,∀p∈(if !(Bp (Ao e) b s).2 then ((Bp (Ao e) b s).1,false) else Bp (Bi e) c (Bp (Ao e) b s).1).1.ts,Tf T V p.1:=fun c=>by
      have i0:=ih _ m0 (A3 hk m0) k0 (b:=b) hs
      split
      · exact i0
      · exact ih _ m1 (A3 hk m1) k1 i0
    rcases h with h | h
    · rw [Ka (c:=b) hl (.inl ⟨h,rfl⟩)];exact key b
    · rw [Ka (c:=0-b) hl (.inr ⟨h,rfl⟩)];exact key _
  · rw [G3 h h1 h2 h3];exact hs
theorem Zh {a b:Ex}(ha:KOK T V a)(hb:KOK T V b)(ka:Am T V a=0)(kb:Am T V b=0):(∀t∈(Ci a b).1.plus,Tf T V t)∧∀t∈(Ci a b).1.minus,Tf T V t:=by
  have h0:(∀t∈tY.plus,Tf T V t)∧∀t∈tY.minus,Tf T V t:=⟨fun t h=>(by cases h),fun t h=>(by cases h)⟩
  unfold Ci
  split
  · exact h0
  rename_i h1
  split
  · exact h0
  have he:(Bp b (-1) (Bp a 1 Kx).1).1=Da a b:=by unfold Da;rw [if_neg h1]
  rw [he]
  have hse:∀p∈(Da a b).ts,Tf T V p.1:=by
    have q1:=Zp a ha ka (b:=1) (s:=Kx) (fun p hp=>(by cases hp))
    unfold Da
    split
    · exact q1
    · exact Zp b hb kb q1
  unfold Sj
  cases hp:Dv (Da a b).ts [] [] with
  | none=>exact h0
  | some p=>
    obtain ⟨p,m⟩:=p
    exact I7 (P:=Tf T V) hse (fun t h=>by cases h) (fun t h=>by cases h) hp
abbrev vO (T:List Sc)(V:List Va)(t:Tm):Prop:=Am T V (Hp t)=0∨Am T V (Hp t)=1
theorem Zi {env:List (List Ev)}(hE:EnvOK T V env){y:Lit}(hf:LitF T V y)(hn:(Aa T V y).2=true):(∀t∈(Aa T V y).1.plus,vO T V t)∧∀t∈(Aa T V y).1.minus,vO T V t:=by
  cases h:y.cond.op==1 with
  | true=>
    rw [bA h]
    refine ⟨fun t ht=>?_,fun t ht=>by cases ht⟩
    rw [List.mem_singleton.1 ht]
    right
    rw [K7 (Be hf.kok.nodes).1 (by rw [h];rfl)]
    exact hf.kind
  | false=>
    obtain ⟨hop,k0,k1,hb,he⟩:=iZ hE hf h hn
    have hl:=gG hf.kok (by omega) (by omega)
    have m0:=A6 (show 0<y.cond.args.length by omega)
    have m1:=Bk (show 1<y.cond.args.length by omega)
    rw [he]
    obtain ⟨q1,q2⟩:=Zh (A3 hf.kok m0) (A3 hf.kok m1) k0 k1
    exact ⟨fun t ht=>.inl (q1 t ht),fun t ht=>.inl (q2 t ht)⟩
theorem Zq {env:List (List Ev)}(hE:EnvOK T V env):∀{l:List Lit},(∀y∈l,LitF T V y)→∀{s:Sy},(∀t∈s.ts,vO T V t)→∀t∈(l.foldl (Df T V) s).ts,vO T V t
  | [],_,s,hs=>hs
  | c::r,hl,s,hs=>by
    rw [List.foldl_cons]
    refine Zq hE (fun x hx=>hl x (List.mem_cons_of_mem _ hx)) ?_
    cases h : !(Aa T V c).2 with
    | true=>rw [Lv h];exact hs
    | false=>
      rw [Lg h]
      obtain ⟨h1,h2⟩:=Zi hE (hl c (List.mem_cons_self ..)) (by simpa using h)
      exact Lb (Lb hs h1) h2
theorem nA:∀{ts:List Tm} {i k:Nat} {t:Tm},ts[k]? = some t→(⟨(i:Int)+k+1,0,(C1 T V t).2⟩:Bd)∈Hn T V i ts∧(⟨0,(i:Int)+k+1,0-(C1 T V t).1⟩:Bd)∈Hn T V i ts
  | [],i,k,t,h=>by simp at h
  | u::r,i,0,t,h=>by
    simp at h;subst h
    rw [Hn,show (i:Int)+((0:Nat):Int)+1=(i:Int)+1 by omega]
    exact ⟨List.mem_cons_self ..,List.mem_cons_of_mem _ (List.mem_cons_self ..)⟩
  | u::r,i,k+1,t,h=>by
    obtain ⟨h1,h2⟩:=nA (i:=i+1) (show r[k]? = some t by simpa using h)
    rw [Hn,show (i:Int)+((k+1:Nat):Int)+1=((i+1:Nat):Int)+k+1 by omega]
    exact ⟨List.mem_cons_of_mem _ (List.mem_cons_of_mem _ h1),List.mem_cons_of_mem _ (List.mem_cons_of_mem _ h2)⟩
/-! ### what a simple literal is -/
theorem cA {y:Lit}(hf:LitF T V y)(h:B7 T V y.cond=true):(Aa T V y).2=true∨Cq T V y.cond=true:=by
  cases h1:y.cond.op==1 with
  | true=>left;rw [bA h1]
  | false=>
    cases h2 : !Cw y.cond with
    | true=>rw [iT h1 h2] at h;cases h
    | false=>
      cases h3:Cq T V y.cond with
      | true=>exact .inr rfl
      | false=>
        left
        rw [Zt h1 (by rw [h2,h3];rfl)]
        unfold B7 at h
        rw [Ck h1,Ck h2,Ck h3] at h
        exact h
/-- the events of a clause that is solved and certain -/
theorem dS {l:List Lit}(hT:Ed T=0)(hty:Jx T V)(hf:∀y∈l,LitF T V y)(hk:Qk T V l=true)(hc:Lj T V l=true):EvI T V (pW T V l)∧kD (D2 (pW T V l)) l=true:=by
  have hl:=Xp hf
  obtain ⟨hfit,hlen⟩:=P9 hc
  have hlen':l.length≤256:=by have:=of_decide_eq_true hlen;omega
  have hfit':(!I9 (C8 T V l))=false:=by rw [hfit];rfl
  rw [bY hfit',Bool.and_eq_true] at hk
  obtain ⟨hstr,hok⟩:=hk
  have hE0:EnvOK T V (D2 (Hx T 0 V)):=Wi hty (oW hT)
  have hsv:Ls T V l=(Ey (C8 T V l)).values:=kH hfit'
  have hsat:=sW (n:=zN T V l) (bs:=(C8 T V l).bs) (P8 hl) hok
  have hsat1:(Ls T V l).length=zN T V l:=by rw [hsv];exact hsat.1
  have hsat2:E3 (Ls T V l) 0=0:=by rw [hsv];exact hsat.2.1
  have hsat3:∀b∈(C8 T V l).bs,Tw (E3 (Ls T V l)) b:=by rw [hsv];exact hsat.2.2
  clear hsat
  have hts:∀t∈(Cj T V l).ts,KOK T V (Hp t)∧tmOK T V t∧vO T V t:=fun t ht=>⟨(Lx hl).terms t ht,lC hl t ht,Zq hE0 hf (s:=⟨[],[]⟩) (fun t h=>by cases h) t ht⟩
  have hlim:∀(k:Nat) (t:Tm),(Cj T V l).ts[k]? = some t→(C1 T V t).1≤E3 (Ls T V l) (((0:Nat):Int)+k+1)∧E3 (Ls T V l) (((0:Nat):Int)+k+1)≤(C1 T V t).2:=fun k t ht=>by
    obtain ⟨h1,h2⟩:=nA (T:=T) (V:=V) (i:=0) ht
    have s1:=hsat3 _ (List.mem_append_left _ h1)
    have s2:=hsat3 _ (List.mem_append_left _ h2)
    unfold Tw at s1 s2
    simp only [hsat2] at s1 s2
    omega
  have hev1:EvI T V (Gw (Ls T V l) 0 (Cj T V l).ts (Hx T 0 V)):=bB _ 0 (oW hT) (fun t ht=>⟨(hts t ht).1,(hts t ht).2.1.op,fun _=>(hts t ht).2.2⟩) hlim
  have hok1:evOK T V (Gw (Ls T V l) 0 (Cj T V l).ts (Hx T 0 V)):=gI _ 0 lZ
  have hnm1:∀(k:Nat) (t:Tm),(Cj T V l).ts[k]? = some t→eO (Gw (Ls T V l) 0 (Cj T V l).ts (Hx T 0 V)) t=E3 (Ls T V l) (((0:Nat):Int)+k+1):=
    iQ _ 0 lZ (bF l (by simp)) fun t ht=>⟨(hts t ht).2.1,mJ (hts t ht).1⟩
  -- the words
  have hW:∀x,x∈(Hh T V l).2→WOK T V x:=fun x hx=>uV hl (fQ hx)
  have hw:wGood (fun x=>x∈(Hh T V l).2) (Eh T V l).1:=by
    refine T2 l (fun c hc hs=>?_) ⟨fun p hp=>(by cases hp),fun p hp=>(by cases hp)⟩
    obtain ⟨_,h2,h3⟩:=Vj hs
    have hS:=Wb (hl c hc).1 h2 h3
    exact ⟨Nw hc h2 h3 hS.m0,Nw hc h2 h3 hS.m1⟩
  have hcl:=Yh (T:=T) (V:=V) l hl ([],[])
  have h0:NS T V (fun x=>x∈(Hh T V l).2) (Eh T V l).1 [] ((Hh T V l).1,[],Gw (Ls T V l) 0 (Cj T V l).ts (Hx T 0 V)) 512:=
    ⟨⟨fun p hp=>(by cases hp),fun x hx hxc=>jQ l x hx hxc,fun p hp=>(by cases hp),fun p hp=>(by cases hp),fun p hp=>(by cases hp),fun p hp=>(by cases hp)⟩,by
      have:(Hh T V l).1.length≤([]:Um).length+2*l.length:=hcl.1
      simp only [List.length_nil] at this
      simp only;omega,hev1,hok1,fun x hx=>by cases hx⟩
  have hN:=nR hW hw (Hh T V l).2 h0 (by
    have:(Hh T V l).2.length≤([]:List Wd).length+2*l.length:=hcl.2
    simp only [List.length_nil] at this
    omega) (fun x hx=>by cases hx) (fun x hx=>hx)
  rw [List.nil_append] at hN
  have hev:EvI T V (pW T V l):=hN.evi
  refine ⟨hev,?_⟩
  have hE:=Wi hty hev
  have hnm:∀t,eO (pW T V l) t=eO (Gw (Ls T V l) 0 (Cj T V l).ts (Hx T 0 V)) t:=fun t=>Ux _ t _ _
  have hsg:∀x∈(Hh T V l).2,∃t,Ik ((Hh T V l).2.foldl (Ia (Eh T V l).1) ((Hh T V l).1,[],Gw (Ls T V l) 0 (Cj T V l).ts (Hx T 0 V))).2.1 (Cf (Eh T V l).1 x)=some t∧sg (D2 (pW T V l)) x=t:=fun x hx=>by
    obtain ⟨t,h1,h2⟩:=hN.has x hx
    refine ⟨t,h1,?_⟩
    unfold sg
    cases hxc:x.const with
    | true=>
      rw [if_pos rfl]
      rw [xK hw hxc] at h1
      exact (hN.ni.con _ (Sz h1) hxc).1.symm
    | false=>
      rw [if_neg (by decide)]
      obtain ⟨k1,k2,k3,k4⟩:=(hW x hx).fld hxc
      rw [(oJ hE k1 k2).2 k3]
      exact h2 hxc
  -- the numbers
  have hpv:∀k:Int,0≤k→k<(C8 T V l).n→pv (Tk (D2 (pW T V l))) (Cj T V l).ts k=E3 (Ls T V l) k:=fun k k0 k1=>by
    have hn:(C8 T V l).n=((Cj T V l).ts.length:Int)+1:=rfl
    rcases Int.lt_or_le 0 k with h | h
    · obtain ⟨j,hj⟩:∃j:Nat,k=(j:Int)+1:=⟨(k-1).toNat,by omega⟩
      subst hj
      have hlt:j<(Cj T V l).ts.length:=by omega
      have hg:=List.getElem?_eq_getElem hlt
      obtain ⟨q1,q2,_⟩:=hts _ (List.mem_of_getElem? hg)
      rw [pv_at hg,(oJ hE q1 q2).1,hnm,hnm1 j _ hg,show ((0:Nat):Int)+(j:Int)+1=(j:Int)+1 by omega]
    · have:k=0:=by omega
      subst this
      rw [hsat2];rfl
  have hnum:∀y∈l,(Aa T V y).2=true→Oo (D2 (pW T V l)) y=true:=by
    refine (pP hE hf).1 fun b hb=>?_
    have hbz:b∈(C8 T V l).bs:=List.mem_append_right _ hb
    have h1:=pY l b hbz
    have h2:=hsat3 b hbz
    unfold Tw at h2 ⊢
    rw [hpv b.x h1.1 h1.2.1,hpv b.y h1.2.2.1 h1.2.2.2]
    exact h2
  refine List.all_eq_true.2 fun y hy=>?_
  have hsim:B7 T V y.cond=true:=by
    unfold Lj at hc
    rw [Bool.and_eq_true] at hc
    exact List.all_eq_true.1 hc.1 y hy
  rcases cA (hf y hy) hsim with h | h
  · exact hnum y hy h
  · have hS:=Wb (hf y hy).kok h hsim
    have m0:=Nw hy h hsim hS.m0
    have m1:=Nw hy h hsim hS.m1
    obtain ⟨t0,a0,b0⟩:=hsg _ m0
    obtain ⟨t1,a1,b1⟩:=hsg _ m1
    have htv:=vM hE (hf y hy).kok hS
    have hstr':=hstr
    unfold Eh at hstr'
    rw [Bool.and_eq_true] at hstr'
    unfold Oo
    cases hn:y.neg with
    | false=>
      have hs:Cg T V true y=true:=by unfold Cg;rw [hn,h,hsim];rfl
      have hj:Cf (Eh T V l).1 (Ca (Ao y.cond))=Cf (Eh T V l).1 (Ca (Bi y.cond)):=Q9 l V7 hstr'.1 y hy hs
      rw [hj,a1] at a0
      have:tv (D2 (pW T V l)) y.cond=true:=htv.2 (by rw [b0,b1];exact (Option.some.inj a0).symm)
      rw [this];rfl
    | true=>
      have hs:Cg T V false y=true:=by unfold Cg;rw [hn,h,hsim];rfl
      have hj:Cf (Eh T V l).1 (Ca (Ao y.cond))≠Cf (Eh T V l).1 (Ca (Bi y.cond)):=Q8 l hstr'.2 y hy hs
      have:tv (D2 (pW T V l)) y.cond=false:=by
        rw [Bool.eq_false_iff]
        intro e
        have h3:=htv.1 e
        rw [b0,b1] at h3
        exact hj (hN.ni.inj _ (Sz a0) _ (Sz a1) h3)
      rw [this];rfl
/-! ### the events suit -/
theorem aK:∀{l:List Vl} {m:List Fi},(∀(k:Nat) (f:Fi),m[k]? = some f→∃w,l[k]? = some w∧mI w f.kind)→N4 l m=0
  | [],[],_=>rfl
  | [],_::_,_=>rfl
  | _::_,[],_=>rfl
  | v::r,g::s,h=>by
    obtain ⟨w,hw,hG⟩:=h 0 g rfl
    simp at hw;subst hw
    have h0:T8 v g=0:=by
      unfold T8
      rw [if_neg (by rw [hG.2];decide),if_neg (by rw [hG.1];simp)]
    rw [N4,if_neg (by rw [h0];decide)]
    exact aK fun k f hf=>by
      have:=h (k+1) f (by simpa using hf)
      simpa using this
theorem lL {evs:List Ev}(hT:Ed T=0)(hty:Jx T V)(hV:V.length≤1000)(h:EvI T V evs):Iz T V evs=true:=by
 unfold Iz
 have hany:(evs.zip V).any (Ps T)=false:=by
  rw [List.any_eq_false]
  intro p hp
  obtain ⟨i,hi⟩:=List.mem_iff_getElem?.1 hp
  rw [List.getElem?_zip_eq_some] at hi
  obtain ⟨h1,h2⟩:=hi
  obtain ⟨s,hs⟩:=nG hty (List.mem_of_getElem? h2)
  obtain ⟨e,he,hG⟩:=h.at_ i p.2 s h2 hs
  rw [h1] at he;cases he
  have hi':=Bb h2
  have hty':=hty p.2 (List.mem_of_getElem? h2)
  have hsl:=Bb hs
  have hnum:Fl p.1=0:=by
   unfold Fl
   rw [hG.source,hG.seq,if_neg (by decide),if_neg ?_]
   have:=hG.t0;have:=hG.t1
   simp only [Bool.or_eq_true,decide_eq_true_eq];omega
  have hfo:E1 T p.1=s.fields:=by unfold E1;rw [hG.type,hs];rfl
  have hval:Iy T p.1=0:=by
   unfold Iy
   rw [if_neg (by rw [hnum];decide),if_neg ?_,hfo,if_neg ?_]
   · exact aK hG.suit.2
   · rw [hG.suit.1];simp
   · rw [hG.type];simp only [Bool.or_eq_true,decide_eq_true_eq];omega
  unfold Ps F4
  rw [if_neg (by rw [hT];decide),hval,hG.type];simp
 rw [hany,Ck rfl,h.len];simp
/-- events of the scene, with their times -/
theorem env_of {l:List Ev}(h:Iz T V l=true):EnvOK T V (D2 l):=by
  refine ⟨zF h,fun x hx ev hev=>?_⟩
  obtain ⟨hl,h1⟩:=Uo h
  obtain ⟨e,he,rfl⟩:=List.mem_map.1 hx
  rw [List.mem_singleton] at hev;subst hev
  obtain ⟨i,hi⟩:=List.mem_iff_getElem?.1 he
  have hlt:=Bb hi
  obtain ⟨e',he',hc,_⟩:=h1 i (V[i]'(by omega)) (List.getElem?_eq_getElem (by omega))
  rw [hi] at he';cases he'
  have hv:=U7 hc
  unfold Iy at hv
  cases h2:(Fl ev != 0) with
  | true=>rw [if_pos h2] at hv;rw [hv] at h2;cases h2
  | false=>
    have h3:Fl ev=0:=by simpa using h2
    unfold Fl at h3
    split at h3
    · cases h3
    split at h3
    · cases h3
    · rename_i h4
      simp only [Bool.or_eq_true,decide_eq_true_eq,not_or] at h4
      omega
end

section
variable {T:List Sc} {V:List Va} {l:List Ev} {e:Ex}
/-- what the scene gives -/
structure SceneOK (T:List Sc) (V:List Va) (l:List Ev) (e:Ex):Prop where
 kc:KC T V e
 kind:Am T V e=1
 suits:E8 T V (D2 l)
theorem SceneOK.neg (h:SceneOK T V l e):C2 e=if Bx (Fh e) != 0 then (Wh,Bx (Fh e)) else (Fh e,0):=by
 unfold C2
 rw [if_neg (by rw [h.kc.check];decide)]
theorem SceneOK.negE (h:SceneOK T V l e):(C2 e).2=0∨(C2 e).2=5∨(C2 e).2=12:=by
 rw [h.neg]
 have:=sN (pV e h.kc.kok h.kind).1.nodes
 cases h1:(Bx (Fh e) != 0) with
 | true=>rw [if_pos rfl];exact this
 | false=>rw [Ck rfl];exact .inl rfl
/-- the truth that the law's loops find -/
def litU (l:List Ev)(y:Lit):Bool:=Kr ⟨D2 l,-1,Kn⟩ y.cond != y.neg
end

section
variable {T:List Sc} {V:List Va} {env:List (List Ev)}
/-- a condition that is checked -/
structure CondOK (T:List Sc) (V:List Va) (e:Ex):Prop where
 kc:KC T V e
 kind:Am T V e=1
theorem CondOK.zero {e:Ex}(h:CondOK T V e):Ec T V e=0:=kc_cond h.kc h.kind
theorem CondOK.lits {e:Ex}(h:CondOK T V e)(s:Bool):H9 (LitF T V) (Db T V e s):=tL h.kc.kok h.kind (Ir h.kc) s
theorem cond_ok {e:Ex}(h:Ec T V e=0):CondOK T V e:=by
 have:=R7 (T:=T) (V:=V) (e:=e) (by rw [h];rfl)
 exact ⟨this.1,this.2⟩
theorem lS (h1:Ed T=0)(h2:H1 T V=0):(Dd T V (Er true)).2=0:=by
 have hc:Bx (Er true)=0:=by decide +kernel
 unfold Dd
 rw [if_neg (by rw [h1];decide),if_neg (by rw [h2];decide),if_neg (by rw [hc];decide),Eg];rfl
theorem yG {es:List Ex}(h1:Ed T=0)(h2:H1 T V=0)(hl:es.length≤256)(h:∀e∈es,CondOK T V e):Ei T V es=0:=by
 unfold Ei
 rw [if_neg (by rw [lS h1 h2];decide),if_neg (by simp;omega)]
 exact Un fun e he=>(h e he).zero
theorem xE (h:H1 T V=0):V.length≤16:=by
 unfold H1 at h
 split at h
 · cases h
 ·
  rename_i h1
  simp only [decide_eq_true_eq] at h1
  omega
theorem aI {P:Lit→Prop}:H9 P ([[]],true):=fun x hx y hy=>by rw [List.mem_singleton.1 hx] at hy;cases hy
theorem Yb:∀(es:List Ex) {c:Cs},H9 (LitF T V) c→(∀e∈es,CondOK T V e)→H9 (LitF T V) (Kh T V es c)
 | [],c,h,_=>h
 | e::r,c,h,he=>Yb r (c:=En c (Db T V e true)) (Jk h ((he e (List.mem_cons_self ..)).lits true)) fun x hx=>he x (List.mem_cons_of_mem _ hx)
theorem Rk (hS:E8 T V env):∀(es:List Ex) {c:Cs},(∀e∈es,CondOK T V e)→(Kh T V es c).2=true→c.2=true∧Pq env (Kh T V es c).1=(Pq env c.1&&es.all (tv env))
  | [],c,_,h=>⟨h,by simp [Kh]⟩
  | e::r,c,he,h=>by
    have hk:=he e (List.mem_cons_self ..)
    obtain ⟨h1,h2⟩:=Rk hS r (c:=En c (Db T V e true)) (fun x hx=>he x (List.mem_cons_of_mem _ hx)) h
    obtain ⟨h3,h4,h5⟩:=O5 (env:=env) h1
    refine ⟨h3,?_⟩
    show Pq env (Kh T V r (En c (Db T V e true))).1=_
    rw [h2,h5,Rh hS e hk.kc.kok hk.kind true h4,List.all_cons]
    cases Pq env c.1 <;> cases tv env e <;> rfl
theorem nP (hE:EnvOK T V env){es:List Ex}(he:∀e∈es,CondOK T V e)(ht:es.all (tv env)=true):(B5 T V (Kh T V es ([[]],true))).1≠2:=by
  cases h:(Kh T V es ([[]],true)).2 with
  | false=>rw [Yq (by rw [h];rfl)];show (0:Int)≠2;decide
  | true=>
    refine Ws hE (Yb es aI he) ?_
    rw [(Rk hE.suits es he h).2,ht];rfl
theorem U3 (hT:Ed T=0)(hty:Jx T V){c:Cs}(hf:H9 (LitF T V) c)(h:(B5 T V c).1=1):c.2=true∧EvI T V (B5 T V c).2∧Pq (D2 (B5 T V c).2) c.1=true:=by
  cases h2:c.2 with
  | false=>rw [Yq (by rw [h2];rfl)] at h;exact absurd h (by decide)
  | true=>
    rw [cN (by rw [h2];rfl)] at h ⊢
    obtain ⟨x,hx,hk,hc,he⟩:=Xo (by decide) h
    rw [he]
    obtain ⟨h3,h4⟩:=dS hT hty (hf x hx) hk hc
    exact ⟨rfl,h3,List.any_eq_true.2 ⟨x,hx,h4⟩⟩
theorem jT (hT:Ed T=0)(hty:Jx T V){es:List Ex}(he:∀e∈es,CondOK T V e)(h:(B5 T V (Kh T V es ([[]],true))).1=1) :
  EvI T V (B5 T V (Kh T V es ([[]],true))).2∧es.all (tv (D2 (B5 T V (Kh T V es ([[]],true))).2))=true:=by
 obtain ⟨h1,h2,h3⟩:=U3 hT hty (Yb es aI he) h
 refine ⟨h2,?_⟩
 rw [(Rk (P7 hty h2) es he h1).2,Bool.and_eq_true] at h3
 exact h3.2
theorem oY {a b:Ex}(ha:CondOK T V a)(hb:CondOK T V b):H9 (LitF T V) (K8 T V a b):=Jk (ha.lits true) (hb.lits false)
theorem aQ (hS:E8 T V env){a b:Ex}(ha:CondOK T V a)(hb:CondOK T V b)(h:(K8 T V a b).2=true):Pq env (K8 T V a b).1=(tv env a && !tv env b):=by
 obtain ⟨h3,h4,h5⟩:=O5 (env:=env) h
 unfold K8
 rw [h5,Rh hS a ha.kc.kok ha.kind true h3,Rh hS b hb.kc.kok hb.kind false h4]
 cases tv env a <;> cases tv env b <;> rfl
/-- what a verdict of an implication says -/
theorem Sd {a b:Ex}(h1:Ed T=0)(h2:H1 T V=0)(ha:CondOK T V a)(hb:CondOK T V b):Ei T V [a,b]=0:=
 yG h1 h2 (by simp) fun e he=>by
  rcases List.mem_cons.1 he with rfl | he
  · exact ha
  · rw [List.mem_singleton.1 he];exact hb
theorem Wq {a b:Ex}(h0:Ei T V [a,b]=0):(Dc T V a b).2=0∧((Dc T V a b).1=1→(B5 T V (K8 T V a b)).1=2)∧((Dc T V a b).1=2→(B5 T V (K8 T V a b)).1=1)∧((Dc T V a b).1=0→(B5 T V (K8 T V a b)).1=0):=by
  have h:(Ei T V [a,b] != 0)=false:=by rw [h0];rfl
  cases h1:((B5 T V (K8 T V a b)).1==1) with
  | true=>
    rw [Imp_2 h h1]
    have:(B5 T V (K8 T V a b)).1=1:=by simpa using h1
    refine ⟨rfl,fun e=>absurd e (by decide),fun _=>this,fun e=>absurd e (by decide)⟩
  | false=>
    cases h2:((B5 T V (K8 T V a b)).1==2) with
    | true=>
      rw [Imp_3 h h1 h2]
      have:(B5 T V (K8 T V a b)).1=2:=by simpa using h2
      exact ⟨rfl,fun _=>this,fun e=>absurd e (by decide),fun e=>absurd e (by decide)⟩
    | false=>
      rw [Imp_4 h h1 h2]
      have n1:(B5 T V (K8 T V a b)).1≠1:=by simpa using h1
      have n2:(B5 T V (K8 T V a b)).1≠2:=by simpa using h2
      exact ⟨rfl,fun e=>absurd e n1,fun e=>absurd e n2,fun e=>e⟩
/-- an implication that is claimed holds for all events -/
theorem imp_yes {a b:Ex}(h1:Ed T=0)(h2:H1 T V=0)(ha:CondOK T V a)(hb:CondOK T V b)(hE:EnvOK T V env)(h:(Dc T V a b).1=1)(ht:tv env a=true):tv env b=true:=by
  have hv:=(Wq (Sd h1 h2 ha hb)).2.1 h
  cases hq:tv env b with
  | true=>rfl
  | false=>
    exfalso
    cases hc:(K8 T V a b).2 with
    | false=>rw [Yq (by rw [hc];rfl)] at hv;exact absurd hv (by decide)
    | true=>
      refine Ws hE (oY ha hb) ?_ hv
      rw [aQ hE.suits ha hb hc,ht,hq];rfl
/-- an implication that is denied has events -/
theorem imp_no {a b:Ex}(h1:Ed T=0)(h2:H1 T V=0)(ha:CondOK T V a)(hb:CondOK T V b)(h:(Dc T V a b).1=2):∃evs,EvI T V evs∧tv (D2 evs) a=true∧tv (D2 evs) b=false:=by
 have hv:=(Wq (Sd h1 h2 ha hb)).2.2.1 h
 obtain ⟨q1,q2,q3⟩:=U3 h1 ha.kc.kok.ty (oY ha hb) hv
 rw [aQ (P7 ha.kc.kok.ty q2) ha hb q1,Bool.and_eq_true,Bool.not_eq_true'] at q3
 exact ⟨_,q2,q3.1,q3.2⟩
/-! ### negations, disjunctions -/
theorem xX {b:Ex}(hb:CondOK T V b)(h:(C2 b).2=0):CondOK T V (C2 b).1∧∀env,E8 T V env→tv env (C2 b).1 = !tv env b:=by
  obtain ⟨k1,k2,k3⟩:=pV b hb.kc.kok hb.kind
  have hN:C2 b=if Bx (Fh b) != 0 then (Wh,Bx (Fh b)) else (Fh b,0):=by
    unfold C2
    rw [if_neg (by rw [hb.kc.check];decide)]
  rw [hN] at h ⊢
  cases h1:(Bx (Fh b) != 0) with
  | true=>rw [h1,if_pos rfl] at h;simp only at h;rw [h] at h1;cases h1
  | false=>
    rw [Ck rfl]
    exact ⟨⟨⟨k1,hb.kc.types,hb.kc.vars,by simpa using h1⟩,k2⟩,k3⟩
/-! ### the laws -/
theorem Q7 {l:List Ev}{e:Ex}(h:Oh T V l e=true):CondOK T V e∧EnvOK T V (D2 l):=by
 obtain ⟨_,_,_,h4,h5⟩:=eP h
 exact ⟨cond_ok h5,env_of h4⟩
theorem CondOK.truth {e:Ex}(h:CondOK T V e)(hS:E8 T V env):Kr ⟨env,-1,Kn⟩ e=tv env e:=vI hS h.kc.kok h.kind h.kc.check
/-- what the law Finds says -/
structure FindOK (T:List Sc) (V:List Va) (l:List Ev) (a b:Ex):Prop where
 ca:CondOK T V a
 cb:CondOK T V b
 env:EnvOK T V (D2 l)
theorem find_ok {l:List Ev}{a b:Ex}(h1:Oh T V l a=true)(h2:Oh T V l b=true):FindOK T V l a b:=⟨(Q7 h1).1,(Q7 h2).1,(Q7 h1).2⟩
section
variable {l:List Ev} {a b:Ex}
theorem FindOK.all (h:FindOK T V l a b):∀e∈[a,b],CondOK T V e:=fun e he=>by
 rcases List.mem_cons.1 he with rfl | he
 · exact h.ca
 · rw [List.mem_singleton.1 he];exact h.cb
theorem FindOK.poss (h:FindOK T V l a b):B3 T V [a,b]=((B5 T V (Kh T V [a,b] ([[]],true))).1,(B5 T V (Kh T V [a,b] ([[]],true))).2,0):=
 xR (by rw [Sd h.ca.kc.types h.ca.kc.vars h.ca h.cb];rfl) rfl
theorem FindOK.err (h:FindOK T V l a b):(B3 T V [a,b]).2.2=0:=by rw [h.poss]
theorem FindOK.no (h:FindOK T V l a b)(hv:(B3 T V [a,b]).1=2):(Kr ⟨D2 l,-1,Kn⟩ a&&Kr ⟨D2 l,-1,Kn⟩ b)=false:=by
 rw [h.poss] at hv
 rw [h.ca.truth h.env.suits,h.cb.truth h.env.suits,Bool.eq_false_iff]
 intro ht
 refine nP h.env h.all ?_ hv
 simpa using ht
theorem FindOK.yes (h:FindOK T V l a b)(hv:(B3 T V [a,b]).1=1):Iz T V (B3 T V [a,b]).2.1=true∧(Kr ⟨D2 (B3 T V [a,b]).2.1,-1,Kn⟩ a&&Kr ⟨D2 (B3 T V [a,b]).2.1,-1,Kn⟩ b)=true:=by
 rw [h.poss] at hv ⊢
 obtain ⟨h1,h2⟩:=jT h.ca.kc.types h.ca.kc.kok.ty h.all hv
 have hS:=P7 h.ca.kc.kok.ty h1
 refine ⟨lL h.ca.kc.types h.ca.kc.kok.ty (by have:=xE h.ca.kc.vars;omega) h1,?_⟩
 simp only
 rw [h.ca.truth hS,h.cb.truth hS]
 simpa using h2
theorem FindOK.negE (h:FindOK T V l a b):(C2 b).2=0∨(C2 b).2=5∨(C2 b).2=12:=
 SceneOK.negE (l:=l) ⟨h.cb.kc,h.cb.kind,h.env.suits⟩
theorem FindOK.imp (h:FindOK T V l a b)(h0:(C2 b).2=0):(Dc T V a (C2 b).1).2=0∧((B3 T V [a,b]).1=1→(Dc T V a (C2 b).1).1≠1)∧((B3 T V [a,b]).1=2→(Dc T V a (C2 b).1).1≠2):=by
 obtain ⟨hn,ht⟩:=xX h.cb h0
 refine ⟨(Wq (Sd h.ca.kc.types h.ca.kc.vars h.ca hn)).1,fun hv hw=>?_,fun hv hw=>?_⟩
 ·
  rw [h.poss] at hv
  obtain ⟨h1,h2⟩:=jT h.ca.kc.types h.ca.kc.kok.ty h.all hv
  have hE:=Wi h.ca.kc.kok.ty h1
  simp only [List.all_cons,List.all_nil,Bool.and_true,Bool.and_eq_true] at h2
  have h3:=imp_yes h.ca.kc.types h.ca.kc.vars h.ca hn hE hw h2.1
  rw [ht _ hE.suits,h2.2] at h3
  cases h3
 ·
  rw [h.poss] at hv
  obtain ⟨evs,h1,h2,h3⟩:=imp_no h.ca.kc.types h.ca.kc.vars h.ca hn hw
  have hE:=Wi h.ca.kc.kok.ty h1
  rw [ht _ hE.suits,Bool.not_eq_false'] at h3
  exact nP hE h.all (by simp [h2,h3]) hv
end
end

/-! ### a difference the other way round -/
def evN0 (τ:Tm→Int)(e:Ex)(vs:List Int):Int:=
 if e.op==0 then 0 else if e.op==1||e.op==2 then τ (D4 e) else if e.op==5 then Ql 0 vs+Ye 0 vs else if e.op==6 then Ql 0 vs-Ye 0 vs else 0
def evT (τ:Tm→Int):Ex→Int:=Rt (evN0 τ)
def okK (p:Tm×Int):Bool:=p.2==0||p.2==1||p.2 == -1
def posL (ts:List (Tm×Int)):List Tm:=(ts.filter fun p=>p.2==1).map (·.1)
def negL (ts:List (Tm×Int)):List Tm:=(ts.filter fun p=>p.2 == -1).map (·.1)
def ind (t:Tm):Tm→Int:=fun u=>if u=t then 1 else 0
/-! ### plain conditions have simple literals -/
section
variable {T:List Sc} {V:List Va}
/-! ### few clauses -/
abbrev half1 (n:Nat):Nat:=(n-1) / 2
end
end Go.Proofs.YtkddpedfbicbeaaGreatDoor

namespace Go.Aw
open Go

section
variable {P:Program} {T:List (Nat×TD)} {d:Option Nat} {ty:TypeId} {pos:String} {aft:Array Edge} {gd:Option (Nat×Bool)} {ρ:Operand→AV} {K:List HO→Prop}

theorem Fk {x i:Operand}{t e len:Nat}{td te:TD}{k:IntKind}{n:Int}{cs cs':List AV}(hT:Hu P T)(h:ρ x = .ptr cs)(hi:ρ i = .int k n)(ht:Bu T t=some td)(hk:td.kind = .array len e)
  (hte:Bu T e=some te) (h0:0≤n) (hc:n<len) (ho:cs.drop (n.toNat*te.size)=cs'):Dk P ⟨d,.indexAddr t x i,ty,pos,aft,gd⟩ ρ K (.ptr cs'):=
 .of_run fun g w a hr=>by
  obtain ⟨b,o,he,fv,h1,h2⟩:=(h▸hr x (by simp [Op.operands]):Rep g w _ _).inv_ptr
  have h4:=(hi▸hr i (by simp [Op.operands]):Rep g w _ _).inv_int
  have hu:=Pn (hT t td ht) hk
  refine ⟨.pointer (some ⟨b,o+n.toNat*te.size,none⟩),?_,?_⟩
  ·
   simp only [execOp,he,h4,Instr.indexAt,asIntOf,Sem.run_bind,Sem.run_pure,Result.andThen_ok,A9 hu,Instr.sureAddr]
   simp [h0,hc,Gy (hT e te hte),Hy]
  ·
   subst ho
   refine .ptr b (o+n.toNat*te.size) _ (fun j=>fv (n.toNat*te.size+j)) (fun j x hj=>?_) (fun j x hj=>?_)
   ·
    rw [List.getElem?_drop] at hj
    have:=h1 (n.toNat*te.size+j) x hj
    rwa [Nat.add_assoc]
   ·
    rw [List.getElem?_drop] at hj
    exact h2 (n.toNat*te.size+j) x hj

/-- An array behind a pointer, as a slice. -/
theorem eI {x:Operand}{t e n z:Nat}{td te:TD}{cs:List AV}{es:List (List AV)}(hT:Hu P T)(hx:ρ x = .ptr cs)(hcs:cs=es.flatten)(ht:Bu T t=some td)(hk:td.kind = .array n e)(hte:Bu T e=some te)(hz:te.size=z)
  (hl:Nat.beq es.length n=true) (hm:Nat.ble n maxLen=true) (hzs:es.all (fun e=>Nat.beq e.length z)=true) (h0:Nat.beq n 0=false):Dk P ⟨d,.slice t x none none none,ty,pos,aft,gd⟩ ρ K (.sl z es):=
 .of_run fun g w a hr=>by
  subst hcs
  obtain ⟨b,o,he,fv,h3,h4⟩:=(hx▸hr x (by simp [Op.operands]):Rep g w _ _).inv_ptr
  have hu:=Pn (hT t td ht) hk
  have hsz:=Gy (hT e te hte) w
  have hn0:n≠0:=by rintro rfl;exact absurd h0 (by decide)
  have hln:=Nat.eq_of_beq_eq_true hl
  have hz':∀e∈es,e.length=z:=fun e he=>Nat.eq_of_beq_eq_true (List.all_eq_true.1 hzs e he)
  refine ⟨.slice (some ⟨b,o,none⟩) n n,?_,.sl b o n n z es hln.symm (Nat.le_refl _) (Nat.le_of_ble_eq_true hm) hz' (fun i j=>fv (i*z+j)) (fun i e hi j x hj=>?_) (fun i e hi j x hj=>?_)⟩
  ·
   have e0:((n:Nat)=0)=False:=by simp [hn0]
   simp only [execOp,he,Instr.sliceAt,Sem.run_bind,A9 hu,Result.andThen_ok,Instr.sureAddr,Sem.run_pure,Instr.sliceBounds,Option.map_none,hsz,hn0,if_false,Nat.sub_zero,Nat.zero_mul,Hy,Nat.add_zero,e0]
  ·
   have:=h3 _ x (dR es hz' i e hi j x hj)
   rwa [←Nat.add_assoc] at this
  · exact h4 _ x (dR es hz' i e hi j x hj)
end
end Go.Aw

namespace Go.Proofs.YtkddpedfbicbeaaGreatDoor
open Go Go.Aw

section
variable {T:List Sc} {V:List Va}
theorem wD (evs:List Ev)(t:Tm)(s:Fs):(T4 evs t s).length=evs.length:=List.length_modify ..
theorem zH (evs:List Ev)(t:Tm)(x:Int):(Qm evs t x).length=evs.length:=by unfold Qm;split <;> exact List.length_modify ..
theorem Z3 (vals:List Int):∀(ts:List Tm) (i:Nat) (evs:List Ev),(Gw vals i ts evs).length=evs.length
 | [],i,evs=>rfl
 | t::r,i,evs=>by rw [Gw,Z3 vals r,zH]
theorem Sp (w:Wm):∀(ws:List Wd) (s:Ns),(ws.foldl (Ia w) s).2.2.length=s.2.2.length
  | [],s=>rfl
  | x::r,s=>by
    rw [List.foldl_cons,Sp w r]
    cases hc:x.const with
    | true=>rw [S7 hc]
    | false=>rw [S1 hc];exact wD ..
theorem Aab (c:List Lit):(pW T V c).length=V.length:=by
 show ((Hh T V c).2.foldl (Ia (Eh T V c).1) _).2.2.length=_
 rw [Sp]
 show (Gw _ 0 _ _).length=_
 rw [Z3,Py]
theorem cP:∀(l:List (List Lit)) (o:Int),(Zb T V o l).2.length≤V.length
  | [],o=>Nat.zero_le _
  | c::r,o=>by
    rw [Zb]
    split
    · exact cP r o
    split
    · show (pW T V c).length≤_;rw [Aab];exact Nat.le_refl _
    · exact cP r 0
theorem iC (es:List Ex):(B3 T V es).2.1.length≤V.length:=by
 unfold B3
 split
 · exact Nat.zero_le _
 ·
  show (B5 T V _).2.length≤_
  unfold B5
  split
  · exact Nat.zero_le _
  · exact cP _ _
section
variable {l:List Ev} {a b:Ex}
theorem iD (h:(!Oh T V l a || !Oh T V l b)=false):FindOK T V l a b:=by
 rw [Bool.or_eq_false_iff,Bool.not_eq_false',Bool.not_eq_false'] at h
 exact find_ok h.1 h.2
def tr2 (l:List Ev)(a b:Ex):Bool:=Kr ⟨D2 l,-1,Kn⟩ a&&Kr ⟨D2 l,-1,Kn⟩ b
theorem FindOK.cond3 (h:FindOK T V l a b):((((B3 T V [a,b]).1==2)&&tr2 l a b)||(((B3 T V [a,b]).1==1)&&((!Iz T V (B3 T V [a,b]).2.1)||(!tr2 (B3 T V [a,b]).2.1 a b))))=false:=by
  rw [Bool.or_eq_false_iff]
  constructor
  · cases h1:(B3 T V [a,b]).1==2 with
    | false=>rfl
    | true=>exact h.no (by simpa using h1)
  · cases h1:(B3 T V [a,b]).1==1 with
    | false=>rfl
    | true=>
      obtain ⟨q1,q2⟩:=h.yes (by simpa using h1)
      rw [q1,show tr2 (B3 T V [a,b]).2.1 a b=true from q2];rfl
theorem FindOK.last (h:FindOK T V l a b)(h0:(C2 b).2=0):(((true&&((Dc T V a (C2 b).1).2==0))&&(!(((B3 T V [a,b]).1==1)&&((Dc T V a (C2 b).1).1==1))))&&(!(((B3 T V [a,b]).1==2)&&((Dc T V a (C2 b).1).1==2))))=true:=by
 obtain ⟨q1,q2,q3⟩:=h.imp h0
 rw [q1]
 have e1:(((B3 T V [a,b]).1==1)&&((Dc T V a (C2 b).1).1==1))=false:=by
  cases h1:(B3 T V [a,b]).1==1 with
  | false=>rfl
  | true=>have:=q2 (by simpa using h1);simpa using this
 have e2:(((B3 T V [a,b]).1==2)&&((Dc T V a (C2 b).1).1==2))=false:=by
  cases h1:(B3 T V [a,b]).1==2 with
  | false=>rfl
  | true=>have:=q3 (by simpa using h1);simpa using this
 rw [e1,e2];rfl
theorem FindOK.negC (h:FindOK T V l a b)(h0:((C2 b).2 != 0)=true):(((C2 b).2==5)||((C2 b).2==12))=true:=by
 rcases h.negE with q | q | q
 · rw [q] at h0;cases h0
 · rw [q];rfl
 · rw [q];rfl
/-! ### Agrees -/
end
end
end Go.Proofs.YtkddpedfbicbeaaGreatDoor
