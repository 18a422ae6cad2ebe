/-
  Several texts in one: S46, S47. No condition.
-/
import Derived.Test.YtjedflcpjlgokaaGreatDoorK24
set_option linter.unusedVariables false
set_option linter.unusedSimpArgs false
namespace Go.Proofs.YtjedflcpjlgokaaGreatDoor
open Go Go.Aw

theorem Rn:∀{l:List Fi} {seen:List (List UInt8)},Hw seen l=0→∀f∈l,0≤f.kind∧f.kind<3
  | [],_,_,f,hf=>by cases hf
  | g::r,seen,h,f,hf=>by
    rw [Hw] at h
    cases h1:(D0 seen g != 0) with
    | true=>rw [if_pos h1] at h;rw [h] at h1;cases h1
    | false=>
      rw [C3 h1] at h
      rcases List.mem_cons.1 hf with rfl | hf
      · have h2:D0 seen f=0:=by simpa using h1
        unfold D0 at h2
        split at h2
        · cases h2
        split at h2
        · cases h2
        split at h2
        · cases h2
        · rename_i h3
          simp only [Bool.or_eq_true,decide_eq_true_eq,not_or] at h3
          omega
      · exact Rn h f hf
theorem Y4:∀{l:List Sc} {seen:List (List UInt8)},Jh seen l=0→∀s∈l,H1 s=0
  | [],_,_,f,hf=>by cases hf
  | g::r,seen,h,s,hs=>by
    rw [Jh] at h
    cases h1:(G9 seen g != 0) with
    | true=>rw [if_pos h1] at h;rw [h] at h1;cases h1
    | false=>
      rw [C3 h1] at h
      rcases List.mem_cons.1 hs with rfl | hs
      · have h2:G9 seen s=0:=by simpa using h1
        unfold G9 at h2
        cases h3:(H1 s != 0) with
        | true=>rw [if_pos h3] at h2;exact h2
        | false=>simpa using h3
      · exact Y4 h s hs
theorem fY {T:List Sc}(h:D8 T=0){s:Sc}(hs:s∈T){f:Fi}(hf:f∈s.fields):0≤f.kind∧f.kind<3:=by
 unfold D8 at h
 split at h
 · cases h
 have h1:=Y4 h s hs
 unfold H1 at h1
 split at h1
 · cases h1
 split at h1
 · cases h1
 exact Rn h1 f hf
theorem oJ {k:Int}(h:0≤k∧k<3):An ⟨k,0,[]⟩=0:=by
 have:k=0∨k=1∨k=2:=by omega
 rcases this with rfl | rfl | rfl <;> rfl
theorem rO {w:Vl}{x:Int}(h:An w=0)(hk:(w.kind=0∧-1099511627776≤x∧x≤1099511627776)∨(w.kind=1∧0≤x∧x≤1)):An { w with num:=x }=0:=by
 have ht:w.text = []:=by
  unfold An at h
  rw [if_pos (by rcases hk with hk | hk <;> rw [hk.1] <;> rfl)] at h
  split at h
  · cases h
  · rename_i h1;simpa using h1
 unfold An Dy
 simp only [ht]
 rcases hk with ⟨h0,h1,h2⟩ | ⟨h0,h1,h2⟩
 · rw [h0];simp;omega
 ·
  rw [h0]
  have:x=0∨x=1:=by omega
  rcases this with rfl | rfl <;> rfl
theorem oA {w:Vl}{s:E9}(h:An w=0)(hk:w.kind=2)(hs:s.length≤64):An { w with text:=s }=0:=by
 have hn:=Uw h hk
 unfold An Dy
 simp only [hk,hn]
 simp
 omega
section
variable {T:List Sc} {V:List Va}
structure EvG (i:Nat) (v:Va) (s:Sc) (e:Ev):Prop where
 source:e.source=0
 seq:e.seq=(i:Int)
 type:e.type=v.type
 t0:0≤e.time
 t1:e.time≤1099511627776
 suit:aW s e
structure EvI (T:List Sc) (V:List Va) (evs:List Ev):Prop where
 len:evs.length=V.length
 at_:∀(i:Nat) (v:Va) (s:Sc),V[i]? = some v→T[v.type.toNat]? = some s→∃e,evs[i]? = some e∧EvG i v s e
theorem P9 {evs:List Ev}(h:EvI T V evs)(j:Nat)(g:Ev→Ev)(hg:∀(v:Va) (s:Sc) (e:Ev),V[j]? = some v→T[v.type.toNat]? = some s→EvG j v s e→EvG j v s (g e)):EvI T V (evs.modify j g):=by
 refine ⟨by rw [List.length_modify];exact h.len,fun i v s hv hs=>?_⟩
 obtain ⟨e,he,hG⟩:=h.at_ i v s hv hs
 rw [List.getElem?_modify,he]
 by_cases hij:j=i
 ·
  subst hij
  exact ⟨g e,by simp,hg v s e hv hs hG⟩
 · exact ⟨e,by simp [hij],hG⟩
theorem yK {s:Sc}{e:Ev}(h:aW s e)(k:Nat)(f:Vl→Vl)(hf:∀(w:Vl) (fl:Fi),s.fields[k]? = some fl→qA w fl.kind→qA (f w) fl.kind):aW s (Uh e k f):=by
 refine ⟨by rw [Uy];exact h.1,fun j fl hj=>?_⟩
 obtain ⟨w,hw,hG⟩:=h.2 j fl hj
 show ∃x,(e.values.modify k f)[j]? = some x∧_
 rw [List.getElem?_modify,hw]
 by_cases hkj:k=j
 ·
  subst hkj
  exact ⟨f w,by simp,hf w fl hj hG⟩
 · exact ⟨w,by simp [hkj],hG⟩
theorem rK {j:Nat}{v:Va}{s:Sc}{e:Ev}(h:EvG j v s e)(k:Nat)(f:Vl→Vl)(hf:∀(w:Vl) (fl:Fi),s.fields[k]? = some fl→qA w fl.kind→qA (f w) fl.kind):EvG j v s (Uh e k f):=
 ⟨h.source,h.seq,h.type,h.t0,h.t1,yK h.suit k f hf⟩
theorem uB:∀{vs:List Va} {i j:Nat} {v:Va},vs[j]? = some v→(Ha T i vs)[j]? = some (Xv T (i+j) v)
  | [],i,j,v,h=>by simp at h
  | a::r,i,0,v,h=>by simp at h;subst h;rfl
  | a::r,i,j+1,v,h=>by
    have h':r[j]? = some v:=by simpa using h
    have:=uB (i:=i+1) h'
    rw [show i+1+j=i+(j+1) by omega] at this
    exact this
theorem lW (hT:D8 T=0):EvI T V (Ha T 0 V):=by
 refine ⟨Oo,fun i v s hv hs=>⟨_,uB hv,rfl,by show ((0+i:Nat):Int)=_;rw [Nat.zero_add],rfl,Int.le_refl _,by show (0:Int)≤_;decide,?_⟩⟩
 have hvals:(Xv T (0+i) v).values=s.fields.map zV:=fJ hs
 refine ⟨by rw [hvals,List.length_map],fun k f hf=>?_⟩
 rw [hvals,List.getElem?_map,hf]
 exact ⟨_,rfl,rfl,oJ (fY hT (List.mem_of_getElem? hs) (List.mem_of_getElem? hf))⟩
theorem Tn {t:Tm}(hk:KOK T V (Hr t))(h1:t.op=1){v:Va}{s:Sc}{fl:Fi}(hv:V[t.v.toNat]? = some v)(hs:T[v.type.toNat]? = some s)(hf:s.fields[t.field.toNat]? = some fl):Ak T V (Hr t)=fl.kind:=by
 obtain ⟨v',s',f',_,e1,_,e2,_,e3,e4⟩:=jQ hk h1
 have e1':V[t.v.toNat]? = some v':=e1
 rw [hv] at e1';cases e1'
 rw [hs] at e2;cases e2
 have e3':s.fields[t.field.toNat]? = some f':=e3
 rw [hf] at e3';cases e3'
 exact e4
theorem rH {evs:List Ev}(h:EvI T V evs){t:Tm}(hk:KOK T V (Hr t))(ho:t.op=1∨t.op=2)(hkind:t.op=1→Ak T V (Hr t)=0∨Ak T V (Hr t)=1){x:Int}(hx:(Ct T V t).1≤x∧x≤(Ct T V t).2):EvI T V (Pi evs t x):=by
  unfold Pi
  cases h2:t.op==2 with
  | true=>
    rw [if_pos rfl]
    rw [uG h2] at hx
    exact P9 h _ _ fun v s e _ _ hG=>⟨hG.source,hG.seq,hG.type,hx.1,hx.2,hG.suit⟩
  | false=>
    rw [if_neg (by decide)]
    have h1 : t.op = 1 := by have : t.op ≠ 2 := by simpa using h2
                             omega
    refine P9 h _ _ fun v s e hv hs hG=>rK hG _ _ fun w fl hf hw=>?_
    have hkf:=Tn hk h1 hv hs hf
    refine ⟨hw.1,rO hw.2 ?_⟩
    rw [hw.1,←hkf]
    rcases hkind h1 with h0 | h0
    · rw [vH h2 (by rw [h0];rfl)] at hx
      exact .inl ⟨h0,hx⟩
    · rw [sX h2 (by rw [h0];rfl)] at hx
      exact .inr ⟨h0,hx⟩
theorem uY {evs:List Ev}(h:EvI T V evs){t:Tm}(hk:KOK T V (Hr t))(h1:t.op=1)(hkind:Ak T V (Hr t)=2){s:E9}(hs:s.length≤64):EvI T V (S1 evs t s):=by
 unfold S1
 refine P9 h _ _ fun v sc e hv hsc hG=>rK hG _ _ fun w fl hf hw=>?_
 have hkf:=Tn hk h1 hv hsc hf
 exact ⟨hw.1,oA hw.2 (by rw [hw.1,←hkf];exact hkind) hs⟩
def cG (evs:List Ev)(t:Tm):Int:=if t.op==2 then ((evs[t.v.toNat]?).getD Ke).time else ((((evs[t.v.toNat]?).getD Ke).values[t.field.toNat]?).getD v0).num
def txA (evs:List Ev)(t:Tm):E9:=((((evs[t.v.toNat]?).getD Ke).values[t.field.toNat]?).getD v0).text
theorem D2 {α:Type}(l:List α)(j i:Nat)(f:α→α)(d:α):((l.modify j f)[i]?).getD d=if j=i∧i<l.length then f ((l[i]?).getD d) else (l[i]?).getD d:=by
  rw [List.getElem?_modify]
  cases hl:l[i]? with
  | none=>
    have:¬i<l.length:=by have:=List.getElem?_eq_none_iff.1 hl;omega
    rw [if_neg (fun e=>this e.2)];rfl
  | some x=>
    have:=Bb hl
    by_cases e:j=i
    · rw [if_pos ⟨e,this⟩];simp [e]
    · rw [if_neg (fun q=>e q.1)];simp [e]
theorem yI (evs:List Ev)(t u:Tm)(s:E9):cG (S1 evs t s) u=cG evs u:=by
 unfold cG S1
 rw [D2]
 split
 · split <;> rfl
 ·
  split
  ·
   show (((((evs[u.v.toNat]?).getD Ke).values.modify t.field.toNat _)[u.field.toNat]?).getD v0).num=_
   rw [D2]
   split <;> rfl
  · rfl
theorem dG {evs:List Ev}(h:evOK T V evs){t:Tm}(ht:tmOK T V t)(h1:t.op=1):t.v.toNat<evs.length∧t.field.toNat<((evs[t.v.toNat]?).getD Ke).values.length:=by
 have hv:=ht.v1
 have hv0:=ht.v0
 have hf:=ht.f h1
 have hlt:t.v.toNat<evs.length:=by rw [h.len];omega
 have hg:=List.getElem?_eq_getElem hlt
 have:=h.vals t.v.toNat _ hg
 rw [Int.toNat_of_nonneg hv0] at this
 refine ⟨hlt,?_⟩
 rw [hg]
 show t.field.toNat<(evs[t.v.toNat]).values.length
 rw [this];omega
theorem mP {evs:List Ev}(h:evOK T V evs){t:Tm}(ht:tmOK T V t)(h1:t.op=1)(s:E9):txA (S1 evs t s) t=s:=by
 obtain ⟨hlt,hfl⟩:=dG h ht h1
 unfold txA S1
 rw [D2,if_pos ⟨rfl,hlt⟩]
 show (((((evs[t.v.toNat]?).getD Ke).values.modify t.field.toNat _)[t.field.toNat]?).getD v0).text=_
 rw [D2,if_pos ⟨rfl,hfl⟩]
theorem tm_eq {t u:Tm}(ht:tmOK T V t)(hu:tmOK T V u)(h1:t.op=1)(h2:u.op=1)(hv:t.v.toNat=u.v.toNat)(hf:t.field.toNat=u.field.toNat):t=u:=by
 have a:=ht.v0;have b:=hu.v0;have c:=ht.f h1;have d:=hu.f h2
 have e1:t.v=u.v:=by omega
 have e2:t.field=u.field:=by omega
 have e3:t.op=u.op:=by rw [h1,h2]
 obtain ⟨o,v,f⟩:=t
 obtain ⟨o',v',f'⟩:=u
 simp only at e1 e2 e3
 rw [e1,e2,e3]
theorem iL {evs:List Ev}{t u:Tm}(ht:tmOK T V t)(hu:tmOK T V u)(h1:t.op=1)(h2:u.op=1)(hne:t≠u)(s:E9):txA (S1 evs t s) u=txA evs u:=by
 unfold txA S1
 rw [D2]
 split
 ·
  rename_i h3
  show (((((evs[u.v.toNat]?).getD Ke).values.modify t.field.toNat _)[u.field.toNat]?).getD v0).text=_
  rw [D2,if_neg (fun e=>hne (tm_eq ht hu h1 h2 h3.1 e.1))]
 · rfl
theorem gL {evs:List Ev}{t:Tm}(h:(t.op==2)=true):cG evs t=((evs[t.v.toNat]?).getD Ke).time:=if_pos h
theorem dB {evs:List Ev}{t:Tm}(h:(t.op==2)=false):cG evs t=((((evs[t.v.toNat]?).getD Ke).values[t.field.toNat]?).getD v0).num:=C3 h
theorem iD {evs:List Ev}{t:Tm}{x:Int}(h:(t.op==2)=true):Pi evs t x=evs.modify t.v.toNat (fun e=>{ e with time:=x }):=if_pos h
theorem jL {evs:List Ev}{t:Tm}{x:Int}(h:(t.op==2)=false):Pi evs t x=evs.modify t.v.toNat (fun e=>Uh e t.field.toNat fun y=>{ y with num:=x }):=C3 h
theorem zH {evs:List Ev}(h:evOK T V evs){t:Tm}(ht:tmOK T V t)(x:Int):cG (Pi evs t x) t=x:=by
  cases h2:t.op==2 with
  | true=>
    have hlt:t.v.toNat<evs.length:=by have:=ht.v0;have:=ht.v1;rw [h.len];omega
    rw [gL h2,iD h2,D2,if_pos ⟨rfl,hlt⟩]
  | false=>
    have h1 : t.op = 1 := by have : t.op ≠ 2 := by simpa using h2
                             have:=ht.op;omega
    obtain ⟨hlt,hfl⟩:=dG h ht h1
    rw [dB h2,jL h2,D2,if_pos ⟨rfl,hlt⟩]
    show (((((evs[t.v.toNat]?).getD Ke).values.modify t.field.toNat _)[t.field.toNat]?).getD v0).num=_
    rw [D2,if_pos ⟨rfl,hfl⟩]
theorem jX {evs:List Ev}{t u:Tm}(ht:tmOK T V t)(hu:tmOK T V u)(ft:t.op=2→t.field=0)(fu:u.op=2→u.field=0)(hne:t≠u)(x:Int):cG (Pi evs t x) u=cG evs u:=by
  have a:=ht.v0;have b:=hu.v0
  cases h2:t.op==2 with
  | true=>
    cases h3:u.op==2 with
    | true=>
      rw [gL h3,gL h3,iD h2,D2,if_neg ?_]
      intro q
      apply hne
      have e1:t.op=2:=by simpa using h2
      have e2:u.op=2:=by simpa using h3
      have e3:=ft e1;have e4:=fu e2
      have e5:t.v=u.v:=by have:=q.1;omega
      obtain ⟨o,v,f⟩:=t
      obtain ⟨o',v',f'⟩:=u
      simp only at e1 e2 e3 e4 e5
      rw [e1,e2,e3,e4,e5]
    | false=>
      rw [dB h3,dB h3,iD h2,D2]
      split <;> rfl
  | false=>
    have h1 : t.op = 1 := by have : t.op ≠ 2 := by simpa using h2
                             have:=ht.op;omega
    cases h3:u.op==2 with
    | true=>
      rw [gL h3,gL h3,jL h2,D2]
      split <;> rfl
    | false=>
      have hu1 : u.op = 1 := by have : u.op ≠ 2 := by simpa using h3
                                have:=hu.op;omega
      rw [dB h3,dB h3,jL h2,D2]
      split
      · rename_i h4
        show (((((evs[u.v.toNat]?).getD Ke).values.modify t.field.toNat _)[u.field.toNat]?).getD v0).num=_
        rw [D2,if_neg (fun e=>hne (tm_eq ht hu h1 hu1 h4.1 e.1))]
      · rfl
theorem iC {t:Tm}(hk:KOK T V (Hr t))(h2:t.op=2):t.field=0:=by
 have hn:=(A8 hk.nodes).1
 have ho:(Hr t).op=2:=h2
 unfold Bt at hn
 split at hn
 · cases hn
 split at hn
 · cases hn
 split at hn
 · cases hn
 split at hn
 · cases hn
 rw [if_neg (by rw [ho];decide)] at hn
 unfold Bg at hn
 split at hn
 · cases hn
 ·
  rename_i h3
  rw [ho] at h3
  have h4:¬(t.field≠0):=fun h=>h3 (by
   have:((Hr t).field != 0)=true:=bne_iff_ne.2 h
   rw [this];simp [Dq])
  omega
theorem Yf {vals:List Int}:∀(ts:List Tm) (i:Nat) {evs:List Ev},EvI T V evs→(∀t∈ts,KOK T V (Hr t)∧(t.op=1∨t.op=2)∧(t.op=1→Ak T V (Hr t)=0∨Ak T V (Hr t)=1))→
    (∀(k:Nat) (t:Tm),ts[k]? = some t→(Ct T V t).1≤D7 vals ((i:Int)+k+1)∧D7 vals ((i:Int)+k+1)≤(Ct T V t).2)→EvI T V (Gf vals i ts evs)
  | [],i,evs,h,_,_=>h
  | t::r,i,evs,h,hk,hx=>by
    rw [Gf]
    obtain ⟨k1,k2,k3⟩:=hk t (List.mem_cons_self ..)
    have h0:=hx 0 t rfl
    rw [show (i:Int)+((0:Nat):Int)+1=(i:Int)+1 by omega] at h0
    refine Yf r (i+1) (rH h k1 k2 k3 h0) (fun u hu=>hk u (List.mem_cons_of_mem _ hu)) fun k u hu=>?_
    have:=hx (k+1) u (by simpa using hu)
    rw [show ((i+1:Nat):Int)+k+1=(i:Int)+((k+1:Nat):Int)+1 by omega]
    exact this
theorem dV {vals:List Int}:∀(ts:List Tm) (i:Nat) {evs:List Ev},evOK T V evs→evOK T V (Gf vals i ts evs)
 | [],i,evs,h=>h
 | t::r,i,evs,h=>by rw [Gf];exact dV r (i+1) (Ur h t _)
theorem eD {vals:List Int}:∀(ts:List Tm) (i:Nat) {evs:List Ev} {u:Tm},tmOK T V u→(u.op=2→u.field=0)→(∀t∈ts,tmOK T V t∧(t.op=2→t.field=0))→u∉ts→cG (Gf vals i ts evs) u=cG evs u
  | [],i,evs,u,_,_,_,_=>rfl
  | t::r,i,evs,u,hu,fu,ht,hn=>by
    obtain ⟨h1,h2⟩:=ht t (List.mem_cons_self ..)
    rw [Gf,eD r (i+1) hu fu (fun x hx=>ht x (List.mem_cons_of_mem _ hx)) (fun h=>hn (List.mem_cons_of_mem _ h))]
    exact jX h1 hu h2 fu (fun e=>hn (by rw [e];exact List.mem_cons_self ..)) _
theorem eL {vals:List Int}:∀(ts:List Tm) (i:Nat) {evs:List Ev},evOK T V evs→ts.Nodup→(∀t∈ts,tmOK T V t∧(t.op=2→t.field=0))→∀(k:Nat) (t:Tm),ts[k]? = some t→cG (Gf vals i ts evs) t=D7 vals ((i:Int)+k+1)
  | [],i,evs,_,_,_,k,t,h=>by simp at h
  | u::r,i,evs,he,hn,ht,0,t,h=>by
    simp at h;subst h
    obtain ⟨h1,h2⟩:=ht u (List.mem_cons_self ..)
    rw [Gf,eD r (i+1) h1 h2 (fun x hx=>ht x (List.mem_cons_of_mem _ hx)) (List.nodup_cons.1 hn).1,zH he h1]
    rw [show (i:Int)+((0:Nat):Int)+1=(i:Int)+1 by omega]
  | u::r,i,evs,he,hn,ht,k+1,t,h=>by
    rw [Gf,eL r (i+1) (Ur he u _) (List.nodup_cons.1 hn).2 (fun x hx=>ht x (List.mem_cons_of_mem _ hx)) k t (by simpa using h)]
    rw [show ((i+1:Nat):Int)+k+1=(i:Int)+((k+1:Nat):Int)+1 by omega]
theorem T9 {ts l:List Tm}(h:ts.Nodup):(Av ts l).Nodup:=by
  cases l with
  | nil=>exact h
  | cons t r=>
    unfold Av
    simp only
    split
    · exact h
    · rename_i h1
      rw [List.nodup_append]
      refine ⟨h,by simp,fun a ha b hb e=>?_⟩
      rw [List.mem_singleton] at hb
      subst hb;subst e
      exact h1 (by simpa using ha)
theorem X7:∀(l:List Lit) {s:Sy},s.ts.Nodup→(l.foldl (C1 T V) s).ts.Nodup
  | [],s,h=>h
  | c::r,s,h=>by
    rw [List.foldl_cons]
    refine X7 r ?_
    cases h1 : !(Aa T V c).2 with
    | true=>rw [Kt h1];exact h
    | false=>rw [Ky h1];exact T9 (T9 h)
theorem S5 {evs:List Ev}(hty:Ju T V)(h:EvI T V evs):Gj T V (Eg evs):=by
 refine ⟨by simp [Eg,h.len],fun i v hv=>?_⟩
 obtain ⟨s,hs⟩:=lG hty (List.mem_of_getElem? hv)
 obtain ⟨e,he,hG⟩:=h.at_ i v s hv hs
 exact ⟨s,e,hs,by simp [Eg,he],hG.suit⟩
theorem Uv {evs:List Ev}(hty:Ju T V)(h:EvI T V evs):EnvOK T V (Eg evs):=by
 refine ⟨S5 hty h,fun l hl ev hev=>?_⟩
 obtain ⟨e,he,rfl⟩:=List.mem_map.1 hl
 rw [List.mem_singleton] at hev;subst hev
 obtain ⟨i,hi⟩:=List.mem_iff_getElem?.1 he
 have hlt:=Bb hi
 have hv:V[i]? = some (V[i]'(by rw [←h.len];exact hlt)):=List.getElem?_eq_getElem _
 obtain ⟨s,hs⟩:=lG hty (List.mem_of_getElem? hv)
 obtain ⟨e',he',hG⟩:=h.at_ i _ s hv hs
 rw [hi] at he';cases he'
 exact ⟨hG.t0,hG.t1⟩
theorem yY {evs:List Ev}{v:Int}{ev:Ev}(h0:0≤v)(h:Bn (Eg evs) v = [ev]):evs[v.toNat]? = some ev:=by
  unfold Bn at h
  split at h
  · cases h
  · rename_i h1
    cases hq:evs[v.toNat]? with
    | none=>
      have:(Eg evs)[v.toNat]? = none:=by unfold Eg;rw [List.getElem?_map,hq];rfl
      rw [this] at h;cases h
    | some e=>
      have:(Eg evs)[v.toNat]? = some [e]:=by unfold Eg;rw [List.getElem?_map,hq];rfl
      rw [this] at h
      have h2:[e] = [ev]:=h
      cases h2;rfl
theorem lL {evs:List Ev}(hE:EnvOK T V (Eg evs)){t:Tm}(hk:KOK T V (Hr t))(ht:tmOK T V t):Sq (Eg evs) t=cG evs t∧(t.op=1→(vl (Eg evs) (Hr t)).text=txA evs t):=by
 obtain ⟨ev,h1,h2,h3,h4⟩:=Vo hE.suits hE.small hk (show ((Hr t).op==1||(Hr t).op==2)=true by have:=ht.op;show (t.op==1||t.op==2)=true;simpa using this)
 have h5:evs[t.v.toNat]? = some ev:=yY ht.v0 h1
 have hv:vl (Eg evs) (Hr t)=(Lg (Hr t) ev).1:=by show (Bq _ _).1=_;rw [h4]
 unfold Sq
 rw [hv]
 unfold cG txA
 rw [h5]
 unfold Lg at h2 ⊢
 rcases ht.op with h | h
 ·
  have e1:((Hr t).op==1)=true:=by show (t.op==1)=true;simpa using h
  rw [if_pos e1] at h2 ⊢
  have e2:(t.op==2)=false:=by rw [h];rfl
  rw [e2]
  split at h2
  · cases h2
  ·
   rename_i h6
   rw [if_neg h6]
   exact ⟨rfl,fun _=>rfl⟩
 ·
  have e1:¬((Hr t).op==1)=true:=by show ¬(t.op==1)=true;rw [h];decide
  rw [if_neg e1]
  have e2:(t.op==2)=true:=by rw [h];rfl
  rw [e2]
  exact ⟨rfl,fun h1=>by omega⟩
end

theorem Sb (U:Um)(n m:E9)(b:Bool):E1 (Sr U n b) m=if n=m then b else E1 U m:=by
  unfold Sr
  induction U with
  | nil=>show E1 [(n,b)] m=_;rfl
  | cons q r ih=>
    obtain ⟨k,c⟩:=q
    rw [dM]
    by_cases h:k=n
    · rw [if_pos h]
      subst h
      show E1 ((k,b)::r) m=_
      rw [E1,E1]
      by_cases h2:k=m
      · rw [if_pos h2,if_pos h2]
      · rw [if_neg h2,if_neg h2,if_neg h2]
    · rw [if_neg h]
      cases hu:dM r n with
      | none=>
        rw [hu] at ih
        show E1 ((k,c)::(r ++ [(n,b)])) m=_
        have ih':E1 (r ++ [(n,b)]) m=if n=m then b else E1 r m:=ih
        rw [E1,E1,ih']
        by_cases h2:k=m
        · rw [if_pos h2,if_pos h2,if_neg (fun e=>h (h2.trans e.symm))]
        · rw [if_neg h2,if_neg h2]
      | some j=>
        rw [hu] at ih
        show E1 ((k,c)::r.modify j fun _=>(n,b)) m=_
        have ih':E1 (r.modify j fun _=>(n,b)) m=if n=m then b else E1 r m:=ih
        rw [E1,E1,ih']
        by_cases h2:k=m
        · rw [if_pos h2,if_pos h2,if_neg (fun e=>h (h2.trans e.symm))]
        · rw [if_neg h2,if_neg h2]
theorem Sp {U:Um}:∀(f k:Nat),(∀i,i<k→E1 U (wN i)=true)→U.length≤f+k→E1 U (wN (Te U f k))=false∧Te U f k≤U.length
  | 0,k,h,hl=>by
    have hk:=Oh h
    cases hq:E1 U (wN k) with
    | false=>exact ⟨hq,hk⟩
    | true=>
      have:=Oh (U:=U) (j:=k+1) (fun i hi=>by
        rcases Nat.lt_or_ge i k with h2 | h2
        · exact h i h2
        · rw [show i=k by omega];exact hq)
      omega
  | f+1,k,h,hl=>by
    cases hq:E1 U (wN k) with
    | false=>rw [mC hq];exact ⟨hq,Oh h⟩
    | true=>
      rw [mZ hq]
      exact Sp f (k+1) (fun i hi=>by
        rcases Nat.lt_or_ge i k with h2 | h2
        · exact h i h2
        · rw [show i=k by omega];exact hq) (by omega)
theorem Wp (U:Um):E1 U (cC U)=false:=(Sp U.length 0 (fun i h=>absurd h (by omega)) (by omega)).1
theorem pG {U:Um}(h:U.length≤1000000):(cC U).length≤64:=by
 have h1:=(Sp (U:=U) U.length 0 (fun i h=>absurd h (by omega)) (by omega)).2
 have h2:=Go.Lib.itoa_length_le ((Te U U.length 0:Nat):Int) (by omega) (by omega)
 show (Go.Lib.itoa ((Te U U.length 0:Nat):Int)).length+1≤64
 omega
section
variable {T:List Sc} {V:List Va}
structure WordL (T:List Sc) (V:List Va) (l:List Lit) (x:Wd):Prop where
 ex:∃c∈l,Ch T V c.cond=true∧B0 T V c.cond=true∧∃a∈c.cond.args,x=B5 a
abbrev Mv (p:Um×List Wd):Prop:=∀x∈p.2,x.const=true→E1 p.1 x.text=true
theorem xJ {p:Um×List Wd}(h:Mv p)(a:Ex):Mv (V2 p a):=by
 intro x hx hc
 unfold V2
 simp only
 rw [Sb]
 rcases List.mem_append.1 hx with hx | hx
 ·
  split
  · rename_i e;rw [e,h x hx hc,Bool.true_or]
  · exact h x hx hc
 ·
  rw [List.mem_singleton.1 hx] at hc ⊢
  rw [if_pos rfl,hc,Bool.or_true]
theorem Yl:∀(xs:List Ex) {p:Um×List Wd},Mv p→Mv (xs.foldl V2 p)
 | [],p,h=>h
 | a::r,p,h=>by rw [List.foldl_cons];exact Yl r (xJ h a)
theorem K3:∀(xs:List Ex) (p:Um×List Wd),(xs.foldl V2 p).2=p.2++xs.map B5
  | [],p=>by simp
  | a::r,p=>by
    rw [List.foldl_cons,K3 r]
    show (p.2 ++ [B5 a])++r.map B5=_
    simp
theorem fU:∀(xs:List Ex) (p:Um×List Wd),(xs.foldl V2 p).1.length≤p.1.length+xs.length
  | [],p=>by simp
  | a::r,p=>by
    rw [List.foldl_cons]
    have:=fU r (V2 p a)
    have h2:=Xe p.1 (B5 a).text (E1 p.1 (B5 a).text||(B5 a).const)
    have h3:(V2 p a).1.length≤p.1.length+1:=h2
    rw [List.length_cons];omega
theorem vX {p:Um×List Wd}(h:Mv p)(c:Lit):Mv (Sd T V p c):=by
 cases hc:(!Ch T V c.cond || !B0 T V c.cond) with
 | true=>rw [Ro hc];exact h
 | false=>rw [L6 hc];exact Yl _ h
theorem Zk:∀(l:List Lit) {p:Um×List Wd},Mv p→Mv (l.foldl (Sd T V) p)
 | [],p,h=>h
 | c::r,p,h=>by rw [List.foldl_cons];exact Zk r (vX h c)
theorem eM (l:List Lit):Mv (Gs T V l):=Zk l (fun x hx=>by cases hx)
theorem Xg {l:List Lit}{P:Wd→Prop}(hP:∀c∈l,Ch T V c.cond=true→B0 T V c.cond=true→∀a∈c.cond.args,P (B5 a)):∀(m:List Lit) {p:Um×List Wd},(∀c∈m,c∈l)→(∀x∈p.2,P x)→∀x∈(m.foldl (Sd T V) p).2,P x
  | [],p,_,h=>h
  | c::r,p,hm,h=>by
    rw [List.foldl_cons]
    refine Xg hP r (fun x hx=>hm x (List.mem_cons_of_mem _ hx)) ?_
    cases hc:(!Ch T V c.cond || !B0 T V c.cond) with
    | true=>rw [Ro hc];exact h
    | false=>
      rw [L6 hc,K3]
      rw [Bool.or_eq_false_iff,Bool.not_eq_false',Bool.not_eq_false'] at hc
      intro x hx
      rcases List.mem_append.1 hx with hx | hx
      · exact h x hx
      · obtain ⟨a,ha,rfl⟩:=List.mem_map.1 hx
        exact hP c (hm c (List.mem_cons_self ..)) hc.1 hc.2 a ha
theorem Yk:∀(m:List Lit) (p:Um×List Wd),∀x∈p.2,x∈(m.foldl (Sd T V) p).2
  | [],p,x,h=>h
  | c::r,p,x,h=>by
    rw [List.foldl_cons]
    refine Yk r _ x ?_
    cases hc:(!Ch T V c.cond || !B0 T V c.cond) with
    | true=>rw [Ro hc];exact h
    | false=>rw [L6 hc,K3];exact List.mem_append_left _ h
theorem dW:∀(m:List Lit) (p:Um×List Wd),∀c∈m,Ch T V c.cond=true→B0 T V c.cond=true→∀a∈c.cond.args,B5 a∈(m.foldl (Sd T V) p).2
  | [],p,c,hc,_,_,_,_=>by cases hc
  | d::r,p,c,hc,h1,h2,a,ha=>by
    rw [List.foldl_cons]
    rcases List.mem_cons.1 hc with rfl | hc
    · refine Yk r _ _ ?_
      rw [L6 (show (!Ch T V c.cond || !B0 T V c.cond)=false by rw [h1,h2];rfl),K3]
      exact List.mem_append_right _ (List.mem_map.2 ⟨a,ha,rfl⟩)
    · exact dW r _ c hc h1 h2 a ha
theorem Mk {l:List Lit}{c:Lit}(hc:c∈l)(h1:Ch T V c.cond=true)(h2:B0 T V c.cond=true){a:Ex}(ha:a∈c.cond.args):B5 a∈(Gs T V l).2:=dW l _ c hc h1 h2 a ha
theorem fN {l:List Lit}{x:Wd}(hx:x∈(Gs T V l).2):WordL T V l x:=
 ⟨Xg (T:=T) (V:=V) (l:=l) (P:=fun x=>∃c∈l,Ch T V c.cond=true∧B0 T V c.cond=true∧∃a∈c.cond.args,x=B5 a) (fun c hc h1 h2 a ha=>⟨c,hc,h1,h2,a,ha,rfl⟩) l (fun _ h=>h) (fun x h=>by cases h) x hx⟩
theorem Xa:∀(m:List Lit),Up T V m→∀(p:Um×List Wd),(m.foldl (Sd T V) p).1.length≤p.1.length+2*m.length∧(m.foldl (Sd T V) p).2.length≤p.2.length+2*m.length
  | [],_,p=>by simp
  | c::r,hl,p=>by
    rw [List.foldl_cons]
    have ih:=Xa r (fun x hx=>hl x (List.mem_cons_of_mem _ hx)) (Sd T V p c)
    rw [List.length_cons]
    cases hc:(!Ch T V c.cond || !B0 T V c.cond) with
    | true=>rw [Ro hc] at ih ⊢;omega
    | false=>
      obtain ⟨h2,_⟩:=R5 (hl c (List.mem_cons_self ..)).1 hc
      rw [L6 hc] at ih ⊢
      have h3:=fU c.cond.args p
      have h4:=congrArg List.length (K3 c.cond.args p)
      rw [List.length_append,List.length_map] at h4
      omega
structure WOK (T:List Sc) (V:List Va) (x:Wd):Prop where
 wf:qM x
 fld:x.const=false→KOK T V (Hr x.field)∧tmOK T V x.field∧x.field.op=1∧Ak T V (Hr x.field)=2
 txt:x.const=true→x.text.length≤64
theorem vC {v:Vl}(h:An v=0)(hk:v.kind=2):v.text.length≤64:=by
 have hn:=Uw h hk
 unfold An Dy at h
 simp [hk,hn] at h
 omega
theorem tA {l:List Lit}(hl:Up T V l){x:Wd}(h:WordL T V l x):WOK T V x:=by
 obtain ⟨c,hc,h1,h2,a,ha,rfl⟩:=h.ex
 have hk:=(hl c hc).1
 have hs:=Uq hk h1 h2
 have hka:=Az hk ha
 have hkind:Ak T V a=2:=by rw [H8 hk hs.op ha];exact hs.k0
 have hd:(a.op==0||a.op==1)=true:=(R5 hk (show (!Ch T V c.cond || !B0 T V c.cond)=false by rw [h1,h2];rfl)).2 a ha
 have hz:=(A8 hka.nodes).1
 refine ⟨gG a,fun hcf=>?_,fun hct=>?_⟩
 ·
  have h0:(a.op==0)=false:=by
   cases h0:a.op==0 with
   | false=>rfl
   | true=>rw [Z8 h0] at hcf;cases hcf
  have h1':a.op=1:=by rw [h0,Bool.false_or] at hd;simpa using hd
  obtain ⟨w1,w2⟩:=lZ hka hd hcf
  have e:Hr (B5 a).field=a:=by
   rw [bX h0]
   show Hr (Dp a)=a
   exact Kj hz (by rw [h1'];rfl)
  exact ⟨by rw [e];exact hka,w1,w2,by rw [e];exact hkind⟩
 ·
  have h0:(a.op==0)=true:=by
   cases h0:a.op==0 with
   | true=>rfl
   | false=>rw [bX h0] at hct;cases hct
  rw [Z8 h0]
  have hv:=(Im hz (by simpa using h0)).1
  have hvk:a.val.kind=2:=by
   unfold Ak at hkind
   rw [if_pos (by rw [h0];rfl)] at hkind
   exact hkind
  show a.val.text.length≤64
  exact vC hv hvk
theorem Qx {N:Nm}{r:Wd}{s:E9}(h:H0 N r=some s):(r,s)∈N:=by
  unfold H0 at h
  cases hf:N.find? fun p=>decide (p.1=r) with
  | none=>rw [hf] at h;cases h
  | some p=>
    rw [hf] at h
    have h1:=List.find?_some hf
    have h2:=List.mem_of_find?_eq_some hf
    have e1:p.1=r:=by simpa using h1
    have e2:p.2=s:=by simpa using h
    rw [←e1,←e2];exact h2
theorem qD {N:Nm}{r q:Wd}{s t:E9}(h:H0 N r=some s):H0 (N ++ [(q,t)]) r=some s:=by
 unfold H0 at h ⊢
 rw [List.find?_append]
 cases hf:N.find? fun p=>decide (p.1=r) with
 | none=>rw [hf] at h;cases h
 | some p=>rw [hf] at h;exact h
structure NI (W:Wd→Prop) (U:Um) (N:Nm):Prop where
 used:∀p∈N,E1 U p.2=true
 texts:∀x,W x→x.const=true→E1 U x.text=true
 con:∀p∈N,p.1.const=true→p.2=p.1.text∧W p.1
 free:∀p∈N,p.1.const=false→∀x,W x→x.const=true→x.text≠p.2
 inj:∀p∈N,∀q∈N,p.2=q.2→p.1=q.1
 len:∀p∈N,p.2.length≤64
theorem tX {W:Wd→Prop}(hW:∀x,W x→WOK T V x){U:Um}{N:Nm}(h:NI W U N){r:Wd}(hr:W r)(hU:U.length≤1000000):NI W (X8 U N r).1 (X8 U N r).2:=by
  cases hg:H0 N r with
  | some s=>rw [Zy (by rw [hg];rfl)];exact h
  | none=>
    rw [bH hg]
    have hmono:∀m,E1 U m=true→E1 (Sr U (Je U r) true) m=true:=fun m hm=>by
      rw [Sb];split
      · rfl
      · exact hm
    have hnew:∀p∈N,p.2=Je U r→p.1=r:=fun p hp e=>by
      unfold Je at e
      cases hc:r.const with
      | true=>
        rw [hc,if_pos rfl] at e
        cases hpc:p.1.const with
        | true=>
          obtain ⟨c1,c2⟩:=h.con p hp hpc
          exact fD (hW _ c2).wf (hW _ hr).wf (by rw [hpc,hc];rfl) (by rw [←c1];exact e)
        | false=>exact absurd e.symm (h.free p hp hpc r hr hc)
      | false=>
        rw [hc,if_neg (by decide)] at e
        have h1:=h.used p hp
        rw [e,Wp] at h1;cases h1
    refine ⟨fun p hp=>?_,fun x hx hc=>hmono _ (h.texts x hx hc),fun p hp hc=>?_,fun p hp hc x hx hxc=>?_,fun p hp q hq e=>?_,fun p hp=>?_⟩
    · rcases List.mem_append.1 hp with hp | hp
      · exact hmono _ (h.used p hp)
      · rw [List.mem_singleton.1 hp];simp only;rw [Sb,if_pos rfl]
    · rcases List.mem_append.1 hp with hp | hp
      · exact h.con p hp hc
      · rw [List.mem_singleton.1 hp] at hc ⊢
        simp only at hc ⊢
        unfold Je
        rw [if_pos hc];exact ⟨rfl,hr⟩
    · rcases List.mem_append.1 hp with hp | hp
      · exact h.free p hp hc x hx hxc
      · rw [List.mem_singleton.1 hp] at hc ⊢
        simp only at hc ⊢
        unfold Je
        rw [if_neg (by rw [hc];decide)]
        intro e
        have h1:=h.texts x hx hxc
        rw [e,Wp] at h1;cases h1
    · rcases List.mem_append.1 hp with hp | hp <;> rcases List.mem_append.1 hq with hq | hq
      · exact h.inj p hp q hq e
      · rw [List.mem_singleton.1 hq] at e ⊢
        exact hnew p hp e
      · rw [List.mem_singleton.1 hp] at e ⊢
        exact (hnew q hq e.symm).symm
      · rw [List.mem_singleton.1 hp,List.mem_singleton.1 hq]
    · rcases List.mem_append.1 hp with hp | hp
      · exact h.len p hp
      · rw [List.mem_singleton.1 hp]
        simp only
        unfold Je
        cases hc:r.const with
        | true=>rw [if_pos rfl];exact (hW _ hr).txt hc
        | false=>rw [if_neg (by decide)];exact pG hU
theorem Wy {U:Um}{N:Nm}{r q:Wd}{s:E9}(h:H0 N q=some s):H0 (X8 U N r).2 q=some s:=by
 cases hg:H0 N r with
 | some t=>rw [Zy (by rw [hg];rfl)];exact h
 | none=>rw [bH hg];exact qD h
theorem xN {W:Wd→Prop}(hW:∀x,W x→WOK T V x){U:Um}{N:Nm}(h:NI W U N){r:Wd}(hr:W r)(hU:U.length≤1000000):(wI U N r).length≤64:=by
 have h1:=aJ U N r
 exact (tX hW h hr hU).len _ (Qx h1)
structure NS (T:List Sc) (V:List Va) (W:Wd→Prop) (w:Wm) (done:List Wd) (s:Ns) (b:Nat):Prop where
 ni:NI W s.1 s.2.1
 ulen:s.1.length≤b
 evi:EvI T V s.2.2
 eok:evOK T V s.2.2
 has:∀x∈done,∃t,H0 s.2.1 (Cc w x)=some t∧(x.const=false→txA s.2.2 x.field=t)
theorem yA {W:Wd→Prop}(hW:∀x,W x→WOK T V x){w:Wm}(hw:wGood W w){done:List Wd}{s:Ns}{b:Nat}(h:NS T V W w done s b)(hb:b≤1000000)(hd:∀x∈done,W x){x:Wd}(hx:W x):NS T V W w (done ++ [x]) (Hg w s x) (b+1):=by
  have hr:=iO hw hx
  have hU:s.1.length≤1000000:=Nat.le_trans h.ulen hb
  have hni:=tX hW h.ni hr hU
  have hget:=aJ s.1 s.2.1 (Cc w x)
  have hlen:=xN hW h.ni hr hU
  have hul:(X8 s.1 s.2.1 (Cc w x)).1.length≤b+1:=by have:=aS s.1 s.2.1 (Cc w x);have:=h.ulen;omega
  cases hc:x.const with
  | true=>
    rw [Rw hc]
    refine ⟨hni,hul,h.evi,h.eok,fun y hy=>?_⟩
    rcases List.mem_append.1 hy with hy | hy
    · obtain ⟨t,h1,h2⟩:=h.has y hy
      exact ⟨t,Wy h1,h2⟩
    · rw [List.mem_singleton.1 hy]
      exact ⟨_,hget,fun e=>by rw [hc] at e;cases e⟩
  | false=>
    rw [R8 hc]
    obtain ⟨k1,k2,k3,k4⟩:=(hW x hx).fld hc
    refine ⟨hni,hul,uY h.evi k1 k3 k4 hlen,lQ h.eok _ _,fun y hy=>?_⟩
    rcases List.mem_append.1 hy with hy | hy
    · obtain ⟨t,h1,h2⟩:=h.has y hy
      refine ⟨t,Wy h1,fun hyc=>?_⟩
      obtain ⟨j1,j2,j3,j4⟩:=(hW y (hd y hy)).fld hyc
      by_cases e:x.field=y.field
      · have hxy:x=y:=by
          have a:=(hW x hx).wf.2 hc
          have b:=(hW y (hd y hy)).wf.2 hyc
          obtain ⟨xc,xt,xf⟩:=x
          obtain ⟨yc,yt,yf⟩:=y
          simp only at a b hc hyc e
          rw [a,b,hc,hyc,e]
        subst hxy
        simp only
        rw [mP h.eok k2 k3]
        have h3:=Wy (U:=s.1) (r:=Cc w x) h1
        rw [hget] at h3
        exact Option.some.inj h3
      · simp only
        rw [iL k2 j2 k3 j3 e]
        exact h2 hyc
    · rw [List.mem_singleton.1 hy]
      exact ⟨_,hget,fun _=>mP h.eok k2 k3 _⟩
theorem lB {W:Wd→Prop}(hW:∀x,W x→WOK T V x){w:Wm}(hw:wGood W w):∀(ws:List Wd) {done:List Wd} {s:Ns} {b:Nat},NS T V W w done s b→b+ws.length≤1000000→(∀x∈done,W x)→(∀x∈ws,W x)→NS T V W w (done++ws) (ws.foldl (Hg w) s) (b+ws.length)
  | [],done,s,b,h,_,_,_=>by rw [List.append_nil];exact h
  | x::r,done,s,b,h,hb,hd,hx=>by
    rw [List.length_cons] at hb
    have h1:=yA hW hw h (by omega) hd (hx x (List.mem_cons_self ..))
    have h2:=lB hW hw r h1 (by omega) (fun y hy=>by
      rcases List.mem_append.1 hy with hy | hy
      · exact hd y hy
      · rw [List.mem_singleton.1 hy];exact hx x (List.mem_cons_self ..)) fun y hy=>hx y (List.mem_cons_of_mem _ hy)
    rw [List.append_assoc] at h2
    rw [List.foldl_cons,List.length_cons,show b+(r.length+1)=b+1+r.length by omega]
    exact h2
theorem Tu (w:Wm)(t:Tm):∀(ws:List Wd) (s:Ns),cG (ws.foldl (Hg w) s).2.2 t=cG s.2.2 t
  | [],s=>rfl
  | x::r,s=>by
    rw [List.foldl_cons,Tu w t r]
    cases hc:x.const with
    | true=>rw [Rw hc]
    | false=>rw [R8 hc];exact yI _ _ _ _
end
end Go.Proofs.YtjedflcpjlgokaaGreatDoor
