/-
  Several texts in one: S46, S47, S48, S38, S49, S50. No condition.
-/
import Derived.Test.YtjedflcpjlgokaaGreatDoorK24
import Derived.Test.YtjedflcpjlgokaaGreatDoorK23
set_option linter.unusedVariables false
set_option linter.unusedSimpArgs false
namespace Go.Proofs.YtjedflcpjlgokaaGreatDoor
open Go Go.Aw

theorem Ru:∀{l:List Fi} {seen:List (List UInt8)},H4 seen l=0→∀f∈l,0≤f.kind∧f.kind<3
  | [],_,_,f,hf=>by cases hf
  | g::r,seen,h,f,hf=>by
    rw [H4] at h
    cases h1:(D6 seen g != 0) with
    | true=>rw [if_pos h1] at h;rw [h] at h1;cases h1
    | false=>
      rw [C8 h1] at h
      rcases List.mem_cons.1 hf with rfl | hf
      · have h2:D6 seen f=0:=by simpa using h1
        unfold D6 at h2
        split at h2
        · cases h2
        split at h2
        · cases h2
        split at h2
        · cases h2
        · rename_i h3
          simp only [Bool.or_eq_true,decide_eq_true_eq,not_or] at h3
          omega
      · exact Ru h f hf
theorem Ym:∀{l:List Sc} {seen:List (List UInt8)},Jt seen l=0→∀s∈l,Id s=0
  | [],_,_,f,hf=>by cases hf
  | g::r,seen,h,s,hs=>by
    rw [Jt] at h
    cases h1:(Hk seen g != 0) with
    | true=>rw [if_pos h1] at h;rw [h] at h1;cases h1
    | false=>
      rw [C8 h1] at h
      rcases List.mem_cons.1 hs with rfl | hs
      · have h2:Hk seen s=0:=by simpa using h1
        unfold Hk at h2
        cases h3:(Id s != 0) with
        | true=>rw [if_pos h3] at h2;exact h2
        | false=>simpa using h3
      · exact Ym h s hs
theorem fM {T:List Sc}(h:Ep T=0){s:Sc}(hs:s∈T){f:Fi}(hf:f∈s.fields):0≤f.kind∧f.kind<3:=by
 unfold Ep at h
 split at h
 · cases h
 have h1:=Ym h s hs
 unfold Id at h1
 split at h1
 · cases h1
 split at h1
 · cases h1
 exact Ru h1 f hf
theorem qL {k:Int}(h:0≤k∧k<3):Aq ⟨k,0,[]⟩=0:=by
 have:k=0∨k=1∨k=2:=by omega
 rcases this with rfl | rfl | rfl <;> rfl
theorem vW {w:Vl}{x:Int}(h:Aq w=0)(hk:(w.kind=0∧-1099511627776≤x∧x≤1099511627776)∨(w.kind=1∧0≤x∧x≤1)):Aq { w with num:=x }=0:=by
 have ht:w.text = []:=by
  unfold Aq at h
  rw [if_pos (by rcases hk with hk | hk <;> rw [hk.1] <;> rfl)] at h
  split at h
  · cases h
  · rename_i h1;simpa using h1
 unfold Aq Ef
 simp only [ht]
 rcases hk with ⟨h0,h1,h2⟩ | ⟨h0,h1,h2⟩
 · rw [h0];simp;omega
 ·
  rw [h0]
  have:x=0∨x=1:=by omega
  rcases this with rfl | rfl <;> rfl
section
variable {T:List Sc} {V:List Va}
structure EvG (i:Nat) (v:Va) (s:Sc) (e:Ev):Prop where
 source:e.source=0
 seq:e.seq=(i:Int)
 type:e.type=v.type
 t0:0≤e.time
 t1:e.time≤1099511627776
 suit:cK s e
structure EvI (T:List Sc) (V:List Va) (evs:List Ev):Prop where
 len:evs.length=V.length
 at_:∀(i:Nat) (v:Va) (s:Sc),V[i]? = some v→T[v.type.toNat]? = some s→∃e,evs[i]? = some e∧EvG i v s e
theorem V1 {evs:List Ev}(h:EvI T V evs)(j:Nat)(g:Ev→Ev)(hg:∀(v:Va) (s:Sc) (e:Ev),V[j]? = some v→T[v.type.toNat]? = some s→EvG j v s e→EvG j v s (g e)):EvI T V (evs.modify j g):=by
 refine ⟨by rw [List.length_modify];exact h.len,fun i v s hv hs=>?_⟩
 obtain ⟨e,he,hG⟩:=h.at_ i v s hv hs
 rw [List.getElem?_modify,he]
 by_cases hij:j=i
 ·
  subst hij
  exact ⟨g e,by simp,hg v s e hv hs hG⟩
 · exact ⟨e,by simp [hij],hG⟩
theorem yB {s:Sc}{e:Ev}(h:cK s e)(k:Nat)(f:Vl→Vl)(hf:∀(w:Vl) (fl:Fi),s.fields[k]? = some fl→pK w fl.kind→pK (f w) fl.kind):cK s (Uo e k f):=by
 refine ⟨by rw [Vf];exact h.1,fun j fl hj=>?_⟩
 obtain ⟨w,hw,hG⟩:=h.2 j fl hj
 show ∃x,(e.values.modify k f)[j]? = some x∧_
 rw [List.getElem?_modify,hw]
 by_cases hkj:k=j
 ·
  subst hkj
  exact ⟨f w,by simp,hf w fl hj hG⟩
 · exact ⟨w,by simp [hkj],hG⟩
theorem evG_at {j:Nat}{v:Va}{s:Sc}{e:Ev}(h:EvG j v s e)(k:Nat)(f:Vl→Vl)(hf:∀(w:Vl) (fl:Fi),s.fields[k]? = some fl→pK w fl.kind→pK (f w) fl.kind):EvG j v s (Uo e k f):=
 ⟨h.source,h.seq,h.type,h.t0,h.t1,yB h.suit k f hf⟩
theorem tF:∀{vs:List Va} {i j:Nat} {v:Va},vs[j]? = some v→(Fh T i vs)[j]? = some (Uq T (i+j) v)
  | [],i,j,v,h=>by simp at h
  | a::r,i,0,v,h=>by simp at h;subst h;rfl
  | a::r,i,j+1,v,h=>by
    have h':r[j]? = some v:=by simpa using h
    have:=tF (i:=i+1) h'
    rw [show i+1+j=i+(j+1) by omega] at this
    exact this
theorem mH (hT:Ep T=0):EvI T V (Fh T 0 V):=by
 refine ⟨Nq,fun i v s hv hs=>⟨_,tF hv,rfl,by show ((0+i:Nat):Int)=_;rw [Nat.zero_add],rfl,Int.le_refl _,by show (0:Int)≤_;decide,?_⟩⟩
 have hvals:(Uq T (0+i) v).values=s.fields.map zV:=Xb hs
 refine ⟨by rw [hvals,List.length_map],fun k f hf=>?_⟩
 rw [hvals,List.getElem?_map,hf]
 exact ⟨_,rfl,rfl,qL (fM hT (List.mem_of_getElem? hs) (List.mem_of_getElem? hf))⟩
theorem fV {t:Tm}(hk:KOK T V (Fx t))(h1:t.op=1){v:Va}{s:Sc}{fl:Fi}(hv:V[t.v.toNat]? = some v)(hs:T[v.type.toNat]? = some s)(hf:s.fields[t.field.toNat]? = some fl):An T V (Fx t)=fl.kind:=by
 obtain ⟨v',s',f',_,e1,_,e2,_,e3,e4⟩:=iE hk h1
 have e1':V[t.v.toNat]? = some v':=e1
 rw [hv] at e1';cases e1'
 rw [hs] at e2;cases e2
 have e3':s.fields[t.field.toNat]? = some f':=e3
 rw [hf] at e3';cases e3'
 exact e4
theorem uC {evs:List Ev}(h:EvI T V evs){t:Tm}(hk:KOK T V (Fx t))(ho:t.op=1∨t.op=2)(hkind:t.op=1→An T V (Fx t)=0∨An T V (Fx t)=1){x:Int}(hx:(Dh T V t).1≤x∧x≤(Dh T V t).2):EvI T V (L1 evs t x):=by
  unfold L1
  cases h2:t.op==2 with
  | true=>
    rw [if_pos rfl]
    rw [lim_1 h2] at hx
    exact V1 h _ _ fun v s e _ _ hG=>⟨hG.source,hG.seq,hG.type,hx.1,hx.2,hG.suit⟩
  | false=>
    rw [if_neg (by decide)]
    have h1 : t.op = 1 := by have : t.op ≠ 2 := by simpa using h2
                             omega
    refine V1 h _ _ fun v s e hv hs hG=>evG_at hG _ _ fun w fl hf hw=>?_
    have hkf:=fV hk h1 hv hs hf
    refine ⟨hw.1,vW hw.2 ?_⟩
    rw [hw.1,←hkf]
    rcases hkind h1 with h0 | h0
    · rw [lim_3 h2 (by rw [h0];rfl)] at hx
      exact .inl ⟨h0,hx⟩
    · rw [lim_2 h2 (by rw [h0];rfl)] at hx
      exact .inr ⟨h0,hx⟩
def rY (evs:List Ev)(t:Tm):Int:=if t.op==2 then ((evs[t.v.toNat]?).getD L3).time else ((((evs[t.v.toNat]?).getD L3).values[t.field.toNat]?).getD v0).num
def txA (evs:List Ev)(t:Tm):Hn:=((((evs[t.v.toNat]?).getD L3).values[t.field.toNat]?).getD v0).text
theorem Hp {α:Type}(l:List α)(j i:Nat)(f:α→α)(d:α):((l.modify j f)[i]?).getD d=if j=i∧i<l.length then f ((l[i]?).getD d) else (l[i]?).getD d:=by
  rw [List.getElem?_modify]
  cases hl:l[i]? with
  | none=>
    have:¬i<l.length:=by have:=List.getElem?_eq_none_iff.1 hl;omega
    rw [if_neg (fun e=>this e.2)];rfl
  | some x=>
    have:=A4 hl
    by_cases e:j=i
    · rw [if_pos ⟨e,this⟩];simp [e]
    · rw [if_neg (fun q=>e q.1)];simp [e]
theorem sP {evs:List Ev}(h:evOK T V evs){t:Tm}(ht:tmOK T V t)(h1:t.op=1):t.v.toNat<evs.length∧t.field.toNat<((evs[t.v.toNat]?).getD L3).values.length:=by
 have hv:=ht.v1
 have hv0:=ht.v0
 have hf:=ht.f h1
 have hlt:t.v.toNat<evs.length:=by rw [h.len];omega
 have hg:=List.getElem?_eq_getElem hlt
 have:=h.vals t.v.toNat _ hg
 rw [Int.toNat_of_nonneg hv0] at this
 refine ⟨hlt,?_⟩
 rw [hg]
 show t.field.toNat<(evs[t.v.toNat]).values.length
 rw [this];omega
theorem tm_eq {t u:Tm}(ht:tmOK T V t)(hu:tmOK T V u)(h1:t.op=1)(h2:u.op=1)(hv:t.v.toNat=u.v.toNat)(hf:t.field.toNat=u.field.toNat):t=u:=by
 have a:=ht.v0;have b:=hu.v0;have c:=ht.f h1;have d:=hu.f h2
 have e1:t.v=u.v:=by omega
 have e2:t.field=u.field:=by omega
 have e3:t.op=u.op:=by rw [h1,h2]
 obtain ⟨o,v,f⟩:=t
 obtain ⟨o',v',f'⟩:=u
 simp only at e1 e2 e3
 rw [e1,e2,e3]
theorem eT {evs:List Ev}{t:Tm}(h:(t.op==2)=true):rY evs t=((evs[t.v.toNat]?).getD L3).time:=if_pos h
theorem fF {evs:List Ev}{t:Tm}(h:(t.op==2)=false):rY evs t=((((evs[t.v.toNat]?).getD L3).values[t.field.toNat]?).getD v0).num:=C8 h
theorem jI {evs:List Ev}{t:Tm}{x:Int}(h:(t.op==2)=true):L1 evs t x=evs.modify t.v.toNat (fun e=>{ e with time:=x }):=if_pos h
theorem kE {evs:List Ev}{t:Tm}{x:Int}(h:(t.op==2)=false):L1 evs t x=evs.modify t.v.toNat (fun e=>Uo e t.field.toNat fun y=>{ y with num:=x }):=C8 h
theorem wW {evs:List Ev}(h:evOK T V evs){t:Tm}(ht:tmOK T V t)(x:Int):rY (L1 evs t x) t=x:=by
  cases h2:t.op==2 with
  | true=>
    have hlt:t.v.toNat<evs.length:=by have:=ht.v0;have:=ht.v1;rw [h.len];omega
    rw [eT h2,jI h2,Hp,if_pos ⟨rfl,hlt⟩]
  | false=>
    have h1 : t.op = 1 := by have : t.op ≠ 2 := by simpa using h2
                             have:=ht.op;omega
    obtain ⟨hlt,hfl⟩:=sP h ht h1
    rw [fF h2,kE h2,Hp,if_pos ⟨rfl,hlt⟩]
    show (((((evs[t.v.toNat]?).getD L3).values.modify t.field.toNat _)[t.field.toNat]?).getD v0).num=_
    rw [Hp,if_pos ⟨rfl,hfl⟩]
theorem iK {evs:List Ev}{t u:Tm}(ht:tmOK T V t)(hu:tmOK T V u)(ft:t.op=2→t.field=0)(fu:u.op=2→u.field=0)(hne:t≠u)(x:Int):rY (L1 evs t x) u=rY evs u:=by
  have a:=ht.v0;have b:=hu.v0
  cases h2:t.op==2 with
  | true=>
    cases h3:u.op==2 with
    | true=>
      rw [eT h3,eT h3,jI h2,Hp,if_neg ?_]
      intro q
      apply hne
      have e1:t.op=2:=by simpa using h2
      have e2:u.op=2:=by simpa using h3
      have e3:=ft e1;have e4:=fu e2
      have e5:t.v=u.v:=by have:=q.1;omega
      obtain ⟨o,v,f⟩:=t
      obtain ⟨o',v',f'⟩:=u
      simp only at e1 e2 e3 e4 e5
      rw [e1,e2,e3,e4,e5]
    | false=>
      rw [fF h3,fF h3,jI h2,Hp]
      split <;> rfl
  | false=>
    have h1 : t.op = 1 := by have : t.op ≠ 2 := by simpa using h2
                             have:=ht.op;omega
    cases h3:u.op==2 with
    | true=>
      rw [eT h3,eT h3,kE h2,Hp]
      split <;> rfl
    | false=>
      have hu1 : u.op = 1 := by have : u.op ≠ 2 := by simpa using h3
                                have:=hu.op;omega
      rw [fF h3,fF h3,kE h2,Hp]
      split
      · rename_i h4
        show (((((evs[u.v.toNat]?).getD L3).values.modify t.field.toNat _)[u.field.toNat]?).getD v0).num=_
        rw [Hp,if_neg (fun e=>hne (tm_eq ht hu h1 hu1 h4.1 e.1))]
      · rfl
theorem jL {t:Tm}(hk:KOK T V (Fx t))(h2:t.op=2):t.field=0:=by
 have hn:=(Bc hk.nodes).1
 have ho:(Fx t).op=2:=h2
 unfold B3 at hn
 split at hn
 · cases hn
 split at hn
 · cases hn
 split at hn
 · cases hn
 split at hn
 · cases hn
 rw [if_neg (by rw [ho];decide)] at hn
 unfold Br at hn
 split at hn
 · cases hn
 ·
  rename_i h3
  rw [ho] at h3
  have h4:¬(t.field≠0):=fun h=>h3 (by
   have:((Fx t).field != 0)=true:=bne_iff_ne.2 h
   rw [this];simp [D2])
  omega
theorem Yk {vals:List Int}:∀(ts:List Tm) (i:Nat) {evs:List Ev},EvI T V evs→(∀t∈ts,KOK T V (Fx t)∧(t.op=1∨t.op=2)∧(t.op=1→An T V (Fx t)=0∨An T V (Fx t)=1))→
    (∀(k:Nat) (t:Tm),ts[k]? = some t→(Dh T V t).1≤Du vals ((i:Int)+k+1)∧Du vals ((i:Int)+k+1)≤(Dh T V t).2)→EvI T V (Gv vals i ts evs)
  | [],i,evs,h,_,_=>h
  | t::r,i,evs,h,hk,hx=>by
    rw [Gv]
    obtain ⟨k1,k2,k3⟩:=hk t (List.mem_cons_self ..)
    have h0:=hx 0 t rfl
    rw [show (i:Int)+((0:Nat):Int)+1=(i:Int)+1 by omega] at h0
    refine Yk r (i+1) (uC h k1 k2 k3 h0) (fun u hu=>hk u (List.mem_cons_of_mem _ hu)) fun k u hu=>?_
    have:=hx (k+1) u (by simpa using hu)
    rw [show ((i+1:Nat):Int)+k+1=(i:Int)+((k+1:Nat):Int)+1 by omega]
    exact this
theorem eF {vals:List Int}:∀(ts:List Tm) (i:Nat) {evs:List Ev} {u:Tm},tmOK T V u→(u.op=2→u.field=0)→(∀t∈ts,tmOK T V t∧(t.op=2→t.field=0))→u∉ts→rY (Gv vals i ts evs) u=rY evs u
  | [],i,evs,u,_,_,_,_=>rfl
  | t::r,i,evs,u,hu,fu,ht,hn=>by
    obtain ⟨h1,h2⟩:=ht t (List.mem_cons_self ..)
    rw [Gv,eF r (i+1) hu fu (fun x hx=>ht x (List.mem_cons_of_mem _ hx)) (fun h=>hn (List.mem_cons_of_mem _ h))]
    exact iK h1 hu h2 fu (fun e=>hn (by rw [e];exact List.mem_cons_self ..)) _
theorem fW {vals:List Int}:∀(ts:List Tm) (i:Nat) {evs:List Ev},evOK T V evs→ts.Nodup→(∀t∈ts,tmOK T V t∧(t.op=2→t.field=0))→∀(k:Nat) (t:Tm),ts[k]? = some t→rY (Gv vals i ts evs) t=Du vals ((i:Int)+k+1)
  | [],i,evs,_,_,_,k,t,h=>by simp at h
  | u::r,i,evs,he,hn,ht,0,t,h=>by
    simp at h;subst h
    obtain ⟨h1,h2⟩:=ht u (List.mem_cons_self ..)
    rw [Gv,eF r (i+1) h1 h2 (fun x hx=>ht x (List.mem_cons_of_mem _ hx)) (List.nodup_cons.1 hn).1,wW he h1]
    rw [show (i:Int)+((0:Nat):Int)+1=(i:Int)+1 by omega]
  | u::r,i,evs,he,hn,ht,k+1,t,h=>by
    rw [Gv,fW r (i+1) (U1 he u _) (List.nodup_cons.1 hn).2 (fun x hx=>ht x (List.mem_cons_of_mem _ hx)) k t (by simpa using h)]
    rw [show ((i+1:Nat):Int)+k+1=(i:Int)+((k+1:Nat):Int)+1 by omega]
theorem Ty {ts l:List Tm}(h:ts.Nodup):(A3 ts l).Nodup:=by
  cases l with
  | nil=>exact h
  | cons t r=>
    unfold A3
    simp only
    split
    · exact h
    · rename_i h1
      rw [List.nodup_append]
      refine ⟨h,by simp,fun a ha b hb e=>?_⟩
      rw [List.mem_singleton] at hb
      subst hb;subst e
      exact h1 (by simpa using ha)
theorem aA:∀(l:List Lit) {s:Sy},s.ts.Nodup→(l.foldl (C7 T V) s).ts.Nodup
  | [],s,h=>h
  | c::r,s,h=>by
    rw [List.foldl_cons]
    refine aA r ?_
    cases h1 : !(Aa T V c).2 with
    | true=>rw [Kf h1];exact h
    | false=>rw [J7 h1];exact Ty (Ty h)
theorem Y7 {evs:List Ev}(hty:Ki T V)(h:EvI T V evs):J4 T V (Gq evs):=by
 refine ⟨by simp [Gq,h.len],fun i v hv=>?_⟩
 obtain ⟨s,hs⟩:=fJ hty (List.mem_of_getElem? hv)
 obtain ⟨e,he,hG⟩:=h.at_ i v s hv hs
 exact ⟨s,e,hs,by simp [Gq,he],hG.suit⟩
theorem mQ {evs:List Ev}(hty:Ki T V)(h:EvI T V evs):EnvOK T V (Gq evs):=by
 refine ⟨Y7 hty h,fun l hl ev hev=>?_⟩
 obtain ⟨e,he,rfl⟩:=List.mem_map.1 hl
 rw [List.mem_singleton] at hev;subst hev
 obtain ⟨i,hi⟩:=List.mem_iff_getElem?.1 he
 have hlt:=A4 hi
 have hv:V[i]? = some (V[i]'(by rw [←h.len];exact hlt)):=List.getElem?_eq_getElem _
 obtain ⟨s,hs⟩:=fJ hty (List.mem_of_getElem? hv)
 obtain ⟨e',he',hG⟩:=h.at_ i _ s hv hs
 rw [hi] at he';cases he'
 exact ⟨hG.t0,hG.t1⟩
theorem wU {evs:List Ev}{v:Int}{ev:Ev}(h0:0≤v)(h:Bx (Gq evs) v = [ev]):evs[v.toNat]? = some ev:=by
  unfold Bx at h
  split at h
  · cases h
  · rename_i h1
    cases hq:evs[v.toNat]? with
    | none=>
      have:(Gq evs)[v.toNat]? = none:=by unfold Gq;rw [List.getElem?_map,hq];rfl
      rw [this] at h;cases h
    | some e=>
      have:(Gq evs)[v.toNat]? = some [e]:=by unfold Gq;rw [List.getElem?_map,hq];rfl
      rw [this] at h
      have h2:[e] = [ev]:=h
      cases h2;rfl
theorem zZ {evs:List Ev}(hE:EnvOK T V (Gq evs)){t:Tm}(hk:KOK T V (Fx t))(ht:tmOK T V t):Xs (Gq evs) t=rY evs t∧(t.op=1→(vl (Gq evs) (Fx t)).text=txA evs t):=by
 obtain ⟨ev,h1,h2,h3,h4⟩:=W2 hE.suits hE.small hk (show ((Fx t).op==1||(Fx t).op==2)=true by have:=ht.op;show (t.op==1||t.op==2)=true;simpa using this)
 have h5:evs[t.v.toNat]? = some ev:=wU ht.v0 h1
 have hv:vl (Gq evs) (Fx t)=(Lw (Fx t) ev).1:=by show (B6 _ _).1=_;rw [h4]
 unfold Xs
 rw [hv]
 unfold rY txA
 rw [h5]
 unfold Lw at h2 ⊢
 rcases ht.op with h | h
 ·
  have e1:((Fx t).op==1)=true:=by show (t.op==1)=true;simpa using h
  rw [if_pos e1] at h2 ⊢
  have e2:(t.op==2)=false:=by rw [h];rfl
  rw [e2]
  split at h2
  · cases h2
  ·
   rename_i h6
   rw [if_neg h6]
   exact ⟨rfl,fun _=>rfl⟩
 ·
  have e1:¬((Fx t).op==1)=true:=by show ¬(t.op==1)=true;rw [h];decide
  rw [if_neg e1]
  have e2:(t.op==2)=true:=by rw [h];rfl
  rw [e2]
  exact ⟨rfl,fun h1=>by omega⟩
end

section
variable {T:List Sc} {V:List Va}
structure WordL (T:List Sc) (V:List Va) (l:List Lit) (x:Wd):Prop where
 ex:∃c∈l,Dl T V c.cond=true∧Ck T V c.cond=true∧∃a∈c.cond.args,x=Ga a
abbrev usedOK (p:Um×List Wd):Prop:=∀x∈p.2,x.const=true→Kv p.1 x.text=true
structure WOK (T:List Sc) (V:List Va) (x:Wd):Prop where
 wf:wfW x
 fld:x.const=false→KOK T V (Fx x.field)∧tmOK T V x.field∧x.field.op=1∧An T V (Fx x.field)=2
 txt:x.const=true→x.text.length≤64
structure NI (W:Wd→Prop) (U:Um) (N:Nm):Prop where
 used:∀p∈N,Kv U p.2=true
 texts:∀x,W x→x.const=true→Kv U x.text=true
 con:∀p∈N,p.1.const=true→p.2=p.1.text∧W p.1
 free:∀p∈N,p.1.const=false→∀x,W x→x.const=true→x.text≠p.2
 inj:∀p∈N,∀q∈N,p.2=q.2→p.1=q.1
 len:∀p∈N,p.2.length≤64
structure NS (T:List Sc) (V:List Va) (W:Wd→Prop) (w:Wm) (done:List Wd) (s:Ns) (b:Nat):Prop where
 ni:NI W s.1 s.2.1
 ulen:s.1.length≤b
 evi:EvI T V s.2.2
 eok:evOK T V s.2.2
 has:∀x∈done,∃t,K3 s.2.1 (D4 w x)=some t∧(x.const=false→txA s.2.2 x.field=t)
end

section
variable {T:List Sc} {V:List Va}
abbrev Rc (T:List Sc)(V:List Va)(t:Tm):Prop:=An T V (Fx t)=0
theorem Zj (e:Ex):KOK T V e→An T V e=0→∀{b:Int} {s:Su},(∀p∈s.ts,Rc T V p.1)→∀p∈(Bg e b s).1.ts,Rc T V p.1:=by
  refine Ex.Aav (P:=fun e=>KOK T V e→An T V e=0→∀{b:Int} {s:Su},(∀p∈s.ts,Rc T V p.1)→∀p∈(Bg e b s).1.ts,Rc T V p.1) (fun e ih hk h0 b s hs=>?_) e
  have hz:=Bc hk.nodes
  rcases Kb hz.1 with h | ⟨h,h1⟩ | ⟨h,hl⟩ | ⟨h,h1,h2,h3⟩
  · rw [Fa h];exact hs
  · rw [B8 h h1]
    intro p hp'
    have hme:Rc T V (Dv e):=by show An T V (Fx (Dv e))=0;rw [Ky hz.1 h1];exact h0
    have key:∀{ts:List (Tm×Int)},(∀p∈ts,Rc T V p.1)→∀p∈Fv (Dv e) b ts,Rc T V p.1:=by
      intro ts
      induction ts with
      | nil=>intro _ p hp';rw [Fv,List.mem_singleton] at hp';rw [hp'];exact hme
      | cons q r ihr=>
        intro hts p hp'
        rw [Fv] at hp'
        split at hp'
        · rcases List.mem_cons.1 hp' with rfl | hp'
          · exact hts q (List.mem_cons_self ..)
          · exact hts p (List.mem_cons_of_mem _ hp')
        · rcases List.mem_cons.1 hp' with rfl | hp'
          · exact hts p (List.mem_cons_self ..)
          · exact ihr (fun p hp'=>hts p (List.mem_cons_of_mem _ hp')) p hp'
    exact key hs p hp'
  · have m0:=A0 (show 0<e.args.length by omega)
    have m1:=Bk hl
    have k0:=Rx hk h m0
    have k1:=Rx hk h m1
    have key:∀c,∀p∈(if !(Bg (Av e) b s).2 then ((Bg (Av e) b s).1,false) else Bg (Cc e) c (Bg (Av e) b s).1).1.ts,Rc T V p.1:=fun c=>by
      have i0:=ih _ m0 (A2 hk m0) k0 (b:=b) hs
      split
      · exact i0
      · exact ih _ m1 (A2 hk m1) k1 i0
    rcases h with h | h
    · rw [Ik (c:=b) hl (.inl ⟨h,rfl⟩)];exact key b
    · rw [Ik (c:=0-b) hl (.inr ⟨h,rfl⟩)];exact key _
  · rw [F4 h h1 h2 h3];exact hs
theorem Xx {a b:Ex}(ha:KOK T V a)(hb:KOK T V b)(ka:An T V a=0)(kb:An T V b=0):(∀t∈(B7 a b).1.plus,Rc T V t)∧∀t∈(B7 a b).1.minus,Rc T V t:=by
  have h0:(∀t∈nV.plus,Rc T V t)∧∀t∈nV.minus,Rc T V t:=⟨fun t h=>(by cases h),fun t h=>(by cases h)⟩
  unfold B7
  split
  · exact h0
  rename_i h1
  split
  · exact h0
  have he:(Bg b (-1) (Bg a 1 Ir).1).1=C9 a b:=by unfold C9;rw [if_neg h1]
  rw [he]
  have hse:∀p∈(C9 a b).ts,Rc T V p.1:=by
    have q1:=Zj a ha ka (b:=1) (s:=Ir) (fun p hp=>(by cases hp))
    unfold C9
    split
    · exact q1
    · exact Zj b hb kb q1
  unfold Or
  cases hp:C5 (C9 a b).ts [] [] with
  | none=>exact h0
  | some p=>
    obtain ⟨p,m⟩:=p
    exact Iy (P:=Rc T V) hse (fun t h=>by cases h) (fun t h=>by cases h) hp
abbrev qZ (T:List Sc)(V:List Va)(t:Tm):Prop:=An T V (Fx t)=0∨An T V (Fx t)=1
theorem X3 {env:List (List Ev)}(hE:EnvOK T V env){y:Lit}(hf:LitF T V y)(hn:(Aa T V y).2=true):(∀t∈(Aa T V y).1.plus,qZ T V t)∧∀t∈(Aa T V y).1.minus,qZ T V t:=by
  cases h:y.cond.op==1 with
  | true=>
    rw [Vt h]
    refine ⟨fun t ht=>?_,fun t ht=>by cases ht⟩
    rw [List.mem_singleton.1 ht]
    right
    rw [Ky (Bc hf.kok.nodes).1 (by rw [h];rfl)]
    exact hf.kind
  | false=>
    obtain ⟨hop,k0,k1,hb,he⟩:=gQ hE hf h hn
    have hl:=X5 hf.kok (by omega) (by omega)
    have m0:=A0 (show 0<y.cond.args.length by omega)
    have m1:=Bk (show 1<y.cond.args.length by omega)
    rw [he]
    obtain ⟨q1,q2⟩:=Xx (A2 hf.kok m0) (A2 hf.kok m1) k0 k1
    exact ⟨fun t ht=>.inl (q1 t ht),fun t ht=>.inl (q2 t ht)⟩
theorem Yf {env:List (List Ev)}(hE:EnvOK T V env):∀{l:List Lit},(∀y∈l,LitF T V y)→∀{s:Sy},(∀t∈s.ts,qZ T V t)→∀t∈(l.foldl (C7 T V) s).ts,qZ T V t
  | [],_,s,hs=>hs
  | c::r,hl,s,hs=>by
    rw [List.foldl_cons]
    refine Yf hE (fun x hx=>hl x (List.mem_cons_of_mem _ hx)) ?_
    cases h : !(Aa T V c).2 with
    | true=>rw [Kf h];exact hs
    | false=>
      rw [J7 h]
      obtain ⟨h1,h2⟩:=X3 hE (hl c (List.mem_cons_self ..)) (by simpa using h)
      exact K4 (K4 hs h1) h2
theorem cF:∀{ts:List Tm} {i k:Nat} {t:Tm},ts[k]? = some t→(⟨(i:Int)+k+1,0,(Dh T V t).2⟩:Bd)∈Ho T V i ts∧(⟨0,(i:Int)+k+1,0-(Dh T V t).1⟩:Bd)∈Ho T V i ts
  | [],i,k,t,h=>by simp at h
  | u::r,i,0,t,h=>by
    simp at h;subst h
    rw [Ho,show (i:Int)+((0:Nat):Int)+1=(i:Int)+1 by omega]
    exact ⟨List.mem_cons_self ..,List.mem_cons_of_mem _ (List.mem_cons_self ..)⟩
  | u::r,i,k+1,t,h=>by
    obtain ⟨h1,h2⟩:=cF (i:=i+1) (show r[k]? = some t by simpa using h)
    rw [Ho,show (i:Int)+((k+1:Nat):Int)+1=((i+1:Nat):Int)+k+1 by omega]
    exact ⟨List.mem_cons_of_mem _ (List.mem_cons_of_mem _ h1),List.mem_cons_of_mem _ (List.mem_cons_of_mem _ h2)⟩
theorem bG {y:Lit}(hf:LitF T V y)(h:Ck T V y.cond=true):(Aa T V y).2=true∨Dl T V y.cond=true:=by
  cases h1:y.cond.op==1 with
  | true=>left;rw [Vt h1]
  | false=>
    cases h2 : !Cb y.cond with
    | true=>rw [Vh h1 h2] at h;cases h
    | false=>
      cases h3:Dl T V y.cond with
      | true=>exact .inr rfl
      | false=>
        left
        rw [Zx h1 (by rw [h2,h3];rfl)]
        unfold Ck at h
        rw [C8 h1,C8 h2,C8 h3] at h
        exact h
theorem Yt:∀{l:List Vl} {m:List Fi},(∀(k:Nat) (f:Fi),m[k]? = some f→∃w,l[k]? = some w∧pK w f.kind)→Qa l m=0
  | [],[],_=>rfl
  | [],_::_,_=>rfl
  | _::_,[],_=>rfl
  | v::r,g::s,h=>by
    obtain ⟨w,hw,hG⟩:=h 0 g rfl
    simp at hw;subst hw
    have h0:Xm v g=0:=by
      unfold Xm
      rw [if_neg (by rw [hG.2];decide),if_neg (by rw [hG.1];simp)]
    rw [Qa,if_neg (by rw [h0];decide)]
    exact Yt fun k f hf=>by
      have:=h (k+1) f (by simpa using hf)
      simpa using this
theorem jN {evs:List Ev}(hT:Ep T=0)(hty:Ki T V)(hV:V.length≤1000)(h:EvI T V evs):Ws T V evs=true:=by
 unfold Ws
 have hany:(evs.zip V).any (Rq T)=false:=by
  rw [List.any_eq_false]
  intro p hp
  obtain ⟨i,hi⟩:=List.mem_iff_getElem?.1 hp
  rw [List.getElem?_zip_eq_some] at hi
  obtain ⟨h1,h2⟩:=hi
  obtain ⟨s,hs⟩:=fJ hty (List.mem_of_getElem? h2)
  obtain ⟨e,he,hG⟩:=h.at_ i p.2 s h2 hs
  rw [h1] at he;cases he
  have hi':=A4 h2
  have hty':=hty p.2 (List.mem_of_getElem? h2)
  have hsl:=A4 hs
  have hnum:Ht p.1=0:=by
   unfold Ht
   rw [hG.source,hG.seq,if_neg (by decide),if_neg ?_]
   have:=hG.t0;have:=hG.t1
   simp only [Bool.or_eq_true,decide_eq_true_eq];omega
  have hfo:E2 T p.1=s.fields:=by unfold E2;rw [hG.type,hs];rfl
  have hval:Ja T p.1=0:=by
   unfold Ja
   rw [if_neg (by rw [hnum];decide),if_neg ?_,hfo,if_neg ?_]
   · exact Yt hG.suit.2
   · rw [hG.suit.1];simp
   · rw [hG.type];simp only [Bool.or_eq_true,decide_eq_true_eq];omega
  unfold Rq O1
  rw [if_neg (by rw [hT];decide),hval,hG.type];simp
 rw [hany,C8 rfl,h.len];simp
end

section
variable {T:List Sc} {V:List Va} {l:List Ev} {e:Ex}
structure SceneOK (T:List Sc) (V:List Va) (l:List Ev) (e:Ex):Prop where
 kc:KC T V e
 kind:An T V e=1
 suits:J4 T V (Gq l)
def litU (l:List Ev)(y:Lit):Bool:=Nh ⟨Gq l,-1,L3⟩ y.cond != y.neg
end

section
variable {T:List Sc} {V:List Va} {env:List (List Ev)}
structure CondOK (T:List Sc) (V:List Va) (e:Ex):Prop where
 kc:KC T V e
 kind:An T V e=1
theorem CondOK.zero {e:Ex}(h:CondOK T V e):D1 T V e=0:=kJ h.kc h.kind
theorem CondOK.lits {e:Ex}(h:CondOK T V e)(s:Bool):Jw (LitF T V) (Cl T V e s):=oN h.kc.kok h.kind (Jy h.kc) s
theorem zT {e:Ex}(h:D1 T V e=0):CondOK T V e:=by
 have:=O3 (T:=T) (V:=V) (e:=e) (by rw [h];rfl)
 exact ⟨this.1,this.2⟩
theorem jX (h1:Ep T=0)(h2:Iv T V=0):(Cn T V (Fy true)).2=0:=by
 have hc:B4 (Fy true)=0:=by decide +kernel
 unfold Cn
 rw [if_neg (by rw [h1];decide),if_neg (by rw [h2];decide),if_neg (by rw [hc];decide),E0];rfl
theorem uL (h:Iv T V=0):V.length≤16:=by
 unfold Iv at h
 split at h
 · cases h
 ·
  rename_i h1
  simp only [decide_eq_true_eq] at h1
  omega
structure FindOK (T:List Sc) (V:List Va) (l:List Ev) (a b:Ex):Prop where
 ca:CondOK T V a
 cb:CondOK T V b
 env:EnvOK T V (Gq l)
section
variable {l:List Ev} {a b:Ex}
end
end

def evN0 (τ:Tm→Int)(e:Ex)(vs:List Int):Int:=
 if e.op==0 then 0 else if e.op==1||e.op==2 then τ (Dv e) else if e.op==5 then Q8 0 vs+Ys 0 vs else if e.op==6 then Q8 0 vs-Ys 0 vs else 0
def evT (τ:Tm→Int):Ex→Int:=P3 (evN0 τ)
def okK (p:Tm×Int):Bool:=p.2==0||p.2==1||p.2 == -1
def posL (ts:List (Tm×Int)):List Tm:=(ts.filter fun p=>p.2==1).map (·.1)
def negL (ts:List (Tm×Int)):List Tm:=(ts.filter fun p=>p.2 == -1).map (·.1)
def ind (t:Tm):Tm→Int:=fun u=>if u=t then 1 else 0
section
variable {T:List Sc} {V:List Va}
abbrev half1 (n:Nat):Nat:=(n-1) / 2
end
end Go.Proofs.YtjedflcpjlgokaaGreatDoor
