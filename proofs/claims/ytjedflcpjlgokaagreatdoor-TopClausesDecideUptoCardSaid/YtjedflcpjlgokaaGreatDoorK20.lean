/-
  Several texts in one: S46, S47, S48, S38, S49. No condition.
-/
import Derived.Test.YtjedflcpjlgokaaGreatDoorK19
import Derived.Test.YtjedflcpjlgokaaGreatDoorK18
set_option linter.unusedVariables false
set_option linter.unusedSimpArgs false
namespace Go.Proofs.YtjedflcpjlgokaaGreatDoor
open Go Go.Aw

theorem Pu:∀{l:List Fi} {seen:List (List UInt8)},G9 seen l=0→∀f∈l,0≤f.kind∧f.kind<3
  | [],_,_,f,hf=>by cases hf
  | g::r,seen,h,f,hf=>by
    rw [G9] at h
    cases h1:(Dl seen g != 0) with
    | true=>rw [if_pos h1] at h;rw [h] at h1;cases h1
    | false=>
      rw [Cu h1] at h
      rcases List.mem_cons.1 hf with rfl | hf
      · have h2:Dl seen f=0:=by simpa using h1
        unfold Dl at h2
        split at h2
        · cases h2
        split at h2
        · cases h2
        split at h2
        · cases h2
        · rename_i h3
          simp only [Bool.or_eq_true,decide_eq_true_eq,not_or] at h3
          omega
      · exact Pu h f hf
theorem X0:∀{l:List Sc} {seen:List (List UInt8)},Iz seen l=0→∀s∈l,Hd s=0
  | [],_,_,f,hf=>by cases hf
  | g::r,seen,h,s,hs=>by
    rw [Iz] at h
    cases h1:(Gg seen g != 0) with
    | true=>rw [if_pos h1] at h;rw [h] at h1;cases h1
    | false=>
      rw [Cu h1] at h
      rcases List.mem_cons.1 hs with rfl | hs
      · have h2:Gg seen s=0:=by simpa using h1
        unfold Gg at h2
        cases h3:(Hd s != 0) with
        | true=>rw [if_pos h3] at h2;exact h2
        | false=>simpa using h3
      · exact X0 h s hs
theorem cJ {T:List Sc}(h:D9 T=0){s:Sc}(hs:s∈T){f:Fi}(hf:f∈s.fields):0≤f.kind∧f.kind<3:=by
 unfold D9 at h
 split at h
 · cases h
 have h1:=X0 h s hs
 unfold Hd at h1
 split at h1
 · cases h1
 split at h1
 · cases h1
 exact Pu h1 f hf
theorem mW {k:Int}(h:0≤k∧k<3):Ao ⟨k,0,[]⟩=0:=by
 have:k=0∨k=1∨k=2:=by omega
 rcases this with rfl | rfl | rfl <;> rfl
theorem pV {w:Vl}{x:Int}(h:Ao w=0)(hk:(w.kind=0∧-1099511627776≤x∧x≤1099511627776)∨(w.kind=1∧0≤x∧x≤1)):Ao { w with num:=x }=0:=by
 have ht:w.text = []:=by
  unfold Ao at h
  rw [if_pos (by rcases hk with hk | hk <;> rw [hk.1] <;> rfl)] at h
  split at h
  · cases h
  · rename_i h1;simpa using h1
 unfold Ao Dz
 simp only [ht]
 rcases hk with ⟨h0,h1,h2⟩ | ⟨h0,h1,h2⟩
 · rw [h0];simp;omega
 ·
  rw [h0]
  have:x=0∨x=1:=by omega
  rcases this with rfl | rfl <;> rfl
section
variable {T:List Sc} {V:List Va}
structure EvG (i:Nat) (v:Va) (s:Sc) (e:Ev):Prop where
 source:e.source=0
 seq:e.seq=(i:Int)
 type:e.type=v.type
 t0:0≤e.time
 t1:e.time≤1099511627776
 suit:Zb s e
structure EvI (T:List Sc) (V:List Va) (evs:List Ev):Prop where
 len:evs.length=V.length
 at_:∀(i:Nat) (v:Va) (s:Sc),V[i]? = some v→T[v.type.toNat]? = some s→∃e,evs[i]? = some e∧EvG i v s e
theorem Vm {evs:List Ev}(h:EvI T V evs)(j:Nat)(g:Ev→Ev)(hg:∀(v:Va) (s:Sc) (e:Ev),V[j]? = some v→T[v.type.toNat]? = some s→EvG j v s e→EvG j v s (g e)):EvI T V (evs.modify j g):=by
 refine ⟨by rw [List.length_modify];exact h.len,fun i v s hv hs=>?_⟩
 obtain ⟨e,he,hG⟩:=h.at_ i v s hv hs
 rw [List.getElem?_modify,he]
 by_cases hij:j=i
 ·
  subst hij
  exact ⟨g e,by simp,hg v s e hv hs hG⟩
 · exact ⟨e,by simp [hij],hG⟩
theorem vL {s:Sc}{e:Ev}(h:Zb s e)(k:Nat)(f:Vl→Vl)(hf:∀(w:Vl) (fl:Fi),s.fields[k]? = some fl→qF w fl.kind→qF (f w) fl.kind):Zb s (S8 e k f):=by
 refine ⟨by rw [Tj];exact h.1,fun j fl hj=>?_⟩
 obtain ⟨w,hw,hG⟩:=h.2 j fl hj
 show ∃x,(e.values.modify k f)[j]? = some x∧_
 rw [List.getElem?_modify,hw]
 by_cases hkj:k=j
 ·
  subst hkj
  exact ⟨f w,by simp,hf w fl hj hG⟩
 · exact ⟨w,by simp [hkj],hG⟩
theorem zF {j:Nat}{v:Va}{s:Sc}{e:Ev}(h:EvG j v s e)(k:Nat)(f:Vl→Vl)(hf:∀(w:Vl) (fl:Fi),s.fields[k]? = some fl→qF w fl.kind→qF (f w) fl.kind):EvG j v s (S8 e k f):=
 ⟨h.source,h.seq,h.type,h.t0,h.t1,vL h.suit k f hf⟩
theorem sG:∀{vs:List Va} {i j:Nat} {v:Va},vs[j]? = some v→(Gs T i vs)[j]? = some (Wo T (i+j) v)
  | [],i,j,v,h=>by simp at h
  | a::r,i,0,v,h=>by simp at h;subst h;rfl
  | a::r,i,j+1,v,h=>by
    have h':r[j]? = some v:=by simpa using h
    have:=sG (i:=i+1) h'
    rw [show i+1+j=i+(j+1) by omega] at this
    exact this
theorem iW (hT:D9 T=0):EvI T V (Gs T 0 V):=by
 refine ⟨Q3,fun i v s hv hs=>⟨_,sG hv,rfl,by show ((0+i:Nat):Int)=_;rw [Nat.zero_add],rfl,Int.le_refl _,by show (0:Int)≤_;decide,?_⟩⟩
 have hvals:(Wo T (0+i) v).values=s.fields.map zV:=dM hs
 refine ⟨by rw [hvals,List.length_map],fun k f hf=>?_⟩
 rw [hvals,List.getElem?_map,hf]
 exact ⟨_,rfl,rfl,mW (cJ hT (List.mem_of_getElem? hs) (List.mem_of_getElem? hf))⟩
theorem dR {t:Tm}(hk:KOK T V (Hs t))(h1:t.op=1){v:Va}{s:Sc}{fl:Fi}(hv:V[t.v.toNat]? = some v)(hs:T[v.type.toNat]? = some s)(hf:s.fields[t.field.toNat]? = some fl):Ak T V (Hs t)=fl.kind:=by
 obtain ⟨v',s',f',_,e1,_,e2,_,e3,e4⟩:=gP hk h1
 have e1':V[t.v.toNat]? = some v':=e1
 rw [hv] at e1';cases e1'
 rw [hs] at e2;cases e2
 have e3':s.fields[t.field.toNat]? = some f':=e3
 rw [hf] at e3';cases e3'
 exact e4
theorem rF {evs:List Ev}(h:EvI T V evs){t:Tm}(hk:KOK T V (Hs t))(ho:t.op=1∨t.op=2)(hkind:t.op=1→Ak T V (Hs t)=0∨Ak T V (Hs t)=1){x:Int}(hx:(Cw T V t).1≤x∧x≤(Cw T V t).2):EvI T V (Px evs t x):=by
  unfold Px
  cases h2:t.op==2 with
  | true=>
    rw [if_pos rfl]
    rw [yD h2] at hx
    exact Vm h _ _ fun v s e _ _ hG=>⟨hG.source,hG.seq,hG.type,hx.1,hx.2,hG.suit⟩
  | false=>
    rw [if_neg (by decide)]
    have h1 : t.op = 1 := by have : t.op ≠ 2 := by simpa using h2
                             omega
    refine Vm h _ _ fun v s e hv hs hG=>zF hG _ _ fun w fl hf hw=>?_
    have hkf:=dR hk h1 hv hs hf
    refine ⟨hw.1,pV hw.2 ?_⟩
    rw [hw.1,←hkf]
    rcases hkind h1 with h0 | h0
    · rw [zC h2 (by rw [h0];rfl)] at hx
      exact .inl ⟨h0,hx⟩
    · rw [yI h2 (by rw [h0];rfl)] at hx
      exact .inr ⟨h0,hx⟩
def qY (evs:List Ev)(t:Tm):Int:=if t.op==2 then ((evs[t.v.toNat]?).getD Ms).time else ((((evs[t.v.toNat]?).getD Ms).values[t.field.toNat]?).getD v0).num
def txA (evs:List Ev)(t:Tm):Gk:=((((evs[t.v.toNat]?).getD Ms).values[t.field.toNat]?).getD v0).text
theorem G0 {α:Type}(l:List α)(j i:Nat)(f:α→α)(d:α):((l.modify j f)[i]?).getD d=if j=i∧i<l.length then f ((l[i]?).getD d) else (l[i]?).getD d:=by
  rw [List.getElem?_modify]
  cases hl:l[i]? with
  | none=>
    have:¬i<l.length:=by have:=List.getElem?_eq_none_iff.1 hl;omega
    rw [if_neg (fun e=>this e.2)];rfl
  | some x=>
    have:=Bh hl
    by_cases e:j=i
    · rw [if_pos ⟨e,this⟩];simp [e]
    · rw [if_neg (fun q=>e q.1)];simp [e]
theorem oX {evs:List Ev}(h:evOK T V evs){t:Tm}(ht:tmOK T V t)(h1:t.op=1):t.v.toNat<evs.length∧t.field.toNat<((evs[t.v.toNat]?).getD Ms).values.length:=by
 have hv:=ht.v1
 have hv0:=ht.v0
 have hf:=ht.f h1
 have hlt:t.v.toNat<evs.length:=by rw [h.len];omega
 have hg:=List.getElem?_eq_getElem hlt
 have:=h.vals t.v.toNat _ hg
 rw [Int.toNat_of_nonneg hv0] at this
 refine ⟨hlt,?_⟩
 rw [hg]
 show t.field.toNat<(evs[t.v.toNat]).values.length
 rw [this];omega
theorem tm_eq {t u:Tm}(ht:tmOK T V t)(hu:tmOK T V u)(h1:t.op=1)(h2:u.op=1)(hv:t.v.toNat=u.v.toNat)(hf:t.field.toNat=u.field.toNat):t=u:=by
 have a:=ht.v0;have b:=hu.v0;have c:=ht.f h1;have d:=hu.f h2
 have e1:t.v=u.v:=by omega
 have e2:t.field=u.field:=by omega
 have e3:t.op=u.op:=by rw [h1,h2]
 obtain ⟨o,v,f⟩:=t
 obtain ⟨o',v',f'⟩:=u
 simp only at e1 e2 e3
 rw [e1,e2,e3]
theorem fF {evs:List Ev}{t:Tm}(h:(t.op==2)=true):qY evs t=((evs[t.v.toNat]?).getD Ms).time:=if_pos h
theorem bX {evs:List Ev}{t:Tm}(h:(t.op==2)=false):qY evs t=((((evs[t.v.toNat]?).getD Ms).values[t.field.toNat]?).getD v0).num:=Cu h
theorem iB {evs:List Ev}{t:Tm}{x:Int}(h:(t.op==2)=true):Px evs t x=evs.modify t.v.toNat (fun e=>{ e with time:=x }):=if_pos h
theorem gC {evs:List Ev}{t:Tm}{x:Int}(h:(t.op==2)=false):Px evs t x=evs.modify t.v.toNat (fun e=>S8 e t.field.toNat fun y=>{ y with num:=x }):=Cu h
theorem vX {evs:List Ev}(h:evOK T V evs){t:Tm}(ht:tmOK T V t)(x:Int):qY (Px evs t x) t=x:=by
  cases h2:t.op==2 with
  | true=>
    have hlt:t.v.toNat<evs.length:=by have:=ht.v0;have:=ht.v1;rw [h.len];omega
    rw [fF h2,iB h2,G0,if_pos ⟨rfl,hlt⟩]
  | false=>
    have h1 : t.op = 1 := by have : t.op ≠ 2 := by simpa using h2
                             have:=ht.op;omega
    obtain ⟨hlt,hfl⟩:=oX h ht h1
    rw [bX h2,gC h2,G0,if_pos ⟨rfl,hlt⟩]
    show (((((evs[t.v.toNat]?).getD Ms).values.modify t.field.toNat _)[t.field.toNat]?).getD v0).num=_
    rw [G0,if_pos ⟨rfl,hfl⟩]
theorem fX {evs:List Ev}{t u:Tm}(ht:tmOK T V t)(hu:tmOK T V u)(ft:t.op=2→t.field=0)(fu:u.op=2→u.field=0)(hne:t≠u)(x:Int):qY (Px evs t x) u=qY evs u:=by
  have a:=ht.v0;have b:=hu.v0
  cases h2:t.op==2 with
  | true=>
    cases h3:u.op==2 with
    | true=>
      rw [fF h3,fF h3,iB h2,G0,if_neg ?_]
      intro q
      apply hne
      have e1:t.op=2:=by simpa using h2
      have e2:u.op=2:=by simpa using h3
      have e3:=ft e1;have e4:=fu e2
      have e5:t.v=u.v:=by have:=q.1;omega
      obtain ⟨o,v,f⟩:=t
      obtain ⟨o',v',f'⟩:=u
      simp only at e1 e2 e3 e4 e5
      rw [e1,e2,e3,e4,e5]
    | false=>
      rw [bX h3,bX h3,iB h2,G0]
      split <;> rfl
  | false=>
    have h1 : t.op = 1 := by have : t.op ≠ 2 := by simpa using h2
                             have:=ht.op;omega
    cases h3:u.op==2 with
    | true=>
      rw [fF h3,fF h3,gC h2,G0]
      split <;> rfl
    | false=>
      have hu1 : u.op = 1 := by have : u.op ≠ 2 := by simpa using h3
                                have:=hu.op;omega
      rw [bX h3,bX h3,gC h2,G0]
      split
      · rename_i h4
        show (((((evs[u.v.toNat]?).getD Ms).values.modify t.field.toNat _)[u.field.toNat]?).getD v0).num=_
        rw [G0,if_neg (fun e=>hne (tm_eq ht hu h1 hu1 h4.1 e.1))]
      · rfl
theorem gW {t:Tm}(hk:KOK T V (Hs t))(h2:t.op=2):t.field=0:=by
 have hn:=(A9 hk.nodes).1
 have ho:(Hs t).op=2:=h2
 unfold Bq at hn
 split at hn
 · cases hn
 split at hn
 · cases hn
 split at hn
 · cases hn
 split at hn
 · cases hn
 rw [if_neg (by rw [ho];decide)] at hn
 unfold Bj at hn
 split at hn
 · cases hn
 ·
  rename_i h3
  rw [ho] at h3
  have h4:¬(t.field≠0):=fun h=>h3 (by
   have:((Hs t).field != 0)=true:=bne_iff_ne.2 h
   rw [this];simp [Dd])
  omega
theorem Xi {vals:List Int}:∀(ts:List Tm) (i:Nat) {evs:List Ev},EvI T V evs→(∀t∈ts,KOK T V (Hs t)∧(t.op=1∨t.op=2)∧(t.op=1→Ak T V (Hs t)=0∨Ak T V (Hs t)=1))→
    (∀(k:Nat) (t:Tm),ts[k]? = some t→(Cw T V t).1≤C5 vals ((i:Int)+k+1)∧C5 vals ((i:Int)+k+1)≤(Cw T V t).2)→EvI T V (Hk vals i ts evs)
  | [],i,evs,h,_,_=>h
  | t::r,i,evs,h,hk,hx=>by
    rw [Hk]
    obtain ⟨k1,k2,k3⟩:=hk t (List.mem_cons_self ..)
    have h0:=hx 0 t rfl
    rw [show (i:Int)+((0:Nat):Int)+1=(i:Int)+1 by omega] at h0
    refine Xi r (i+1) (rF h k1 k2 k3 h0) (fun u hu=>hk u (List.mem_cons_of_mem _ hu)) fun k u hu=>?_
    have:=hx (k+1) u (by simpa using hu)
    rw [show ((i+1:Nat):Int)+k+1=(i:Int)+((k+1:Nat):Int)+1 by omega]
    exact this
theorem bB {vals:List Int}:∀(ts:List Tm) (i:Nat) {evs:List Ev} {u:Tm},tmOK T V u→(u.op=2→u.field=0)→(∀t∈ts,tmOK T V t∧(t.op=2→t.field=0))→u∉ts→qY (Hk vals i ts evs) u=qY evs u
  | [],i,evs,u,_,_,_,_=>rfl
  | t::r,i,evs,u,hu,fu,ht,hn=>by
    obtain ⟨h1,h2⟩:=ht t (List.mem_cons_self ..)
    rw [Hk,bB r (i+1) hu fu (fun x hx=>ht x (List.mem_cons_of_mem _ hx)) (fun h=>hn (List.mem_cons_of_mem _ h))]
    exact fX h1 hu h2 fu (fun e=>hn (by rw [e];exact List.mem_cons_self ..)) _
theorem eP {vals:List Int}:∀(ts:List Tm) (i:Nat) {evs:List Ev},evOK T V evs→ts.Nodup→(∀t∈ts,tmOK T V t∧(t.op=2→t.field=0))→∀(k:Nat) (t:Tm),ts[k]? = some t→qY (Hk vals i ts evs) t=C5 vals ((i:Int)+k+1)
  | [],i,evs,_,_,_,k,t,h=>by simp at h
  | u::r,i,evs,he,hn,ht,0,t,h=>by
    simp at h;subst h
    obtain ⟨h1,h2⟩:=ht u (List.mem_cons_self ..)
    rw [Hk,bB r (i+1) h1 h2 (fun x hx=>ht x (List.mem_cons_of_mem _ hx)) (List.nodup_cons.1 hn).1,vX he h1]
    rw [show (i:Int)+((0:Nat):Int)+1=(i:Int)+1 by omega]
  | u::r,i,evs,he,hn,ht,k+1,t,h=>by
    rw [Hk,eP r (i+1) (aG he u _) (List.nodup_cons.1 hn).2 (fun x hx=>ht x (List.mem_cons_of_mem _ hx)) k t (by simpa using h)]
    rw [show ((i+1:Nat):Int)+k+1=(i:Int)+((k+1:Nat):Int)+1 by omega]
theorem Sw {ts l:List Tm}(h:ts.Nodup):(Ar ts l).Nodup:=by
  cases l with
  | nil=>exact h
  | cons t r=>
    unfold Ar
    simp only
    split
    · exact h
    · rename_i h1
      rw [List.nodup_append]
      refine ⟨h,by simp,fun a ha b hb e=>?_⟩
      rw [List.mem_singleton] at hb
      subst hb;subst e
      exact h1 (by simpa using ha)
theorem X6:∀(l:List Lit) {s:Sy},s.ts.Nodup→(l.foldl (Cq T V) s).ts.Nodup
  | [],s,h=>h
  | c::r,s,h=>by
    rw [List.foldl_cons]
    refine X6 r ?_
    cases h1 : !(Aa T V c).2 with
    | true=>rw [Jh h1];exact h
    | false=>rw [Jc h1];exact Sw (Sw h)
theorem nR {evs:List Ev}(hty:Kl T V)(h:EvI T V evs):J8 T V (Hi evs):=by
 refine ⟨by simp [Hi,h.len],fun i v hv=>?_⟩
 obtain ⟨s,hs⟩:=pJ hty (List.mem_of_getElem? hv)
 obtain ⟨e,he,hG⟩:=h.at_ i v s hv hs
 exact ⟨s,e,hs,by simp [Hi,he],hG.suit⟩
theorem jV {evs:List Ev}(hty:Kl T V)(h:EvI T V evs):EnvOK T V (Hi evs):=by
 refine ⟨nR hty h,fun l hl ev hev=>?_⟩
 obtain ⟨e,he,rfl⟩:=List.mem_map.1 hl
 rw [List.mem_singleton] at hev;subst hev
 obtain ⟨i,hi⟩:=List.mem_iff_getElem?.1 he
 have hlt:=Bh hi
 have hv:V[i]? = some (V[i]'(by rw [←h.len];exact hlt)):=List.getElem?_eq_getElem _
 obtain ⟨s,hs⟩:=pJ hty (List.mem_of_getElem? hv)
 obtain ⟨e',he',hG⟩:=h.at_ i _ s hv hs
 rw [hi] at he';cases he'
 exact ⟨hG.t0,hG.t1⟩
theorem uF {evs:List Ev}{v:Int}{ev:Ev}(h0:0≤v)(h:Cz (Hi evs) v = [ev]):evs[v.toNat]? = some ev:=by
  unfold Cz at h
  split at h
  · cases h
  · rename_i h1
    cases hq:evs[v.toNat]? with
    | none=>
      have:(Hi evs)[v.toNat]? = none:=by unfold Hi;rw [List.getElem?_map,hq];rfl
      rw [this] at h;cases h
    | some e=>
      have:(Hi evs)[v.toNat]? = some [e]:=by unfold Hi;rw [List.getElem?_map,hq];rfl
      rw [this] at h
      have h2:[e] = [ev]:=h
      cases h2;rfl
theorem vR {evs:List Ev}(hE:EnvOK T V (Hi evs)){t:Tm}(hk:KOK T V (Hs t))(ht:tmOK T V t):Wj (Hi evs) t=qY evs t∧(t.op=1→(vl (Hi evs) (Hs t)).text=txA evs t):=by
 obtain ⟨ev,h1,h2,h3,h4⟩:=V8 hE.suits hE.small hk (show ((Hs t).op==1||(Hs t).op==2)=true by have:=ht.op;show (t.op==1||t.op==2)=true;simpa using this)
 have h5:evs[t.v.toNat]? = some ev:=uF ht.v0 h1
 have hv:vl (Hi evs) (Hs t)=(Ku (Hs t) ev).1:=by show (C6 _ _).1=_;rw [h4]
 unfold Wj
 rw [hv]
 unfold qY txA
 rw [h5]
 unfold Ku at h2 ⊢
 rcases ht.op with h | h
 ·
  have e1:((Hs t).op==1)=true:=by show (t.op==1)=true;simpa using h
  rw [if_pos e1] at h2 ⊢
  have e2:(t.op==2)=false:=by rw [h];rfl
  rw [e2]
  split at h2
  · cases h2
  ·
   rename_i h6
   rw [if_neg h6]
   exact ⟨rfl,fun _=>rfl⟩
 ·
  have e1:¬((Hs t).op==1)=true:=by show ¬(t.op==1)=true;rw [h];decide
  rw [if_neg e1]
  have e2:(t.op==2)=true:=by rw [h];rfl
  rw [e2]
  exact ⟨rfl,fun h1=>by omega⟩
end

section
variable {T:List Sc} {V:List Va}
structure WordL (T:List Sc) (V:List Va) (l:List Lit) (x:Wd):Prop where
 ex:∃c∈l,C0 T V c.cond=true∧Cm T V c.cond=true∧∃a∈c.cond.args,x=Ff a
abbrev usedOK (p:Um×List Wd):Prop:=∀x∈p.2,x.const=true→Jr p.1 x.text=true
structure WOK (T:List Sc) (V:List Va) (x:Wd):Prop where
 wf:wfW x
 fld:x.const=false→KOK T V (Hs x.field)∧tmOK T V x.field∧x.field.op=1∧Ak T V (Hs x.field)=2
 txt:x.const=true→x.text.length≤64
structure NI (W:Wd→Prop) (U:Um) (N:Nm):Prop where
 used:∀p∈N,Jr U p.2=true
 texts:∀x,W x→x.const=true→Jr U x.text=true
 con:∀p∈N,p.1.const=true→p.2=p.1.text∧W p.1
 free:∀p∈N,p.1.const=false→∀x,W x→x.const=true→x.text≠p.2
 inj:∀p∈N,∀q∈N,p.2=q.2→p.1=q.1
 len:∀p∈N,p.2.length≤64
structure NS (T:List Sc) (V:List Va) (W:Wd→Prop) (w:Wm) (done:List Wd) (s:Ns) (b:Nat):Prop where
 ni:NI W s.1 s.2.1
 ulen:s.1.length≤b
 evi:EvI T V s.2.2
 eok:evOK T V s.2.2
 has:∀x∈done,∃t,Jp s.2.1 (Df w x)=some t∧(x.const=false→txA s.2.2 x.field=t)
end

section
variable {T:List Sc} {V:List Va}
abbrev P9 (T:List Sc)(V:List Va)(t:Tm):Prop:=Ak T V (Hs t)=0
theorem Yd (e:Ex):KOK T V e→Ak T V e=0→∀{b:Int} {s:Su},(∀p∈s.ts,P9 T V p.1)→∀p∈(A5 e b s).1.ts,P9 T V p.1:=by
  refine Ex.Aa8 (P:=fun e=>KOK T V e→Ak T V e=0→∀{b:Int} {s:Su},(∀p∈s.ts,P9 T V p.1)→∀p∈(A5 e b s).1.ts,P9 T V p.1) (fun e ih hk h0 b s hs=>?_) e
  have hz:=A9 hk.nodes
  rcases Ka hz.1 with h | ⟨h,h1⟩ | ⟨h,hl⟩ | ⟨h,h1,h2,h3⟩
  · rw [D2 h];exact hs
  · rw [Bs h h1]
    intro p hp'
    have hme:P9 T V (Dh e):=by show Ak T V (Hs (Dh e))=0;rw [Lw hz.1 h1];exact h0
    have key:∀{ts:List (Tm×Int)},(∀p∈ts,P9 T V p.1)→∀p∈He (Dh e) b ts,P9 T V p.1:=by
      intro ts
      induction ts with
      | nil=>intro _ p hp';rw [He,List.mem_singleton] at hp';rw [hp'];exact hme
      | cons q r ihr=>
        intro hts p hp'
        rw [He] at hp'
        split at hp'
        · rcases List.mem_cons.1 hp' with rfl | hp'
          · exact hts q (List.mem_cons_self ..)
          · exact hts p (List.mem_cons_of_mem _ hp')
        · rcases List.mem_cons.1 hp' with rfl | hp'
          · exact hts p (List.mem_cons_self ..)
          · exact ihr (fun p hp'=>hts p (List.mem_cons_of_mem _ hp')) p hp'
    exact key hs p hp'
  · have m0:=Ax (show 0<e.args.length by omega)
    have m1:=Bf hl
    have k0:=Py hk h m0
    have k1:=Py hk h m1
    have key:∀c,∀p∈(if !(A5 (Ap e) b s).2 then ((A5 (Ap e) b s).1,false) else A5 (B3 e) c (A5 (Ap e) b s).1).1.ts,P9 T V p.1:=fun c=>by
      have i0:=ih _ m0 (An hk m0) k0 (b:=b) hs
      split
      · exact i0
      · exact ih _ m1 (An hk m1) k1 i0
    rcases h with h | h
    · rw [G6 (c:=b) hl (.inl ⟨h,rfl⟩)];exact key b
    · rw [G6 (c:=0-b) hl (.inr ⟨h,rfl⟩)];exact key _
  · rw [Eb h h1 h2 h3];exact hs
theorem Wr {a b:Ex}(ha:KOK T V a)(hb:KOK T V b)(ka:Ak T V a=0)(kb:Ak T V b=0):(∀t∈(Bu a b).1.plus,P9 T V t)∧∀t∈(Bu a b).1.minus,P9 T V t:=by
  have h0:(∀t∈oI.plus,P9 T V t)∧∀t∈oI.minus,P9 T V t:=⟨fun t h=>(by cases h),fun t h=>(by cases h)⟩
  unfold Bu
  split
  · exact h0
  rename_i h1
  split
  · exact h0
  have he:(A5 b (-1) (A5 a 1 H9).1).1=Cr a b:=by unfold Cr;rw [if_neg h1]
  rw [he]
  have hse:∀p∈(Cr a b).ts,P9 T V p.1:=by
    have q1:=Yd a ha ka (b:=1) (s:=H9) (fun p hp=>(by cases hp))
    unfold Cr
    split
    · exact q1
    · exact Yd b hb kb q1
  unfold Mk
  cases hp:C2 (Cr a b).ts [] [] with
  | none=>exact h0
  | some p=>
    obtain ⟨p,m⟩:=p
    exact H4 (P:=P9 T V) hse (fun t h=>by cases h) (fun t h=>by cases h) hp
abbrev sO (T:List Sc)(V:List Va)(t:Tm):Prop:=Ak T V (Hs t)=0∨Ak T V (Hs t)=1
theorem Wy {env:List (List Ev)}(hE:EnvOK T V env){y:Lit}(hf:LitF T V y)(hn:(Aa T V y).2=true):(∀t∈(Aa T V y).1.plus,sO T V t)∧∀t∈(Aa T V y).1.minus,sO T V t:=by
  cases h:y.cond.op==1 with
  | true=>
    rw [Ys h]
    refine ⟨fun t ht=>?_,fun t ht=>by cases ht⟩
    rw [List.mem_singleton.1 ht]
    right
    rw [Lw (A9 hf.kok.nodes).1 (by rw [h];rfl)]
    exact hf.kind
  | false=>
    obtain ⟨hop,k0,k1,hb,he⟩:=bL hE hf h hn
    have hl:=Wu hf.kok (by omega) (by omega)
    have m0:=Ax (show 0<y.cond.args.length by omega)
    have m1:=Bf (show 1<y.cond.args.length by omega)
    rw [he]
    obtain ⟨q1,q2⟩:=Wr (An hf.kok m0) (An hf.kok m1) k0 k1
    exact ⟨fun t ht=>.inl (q1 t ht),fun t ht=>.inl (q2 t ht)⟩
theorem Xg {env:List (List Ev)}(hE:EnvOK T V env):∀{l:List Lit},(∀y∈l,LitF T V y)→∀{s:Sy},(∀t∈s.ts,sO T V t)→∀t∈(l.foldl (Cq T V) s).ts,sO T V t
  | [],_,s,hs=>hs
  | c::r,hl,s,hs=>by
    rw [List.foldl_cons]
    refine Xg hE (fun x hx=>hl x (List.mem_cons_of_mem _ hx)) ?_
    cases h : !(Aa T V c).2 with
    | true=>rw [Jh h];exact hs
    | false=>
      rw [Jc h]
      obtain ⟨h1,h2⟩:=Wy hE (hl c (List.mem_cons_self ..)) (by simpa using h)
      exact J6 (J6 hs h1) h2
theorem Zh:∀{ts:List Tm} {i k:Nat} {t:Tm},ts[k]? = some t→(⟨(i:Int)+k+1,0,(Cw T V t).2⟩:Bd)∈Gu T V i ts∧(⟨0,(i:Int)+k+1,0-(Cw T V t).1⟩:Bd)∈Gu T V i ts
  | [],i,k,t,h=>by simp at h
  | u::r,i,0,t,h=>by
    simp at h;subst h
    rw [Gu,show (i:Int)+((0:Nat):Int)+1=(i:Int)+1 by omega]
    exact ⟨List.mem_cons_self ..,List.mem_cons_of_mem _ (List.mem_cons_self ..)⟩
  | u::r,i,k+1,t,h=>by
    obtain ⟨h1,h2⟩:=Zh (i:=i+1) (show r[k]? = some t by simpa using h)
    rw [Gu,show (i:Int)+((k+1:Nat):Int)+1=((i+1:Nat):Int)+k+1 by omega]
    exact ⟨List.mem_cons_of_mem _ (List.mem_cons_of_mem _ h1),List.mem_cons_of_mem _ (List.mem_cons_of_mem _ h2)⟩
end

section
variable {T:List Sc} {V:List Va} {l:List Ev} {e:Ex}
structure SceneOK (T:List Sc) (V:List Va) (l:List Ev) (e:Ex):Prop where
 kc:KC T V e
 kind:Ak T V e=1
 suits:J8 T V (Hi l)
def litU (l:List Ev)(y:Lit):Bool:=gO ⟨Hi l,-1,Ms⟩ y.cond != y.neg
end
theorem mB {α:Type}(f:α→Bool){l:List α}{k:Nat}{x:α}(h:l[k]? = some x):(l.take (k+1)).any f=((l.take k).any f||f x):=oT f h

section
variable {T:List Sc} {V:List Va} {env:List (List Ev)}
structure CondOK (T:List Sc) (V:List Va) (e:Ex):Prop where
 kc:KC T V e
 kind:Ak T V e=1
theorem CondOK.zero {e:Ex}(h:CondOK T V e):C4 T V e=0:=jI h.kc h.kind
theorem CondOK.lits {e:Ex}(h:CondOK T V e)(s:Bool):Ht (LitF T V) (Bw T V e s):=lZ h.kc.kok h.kind (Kv h.kc) s
theorem wB {e:Ex}(h:C4 T V e=0):CondOK T V e:=by
 have:=Nh (T:=T) (V:=V) (e:=e) (by rw [h];rfl)
 exact ⟨this.1,this.2⟩
theorem T4 (h1:D9 T=0)(h2:Ic T V=0):(Cf T V (E4 true)).2=0:=by
 have hc:Bp (E4 true)=0:=by decide +kernel
 unfold Cf
 rw [if_neg (by rw [h1];decide),if_neg (by rw [h2];decide),if_neg (by rw [hc];decide),Ec];rfl
theorem bR {es:List Ex}(h1:D9 T=0)(h2:Ic T V=0)(hl:es.length≤256)(h:∀e∈es,CondOK T V e):E3 T V es=0:=by
 unfold E3
 rw [if_neg (by rw [T4 h1 h2];decide),if_neg (by simp;omega)]
 exact Oq fun e he=>(h e he).zero
structure FindOK (T:List Sc) (V:List Va) (l:List Ev) (a b:Ex):Prop where
 ca:CondOK T V a
 cb:CondOK T V b
 env:EnvOK T V (Hi l)
section
variable {l:List Ev} {a b:Ex}
end
end
end Go.Proofs.YtjedflcpjlgokaaGreatDoor
