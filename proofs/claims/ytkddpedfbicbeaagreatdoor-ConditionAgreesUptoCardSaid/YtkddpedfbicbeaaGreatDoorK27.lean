/-
  Several texts in one: S47, S48, S38. No condition.
-/
import Derived.Test.YtkddpedfbicbeaaGreatDoorK26
import Derived.Test.YtkddpedfbicbeaaGreatDoorK23
set_option linter.unusedVariables false
set_option linter.unusedSimpArgs false
namespace Go.Proofs.YtkddpedfbicbeaaGreatDoor
open Go Go.Aw

theorem Ue (U:Um)(n m:Ft)(b:Bool):E8 (Tt U n b) m=if n=m then b else E8 U m:=by
  unfold Tt
  induction U with
  | nil=>show E8 [(n,b)] m=_;rfl
  | cons q r ih=>
    obtain ⟨k,c⟩:=q
    rw [fA]
    by_cases h:k=n
    · rw [if_pos h]
      subst h
      show E8 ((k,b)::r) m=_
      rw [E8,E8]
      by_cases h2:k=m
      · rw [if_pos h2,if_pos h2]
      · rw [if_neg h2,if_neg h2,if_neg h2]
    · rw [if_neg h]
      cases hu:fA r n with
      | none=>
        rw [hu] at ih
        show E8 ((k,c)::(r ++ [(n,b)])) m=_
        have ih':E8 (r ++ [(n,b)]) m=if n=m then b else E8 r m:=ih
        rw [E8,E8,ih']
        by_cases h2:k=m
        · rw [if_pos h2,if_pos h2,if_neg (fun e=>h (h2.trans e.symm))]
        · rw [if_neg h2,if_neg h2]
      | some j=>
        rw [hu] at ih
        show E8 ((k,c)::r.modify j fun _=>(n,b)) m=_
        have ih':E8 (r.modify j fun _=>(n,b)) m=if n=m then b else E8 r m:=ih
        rw [E8,E8,ih']
        by_cases h2:k=m
        · rw [if_pos h2,if_pos h2,if_neg (fun e=>h (h2.trans e.symm))]
        · rw [if_neg h2,if_neg h2]
theorem T4 {U:Um}:∀(f k:Nat),(∀i,i<k→E8 U (wN i)=true)→U.length≤f+k→E8 U (wN (Ua U f k))=false∧Ua U f k≤U.length
  | 0,k,h,hl=>by
    have hk:=O3 h
    cases hq:E8 U (wN k) with
    | false=>exact ⟨hq,hk⟩
    | true=>
      have:=O3 (U:=U) (j:=k+1) (fun i hi=>by
        rcases Nat.lt_or_ge i k with h2 | h2
        · exact h i h2
        · rw [show i=k by omega];exact hq)
      omega
  | f+1,k,h,hl=>by
    cases hq:E8 U (wN k) with
    | false=>rw [nX hq];exact ⟨hq,O3 h⟩
    | true=>
      rw [mX hq]
      exact T4 f (k+1) (fun i hi=>by
        rcases Nat.lt_or_ge i k with h2 | h2
        · exact h i h2
        · rw [show i=k by omega];exact hq) (by omega)
theorem X2 (U:Um):E8 U (bP U)=false:=(T4 U.length 0 (fun i h=>absurd h (by omega)) (by omega)).1
theorem tH {U:Um}(h:U.length≤1000000):(bP U).length≤64:=by
 have h1:=(T4 (U:=U) U.length 0 (fun i h=>absurd h (by omega)) (by omega)).2
 have h2:=Go.Lib.itoa_length_le ((Ua U U.length 0:Nat):Int) (by omega) (by omega)
 show (Go.Lib.itoa ((Ua U U.length 0:Nat):Int)).length+1≤64
 omega
section
variable {T:List Sc} {V:List Va}
structure WordL (T:List Sc) (V:List Va) (l:List Lit) (x:Wd):Prop where
 ex:∃c∈l,Cl T V c.cond=true∧Bt T V c.cond=true∧∃a∈c.cond.args,x=B8 a
abbrev N2 (p:Um×List Wd):Prop:=∀x∈p.2,x.const=true→E8 p.1 x.text=true
theorem colA_ok {p:Um×List Wd}(h:N2 p)(a:Ex):N2 (Xb p a):=by
 intro x hx hc
 unfold Xb
 simp only
 rw [Ue]
 rcases List.mem_append.1 hx with hx | hx
 ·
  split
  · rename_i e;rw [e,h x hx hc,Bool.true_or]
  · exact h x hx hc
 ·
  rw [List.mem_singleton.1 hx] at hc ⊢
  rw [if_pos rfl,hc,Bool.or_true]
theorem aE:∀(xs:List Ex) {p:Um×List Wd},N2 p→N2 (xs.foldl Xb p)
 | [],p,h=>h
 | a::r,p,h=>by rw [List.foldl_cons];exact aE r (colA_ok h a)
theorem Lm:∀(xs:List Ex) (p:Um×List Wd),(xs.foldl Xb p).2=p.2++xs.map B8
  | [],p=>by simp
  | a::r,p=>by
    rw [List.foldl_cons,Lm r]
    show (p.2 ++ [B8 a])++r.map B8=_
    simp
theorem gG:∀(xs:List Ex) (p:Um×List Wd),(xs.foldl Xb p).1.length≤p.1.length+xs.length
  | [],p=>by simp
  | a::r,p=>by
    rw [List.foldl_cons]
    have:=gG r (Xb p a)
    have h2:=X7 p.1 (B8 a).text (E8 p.1 (B8 a).text||(B8 a).const)
    have h3:(Xb p a).1.length≤p.1.length+1:=h2
    rw [List.length_cons];omega
theorem colL_ok {p:Um×List Wd}(h:N2 p)(c:Lit):N2 (Tv T V p c):=by
 cases hc:(!Cl T V c.cond || !Bt T V c.cond) with
 | true=>rw [Sn hc];exact h
 | false=>rw [My hc];exact aE _ h
theorem bA:∀(l:List Lit) {p:Um×List Wd},N2 p→N2 (l.foldl (Tv T V) p)
 | [],p,h=>h
 | c::r,p,h=>by rw [List.foldl_cons];exact bA r (colL_ok h c)
theorem eX (l:List Lit):N2 (Hl T V l):=bA l (fun x hx=>by cases hx)
theorem Y3 {l:List Lit}{P:Wd→Prop}(hP:∀c∈l,Cl T V c.cond=true→Bt T V c.cond=true→∀a∈c.cond.args,P (B8 a)):∀(m:List Lit) {p:Um×List Wd},(∀c∈m,c∈l)→(∀x∈p.2,P x)→∀x∈(m.foldl (Tv T V) p).2,P x
  | [],p,_,h=>h
  | c::r,p,hm,h=>by
    rw [List.foldl_cons]
    refine Y3 hP r (fun x hx=>hm x (List.mem_cons_of_mem _ hx)) ?_
    cases hc:(!Cl T V c.cond || !Bt T V c.cond) with
    | true=>rw [Sn hc];exact h
    | false=>
      rw [My hc,Lm]
      rw [Bool.or_eq_false_iff,Bool.not_eq_false',Bool.not_eq_false'] at hc
      intro x hx
      rcases List.mem_append.1 hx with hx | hx
      · exact h x hx
      · obtain ⟨a,ha,rfl⟩:=List.mem_map.1 hx
        exact hP c (hm c (List.mem_cons_self ..)) hc.1 hc.2 a ha
theorem bD:∀(m:List Lit) (p:Um×List Wd),∀x∈p.2,x∈(m.foldl (Tv T V) p).2
  | [],p,x,h=>h
  | c::r,p,x,h=>by
    rw [List.foldl_cons]
    refine bD r _ x ?_
    cases hc:(!Cl T V c.cond || !Bt T V c.cond) with
    | true=>rw [Sn hc];exact h
    | false=>rw [My hc,Lm];exact List.mem_append_left _ h
theorem eG:∀(m:List Lit) (p:Um×List Wd),∀c∈m,Cl T V c.cond=true→Bt T V c.cond=true→∀a∈c.cond.args,B8 a∈(m.foldl (Tv T V) p).2
  | [],p,c,hc,_,_,_,_=>by cases hc
  | d::r,p,c,hc,h1,h2,a,ha=>by
    rw [List.foldl_cons]
    rcases List.mem_cons.1 hc with rfl | hc
    · refine bD r _ _ ?_
      rw [My (show (!Cl T V c.cond || !Bt T V c.cond)=false by rw [h1,h2];rfl),Lm]
      exact List.mem_append_right _ (List.mem_map.2 ⟨a,ha,rfl⟩)
    · exact eG r _ c hc h1 h2 a ha
theorem Nt {l:List Lit}{c:Lit}(hc:c∈l)(h1:Cl T V c.cond=true)(h2:Bt T V c.cond=true){a:Ex}(ha:a∈c.cond.args):B8 a∈(Hl T V l).2:=eG l _ c hc h1 h2 a ha
theorem iR {l:List Lit}{x:Wd}(hx:x∈(Hl T V l).2):WordL T V l x:=
 ⟨Y3 (T:=T) (V:=V) (l:=l) (P:=fun x=>∃c∈l,Cl T V c.cond=true∧Bt T V c.cond=true∧∃a∈c.cond.args,x=B8 a) (fun c hc h1 h2 a ha=>⟨c,hc,h1,h2,a,ha,rfl⟩) l (fun _ h=>h) (fun x h=>by cases h) x hx⟩
theorem W4:∀(m:List Lit),Un T V m→∀(p:Um×List Wd),(m.foldl (Tv T V) p).1.length≤p.1.length+2*m.length∧(m.foldl (Tv T V) p).2.length≤p.2.length+2*m.length
  | [],_,p=>by simp
  | c::r,hl,p=>by
    rw [List.foldl_cons]
    have ih:=W4 r (fun x hx=>hl x (List.mem_cons_of_mem _ hx)) (Tv T V p c)
    rw [List.length_cons]
    cases hc:(!Cl T V c.cond || !Bt T V c.cond) with
    | true=>rw [Sn hc] at ih ⊢;omega
    | false=>
      obtain ⟨h2,_⟩:=S9 (hl c (List.mem_cons_self ..)).1 hc
      rw [My hc] at ih ⊢
      have h3:=gG c.cond.args p
      have h4:=congrArg List.length (Lm c.cond.args p)
      rw [List.length_append,List.length_map] at h4
      omega
structure WOK (T:List Sc) (V:List Va) (x:Wd):Prop where
 wf:tP x
 fld:x.const=false→KOK T V (Hf x.field)∧tmOK T V x.field∧x.field.op=1∧Am T V (Hf x.field)=2
 txt:x.const=true→x.text.length≤64
theorem vL {v:Vl}(h:An v=0)(hk:v.kind=2):v.text.length≤64:=by
 have hn:=Wo h hk
 unfold An D5 at h
 simp [hk,hn] at h
 omega
theorem xU {l:List Lit}(hl:Un T V l){x:Wd}(h:WordL T V l x):WOK T V x:=by
 obtain ⟨c,hc,h1,h2,a,ha,rfl⟩:=h.ex
 have hk:=(hl c hc).1
 have hs:=V9 hk h1 h2
 have hka:=Ax hk ha
 have hkind:Am T V a=2:=by rw [Ht hk hs.op ha];exact hs.k0
 have hd:(a.op==0||a.op==1)=true:=(S9 hk (show (!Cl T V c.cond || !Bt T V c.cond)=false by rw [h1,h2];rfl)).2 a ha
 have hz:=(Ba hka.nodes).1
 refine ⟨iC a,fun hcf=>?_,fun hct=>?_⟩
 ·
  have h0:(a.op==0)=false:=by
   cases h0:a.op==0 with
   | false=>rfl
   | true=>rw [cL h0] at hcf;cases hcf
  have h1':a.op=1:=by rw [h0,Bool.false_or] at hd;simpa using hd
  obtain ⟨w1,w2⟩:=oX hka hd hcf
  have e:Hf (B8 a).field=a:=by
   rw [dD h0]
   show Hf (Dy a)=a
   exact K8 hz (by rw [h1'];rfl)
  exact ⟨by rw [e];exact hka,w1,w2,by rw [e];exact hkind⟩
 ·
  have h0:(a.op==0)=true:=by
   cases h0:a.op==0 with
   | true=>rfl
   | false=>rw [dD h0] at hct;cases hct
  rw [cL h0]
  have hv:=(I6 hz (by simpa using h0)).1
  have hvk:a.val.kind=2:=by
   unfold Am at hkind
   rw [if_pos (by rw [h0];rfl)] at hkind
   exact hkind
  show a.val.text.length≤64
  exact vL hv hvk
theorem Ry {N:Nm}{r:Wd}{s:Ft}(h:Ia N r=some s):(r,s)∈N:=by
  unfold Ia at h
  cases hf:N.find? fun p=>decide (p.1=r) with
  | none=>rw [hf] at h;cases h
  | some p=>
    rw [hf] at h
    have h1:=List.find?_some hf
    have h2:=List.mem_of_find?_eq_some hf
    have e1:p.1=r:=by simpa using h1
    have e2:p.2=s:=by simpa using h
    rw [←e1,←e2];exact h2
theorem rC {N:Nm}{r q:Wd}{s t:Ft}(h:Ia N r=some s):Ia (N ++ [(q,t)]) r=some s:=by
 unfold Ia at h ⊢
 rw [List.find?_append]
 cases hf:N.find? fun p=>decide (p.1=r) with
 | none=>rw [hf] at h;cases h
 | some p=>rw [hf] at h;exact h
structure NI (W:Wd→Prop) (U:Um) (N:Nm):Prop where
 used:∀p∈N,E8 U p.2=true
 texts:∀x,W x→x.const=true→E8 U x.text=true
 con:∀p∈N,p.1.const=true→p.2=p.1.text∧W p.1
 free:∀p∈N,p.1.const=false→∀x,W x→x.const=true→x.text≠p.2
 inj:∀p∈N,∀q∈N,p.2=q.2→p.1=q.1
 len:∀p∈N,p.2.length≤64
theorem wZ {W:Wd→Prop}(hW:∀x,W x→WOK T V x){U:Um}{N:Nm}(h:NI W U N){r:Wd}(hr:W r)(hU:U.length≤1000000):NI W (aH U N r).1 (aH U N r).2:=by
  cases hg:Ia N r with
  | some s=>rw [bY (by rw [hg];rfl)];exact h
  | none=>
    rw [dY hg]
    have hmono:∀m,E8 U m=true→E8 (Tt U (J1 U r) true) m=true:=fun m hm=>by
      rw [Ue];split
      · rfl
      · exact hm
    have hnew:∀p∈N,p.2=J1 U r→p.1=r:=fun p hp e=>by
      unfold J1 at e
      cases hc:r.const with
      | true=>
        rw [hc,if_pos rfl] at e
        cases hpc:p.1.const with
        | true=>
          obtain ⟨c1,c2⟩:=h.con p hp hpc
          exact fK (hW _ c2).wf (hW _ hr).wf (by rw [hpc,hc];rfl) (by rw [←c1];exact e)
        | false=>exact absurd e.symm (h.free p hp hpc r hr hc)
      | false=>
        rw [hc,if_neg (by decide)] at e
        have h1:=h.used p hp
        rw [e,X2] at h1;cases h1
    refine ⟨fun p hp=>?_,fun x hx hc=>hmono _ (h.texts x hx hc),fun p hp hc=>?_,fun p hp hc x hx hxc=>?_,fun p hp q hq e=>?_,fun p hp=>?_⟩
    · rcases List.mem_append.1 hp with hp | hp
      · exact hmono _ (h.used p hp)
      · rw [List.mem_singleton.1 hp];simp only;rw [Ue,if_pos rfl]
    · rcases List.mem_append.1 hp with hp | hp
      · exact h.con p hp hc
      · rw [List.mem_singleton.1 hp] at hc ⊢
        simp only at hc ⊢
        unfold J1
        rw [if_pos hc];exact ⟨rfl,hr⟩
    · rcases List.mem_append.1 hp with hp | hp
      · exact h.free p hp hc x hx hxc
      · rw [List.mem_singleton.1 hp] at hc ⊢
        simp only at hc ⊢
        unfold J1
        rw [if_neg (by rw [hc];decide)]
        intro e
        have h1:=h.texts x hx hxc
        rw [e,X2] at h1;cases h1
    · rcases List.mem_append.1 hp with hp | hp <;> rcases List.mem_append.1 hq with hq | hq
      · exact h.inj p hp q hq e
      · rw [List.mem_singleton.1 hq] at e ⊢
        exact hnew p hp e
      · rw [List.mem_singleton.1 hp] at e ⊢
        exact (hnew q hq e.symm).symm
      · rw [List.mem_singleton.1 hp,List.mem_singleton.1 hq]
    · rcases List.mem_append.1 hp with hp | hp
      · exact h.len p hp
      · rw [List.mem_singleton.1 hp]
        simp only
        unfold J1
        cases hc:r.const with
        | true=>rw [if_pos rfl];exact (hW _ hr).txt hc
        | false=>rw [if_neg (by decide)];exact tH hU
theorem Xv {U:Um}{N:Nm}{r q:Wd}{s:Ft}(h:Ia N q=some s):Ia (aH U N r).2 q=some s:=by
 cases hg:Ia N r with
 | some t=>rw [bY (by rw [hg];rfl)];exact h
 | none=>rw [dY hg];exact rC h
theorem nmT_len {W:Wd→Prop}(hW:∀x,W x→WOK T V x){U:Um}{N:Nm}(h:NI W U N){r:Wd}(hr:W r)(hU:U.length≤1000000):(nmT U N r).length≤64:=by
 have h1:=dT U N r
 exact (wZ hW h hr hU).len _ (Ry h1)
structure NS (T:List Sc) (V:List Va) (W:Wd→Prop) (w:Wm) (done:List Wd) (s:Ns) (b:Nat):Prop where
 ni:NI W s.1 s.2.1
 ulen:s.1.length≤b
 evi:EvI T V s.2.2
 eok:evOK T V s.2.2
 has:∀x∈done,∃t,Ia s.2.1 (Cb w x)=some t∧(x.const=false→txA s.2.2 x.field=t)
theorem Aaj {W:Wd→Prop}(hW:∀x,W x→WOK T V x){w:Wm}(hw:wGood W w){done:List Wd}{s:Ns}{b:Nat}(h:NS T V W w done s b)(hb:b≤1000000)(hd:∀x∈done,W x){x:Wd}(hx:W x):NS T V W w (done ++ [x]) (Ix w s x) (b+1):=by
  have hr:=kO hw hx
  have hU:s.1.length≤1000000:=Nat.le_trans h.ulen hb
  have hni:=wZ hW h.ni hr hU
  have hget:=dT s.1 s.2.1 (Cb w x)
  have hlen:=nmT_len hW h.ni hr hU
  have hul:(aH s.1 s.2.1 (Cb w x)).1.length≤b+1:=by have:=cP s.1 s.2.1 (Cb w x);have:=h.ulen;omega
  cases hc:x.const with
  | true=>
    rw [X0 hc]
    refine ⟨hni,hul,h.evi,h.eok,fun y hy=>?_⟩
    rcases List.mem_append.1 hy with hy | hy
    · obtain ⟨t,h1,h2⟩:=h.has y hy
      exact ⟨t,Xv h1,h2⟩
    · rw [List.mem_singleton.1 hy]
      exact ⟨_,hget,fun e=>by rw [hc] at e;cases e⟩
  | false=>
    rw [W0 hc]
    obtain ⟨k1,k2,k3,k4⟩:=(hW x hx).fld hc
    refine ⟨hni,hul,xB h.evi k1 k3 k4 hlen,mV h.eok _ _,fun y hy=>?_⟩
    rcases List.mem_append.1 hy with hy | hy
    · obtain ⟨t,h1,h2⟩:=h.has y hy
      refine ⟨t,Xv h1,fun hyc=>?_⟩
      obtain ⟨j1,j2,j3,j4⟩:=(hW y (hd y hy)).fld hyc
      by_cases e:x.field=y.field
      · have hxy:x=y:=by
          have a:=(hW x hx).wf.2 hc
          have b:=(hW y (hd y hy)).wf.2 hyc
          obtain ⟨xc,xt,xf⟩:=x
          obtain ⟨yc,yt,yf⟩:=y
          simp only at a b hc hyc e
          rw [a,b,hc,hyc,e]
        subst hxy
        simp only
        rw [pI h.eok k2 k3]
        have h3:=Xv (U:=s.1) (r:=Cb w x) h1
        rw [hget] at h3
        exact Option.some.inj h3
      · simp only
        rw [lT k2 j2 k3 j3 e]
        exact h2 hyc
    · rw [List.mem_singleton.1 hy]
      exact ⟨_,hget,fun _=>pI h.eok k2 k3 _⟩
theorem nM {W:Wd→Prop}(hW:∀x,W x→WOK T V x){w:Wm}(hw:wGood W w):∀(ws:List Wd) {done:List Wd} {s:Ns} {b:Nat},NS T V W w done s b→b+ws.length≤1000000→(∀x∈done,W x)→(∀x∈ws,W x)→NS T V W w (done++ws) (ws.foldl (Ix w) s) (b+ws.length)
  | [],done,s,b,h,_,_,_=>by rw [List.append_nil];exact h
  | x::r,done,s,b,h,hb,hd,hx=>by
    rw [List.length_cons] at hb
    have h1:=Aaj hW hw h (by omega) hd (hx x (List.mem_cons_self ..))
    have h2:=nM hW hw r h1 (by omega) (fun y hy=>by
      rcases List.mem_append.1 hy with hy | hy
      · exact hd y hy
      · rw [List.mem_singleton.1 hy];exact hx x (List.mem_cons_self ..)) fun y hy=>hx y (List.mem_cons_of_mem _ hy)
    rw [List.append_assoc] at h2
    rw [List.foldl_cons,List.length_cons,show b+(r.length+1)=b+1+r.length by omega]
    exact h2
theorem U3 (w:Wm)(t:Tm):∀(ws:List Wd) (s:Ns),eA (ws.foldl (Ix w) s).2.2 t=eA s.2.2 t
  | [],s=>rfl
  | x::r,s=>by
    rw [List.foldl_cons,U3 w t r]
    cases hc:x.const with
    | true=>rw [X0 hc]
    | false=>rw [W0 hc];exact nm_setX _ _ _ _
end

section
variable {T:List Sc} {V:List Va}
abbrev Rw (T:List Sc)(V:List Va)(t:Tm):Prop:=Am T V (Hf t)=0
theorem aB (e:Ex):KOK T V e→Am T V e=0→∀{b:Int} {s:Su},(∀p∈s.ts,Rw T V p.1)→∀p∈(Bb e b s).1.ts,Rw T V p.1:=by
  refine Ex.Aa0 (P:=fun e=>KOK T V e→Am T V e=0→∀{b:Int} {s:Su},(∀p∈s.ts,Rw T V p.1)→∀p∈(Bb e b s).1.ts,Rw T V p.1) (fun e ih hk h0 b s hs=>?_) e
  have hz:=Ba hk.nodes
  rcases Lt hz.1 with h | ⟨h,h1⟩ | ⟨h,hl⟩ | ⟨h,h1,h2,h3⟩
  · rw [Ei h];exact hs
  · rw [B0 h h1]
    intro p hp'
    have hme:Rw T V (Dy e):=by show Am T V (Hf (Dy e))=0;rw [K8 hz.1 h1];exact h0
    have key:∀{ts:List (Tm×Int)},(∀p∈ts,Rw T V p.1)→∀p∈Ij (Dy e) b ts,Rw T V p.1:=by
      intro ts
      induction ts with
      | nil=>intro _ p hp';rw [Ij,List.mem_singleton] at hp';rw [hp'];exact hme
      | cons q r ihr=>
        intro hts p hp'
        rw [Ij] at hp'
        split at hp'
        · rcases List.mem_cons.1 hp' with rfl | hp'
          · exact hts q (List.mem_cons_self ..)
          · exact hts p (List.mem_cons_of_mem _ hp')
        · rcases List.mem_cons.1 hp' with rfl | hp'
          · exact hts p (List.mem_cons_self ..)
          · exact ihr (fun p hp'=>hts p (List.mem_cons_of_mem _ hp')) p hp'
    exact key hs p hp'
  · have m0:=A4 (show 0<e.args.length by omega)
    have m1:=Bn hl
    have k0:=R8 hk h m0
    have k1:=R8 hk h m1
    have key:∀c,∀p∈(if !(Bb (Ao e) b s).2 then ((Bb (Ao e) b s).1,false) else Bb (Bj e) c (Bb (Ao e) b s).1).1.ts,Rw T V p.1:=fun c=>by
      have i0:=ih _ m0 (Ax hk m0) k0 (b:=b) hs
      split
      · exact i0
      · exact ih _ m1 (Ax hk m1) k1 i0
    rcases h with h | h
    · rw [H4 (c:=b) hl (.inl ⟨h,rfl⟩)];exact key b
    · rw [H4 (c:=0-b) hl (.inr ⟨h,rfl⟩)];exact key _
  · rw [E2 h h1 h2 h3];exact hs
theorem Zc {a b:Ex}(ha:KOK T V a)(hb:KOK T V b)(ka:Am T V a=0)(kb:Am T V b=0):(∀t∈(B2 a b).1.plus,Rw T V t)∧∀t∈(B2 a b).1.minus,Rw T V t:=by
  have h0:(∀t∈tL.plus,Rw T V t)∧∀t∈tL.minus,Rw T V t:=⟨fun t h=>(by cases h),fun t h=>(by cases h)⟩
  unfold B2
  split
  · exact h0
  rename_i h1
  split
  · exact h0
  have he:(Bb b (-1) (Bb a 1 Jc).1).1=C7 a b:=by unfold C7;rw [if_neg h1]
  rw [he]
  have hse:∀p∈(C7 a b).ts,Rw T V p.1:=by
    have q1:=aB a ha ka (b:=1) (s:=Jc) (fun p hp=>(by cases hp))
    unfold C7
    split
    · exact q1
    · exact aB b hb kb q1
  unfold N7
  cases hp:Dl (C7 a b).ts [] [] with
  | none=>exact h0
  | some p=>
    obtain ⟨p,m⟩:=p
    exact I5 (P:=Rw T V) hse (fun t h=>by cases h) (fun t h=>by cases h) hp
abbrev xX (T:List Sc)(V:List Va)(t:Tm):Prop:=Am T V (Hf t)=0∨Am T V (Hf t)=1
theorem Za {env:List (List Ev)}(hE:EnvOK T V env){y:Lit}(hf:LitF T V y)(hn:(Aa T V y).2=true):(∀t∈(Aa T V y).1.plus,xX T V t)∧∀t∈(Aa T V y).1.minus,xX T V t:=by
  cases h:y.cond.op==1 with
  | true=>
    rw [Zv h]
    refine ⟨fun t ht=>?_,fun t ht=>by cases ht⟩
    rw [List.mem_singleton.1 ht]
    right
    rw [K8 (Ba hf.kok.nodes).1 (by rw [h];rfl)]
    exact hf.kind
  | false=>
    obtain ⟨hop,k0,k1,hb,he⟩:=iL hE hf h hn
    have hl:=qN hf.kok (by omega) (by omega)
    have m0:=A4 (show 0<y.cond.args.length by omega)
    have m1:=Bn (show 1<y.cond.args.length by omega)
    rw [he]
    obtain ⟨q1,q2⟩:=Zc (Ax hf.kok m0) (Ax hf.kok m1) k0 k1
    exact ⟨fun t ht=>.inl (q1 t ht),fun t ht=>.inl (q2 t ht)⟩
theorem aG {env:List (List Ev)}(hE:EnvOK T V env):∀{l:List Lit},(∀y∈l,LitF T V y)→∀{s:Sy},(∀t∈s.ts,xX T V t)→∀t∈(l.foldl (Dc T V) s).ts,xX T V t
  | [],_,s,hs=>hs
  | c::r,hl,s,hs=>by
    rw [List.foldl_cons]
    refine aG hE (fun x hx=>hl x (List.mem_cons_of_mem _ hx)) ?_
    cases h : !(Aa T V c).2 with
    | true=>rw [Lg h];exact hs
    | false=>
      rw [Lj h]
      obtain ⟨h1,h2⟩:=Za hE (hl c (List.mem_cons_self ..)) (by simpa using h)
      exact Lc (Lc hs h1) h2
theorem nY:∀{ts:List Tm} {i k:Nat} {t:Tm},ts[k]? = some t→(⟨(i:Int)+k+1,0,(C3 T V t).2⟩:Bd)∈G0 T V i ts∧(⟨0,(i:Int)+k+1,0-(C3 T V t).1⟩:Bd)∈G0 T V i ts
  | [],i,k,t,h=>by simp at h
  | u::r,i,0,t,h=>by
    simp at h;subst h
    rw [G0,show (i:Int)+((0:Nat):Int)+1=(i:Int)+1 by omega]
    exact ⟨List.mem_cons_self ..,List.mem_cons_of_mem _ (List.mem_cons_self ..)⟩
  | u::r,i,k+1,t,h=>by
    obtain ⟨h1,h2⟩:=nY (i:=i+1) (show r[k]? = some t by simpa using h)
    rw [G0,show (i:Int)+((k+1:Nat):Int)+1=((i+1:Nat):Int)+k+1 by omega]
    exact ⟨List.mem_cons_of_mem _ (List.mem_cons_of_mem _ h1),List.mem_cons_of_mem _ (List.mem_cons_of_mem _ h2)⟩
theorem bR {y:Lit}(hf:LitF T V y)(h:Bt T V y.cond=true):(Aa T V y).2=true∨Cl T V y.cond=true:=by
  cases h1:y.cond.op==1 with
  | true=>left;rw [Zv h1]
  | false=>
    cases h2 : !Cr y.cond with
    | true=>rw [gJ h1 h2] at h;cases h
    | false=>
      cases h3:Cl T V y.cond with
      | true=>exact .inr rfl
      | false=>
        left
        rw [aS h1 (by rw [h2,h3];rfl)]
        unfold Bt at h
        rw [Cz h1,Cz h2,Cz h3] at h
        exact h
theorem cS {l:List Lit}(hT:Eb T=0)(hty:Ln T V)(hf:∀y∈l,LitF T V y)(hk:Qb T V l=true)(hc:Jq T V l=true):EvI T V (tK T V l)∧jT (Dw (tK T V l)) l=true:=by
  have hl:=Sj hf
  obtain ⟨hfit,hlen⟩:=P8 hc
  have hlen':l.length≤256:=by have:=of_decide_eq_true hlen;omega
  have hfit':(!In (C2 T V l))=false:=by rw [hfit];rfl
  rw [cN hfit',Bool.and_eq_true] at hk
  obtain ⟨hstr,hok⟩:=hk
  have hE0:EnvOK T V (Dw (Hs T 0 V)):=pN hty (mO hT)
  have hsv:Lu T V l=(Er (C2 T V l)).values:=kH hfit'
  have hsat:=qG (n:=zN T V l) (bs:=(C2 T V l).bs) (Pz hl) hok
  have hsat1:(Lu T V l).length=zN T V l:=by rw [hsv];exact hsat.1
  have hsat2:Eu (Lu T V l) 0=0:=by rw [hsv];exact hsat.2.1
  have hsat3:∀b∈(C2 T V l).bs,T9 (Eu (Lu T V l)) b:=by rw [hsv];exact hsat.2.2
  clear hsat
  have hts:∀t∈(B6 T V l).ts,KOK T V (Hf t)∧tmOK T V t∧xX T V t:=fun t ht=>⟨(Kf hl).terms t ht,mF hl t ht,aG hE0 hf (s:=⟨[],[]⟩) (fun t h=>by cases h) t ht⟩
  have hlim:∀(k:Nat) (t:Tm),(B6 T V l).ts[k]? = some t→(C3 T V t).1≤Eu (Lu T V l) (((0:Nat):Int)+k+1)∧Eu (Lu T V l) (((0:Nat):Int)+k+1)≤(C3 T V t).2:=fun k t ht=>by
    obtain ⟨h1,h2⟩:=nY (T:=T) (V:=V) (i:=0) ht
    have s1:=hsat3 _ (List.mem_append_left _ h1)
    have s2:=hsat3 _ (List.mem_append_left _ h2)
    unfold T9 at s1 s2
    simp only [hsat2] at s1 s2
    omega
  have hev1:EvI T V (Hn (Lu T V l) 0 (B6 T V l).ts (Hs T 0 V)):=Zl _ 0 (mO hT) (fun t ht=>⟨(hts t ht).1,(hts t ht).2.1.op,fun _=>(hts t ht).2.2⟩) hlim
  have hok1:evOK T V (Hn (Lu T V l) 0 (B6 T V l).ts (Hs T 0 V)):=jJ _ 0 lC
  have hnm1:∀(k:Nat) (t:Tm),(B6 T V l).ts[k]? = some t→eA (Hn (Lu T V l) 0 (B6 T V l).ts (Hs T 0 V)) t=Eu (Lu T V l) (((0:Nat):Int)+k+1):=
    iZ _ 0 lC (Z1 l (by simp)) fun t ht=>⟨(hts t ht).2.1,lG (hts t ht).1⟩
  -- the words
  have hW:∀x,x∈(Hl T V l).2→WOK T V x:=fun x hx=>xU hl (iR hx)
  have hw:wGood (fun x=>x∈(Hl T V l).2) (Eg T V l).1:=by
    refine Tp l (fun c hc hs=>?_) ⟨fun p hp=>(by cases hp),fun p hp=>(by cases hp)⟩
    obtain ⟨_,h2,h3⟩:=U0 hs
    have hS:=V9 (hl c hc).1 h2 h3
    exact ⟨Nt hc h2 h3 hS.m0,Nt hc h2 h3 hS.m1⟩
  have hcl:=W4 (T:=T) (V:=V) l hl ([],[])
  have h0:NS T V (fun x=>x∈(Hl T V l).2) (Eg T V l).1 [] ((Hl T V l).1,[],Hn (Lu T V l) 0 (B6 T V l).ts (Hs T 0 V)) 512:=
    ⟨⟨fun p hp=>(by cases hp),fun x hx hxc=>eX l x hx hxc,fun p hp=>(by cases hp),fun p hp=>(by cases hp),fun p hp=>(by cases hp),fun p hp=>(by cases hp)⟩,by
      have:(Hl T V l).1.length≤([]:Um).length+2*l.length:=hcl.1
      simp only [List.length_nil] at this
      simp only;omega,hev1,hok1,fun x hx=>by cases hx⟩
  have hN:=nM hW hw (Hl T V l).2 h0 (by
    have:(Hl T V l).2.length≤([]:List Wd).length+2*l.length:=hcl.2
    simp only [List.length_nil] at this
    omega) (fun x hx=>by cases hx) (fun x hx=>hx)
  rw [List.nil_append] at hN
  have hev:EvI T V (tK T V l):=hN.evi
  refine ⟨hev,?_⟩
  have hE:=pN hty hev
  have hnm:∀t,eA (tK T V l) t=eA (Hn (Lu T V l) 0 (B6 T V l).ts (Hs T 0 V)) t:=fun t=>U3 _ t _ _
  have hsg:∀x∈(Hl T V l).2,∃t,Ia ((Hl T V l).2.foldl (Ix (Eg T V l).1) ((Hl T V l).1,[],Hn (Lu T V l) 0 (B6 T V l).ts (Hs T 0 V))).2.1 (Cb (Eg T V l).1 x)=some t∧sg (Dw (tK T V l)) x=t:=fun x hx=>by
    obtain ⟨t,h1,h2⟩:=hN.has x hx
    refine ⟨t,h1,?_⟩
    unfold sg
    cases hxc:x.const with
    | true=>
      rw [if_pos rfl]
      rw [wQ hw hxc] at h1
      exact (hN.ni.con _ (Ry h1) hxc).1.symm
    | false=>
      rw [if_neg (by decide)]
      obtain ⟨k1,k2,k3,k4⟩:=(hW x hx).fld hxc
      rw [(nL hE k1 k2).2 k3]
      exact h2 hxc
  -- the numbers
  have hpv:∀k:Int,0≤k→k<(C2 T V l).n→pv (Tg (Dw (tK T V l))) (B6 T V l).ts k=Eu (Lu T V l) k:=fun k k0 k1=>by
    have hn:(C2 T V l).n=((B6 T V l).ts.length:Int)+1:=rfl
    rcases Int.lt_or_le 0 k with h | h
    · obtain ⟨j,hj⟩:∃j:Nat,k=(j:Int)+1:=⟨(k-1).toNat,by omega⟩
      subst hj
      have hlt:j<(B6 T V l).ts.length:=by omega
      have hg:=List.getElem?_eq_getElem hlt
      obtain ⟨q1,q2,_⟩:=hts _ (List.mem_of_getElem? hg)
      rw [pv_at hg,(nL hE q1 q2).1,hnm,hnm1 j _ hg,show ((0:Nat):Int)+(j:Int)+1=(j:Int)+1 by omega]
    · have:k=0:=by omega
      subst this
      rw [hsat2];rfl
  have hnum:∀y∈l,(Aa T V y).2=true→Pk (Dw (tK T V l)) y=true:=by
    refine (oQ hE hf).1 fun b hb=>?_
    have hbz:b∈(C2 T V l).bs:=List.mem_append_right _ hb
    have h1:=mY l b hbz
    have h2:=hsat3 b hbz
    unfold T9 at h2 ⊢
    rw [hpv b.x h1.1 h1.2.1,hpv b.y h1.2.2.1 h1.2.2.2]
    exact h2
  refine List.all_eq_true.2 fun y hy=>?_
  have hsim:Bt T V y.cond=true:=by
    unfold Jq at hc
    rw [Bool.and_eq_true] at hc
    exact List.all_eq_true.1 hc.1 y hy
  rcases bR (hf y hy) hsim with h | h
  · exact hnum y hy h
  · have hS:=V9 (hf y hy).kok h hsim
    have m0:=Nt hy h hsim hS.m0
    have m1:=Nt hy h hsim hS.m1
    obtain ⟨t0,a0,b0⟩:=hsg _ m0
    obtain ⟨t1,a1,b1⟩:=hsg _ m1
    have htv:=xE hE (hf y hy).kok hS
    have hstr':=hstr
    unfold Eg at hstr'
    rw [Bool.and_eq_true] at hstr'
    unfold Pk
    cases hn:y.neg with
    | false=>
      have hs:B9 T V true y=true:=by unfold B9;rw [hn,h,hsim];rfl
      have hj:Cb (Eg T V l).1 (B8 (Ao y.cond))=Cb (Eg T V l).1 (B8 (Bj y.cond)):=Rj l Vz hstr'.1 y hy hs
      rw [hj,a1] at a0
      have:tv (Dw (tK T V l)) y.cond=true:=htv.2 (by rw [b0,b1];exact (Option.some.inj a0).symm)
      rw [this];rfl
    | true=>
      have hs:B9 T V false y=true:=by unfold B9;rw [hn,h,hsim];rfl
      have hj:Cb (Eg T V l).1 (B8 (Ao y.cond))≠Cb (Eg T V l).1 (B8 (Bj y.cond)):=Qz l hstr'.2 y hy hs
      have:tv (Dw (tK T V l)) y.cond=false:=by
        rw [Bool.eq_false_iff]
        intro e
        have h3:=htv.1 e
        rw [b0,b1] at h3
        exact hj (hN.ni.inj _ (Ry a0) _ (Ry a1) h3)
      rw [this];rfl
theorem env_of {l:List Ev}(h:Ls T V l=true):EnvOK T V (Dw l):=by
  refine ⟨uS h,fun x hx ev hev=>?_⟩
  obtain ⟨hl,h1⟩:=Vi h
  obtain ⟨e,he,rfl⟩:=List.mem_map.1 hx
  rw [List.mem_singleton] at hev;subst hev
  obtain ⟨i,hi⟩:=List.mem_iff_getElem?.1 he
  have hlt:=A8 hi
  obtain ⟨e',he',hc,_⟩:=h1 i (V[i]'(by omega)) (List.getElem?_eq_getElem (by omega))
  rw [hi] at he';cases he'
  have hv:=U8 hc
  unfold Jz at hv
  cases h2:(Gu ev != 0) with
  | true=>rw [if_pos h2] at hv;rw [hv] at h2;cases h2
  | false=>
    have h3:Gu ev=0:=by simpa using h2
    unfold Gu at h3
    split at h3
    · cases h3
    split at h3
    · cases h3
    · rename_i h4
      simp only [Bool.or_eq_true,decide_eq_true_eq,not_or] at h4
      omega
end

section
variable {T:List Sc} {V:List Va} {l:List Ev} {e:Ex}
structure SceneOK (T:List Sc) (V:List Va) (l:List Ev) (e:Ex):Prop where
 kc:KC T V e
 kind:Am T V e=1
 suits:Gq T V (Dw l)
def litU (l:List Ev)(y:Lit):Bool:=L8 ⟨Dw l,-1,Kn⟩ y.cond != y.neg
end
end Go.Proofs.YtkddpedfbicbeaaGreatDoor
