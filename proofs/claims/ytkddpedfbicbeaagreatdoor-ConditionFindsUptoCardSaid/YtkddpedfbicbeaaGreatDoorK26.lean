/-
  Several texts in one: S47, S48, S38. No condition.
-/
import Derived.Test.YtkddpedfbicbeaaGreatDoorK25
import Derived.Test.YtkddpedfbicbeaaGreatDoorK22
set_option linter.unusedVariables false
set_option linter.unusedSimpArgs false
namespace Go.Proofs.YtkddpedfbicbeaaGreatDoor
open Go Go.Aw

/-! ### what is used -/
theorem Tg (U:Um)(n m:Fr)(b:Bool):Fe (T2 U n b) m=if n=m then b else Fe U m:=by
  unfold T2
  induction U with
  | nil=>show Fe [(n,b)] m=_;rfl
  | cons q r ih=>
    obtain ⟨k,c⟩:=q
    rw [jC]
    by_cases h:k=n
    · rw [if_pos h]
      subst h
      show Fe ((k,b)::r) m=_
      rw [Fe,Fe]
      by_cases h2:k=m
      · rw [if_pos h2,if_pos h2]
      · rw [if_neg h2,if_neg h2,if_neg h2]
    · rw [if_neg h]
      cases hu:jC r n with
      | none=>
        rw [hu] at ih
        show Fe ((k,c)::(r ++ [(n,b)])) m=_
        have ih':Fe (r ++ [(n,b)]) m=if n=m then b else Fe r m:=ih
        rw [Fe,Fe,ih']
        by_cases h2:k=m
        · rw [if_pos h2,if_pos h2,if_neg (fun e=>h (h2.trans e.symm))]
        · rw [if_neg h2,if_neg h2]
      | some j=>
        rw [hu] at ih
        show Fe ((k,c)::r.modify j fun _=>(n,b)) m=_
        have ih':Fe (r.modify j fun _=>(n,b)) m=if n=m then b else Fe r m:=ih
        rw [Fe,Fe,ih']
        by_cases h2:k=m
        · rw [if_pos h2,if_pos h2,if_neg (fun e=>h (h2.trans e.symm))]
        · rw [if_neg h2,if_neg h2]
theorem Uc {U:Um}:∀(f k:Nat),(∀i,i<k→Fe U (wN i)=true)→U.length≤f+k→Fe U (wN (Ti U f k))=false∧Ti U f k≤U.length
  | 0,k,h,hl=>by
    have hk:=Ou h
    cases hq:Fe U (wN k) with
    | false=>exact ⟨hq,hk⟩
    | true=>
      have:=Ou (U:=U) (j:=k+1) (fun i hi=>by
        rcases Nat.lt_or_ge i k with h2 | h2
        · exact h i h2
        · rw [show i=k by omega];exact hq)
      omega
  | f+1,k,h,hl=>by
    cases hq:Fe U (wN k) with
    | false=>rw [mX hq];exact ⟨hq,Ou h⟩
    | true=>
      rw [nV hq]
      exact Uc f (k+1) (fun i hi=>by
        rcases Nat.lt_or_ge i k with h2 | h2
        · exact h i h2
        · rw [show i=k by omega];exact hq) (by omega)
theorem Wy (U:Um):Fe U (cG U)=false:=(Uc U.length 0 (fun i h=>absurd h (by omega)) (by omega)).1
theorem rR {U:Um}(h:U.length≤1000000):(cG U).length≤64:=by
 have h1:=(Uc (U:=U) U.length 0 (fun i h=>absurd h (by omega)) (by omega)).2
 have h2:=Go.Lib.itoa_length_le ((Ti U U.length 0:Nat):Int) (by omega) (by omega)
 show (Go.Lib.itoa ((Ti U U.length 0:Nat):Int)).length+1≤64
 omega
/-! ### the words of a clause -/
section
variable {T:List Sc} {V:List Va}
/-- a word of an equation between strings -/
structure WordL (T:List Sc) (V:List Va) (l:List Lit) (x:Wd):Prop where
 ex:∃c∈l,Cp T V c.cond=true∧B5 T V c.cond=true∧∃a∈c.cond.args,x=B9 a
abbrev M1 (p:Um×List Wd):Prop:=∀x∈p.2,x.const=true→Fe p.1 x.text=true
theorem zS {p:Um×List Wd}(h:M1 p)(a:Ex):M1 (Xr p a):=by
 intro x hx hc
 unfold Xr
 simp only
 rw [Tg]
 rcases List.mem_append.1 hx with hx | hx
 ·
  split
  · rename_i e;rw [e,h x hx hc,Bool.true_or]
  · exact h x hx hc
 ·
  rw [List.mem_singleton.1 hx] at hc ⊢
  rw [if_pos rfl,hc,Bool.or_true]
theorem Zj:∀(xs:List Ex) {p:Um×List Wd},M1 p→M1 (xs.foldl Xr p)
 | [],p,h=>h
 | a::r,p,h=>by rw [List.foldl_cons];exact Zj r (zS h a)
theorem Lu:∀(xs:List Ex) (p:Um×List Wd),(xs.foldl Xr p).2=p.2++xs.map B9
  | [],p=>by simp
  | a::r,p=>by
    rw [List.foldl_cons,Lu r]
    show (p.2 ++ [B9 a])++r.map B9=_
    simp
theorem eH:∀(xs:List Ex) (p:Um×List Wd),(xs.foldl Xr p).1.length≤p.1.length+xs.length
  | [],p=>by simp
  | a::r,p=>by
    rw [List.foldl_cons]
    have:=eH r (Xr p a)
    have h2:=Xb p.1 (B9 a).text (Fe p.1 (B9 a).text||(B9 a).const)
    have h3:(Xr p a).1.length≤p.1.length+1:=h2
    rw [List.length_cons];omega
theorem colL_ok {p:Um×List Wd}(h:M1 p)(c:Lit):M1 (Tr T V p c):=by
 cases hc:(!Cp T V c.cond || !B5 T V c.cond) with
 | true=>rw [S1 hc];exact h
 | false=>rw [Mf hc];exact Zj _ h
theorem bC:∀(l:List Lit) {p:Um×List Wd},M1 p→M1 (l.foldl (Tr T V) p)
 | [],p,h=>h
 | c::r,p,h=>by rw [List.foldl_cons];exact bC r (colL_ok h c)
theorem iW (l:List Lit):M1 (Hf T V l):=bC l (fun x hx=>by cases hx)
theorem Ya {l:List Lit}{P:Wd→Prop}(hP:∀c∈l,Cp T V c.cond=true→B5 T V c.cond=true→∀a∈c.cond.args,P (B9 a)):∀(m:List Lit) {p:Um×List Wd},(∀c∈m,c∈l)→(∀x∈p.2,P x)→∀x∈(m.foldl (Tr T V) p).2,P x
  | [],p,_,h=>h
  | c::r,p,hm,h=>by
    rw [List.foldl_cons]
    refine Ya hP r (fun x hx=>hm x (List.mem_cons_of_mem _ hx)) ?_
    cases hc:(!Cp T V c.cond || !B5 T V c.cond) with
    | true=>rw [S1 hc];exact h
    | false=>
      rw [Mf hc,Lu]
      rw [Bool.or_eq_false_iff,Bool.not_eq_false',Bool.not_eq_false'] at hc
      intro x hx
      rcases List.mem_append.1 hx with hx | hx
      · exact h x hx
      · obtain ⟨a,ha,rfl⟩:=List.mem_map.1 hx
        exact hP c (hm c (List.mem_cons_self ..)) hc.1 hc.2 a ha
theorem Z0:∀(m:List Lit) (p:Um×List Wd),∀x∈p.2,x∈(m.foldl (Tr T V) p).2
  | [],p,x,h=>h
  | c::r,p,x,h=>by
    rw [List.foldl_cons]
    refine Z0 r _ x ?_
    cases hc:(!Cp T V c.cond || !B5 T V c.cond) with
    | true=>rw [S1 hc];exact h
    | false=>rw [Mf hc,Lu];exact List.mem_append_left _ h
theorem jR:∀(m:List Lit) (p:Um×List Wd),∀c∈m,Cp T V c.cond=true→B5 T V c.cond=true→∀a∈c.cond.args,B9 a∈(m.foldl (Tr T V) p).2
  | [],p,c,hc,_,_,_,_=>by cases hc
  | d::r,p,c,hc,h1,h2,a,ha=>by
    rw [List.foldl_cons]
    rcases List.mem_cons.1 hc with rfl | hc
    · refine Z0 r _ _ ?_
      rw [Mf (show (!Cp T V c.cond || !B5 T V c.cond)=false by rw [h1,h2];rfl),Lu]
      exact List.mem_append_right _ (List.mem_map.2 ⟨a,ha,rfl⟩)
    · exact jR r _ c hc h1 h2 a ha
theorem Nh {l:List Lit}{c:Lit}(hc:c∈l)(h1:Cp T V c.cond=true)(h2:B5 T V c.cond=true){a:Ex}(ha:a∈c.cond.args):B9 a∈(Hf T V l).2:=jR l _ c hc h1 h2 a ha
theorem gK {l:List Lit}{x:Wd}(hx:x∈(Hf T V l).2):WordL T V l x:=
 ⟨Ya (T:=T) (V:=V) (l:=l) (P:=fun x=>∃c∈l,Cp T V c.cond=true∧B5 T V c.cond=true∧∃a∈c.cond.args,x=B9 a) (fun c hc h1 h2 a ha=>⟨c,hc,h1,h2,a,ha,rfl⟩) l (fun _ h=>h) (fun x h=>by cases h) x hx⟩
theorem Yf:∀(m:List Lit),Ve T V m→∀(p:Um×List Wd),(m.foldl (Tr T V) p).1.length≤p.1.length+2*m.length∧(m.foldl (Tr T V) p).2.length≤p.2.length+2*m.length
  | [],_,p=>by simp
  | c::r,hl,p=>by
    rw [List.foldl_cons]
    have ih:=Yf r (fun x hx=>hl x (List.mem_cons_of_mem _ hx)) (Tr T V p c)
    rw [List.length_cons]
    cases hc:(!Cp T V c.cond || !B5 T V c.cond) with
    | true=>rw [S1 hc] at ih ⊢;omega
    | false=>
      obtain ⟨h2,_⟩:=Sn (hl c (List.mem_cons_self ..)).1 hc
      rw [Mf hc] at ih ⊢
      have h3:=eH c.cond.args p
      have h4:=congrArg List.length (Lu c.cond.args p)
      rw [List.length_append,List.length_map] at h4
      omega
/-- what is known of a word -/
structure WOK (T:List Sc) (V:List Va) (x:Wd):Prop where
 wf:tR x
 fld:x.const=false→KOK T V (Hn x.field)∧tmOK T V x.field∧x.field.op=1∧Am T V (Hn x.field)=2
 txt:x.const=true→x.text.length≤64
theorem xG {v:Vl}(h:Ap v=0)(hk:v.kind=2):v.text.length≤64:=by
 have hn:=Wl h hk
 unfold Ap D8 at h
 simp [hk,hn] at h
 omega
theorem yH {l:List Lit}(hl:Ve T V l){x:Wd}(h:WordL T V l x):WOK T V x:=by
 obtain ⟨c,hc,h1,h2,a,ha,rfl⟩:=h.ex
 have hk:=(hl c hc).1
 have hs:=Wg hk h1 h2
 have hka:=A1 hk ha
 have hkind:Am T V a=2:=by rw [Ik hk hs.op ha];exact hs.k0
 have hd:(a.op==0||a.op==1)=true:=(Sn hk (show (!Cp T V c.cond || !B5 T V c.cond)=false by rw [h1,h2];rfl)).2 a ha
 have hz:=(Bb hka.nodes).1
 refine ⟨gB a,fun hcf=>?_,fun hct=>?_⟩
 ·
  have h0:(a.op==0)=false:=by
   cases h0:a.op==0 with
   | false=>rfl
   | true=>rw [cA h0] at hcf;cases hcf
  have h1':a.op=1:=by rw [h0,Bool.false_or] at hd;simpa using hd
  obtain ⟨w1,w2⟩:=pE hka hd hcf
  have e:Hn (B9 a).field=a:=by
   rw [bR h0]
   show Hn (D1 a)=a
   exact K1 hz (by rw [h1'];rfl)
  exact ⟨by rw [e];exact hka,w1,w2,by rw [e];exact hkind⟩
 ·
  have h0:(a.op==0)=true:=by
   cases h0:a.op==0 with
   | true=>rfl
   | false=>rw [bR h0] at hct;cases hct
  rw [cA h0]
  have hv:=(H6 hz (by simpa using h0)).1
  have hvk:a.val.kind=2:=by
   unfold Am at hkind
   rw [if_pos (by rw [h0];rfl)] at hkind
   exact hkind
  show a.val.text.length≤64
  exact xG hv hvk
/-! ### naming -/
theorem Sk {N:Nm}{r:Wd}{s:Fr}(h:Ig N r=some s):(r,s)∈N:=by
  unfold Ig at h
  cases hf:N.find? fun p=>decide (p.1=r) with
  | none=>rw [hf] at h;cases h
  | some p=>
    rw [hf] at h
    have h1:=List.find?_some hf
    have h2:=List.mem_of_find?_eq_some hf
    have e1:p.1=r:=by simpa using h1
    have e2:p.2=s:=by simpa using h
    rw [←e1,←e2];exact h2
theorem tA {N:Nm}{r q:Wd}{s t:Fr}(h:Ig N r=some s):Ig (N ++ [(q,t)]) r=some s:=by
 unfold Ig at h ⊢
 rw [List.find?_append]
 cases hf:N.find? fun p=>decide (p.1=r) with
 | none=>rw [hf] at h;cases h
 | some p=>rw [hf] at h;exact h
structure NI (W:Wd→Prop) (U:Um) (N:Nm):Prop where
 used:∀p∈N,Fe U p.2=true
 texts:∀x,W x→x.const=true→Fe U x.text=true
 con:∀p∈N,p.1.const=true→p.2=p.1.text∧W p.1
 free:∀p∈N,p.1.const=false→∀x,W x→x.const=true→x.text≠p.2
 inj:∀p∈N,∀q∈N,p.2=q.2→p.1=q.1
 len:∀p∈N,p.2.length≤64
theorem yZ {W:Wd→Prop}(hW:∀x,W x→WOK T V x){U:Um}{N:Nm}(h:NI W U N){r:Wd}(hr:W r)(hU:U.length≤1000000):NI W (Zw U N r).1 (Zw U N r).2:=by
  cases hg:Ig N r with
  | some s=>rw [cR (by rw [hg];rfl)];exact h
  | none=>
    rw [cM hg]
    have hmono:∀m,Fe U m=true→Fe (T2 U (Jw U r) true) m=true:=fun m hm=>by
      rw [Tg];split
      · rfl
      · exact hm
    have hnew:∀p∈N,p.2=Jw U r→p.1=r:=fun p hp e=>by
      unfold Jw at e
      cases hc:r.const with
      | true=>
        rw [hc,if_pos rfl] at e
        cases hpc:p.1.const with
        | true=>
          obtain ⟨c1,c2⟩:=h.con p hp hpc
          exact jF (hW _ c2).wf (hW _ hr).wf (by rw [hpc,hc];rfl) (by rw [←c1];exact e)
        | false=>exact absurd e.symm (h.free p hp hpc r hr hc)
      | false=>
        rw [hc,if_neg (by decide)] at e
        have h1:=h.used p hp
        rw [e,Wy] at h1;cases h1
    refine ⟨fun p hp=>?_,fun x hx hc=>hmono _ (h.texts x hx hc),fun p hp hc=>?_,fun p hp hc x hx hxc=>?_,fun p hp q hq e=>?_,fun p hp=>?_⟩
    · rcases List.mem_append.1 hp with hp | hp
      · exact hmono _ (h.used p hp)
      · rw [List.mem_singleton.1 hp];simp only;rw [Tg,if_pos rfl]
    · rcases List.mem_append.1 hp with hp | hp
      · exact h.con p hp hc
      · rw [List.mem_singleton.1 hp] at hc ⊢
        simp only at hc ⊢
        unfold Jw
        rw [if_pos hc];exact ⟨rfl,hr⟩
    · rcases List.mem_append.1 hp with hp | hp
      · exact h.free p hp hc x hx hxc
      · rw [List.mem_singleton.1 hp] at hc ⊢
        simp only at hc ⊢
        unfold Jw
        rw [if_neg (by rw [hc];decide)]
        intro e
        have h1:=h.texts x hx hxc
        rw [e,Wy] at h1;cases h1
    · rcases List.mem_append.1 hp with hp | hp <;> rcases List.mem_append.1 hq with hq | hq
      · exact h.inj p hp q hq e
      · rw [List.mem_singleton.1 hq] at e ⊢
        exact hnew p hp e
      · rw [List.mem_singleton.1 hp] at e ⊢
        exact (hnew q hq e.symm).symm
      · rw [List.mem_singleton.1 hp,List.mem_singleton.1 hq]
    · rcases List.mem_append.1 hp with hp | hp
      · exact h.len p hp
      · rw [List.mem_singleton.1 hp]
        simp only
        unfold Jw
        cases hc:r.const with
        | true=>rw [if_pos rfl];exact (hW _ hr).txt hc
        | false=>rw [if_neg (by decide)];exact rR hU
theorem Yw {U:Um}{N:Nm}{r q:Wd}{s:Fr}(h:Ig N q=some s):Ig (Zw U N r).2 q=some s:=by
 cases hg:Ig N r with
 | some t=>rw [cR (by rw [hg];rfl)];exact h
 | none=>rw [cM hg];exact tA h
theorem zT {W:Wd→Prop}(hW:∀x,W x→WOK T V x){U:Um}{N:Nm}(h:NI W U N){r:Wd}(hr:W r)(hU:U.length≤1000000):(nmT U N r).length≤64:=by
 have h1:=dD U N r
 exact (yZ hW h hr hU).len _ (Sk h1)
/-- so far all fields of the words hold the names of their classes -/
structure NS (T:List Sc) (V:List Va) (W:Wd→Prop) (w:Wm) (done:List Wd) (s:Ns) (b:Nat):Prop where
 ni:NI W s.1 s.2.1
 ulen:s.1.length≤b
 evi:EvI T V s.2.2
 eok:evOK T V s.2.2
 has:∀x∈done,∃t,Ig s.2.1 (Cc w x)=some t∧(x.const=false→txA s.2.2 x.field=t)
theorem ns_step {W:Wd→Prop}(hW:∀x,W x→WOK T V x){w:Wm}(hw:wGood W w){done:List Wd}{s:Ns}{b:Nat}(h:NS T V W w done s b)(hb:b≤1000000)(hd:∀x∈done,W x){x:Wd}(hx:W x):NS T V W w (done ++ [x]) (H8 w s x) (b+1):=by
  have hr:=lD hw hx
  have hU:s.1.length≤1000000:=Nat.le_trans h.ulen hb
  have hni:=yZ hW h.ni hr hU
  have hget:=dD s.1 s.2.1 (Cc w x)
  have hlen:=zT hW h.ni hr hU
  have hul:(Zw s.1 s.2.1 (Cc w x)).1.length≤b+1:=by have:=dT s.1 s.2.1 (Cc w x);have:=h.ulen;omega
  cases hc:x.const with
  | true=>
    rw [Sl hc]
    refine ⟨hni,hul,h.evi,h.eok,fun y hy=>?_⟩
    rcases List.mem_append.1 hy with hy | hy
    · obtain ⟨t,h1,h2⟩:=h.has y hy
      exact ⟨t,Yw h1,h2⟩
    · rw [List.mem_singleton.1 hy]
      exact ⟨_,hget,fun e=>by rw [hc] at e;cases e⟩
  | false=>
    rw [R3 hc]
    obtain ⟨k1,k2,k3,k4⟩:=(hW x hx).fld hc
    refine ⟨hni,hul,yK h.evi k1 k3 k4 hlen,nD h.eok _ _,fun y hy=>?_⟩
    rcases List.mem_append.1 hy with hy | hy
    · obtain ⟨t,h1,h2⟩:=h.has y hy
      refine ⟨t,Yw h1,fun hyc=>?_⟩
      obtain ⟨j1,j2,j3,j4⟩:=(hW y (hd y hy)).fld hyc
      by_cases e:x.field=y.field
      · have hxy:x=y:=by
          have a:=(hW x hx).wf.2 hc
          have b:=(hW y (hd y hy)).wf.2 hyc
          obtain ⟨xc,xt,xf⟩:=x
          obtain ⟨yc,yt,yf⟩:=y
          simp only at a b hc hyc e
          rw [a,b,hc,hyc,e]
        subst hxy
        simp only
        rw [nI h.eok k2 k3]
        have h3:=Yw (U:=s.1) (r:=Cc w x) h1
        rw [hget] at h3
        exact Option.some.inj h3
      · simp only
        rw [mH k2 j2 k3 j3 e]
        exact h2 hyc
    · rw [List.mem_singleton.1 hy]
      exact ⟨_,hget,fun _=>nI h.eok k2 k3 _⟩
theorem oK {W:Wd→Prop}(hW:∀x,W x→WOK T V x){w:Wm}(hw:wGood W w):∀(ws:List Wd) {done:List Wd} {s:Ns} {b:Nat},NS T V W w done s b→b+ws.length≤1000000→(∀x∈done,W x)→(∀x∈ws,W x)→NS T V W w (done++ws) (ws.foldl (H8 w) s) (b+ws.length)
  | [],done,s,b,h,_,_,_=>by rw [List.append_nil];exact h
  | x::r,done,s,b,h,hb,hd,hx=>by
    rw [List.length_cons] at hb
    have h1:=ns_step hW hw h (by omega) hd (hx x (List.mem_cons_self ..))
    have h2:=oK hW hw r h1 (by omega) (fun y hy=>by
      rcases List.mem_append.1 hy with hy | hy
      · exact hd y hy
      · rw [List.mem_singleton.1 hy];exact hx x (List.mem_cons_self ..)) fun y hy=>hx y (List.mem_cons_of_mem _ hy)
    rw [List.append_assoc] at h2
    rw [List.foldl_cons,List.length_cons,show b+(r.length+1)=b+1+r.length by omega]
    exact h2
theorem U0 (w:Wm)(t:Tm):∀(ws:List Wd) (s:Ns),eG (ws.foldl (H8 w) s).2.2 t=eG s.2.2 t
  | [],s=>rfl
  | x::r,s=>by
    rw [List.foldl_cons,U0 w t r]
    cases hc:x.const with
    | true=>rw [Sl hc]
    | false=>rw [R3 hc];exact nm_setX _ _ _ _
end

section
variable {T:List Sc} {V:List Va}
/-! ### kinds of terms -/
abbrev S5 (T:List Sc)(V:List Va)(t:Tm):Prop:=Am T V (Hn t)=0
theorem aC (e:Ex):KOK T V e→Am T V e=0→∀{b:Int} {s:Su},(∀p∈s.ts,S5 T V p.1)→∀p∈(Bn e b s).1.ts,S5 T V p.1:=by
  refine Ex.Aak (P:=fun e=>KOK T V e→Am T V e=0→∀{b:Int} {s:Su},(∀p∈s.ts,S5 T V p.1)→∀p∈(Bn e b s).1.ts,S5 T V p.1) (fun e ih hk h0 b s hs=>?_) e
  have hz:=Bb hk.nodes
  rcases Pi hz.1 with h | ⟨h,h1⟩ | ⟨h,hl⟩ | ⟨h,h1,h2,h3⟩
  · rw [Fw h];exact hs
  · rw [B6 h h1]
    intro p hp'
    have hme:S5 T V (D1 e):=by show Am T V (Hn (D1 e))=0;rw [K1 hz.1 h1];exact h0
    have key:∀{ts:List (Tm×Int)},(∀p∈ts,S5 T V p.1)→∀p∈In (D1 e) b ts,S5 T V p.1:=by
      intro ts
      induction ts with
      | nil=>intro _ p hp';rw [In,List.mem_singleton] at hp';rw [hp'];exact hme
      | cons q r ihr=>
        intro hts p hp'
        rw [In] at hp'
        split at hp'
        · rcases List.mem_cons.1 hp' with rfl | hp'
          · exact hts q (List.mem_cons_self ..)
          · exact hts p (List.mem_cons_of_mem _ hp')
        · rcases List.mem_cons.1 hp' with rfl | hp'
          · exact hts p (List.mem_cons_self ..)
          · exact ihr (fun p hp'=>hts p (List.mem_cons_of_mem _ hp')) p hp'
    exact key hs p hp'
  · have m0:=A4 (show 0<e.args.length by omega)
    have m1:=Bi hl
    have k0:=Sa hk h m0
    have k1:=Sa hk h m1
    have key:∀c,∀p∈(if !(Bn (Ao e) b s).2 then ((Bn (Ao e) b s).1,false) else Bn (Bg e) c (Bn (Ao e) b s).1).1.ts,S5 T V p.1:=fun c=>by
      have i0:=ih _ m0 (A1 hk m0) k0 (b:=b) hs
      split
      · exact i0
      · exact ih _ m1 (A1 hk m1) k1 i0
    rcases h with h | h
    · rw [J4 (c:=b) hl (.inl ⟨h,rfl⟩)];exact key b
    · rw [J4 (c:=0-b) hl (.inr ⟨h,rfl⟩)];exact key _
  · rw [Gt h h1 h2 h3];exact hs
theorem Y0 {a b:Ex}(ha:KOK T V a)(hb:KOK T V b)(ka:Am T V a=0)(kb:Am T V b=0):(∀t∈(Ch a b).1.plus,S5 T V t)∧∀t∈(Ch a b).1.minus,S5 T V t:=by
  have h0:(∀t∈tO.plus,S5 T V t)∧∀t∈tO.minus,S5 T V t:=⟨fun t h=>(by cases h),fun t h=>(by cases h)⟩
  unfold Ch
  split
  · exact h0
  rename_i h1
  split
  · exact h0
  have he:(Bn b (-1) (Bn a 1 Kr).1).1=C8 a b:=by unfold C8;rw [if_neg h1]
  rw [he]
  have hse:∀p∈(C8 a b).ts,S5 T V p.1:=by
    have q1:=aC a ha ka (b:=1) (s:=Kr) (fun p hp=>(by cases hp))
    unfold C8
    split
    · exact q1
    · exact aC b hb kb q1
  unfold S0
  cases hp:Dt (C8 a b).ts [] [] with
  | none=>exact h0
  | some p=>
    obtain ⟨p,m⟩:=p
    exact I5 (P:=S5 T V) hse (fun t h=>by cases h) (fun t h=>by cases h) hp
abbrev yE (T:List Sc)(V:List Va)(t:Tm):Prop:=Am T V (Hn t)=0∨Am T V (Hn t)=1
theorem Zb {env:List (List Ev)}(hE:EnvOK T V env){y:Lit}(hf:LitF T V y)(hn:(Aa T V y).2=true):(∀t∈(Aa T V y).1.plus,yE T V t)∧∀t∈(Aa T V y).1.minus,yE T V t:=by
  cases h:y.cond.op==1 with
  | true=>
    rw [Zp h]
    refine ⟨fun t ht=>?_,fun t ht=>by cases ht⟩
    rw [List.mem_singleton.1 ht]
    right
    rw [K1 (Bb hf.kok.nodes).1 (by rw [h];rfl)]
    exact hf.kind
  | false=>
    obtain ⟨hop,k0,k1,hb,he⟩:=jJ hE hf h hn
    have hl:=iU hf.kok (by omega) (by omega)
    have m0:=A4 (show 0<y.cond.args.length by omega)
    have m1:=Bi (show 1<y.cond.args.length by omega)
    rw [he]
    obtain ⟨q1,q2⟩:=Y0 (A1 hf.kok m0) (A1 hf.kok m1) k0 k1
    exact ⟨fun t ht=>.inl (q1 t ht),fun t ht=>.inl (q2 t ht)⟩
theorem Ze {env:List (List Ev)}(hE:EnvOK T V env):∀{l:List Lit},(∀y∈l,LitF T V y)→∀{s:Sy},(∀t∈s.ts,yE T V t)→∀t∈(l.foldl (Dd T V) s).ts,yE T V t
  | [],_,s,hs=>hs
  | c::r,hl,s,hs=>by
    rw [List.foldl_cons]
    refine Ze hE (fun x hx=>hl x (List.mem_cons_of_mem _ hx)) ?_
    cases h : !(Aa T V c).2 with
    | true=>rw [Le h];exact hs
    | false=>
      rw [Lo h]
      obtain ⟨h1,h2⟩:=Zb hE (hl c (List.mem_cons_self ..)) (by simpa using h)
      exact Ld (Ld hs h1) h2
theorem nJ:∀{ts:List Tm} {i k:Nat} {t:Tm},ts[k]? = some t→(⟨(i:Int)+k+1,0,(C0 T V t).2⟩:Bd)∈Hl T V i ts∧(⟨0,(i:Int)+k+1,0-(C0 T V t).1⟩:Bd)∈Hl T V i ts
  | [],i,k,t,h=>by simp at h
  | u::r,i,0,t,h=>by
    simp at h;subst h
    rw [Hl,show (i:Int)+((0:Nat):Int)+1=(i:Int)+1 by omega]
    exact ⟨List.mem_cons_self ..,List.mem_cons_of_mem _ (List.mem_cons_self ..)⟩
  | u::r,i,k+1,t,h=>by
    obtain ⟨h1,h2⟩:=nJ (i:=i+1) (show r[k]? = some t by simpa using h)
    rw [Hl,show (i:Int)+((k+1:Nat):Int)+1=((i+1:Nat):Int)+k+1 by omega]
    exact ⟨List.mem_cons_of_mem _ (List.mem_cons_of_mem _ h1),List.mem_cons_of_mem _ (List.mem_cons_of_mem _ h2)⟩
/-! ### what a simple literal is -/
theorem bN {y:Lit}(hf:LitF T V y)(h:B5 T V y.cond=true):(Aa T V y).2=true∨Cp T V y.cond=true:=by
  cases h1:y.cond.op==1 with
  | true=>left;rw [Zp h1]
  | false=>
    cases h2 : !Cu y.cond with
    | true=>rw [jU h1 h2] at h;cases h
    | false=>
      cases h3:Cp T V y.cond with
      | true=>exact .inr rfl
      | false=>
        left
        rw [Zv h1 (by rw [h2,h3];rfl)]
        unfold B5 at h
        rw [Ci h1,Ci h2,Ci h3] at h
        exact h
/-- the events of a clause that is solved and certain -/
theorem eC {l:List Lit}(hT:Ea T=0)(hty:Jt T V)(hf:∀y∈l,LitF T V y)(hk:Qk T V l=true)(hc:Lj T V l=true):EvI T V (nO T V l)∧jW (Dy (nO T V l)) l=true:=by
  have hl:=Yd hf
  obtain ⟨hfit,hlen⟩:=Px hc
  have hlen':l.length≤256:=by have:=of_decide_eq_true hlen;omega
  have hfit':(!I8 (C5 T V l))=false:=by rw [hfit];rfl
  rw [dC hfit',Bool.and_eq_true] at hk
  obtain ⟨hstr,hok⟩:=hk
  have hE0:EnvOK T V (Dy (Ht T 0 V)):=V1 hty (pH hT)
  have hsv:Li T V l=(Ew (C5 T V l)).values:=lP hfit'
  have hsat:=qL (n:=zN T V l) (bs:=(C5 T V l).bs) (P9 hl) hok
  have hsat1:(Li T V l).length=zN T V l:=by rw [hsv];exact hsat.1
  have hsat2:E0 (Li T V l) 0=0:=by rw [hsv];exact hsat.2.1
  have hsat3:∀b∈(C5 T V l).bs,Uj (E0 (Li T V l)) b:=by rw [hsv];exact hsat.2.2
  clear hsat
  have hts:∀t∈(Cg T V l).ts,KOK T V (Hn t)∧tmOK T V t∧yE T V t:=fun t ht=>⟨(Lr hl).terms t ht,lH hl t ht,Ze hE0 hf (s:=⟨[],[]⟩) (fun t h=>by cases h) t ht⟩
  have hlim:∀(k:Nat) (t:Tm),(Cg T V l).ts[k]? = some t→(C0 T V t).1≤E0 (Li T V l) (((0:Nat):Int)+k+1)∧E0 (Li T V l) (((0:Nat):Int)+k+1)≤(C0 T V t).2:=fun k t ht=>by
    obtain ⟨h1,h2⟩:=nJ (T:=T) (V:=V) (i:=0) ht
    have s1:=hsat3 _ (List.mem_append_left _ h1)
    have s2:=hsat3 _ (List.mem_append_left _ h2)
    unfold Uj at s1 s2
    simp only [hsat2] at s1 s2
    omega
  have hev1:EvI T V (G2 (Li T V l) 0 (Cg T V l).ts (Ht T 0 V)):=bE _ 0 (pH hT) (fun t ht=>⟨(hts t ht).1,(hts t ht).2.1.op,fun _=>(hts t ht).2.2⟩) hlim
  have hok1:evOK T V (G2 (Li T V l) 0 (Cg T V l).ts (Ht T 0 V)):=eS _ 0 jZ
  have hnm1:∀(k:Nat) (t:Tm),(Cg T V l).ts[k]? = some t→eG (G2 (Li T V l) 0 (Cg T V l).ts (Ht T 0 V)) t=E0 (Li T V l) (((0:Nat):Int)+k+1):=
    iZ _ 0 jZ (aZ l (by simp)) fun t ht=>⟨(hts t ht).2.1,kT (hts t ht).1⟩
  -- the words
  have hW:∀x,x∈(Hf T V l).2→WOK T V x:=fun x hx=>yH hl (gK hx)
  have hw:wGood (fun x=>x∈(Hf T V l).2) (Ef T V l).1:=by
    refine Tf l (fun c hc hs=>?_) ⟨fun p hp=>(by cases hp),fun p hp=>(by cases hp)⟩
    obtain ⟨_,h2,h3⟩:=Vc hs
    have hS:=Wg (hl c hc).1 h2 h3
    exact ⟨Nh hc h2 h3 hS.m0,Nh hc h2 h3 hS.m1⟩
  have hcl:=Yf (T:=T) (V:=V) l hl ([],[])
  have h0:NS T V (fun x=>x∈(Hf T V l).2) (Ef T V l).1 [] ((Hf T V l).1,[],G2 (Li T V l) 0 (Cg T V l).ts (Ht T 0 V)) 512:=
    ⟨⟨fun p hp=>(by cases hp),fun x hx hxc=>iW l x hx hxc,fun p hp=>(by cases hp),fun p hp=>(by cases hp),fun p hp=>(by cases hp),fun p hp=>(by cases hp)⟩,by
      have:(Hf T V l).1.length≤([]:Um).length+2*l.length:=hcl.1
      simp only [List.length_nil] at this
      simp only;omega,hev1,hok1,fun x hx=>by cases hx⟩
  have hN:=oK hW hw (Hf T V l).2 h0 (by
    have:(Hf T V l).2.length≤([]:List Wd).length+2*l.length:=hcl.2
    simp only [List.length_nil] at this
    omega) (fun x hx=>by cases hx) (fun x hx=>hx)
  rw [List.nil_append] at hN
  have hev:EvI T V (nO T V l):=hN.evi
  refine ⟨hev,?_⟩
  have hE:=V1 hty hev
  have hnm:∀t,eG (nO T V l) t=eG (G2 (Li T V l) 0 (Cg T V l).ts (Ht T 0 V)) t:=fun t=>U0 _ t _ _
  have hsg:∀x∈(Hf T V l).2,∃t,Ig ((Hf T V l).2.foldl (H8 (Ef T V l).1) ((Hf T V l).1,[],G2 (Li T V l) 0 (Cg T V l).ts (Ht T 0 V))).2.1 (Cc (Ef T V l).1 x)=some t∧sg (Dy (nO T V l)) x=t:=fun x hx=>by
    obtain ⟨t,h1,h2⟩:=hN.has x hx
    refine ⟨t,h1,?_⟩
    unfold sg
    cases hxc:x.const with
    | true=>
      rw [if_pos rfl]
      rw [vF hw hxc] at h1
      exact (hN.ni.con _ (Sk h1) hxc).1.symm
    | false=>
      rw [if_neg (by decide)]
      obtain ⟨k1,k2,k3,k4⟩:=(hW x hx).fld hxc
      rw [(nG hE k1 k2).2 k3]
      exact h2 hxc
  -- the numbers
  have hpv:∀k:Int,0≤k→k<(C5 T V l).n→pv (Ty (Dy (nO T V l))) (Cg T V l).ts k=E0 (Li T V l) k:=fun k k0 k1=>by
    have hn:(C5 T V l).n=((Cg T V l).ts.length:Int)+1:=rfl
    rcases Int.lt_or_le 0 k with h | h
    · obtain ⟨j,hj⟩:∃j:Nat,k=(j:Int)+1:=⟨(k-1).toNat,by omega⟩
      subst hj
      have hlt:j<(Cg T V l).ts.length:=by omega
      have hg:=List.getElem?_eq_getElem hlt
      obtain ⟨q1,q2,_⟩:=hts _ (List.mem_of_getElem? hg)
      rw [pv_at hg,(nG hE q1 q2).1,hnm,hnm1 j _ hg,show ((0:Nat):Int)+(j:Int)+1=(j:Int)+1 by omega]
    · have:k=0:=by omega
      subst this
      rw [hsat2];rfl
  have hnum:∀y∈l,(Aa T V y).2=true→Pa (Dy (nO T V l)) y=true:=by
    refine (nQ hE hf).1 fun b hb=>?_
    have hbz:b∈(C5 T V l).bs:=List.mem_append_right _ hb
    have h1:=nU l b hbz
    have h2:=hsat3 b hbz
    unfold Uj at h2 ⊢
    rw [hpv b.x h1.1 h1.2.1,hpv b.y h1.2.2.1 h1.2.2.2]
    exact h2
  refine List.all_eq_true.2 fun y hy=>?_
  have hsim:B5 T V y.cond=true:=by
    unfold Lj at hc
    rw [Bool.and_eq_true] at hc
    exact List.all_eq_true.1 hc.1 y hy
  rcases bN (hf y hy) hsim with h | h
  · exact hnum y hy h
  · have hS:=Wg (hf y hy).kok h hsim
    have m0:=Nh hy h hsim hS.m0
    have m1:=Nh hy h hsim hS.m1
    obtain ⟨t0,a0,b0⟩:=hsg _ m0
    obtain ⟨t1,a1,b1⟩:=hsg _ m1
    have htv:=wP hE (hf y hy).kok hS
    have hstr':=hstr
    unfold Ef at hstr'
    rw [Bool.and_eq_true] at hstr'
    unfold Pa
    cases hn:y.neg with
    | false=>
      have hs:Cd T V true y=true:=by unfold Cd;rw [hn,h,hsim];rfl
      have hj:Cc (Ef T V l).1 (B9 (Ao y.cond))=Cc (Ef T V l).1 (B9 (Bg y.cond)):=Rf l Vw hstr'.1 y hy hs
      rw [hj,a1] at a0
      have:tv (Dy (nO T V l)) y.cond=true:=htv.2 (by rw [b0,b1];exact (Option.some.inj a0).symm)
      rw [this];rfl
    | true=>
      have hs:Cd T V false y=true:=by unfold Cd;rw [hn,h,hsim];rfl
      have hj:Cc (Ef T V l).1 (B9 (Ao y.cond))≠Cc (Ef T V l).1 (B9 (Bg y.cond)):=Q5 l hstr'.2 y hy hs
      have:tv (Dy (nO T V l)) y.cond=false:=by
        rw [Bool.eq_false_iff]
        intro e
        have h3:=htv.1 e
        rw [b0,b1] at h3
        exact hj (hN.ni.inj _ (Sk a0) _ (Sk a1) h3)
      rw [this];rfl
/-! ### the events suit -/
theorem aH:∀{l:List Vl} {m:List Fi},(∀(k:Nat) (f:Fi),m[k]? = some f→∃w,l[k]? = some w∧lE w f.kind)→Ny l m=0
  | [],[],_=>rfl
  | [],_::_,_=>rfl
  | _::_,[],_=>rfl
  | v::r,g::s,h=>by
    obtain ⟨w,hw,hG⟩:=h 0 g rfl
    simp at hw;subst hw
    have h0:Ug v g=0:=by
      unfold Ug
      rw [if_neg (by rw [hG.2];decide),if_neg (by rw [hG.1];simp)]
    rw [Ny,if_neg (by rw [h0];decide)]
    exact aH fun k f hf=>by
      have:=h (k+1) f (by simpa using hf)
      simpa using this
theorem mK {evs:List Ev}(hT:Ea T=0)(hty:Jt T V)(hV:V.length≤1000)(h:EvI T V evs):Ix T V evs=true:=by
 unfold Ix
 have hany:(evs.zip V).any (Ps T)=false:=by
  rw [List.any_eq_false]
  intro p hp
  obtain ⟨i,hi⟩:=List.mem_iff_getElem?.1 hp
  rw [List.getElem?_zip_eq_some] at hi
  obtain ⟨h1,h2⟩:=hi
  obtain ⟨s,hs⟩:=oY hty (List.mem_of_getElem? h2)
  obtain ⟨e,he,hG⟩:=h.at_ i p.2 s h2 hs
  rw [h1] at he;cases he
  have hi':=A9 h2
  have hty':=hty p.2 (List.mem_of_getElem? h2)
  have hsl:=A9 hs
  have hnum:Fk p.1=0:=by
   unfold Fk
   rw [hG.source,hG.seq,if_neg (by decide),if_neg ?_]
   have:=hG.t0;have:=hG.t1
   simp only [Bool.or_eq_true,decide_eq_true_eq];omega
  have hfo:Et T p.1=s.fields:=by unfold Et;rw [hG.type,hs];rfl
  have hval:Iy T p.1=0:=by
   unfold Iy
   rw [if_neg (by rw [hnum];decide),if_neg ?_,hfo,if_neg ?_]
   · exact aH hG.suit.2
   · rw [hG.suit.1];simp
   · rw [hG.type];simp only [Bool.or_eq_true,decide_eq_true_eq];omega
  unfold Ps Fy
  rw [if_neg (by rw [hT];decide),hval,hG.type];simp
 rw [hany,Ci rfl,h.len];simp
/-- events of the scene, with their times -/
theorem env_of {l:List Ev}(h:Ix T V l=true):EnvOK T V (Dy l):=by
  refine ⟨yF h,fun x hx ev hev=>?_⟩
  obtain ⟨hl,h1⟩:=Uu h
  obtain ⟨e,he,rfl⟩:=List.mem_map.1 hx
  rw [List.mem_singleton] at hev;subst hev
  obtain ⟨i,hi⟩:=List.mem_iff_getElem?.1 he
  have hlt:=A9 hi
  obtain ⟨e',he',hc,_⟩:=h1 i (V[i]'(by omega)) (List.getElem?_eq_getElem (by omega))
  rw [hi] at he';cases he'
  have hv:=Vd hc
  unfold Iy at hv
  cases h2:(Fk ev != 0) with
  | true=>rw [if_pos h2] at hv;rw [hv] at h2;cases h2
  | false=>
    have h3:Fk ev=0:=by simpa using h2
    unfold Fk at h3
    split at h3
    · cases h3
    split at h3
    · cases h3
    · rename_i h4
      simp only [Bool.or_eq_true,decide_eq_true_eq,not_or] at h4
      omega
end

section
variable {T:List Sc} {V:List Va} {l:List Ev} {e:Ex}
/-- what the scene gives -/
structure SceneOK (T:List Sc) (V:List Va) (l:List Ev) (e:Ex):Prop where
 kc:KC T V e
 kind:Am T V e=1
 suits:E6 T V (Dy l)
theorem SceneOK.neg (h:SceneOK T V l e):Cz e=if Bu (Fh e) != 0 then (Wc,Bu (Fh e)) else (Fh e,0):=by
 unfold Cz
 rw [if_neg (by rw [h.kc.check];decide)]
theorem SceneOK.negE (h:SceneOK T V l e):(Cz e).2=0∨(Cz e).2=5∨(Cz e).2=12:=by
 rw [h.neg]
 have:=qO (nL e h.kc.kok h.kind).1.nodes
 cases h1:(Bu (Fh e) != 0) with
 | true=>rw [if_pos rfl];exact this
 | false=>rw [Ci rfl];exact .inl rfl
/-- the truth that the law's loops find -/
def litU (l:List Ev)(y:Lit):Bool:=Ko ⟨Dy l,-1,Kl⟩ y.cond != y.neg
end
end Go.Proofs.YtkddpedfbicbeaaGreatDoor
