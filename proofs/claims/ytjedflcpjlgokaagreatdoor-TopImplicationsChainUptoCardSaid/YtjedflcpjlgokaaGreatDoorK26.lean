/-
  Several texts in one: S48, S38, S49, S50, S52, S53, Au, S51, S54. No condition.
-/
import Derived.Test.YtjedflcpjlgokaaGreatDoorK25
import Derived.Test.YtjedflcpjlgokaaGreatDoorK22
import Derived.Test.YtjedflcpjlgokaaGreatDoorK21
import Derived.Test.YtjedflcpjlgokaaGreatDoorK14
set_option linter.unusedVariables false
set_option linter.unusedSimpArgs false
namespace Go.Proofs.YtjedflcpjlgokaaGreatDoor
open Go Go.Aw

section
variable {T:List Sc} {V:List Va}
abbrev Rh (T:List Sc)(V:List Va)(t:Tm):Prop:=Ak T V (Hr t)=0
theorem Yt (e:Ex):KOK T V e→Ak T V e=0→∀{b:Int} {s:Su},(∀p∈s.ts,Rh T V p.1)→∀p∈(Bh e b s).1.ts,Rh T V p.1:=by
  refine Ex.Aaj (P:=fun e=>KOK T V e→Ak T V e=0→∀{b:Int} {s:Su},(∀p∈s.ts,Rh T V p.1)→∀p∈(Bh e b s).1.ts,Rh T V p.1) (fun e ih hk h0 b s hs=>?_) e
  have hz:=A8 hk.nodes
  rcases Np hz.1 with h | ⟨h,h1⟩ | ⟨h,hl⟩ | ⟨h,h1,h2,h3⟩
  · rw [Fe h];exact hs
  · rw [B2 h h1]
    intro p hp'
    have hme:Rh T V (Dp e):=by show Ak T V (Hr (Dp e))=0;rw [Kj hz.1 h1];exact h0
    have key:∀{ts:List (Tm×Int)},(∀p∈ts,Rh T V p.1)→∀p∈H5 (Dp e) b ts,Rh T V p.1:=by
      intro ts
      induction ts with
      | nil=>intro _ p hp';rw [H5,List.mem_singleton] at hp';rw [hp'];exact hme
      | cons q r ihr=>
        intro hts p hp'
        rw [H5] at hp'
        split at hp'
        · rcases List.mem_cons.1 hp' with rfl | hp'
          · exact hts q (List.mem_cons_self ..)
          · exact hts p (List.mem_cons_of_mem _ hp')
        · rcases List.mem_cons.1 hp' with rfl | hp'
          · exact hts p (List.mem_cons_self ..)
          · exact ihr (fun p hp'=>hts p (List.mem_cons_of_mem _ hp')) p hp'
    exact key hs p hp'
  · have m0:=Ba (show 0<e.args.length by omega)
    have m1:=Bw hl
    have k0:=Q2 hk h m0
    have k1:=Q2 hk h m1
    have key:∀c,∀p∈(if !(Bh (Ap e) b s).2 then ((Bh (Ap e) b s).1,false) else Bh (Bj e) c (Bh (Ap e) b s).1).1.ts,Rh T V p.1:=fun c=>by
      have i0:=ih _ m0 (Az hk m0) k0 (b:=b) hs
      split
      · exact i0
      · exact ih _ m1 (Az hk m1) k1 i0
    rcases h with h | h
    · rw [Jp (c:=b) hl (.inl ⟨h,rfl⟩)];exact key b
    · rw [Jp (c:=0-b) hl (.inr ⟨h,rfl⟩)];exact key _
  · rw [Ge h h1 h2 h3];exact hs
theorem Xw {a b:Ex}(ha:KOK T V a)(hb:KOK T V b)(ka:Ak T V a=0)(kb:Ak T V b=0):(∀t∈(Cd a b).1.plus,Rh T V t)∧∀t∈(Cd a b).1.minus,Rh T V t:=by
  have h0:(∀t∈qN.plus,Rh T V t)∧∀t∈qN.minus,Rh T V t:=⟨fun t h=>(by cases h),fun t h=>(by cases h)⟩
  unfold Cd
  split
  · exact h0
  rename_i h1
  split
  · exact h0
  have he:(Bh b (-1) (Bh a 1 Kb).1).1=Cx a b:=by unfold Cx;rw [if_neg h1]
  rw [he]
  have hse:∀p∈(Cx a b).ts,Rh T V p.1:=by
    have q1:=Yt a ha ka (b:=1) (s:=Kb) (fun p hp=>(by cases hp))
    unfold Cx
    split
    · exact q1
    · exact Yt b hb kb q1
  unfold Q5
  cases hp:Di (Cx a b).ts [] [] with
  | none=>exact h0
  | some p=>
    obtain ⟨p,m⟩:=p
    exact In (P:=Rh T V) hse (fun t h=>by cases h) (fun t h=>by cases h) hp
abbrev vP (T:List Sc)(V:List Va)(t:Tm):Prop:=Ak T V (Hr t)=0∨Ak T V (Hr t)=1
theorem Xu {env:List (List Ev)}(hE:EnvOK T V env){y:Lit}(hf:LitF T V y)(hn:(Aa T V y).2=true):(∀t∈(Aa T V y).1.plus,vP T V t)∧∀t∈(Aa T V y).1.minus,vP T V t:=by
  cases h:y.cond.op==1 with
  | true=>
    rw [Yw h]
    refine ⟨fun t ht=>?_,fun t ht=>by cases ht⟩
    rw [List.mem_singleton.1 ht]
    right
    rw [Kj (A8 hf.kok.nodes).1 (by rw [h];rfl)]
    exact hf.kind
  | false=>
    obtain ⟨hop,k0,k1,hb,he⟩:=dC hE hf h hn
    have hl:=oG hf.kok (by omega) (by omega)
    have m0:=Ba (show 0<y.cond.args.length by omega)
    have m1:=Bw (show 1<y.cond.args.length by omega)
    rw [he]
    obtain ⟨q1,q2⟩:=Xw (Az hf.kok m0) (Az hf.kok m1) k0 k1
    exact ⟨fun t ht=>.inl (q1 t ht),fun t ht=>.inl (q2 t ht)⟩
theorem Ym {env:List (List Ev)}(hE:EnvOK T V env):∀{l:List Lit},(∀y∈l,LitF T V y)→∀{s:Sy},(∀t∈s.ts,vP T V t)→∀t∈(l.foldl (C1 T V) s).ts,vP T V t
  | [],_,s,hs=>hs
  | c::r,hl,s,hs=>by
    rw [List.foldl_cons]
    refine Ym hE (fun x hx=>hl x (List.mem_cons_of_mem _ hx)) ?_
    cases h : !(Aa T V c).2 with
    | true=>rw [Kt h];exact hs
    | false=>
      rw [Ky h]
      obtain ⟨h1,h2⟩:=Xu hE (hl c (List.mem_cons_self ..)) (by simpa using h)
      exact Kp (Kp hs h1) h2
theorem mX:∀{ts:List Tm} {i k:Nat} {t:Tm},ts[k]? = some t→(⟨(i:Int)+k+1,0,(Ct T V t).2⟩:Bd)∈G2 T V i ts∧(⟨0,(i:Int)+k+1,0-(Ct T V t).1⟩:Bd)∈G2 T V i ts
  | [],i,k,t,h=>by simp at h
  | u::r,i,0,t,h=>by
    simp at h;subst h
    rw [G2,show (i:Int)+((0:Nat):Int)+1=(i:Int)+1 by omega]
    exact ⟨List.mem_cons_self ..,List.mem_cons_of_mem _ (List.mem_cons_self ..)⟩
  | u::r,i,k+1,t,h=>by
    obtain ⟨h1,h2⟩:=mX (i:=i+1) (show r[k]? = some t by simpa using h)
    rw [G2,show (i:Int)+((k+1:Nat):Int)+1=((i+1:Nat):Int)+k+1 by omega]
    exact ⟨List.mem_cons_of_mem _ (List.mem_cons_of_mem _ h1),List.mem_cons_of_mem _ (List.mem_cons_of_mem _ h2)⟩
theorem aM {y:Lit}(hf:LitF T V y)(h:B0 T V y.cond=true):(Aa T V y).2=true∨Ch T V y.cond=true:=by
  cases h1:y.cond.op==1 with
  | true=>left;rw [Yw h1]
  | false=>
    cases h2 : !Cm y.cond with
    | true=>rw [cQ h1 h2] at h;cases h
    | false=>
      cases h3:Ch T V y.cond with
      | true=>exact .inr rfl
      | false=>
        left
        rw [Zq h1 (by rw [h2,h3];rfl)]
        unfold B0 at h
        rw [C3 h1,C3 h2,C3 h3] at h
        exact h
theorem cA {l:List Lit}(hT:D8 T=0)(hty:Ju T V)(hf:∀y∈l,LitF T V y)(hk:Pe T V l=true)(hc:K7 T V l=true):EvI T V (kJ T V l)∧gR (Eg (kJ T V l)) l=true:=by
  have hl:=Wi hf
  obtain ⟨hfit,hlen⟩:=O4 hc
  have hlen':l.length≤256:=by have:=of_decide_eq_true hlen;omega
  have hfit':(!Ja (Cy T V l))=false:=by rw [hfit];rfl
  rw [aP hfit',Bool.and_eq_true] at hk
  obtain ⟨hstr,hok⟩:=hk
  have hE0:EnvOK T V (Eg (Ha T 0 V)):=Uv hty (lW hT)
  have hsv:Ku T V l=(Dr (Cy T V l)).values:=jH hfit'
  have hsat:=oT (n:=zN T V l) (bs:=(Cy T V l).bs) (O3 hl) hok
  have hsat1:(Ku T V l).length=zN T V l:=by rw [hsv];exact hsat.1
  have hsat2:D7 (Ku T V l) 0=0:=by rw [hsv];exact hsat.2.1
  have hsat3:∀b∈(Cy T V l).bs,Sa (D7 (Ku T V l)) b:=by rw [hsv];exact hsat.2.2
  clear hsat
  have hts:∀t∈(Cp T V l).ts,KOK T V (Hr t)∧tmOK T V t∧vP T V t:=fun t ht=>⟨(Lt hl).terms t ht,iZ hl t ht,Ym hE0 hf (s:=⟨[],[]⟩) (fun t h=>by cases h) t ht⟩
  have hlim:∀(k:Nat) (t:Tm),(Cp T V l).ts[k]? = some t→(Ct T V t).1≤D7 (Ku T V l) (((0:Nat):Int)+k+1)∧D7 (Ku T V l) (((0:Nat):Int)+k+1)≤(Ct T V t).2:=fun k t ht=>by
    obtain ⟨h1,h2⟩:=mX (T:=T) (V:=V) (i:=0) ht
    have s1:=hsat3 _ (List.mem_append_left _ h1)
    have s2:=hsat3 _ (List.mem_append_left _ h2)
    unfold Sa at s1 s2
    simp only [hsat2] at s1 s2
    omega
  have hev1:EvI T V (Gf (Ku T V l) 0 (Cp T V l).ts (Ha T 0 V)):=Yf _ 0 (lW hT) (fun t ht=>⟨(hts t ht).1,(hts t ht).2.1.op,fun _=>(hts t ht).2.2⟩) hlim
  have hok1:evOK T V (Gf (Ku T V l) 0 (Cp T V l).ts (Ha T 0 V)):=dV _ 0 iI
  have hnm1:∀(k:Nat) (t:Tm),(Cp T V l).ts[k]? = some t→cG (Gf (Ku T V l) 0 (Cp T V l).ts (Ha T 0 V)) t=D7 (Ku T V l) (((0:Nat):Int)+k+1):=
    eL _ 0 iI (X7 l (by simp)) fun t ht=>⟨(hts t ht).2.1,iC (hts t ht).1⟩
  -- the words
  have hW:∀x,x∈(Gs T V l).2→WOK T V x:=fun x hx=>tA hl (fN hx)
  have hw:wGood (fun x=>x∈(Gs T V l).2) (D5 T V l).1:=by
    refine Tc l (fun c hc hs=>?_) ⟨fun p hp=>(by cases hp),fun p hp=>(by cases hp)⟩
    obtain ⟨_,h2,h3⟩:=Ts hs
    have hS:=Uq (hl c hc).1 h2 h3
    exact ⟨Mk hc h2 h3 hS.m0,Mk hc h2 h3 hS.m1⟩
  have hcl:=Xa (T:=T) (V:=V) l hl ([],[])
  have h0:NS T V (fun x=>x∈(Gs T V l).2) (D5 T V l).1 [] ((Gs T V l).1,[],Gf (Ku T V l) 0 (Cp T V l).ts (Ha T 0 V)) 512:=
    ⟨⟨fun p hp=>(by cases hp),fun x hx hxc=>eM l x hx hxc,fun p hp=>(by cases hp),fun p hp=>(by cases hp),fun p hp=>(by cases hp),fun p hp=>(by cases hp)⟩,by
      have:(Gs T V l).1.length≤([]:Um).length+2*l.length:=hcl.1
      simp only [List.length_nil] at this
      simp only;omega,hev1,hok1,fun x hx=>by cases hx⟩
  have hN:=lB hW hw (Gs T V l).2 h0 (by
    have:(Gs T V l).2.length≤([]:List Wd).length+2*l.length:=hcl.2
    simp only [List.length_nil] at this
    omega) (fun x hx=>by cases hx) (fun x hx=>hx)
  rw [List.nil_append] at hN
  have hev:EvI T V (kJ T V l):=hN.evi
  refine ⟨hev,?_⟩
  have hE:=Uv hty hev
  have hnm:∀t,cG (kJ T V l) t=cG (Gf (Ku T V l) 0 (Cp T V l).ts (Ha T 0 V)) t:=fun t=>Tu _ t _ _
  have hsg:∀x∈(Gs T V l).2,∃t,H0 ((Gs T V l).2.foldl (Hg (D5 T V l).1) ((Gs T V l).1,[],Gf (Ku T V l) 0 (Cp T V l).ts (Ha T 0 V))).2.1 (Cc (D5 T V l).1 x)=some t∧sg (Eg (kJ T V l)) x=t:=fun x hx=>by
    obtain ⟨t,h1,h2⟩:=hN.has x hx
    refine ⟨t,h1,?_⟩
    unfold sg
    cases hxc:x.const with
    | true=>
      rw [if_pos rfl]
      rw [sU hw hxc] at h1
      exact (hN.ni.con _ (Qx h1) hxc).1.symm
    | false=>
      rw [if_neg (by decide)]
      obtain ⟨k1,k2,k3,k4⟩:=(hW x hx).fld hxc
      rw [(lL hE k1 k2).2 k3]
      exact h2 hxc
  -- the numbers
  have hpv:∀k:Int,0≤k→k<(Cy T V l).n→pv (Sq (Eg (kJ T V l))) (Cp T V l).ts k=D7 (Ku T V l) k:=fun k k0 k1=>by
    have hn:(Cy T V l).n=((Cp T V l).ts.length:Int)+1:=rfl
    rcases Int.lt_or_le 0 k with h | h
    · obtain ⟨j,hj⟩:∃j:Nat,k=(j:Int)+1:=⟨(k-1).toNat,by omega⟩
      subst hj
      have hlt:j<(Cp T V l).ts.length:=by omega
      have hg:=List.getElem?_eq_getElem hlt
      obtain ⟨q1,q2,_⟩:=hts _ (List.mem_of_getElem? hg)
      rw [zP hg,(lL hE q1 q2).1,hnm,hnm1 j _ hg,show ((0:Nat):Int)+(j:Int)+1=(j:Int)+1 by omega]
    · have:k=0:=by omega
      subst this
      rw [hsat2];rfl
  have hnum:∀y∈l,(Aa T V y).2=true→N7 (Eg (kJ T V l)) y=true:=by
    refine (nH hE hf).1 fun b hb=>?_
    have hbz:b∈(Cy T V l).bs:=List.mem_append_right _ hb
    have h1:=kS l b hbz
    have h2:=hsat3 b hbz
    unfold Sa at h2 ⊢
    rw [hpv b.x h1.1 h1.2.1,hpv b.y h1.2.2.1 h1.2.2.2]
    exact h2
  refine List.all_eq_true.2 fun y hy=>?_
  have hsim:B0 T V y.cond=true:=by
    unfold K7 at hc
    rw [Bool.and_eq_true] at hc
    exact List.all_eq_true.1 hc.1 y hy
  rcases aM (hf y hy) hsim with h | h
  · exact hnum y hy h
  · have hS:=Uq (hf y hy).kok h hsim
    have m0:=Mk hy h hsim hS.m0
    have m1:=Mk hy h hsim hS.m1
    obtain ⟨t0,a0,b0⟩:=hsg _ m0
    obtain ⟨t1,a1,b1⟩:=hsg _ m1
    have htv:=sS hE (hf y hy).kok hS
    have hstr':=hstr
    unfold D5 at hstr'
    rw [Bool.and_eq_true] at hstr'
    unfold N7
    cases hn:y.neg with
    | false=>
      have hs:Cb T V true y=true:=by unfold Cb;rw [hn,h,hsim];rfl
      have hj:Cc (D5 T V l).1 (B5 (Ap y.cond))=Cc (D5 T V l).1 (B5 (Bj y.cond)):=Qa l U0 hstr'.1 y hy hs
      rw [hj,a1] at a0
      have:tv (Eg (kJ T V l)) y.cond=true:=htv.2 (by rw [b0,b1];exact (Option.some.inj a0).symm)
      rw [this];rfl
    | true=>
      have hs:Cb T V false y=true:=by unfold Cb;rw [hn,h,hsim];rfl
      have hj:Cc (D5 T V l).1 (B5 (Ap y.cond))≠Cc (D5 T V l).1 (B5 (Bj y.cond)):=Pv l hstr'.2 y hy hs
      have:tv (Eg (kJ T V l)) y.cond=false:=by
        rw [Bool.eq_false_iff]
        intro e
        have h3:=htv.1 e
        rw [b0,b1] at h3
        exact hj (hN.ni.inj _ (Qx a0) _ (Qx a1) h3)
      rw [this];rfl
theorem Yr:∀{l:List Vl} {m:List Fi},(∀(k:Nat) (f:Fi),m[k]? = some f→∃w,l[k]? = some w∧qA w f.kind)→Pn l m=0
  | [],[],_=>rfl
  | [],_::_,_=>rfl
  | _::_,[],_=>rfl
  | v::r,g::s,h=>by
    obtain ⟨w,hw,hG⟩:=h 0 g rfl
    simp at hw;subst hw
    have h0:Wz v g=0:=by
      unfold Wz
      rw [if_neg (by rw [hG.2];decide),if_neg (by rw [hG.1];simp)]
    rw [Pn,if_neg (by rw [h0];decide)]
    exact Yr fun k f hf=>by
      have:=h (k+1) f (by simpa using hf)
      simpa using this
theorem jD {evs:List Ev}(hT:D8 T=0)(hty:Ju T V)(hV:V.length≤1000)(h:EvI T V evs):Lk T V evs=true:=by
 unfold Lk
 have hany:(evs.zip V).any (U5 T)=false:=by
  rw [List.any_eq_false]
  intro p hp
  obtain ⟨i,hi⟩:=List.mem_iff_getElem?.1 hp
  rw [List.getElem?_zip_eq_some] at hi
  obtain ⟨h1,h2⟩:=hi
  obtain ⟨s,hs⟩:=lG hty (List.mem_of_getElem? h2)
  obtain ⟨e,he,hG⟩:=h.at_ i p.2 s h2 hs
  rw [h1] at he;cases he
  have hi':=Bb h2
  have hty':=hty p.2 (List.mem_of_getElem? h2)
  have hsl:=Bb hs
  have hnum:Hi p.1=0:=by
   unfold Hi
   rw [hG.source,hG.seq,if_neg (by decide),if_neg ?_]
   have:=hG.t0;have:=hG.t1
   simp only [Bool.or_eq_true,decide_eq_true_eq];omega
  have hfo:Er T p.1=s.fields:=by unfold Er;rw [hG.type,hs];rfl
  have hval:K8 T p.1=0:=by
   unfold K8
   rw [if_neg (by rw [hnum];decide),if_neg ?_,hfo,if_neg ?_]
   · exact Yr hG.suit.2
   · rw [hG.suit.1];simp
   · rw [hG.type];simp only [Bool.or_eq_true,decide_eq_true_eq];omega
  unfold U5 Hm
  rw [if_neg (by rw [hT];decide),hval,hG.type];simp
 rw [hany,C3 rfl,h.len];simp
end

section
variable {T:List Sc} {V:List Va} {l:List Ev} {e:Ex}
structure SceneOK (T:List Sc) (V:List Va) (l:List Ev) (e:Ex):Prop where
 kc:KC T V e
 kind:Ak T V e=1
 suits:Gj T V (Eg l)
def litU (l:List Ev)(y:Lit):Bool:=Li ⟨Eg l,-1,Ke⟩ y.cond != y.neg
end

section
variable {T:List Sc} {V:List Va} {env:List (List Ev)}
structure CondOK (T:List Sc) (V:List Va) (e:Ex):Prop where
 kc:KC T V e
 kind:Ak T V e=1
theorem CondOK.zero {e:Ex}(h:CondOK T V e):Fg T V e=0:=yZ h.kc h.kind
theorem CondOK.lits {e:Ex}(h:CondOK T V e)(s:Bool):Hk (LitF T V) (C4 T V e s):=nR h.kc.kok h.kind (Jn h.kc) s
theorem xZ {e:Ex}(h:Fg T V e=0):CondOK T V e:=by
 have:=dZ (T:=T) (V:=V) (e:=e) (by rw [h];rfl)
 exact ⟨this.1,this.2⟩
theorem iU (h1:D8 T=0)(h2:Hb T V=0):(C7 T V (Hq true)).2=0:=by
 have hc:B4 (Hq true)=0:=by decide +kernel
 unfold C7
 rw [if_neg (by rw [h1];decide),if_neg (by rw [h2];decide),if_neg (by rw [hc];decide),Ep];rfl
theorem dF {es:List Ex}(h1:D8 T=0)(h2:Hb T V=0)(hl:es.length≤256)(h:∀e∈es,CondOK T V e):Dz T V es=0:=by
 unfold Dz
 rw [if_neg (by rw [iU h1 h2];decide),if_neg (by simp;omega)]
 exact S9 fun e he=>(h e he).zero
theorem qV (h:Hb T V=0):V.length≤16:=by
 unfold Hb at h
 split at h
 · cases h
 ·
  rename_i h1
  simp only [decide_eq_true_eq] at h1
  omega
theorem Zt {P:Lit→Prop}:Hk P ([[]],true):=fun x hx y hy=>by rw [List.mem_singleton.1 hx] at hy;cases hy
theorem Vr:∀(es:List Ex) {c:Cs},Hk (LitF T V) c→(∀e∈es,CondOK T V e)→Hk (LitF T V) (Ip T V es c)
 | [],c,h,_=>h
 | e::r,c,h,he=>Vr r (c:=Eb c (C4 T V e true)) (I1 h ((he e (List.mem_cons_self ..)).lits true)) fun x hx=>he x (List.mem_cons_of_mem _ hx)
theorem Py (hS:Gj T V env):∀(es:List Ex) {c:Cs},(∀e∈es,CondOK T V e)→(Ip T V es c).2=true→c.2=true∧Oz env (Ip T V es c).1=(Oz env c.1&&es.all (tv env))
  | [],c,_,h=>⟨h,by simp [Ip]⟩
  | e::r,c,he,h=>by
    have hk:=he e (List.mem_cons_self ..)
    obtain ⟨h1,h2⟩:=Py hS r (c:=Eb c (C4 T V e true)) (fun x hx=>he x (List.mem_cons_of_mem _ hx)) h
    obtain ⟨h3,h4,h5⟩:=Oi (env:=env) h1
    refine ⟨h3,?_⟩
    show Oz env (Ip T V r (Eb c (C4 T V e true))).1=_
    rw [h2,h5,P4 hS e hk.kc.kok hk.kind true h4,List.all_cons]
    cases Oz env c.1 <;> cases tv env e <;> rfl
theorem wO (hE:EnvOK T V env){es:List Ex}(he:∀e∈es,CondOK T V e)(ht:es.all (tv env)=true):(Br T V (Ip T V es ([[]],true))).1≠2:=by
  cases h:(Ip T V es ([[]],true)).2 with
  | false=>rw [Xl (by rw [h];rfl)];show (0:Int)≠2;decide
  | true=>
    refine Vd hE (Vr es Zt he) ?_
    rw [(Py hE.suits es he h).2,ht];rfl
theorem Tk (hT:D8 T=0)(hty:Ju T V){c:Cs}(hf:Hk (LitF T V) c)(h:(Br T V c).1=1):c.2=true∧EvI T V (Br T V c).2∧Oz (Eg (Br T V c).2) c.1=true:=by
  cases h2:c.2 with
  | false=>rw [Xl (by rw [h2];rfl)] at h;exact absurd h (by decide)
  | true=>
    rw [bS (by rw [h2];rfl)] at h ⊢
    obtain ⟨x,hx,hk,hc,he⟩:=V3 (by decide) h
    rw [he]
    obtain ⟨h3,h4⟩:=cA hT hty (hf x hx) hk hc
    exact ⟨rfl,h3,List.any_eq_true.2 ⟨x,hx,h4⟩⟩
theorem sL (hT:D8 T=0)(hty:Ju T V){es:List Ex}(he:∀e∈es,CondOK T V e)(h:(Br T V (Ip T V es ([[]],true))).1=1) :
  EvI T V (Br T V (Ip T V es ([[]],true))).2∧es.all (tv (Eg (Br T V (Ip T V es ([[]],true))).2))=true:=by
 obtain ⟨h1,h2,h3⟩:=Tk hT hty (Vr es Zt he) h
 refine ⟨h2,?_⟩
 rw [(Py (S5 hty h2) es he h1).2,Bool.and_eq_true] at h3
 exact h3.2
theorem mH {a b:Ex}(ha:CondOK T V a)(hb:CondOK T V b):Hk (LitF T V) (Kl T V a b):=I1 (ha.lits true) (hb.lits false)
theorem Yh (hS:Gj T V env){a b:Ex}(ha:CondOK T V a)(hb:CondOK T V b)(h:(Kl T V a b).2=true):Oz env (Kl T V a b).1=(tv env a && !tv env b):=by
 obtain ⟨h3,h4,h5⟩:=Oi (env:=env) h
 unfold Kl
 rw [h5,P4 hS a ha.kc.kok ha.kind true h3,P4 hS b hb.kc.kok hb.kind false h4]
 cases tv env a <;> cases tv env b <;> rfl
theorem N4 {a b:Ex}(h1:D8 T=0)(h2:Hb T V=0)(ha:CondOK T V a)(hb:CondOK T V b):Dz T V [a,b]=0:=
 dF h1 h2 (by simp) fun e he=>by
  rcases List.mem_cons.1 he with rfl | he
  · exact ha
  · rw [List.mem_singleton.1 he];exact hb
theorem Od {a b:Ex}(h0:Dz T V [a,b]=0):(Cj T V a b).2=0∧((Cj T V a b).1=1→(Br T V (Kl T V a b)).1=2)∧((Cj T V a b).1=2→(Br T V (Kl T V a b)).1=1)∧((Cj T V a b).1=0→(Br T V (Kl T V a b)).1=0):=by
  have h:(Dz T V [a,b] != 0)=false:=by rw [h0];rfl
  cases h1:((Br T V (Kl T V a b)).1==1) with
  | true=>
    rw [zU h h1]
    have:(Br T V (Kl T V a b)).1=1:=by simpa using h1
    refine ⟨rfl,fun e=>absurd e (by decide),fun _=>this,fun e=>absurd e (by decide)⟩
  | false=>
    cases h2:((Br T V (Kl T V a b)).1==2) with
    | true=>
      rw [zR h h1 h2]
      have:(Br T V (Kl T V a b)).1=2:=by simpa using h2
      exact ⟨rfl,fun _=>this,fun e=>absurd e (by decide),fun e=>absurd e (by decide)⟩
    | false=>
      rw [zQ h h1 h2]
      have n1:(Br T V (Kl T V a b)).1≠1:=by simpa using h1
      have n2:(Br T V (Kl T V a b)).1≠2:=by simpa using h2
      exact ⟨rfl,fun e=>absurd e n1,fun e=>absurd e n2,fun e=>e⟩
theorem aN {a b:Ex}(h1:D8 T=0)(h2:Hb T V=0)(ha:CondOK T V a)(hb:CondOK T V b)(hE:EnvOK T V env)(h:(Cj T V a b).1=1)(ht:tv env a=true):tv env b=true:=by
  have hv:=(Od (N4 h1 h2 ha hb)).2.1 h
  cases hq:tv env b with
  | true=>rfl
  | false=>
    exfalso
    cases hc:(Kl T V a b).2 with
    | false=>rw [Xl (by rw [hc];rfl)] at hv;exact absurd hv (by decide)
    | true=>
      refine Vd hE (mH ha hb) ?_ hv
      rw [Yh hE.suits ha hb hc,ht,hq];rfl
theorem imp_no {a b:Ex}(h1:D8 T=0)(h2:Hb T V=0)(ha:CondOK T V a)(hb:CondOK T V b)(h:(Cj T V a b).1=2):∃evs,EvI T V evs∧tv (Eg evs) a=true∧tv (Eg evs) b=false:=by
 have hv:=(Od (N4 h1 h2 ha hb)).2.2.1 h
 obtain ⟨q1,q2,q3⟩:=Tk h1 ha.kc.kok.ty (mH ha hb) hv
 rw [Yh (S5 ha.kc.kok.ty q2) ha hb q1,Bool.and_eq_true,Bool.not_eq_true'] at q3
 exact ⟨_,q2,q3.1,q3.2⟩
theorem CondOK.truth {e:Ex}(h:CondOK T V e)(hS:Gj T V env):Li ⟨env,-1,Ke⟩ e=tv env e:=qR hS h.kc.kok h.kind h.kc.check
structure FindOK (T:List Sc) (V:List Va) (l:List Ev) (a b:Ex):Prop where
 ca:CondOK T V a
 cb:CondOK T V b
 env:EnvOK T V (Eg l)
section
variable {l:List Ev} {a b:Ex}
end
end

def evN0 (τ:Tm→Int)(e:Ex)(vs:List Int):Int:=
 if e.op==0 then 0 else if e.op==1||e.op==2 then τ (Dp e) else if e.op==5 then Qq 0 vs+Zf 0 vs else if e.op==6 then Qq 0 vs-Zf 0 vs else 0
def evT (τ:Tm→Int):Ex→Int:=Pg (evN0 τ)
def okK (p:Tm×Int):Bool:=p.2==0||p.2==1||p.2 == -1
def posL (ts:List (Tm×Int)):List Tm:=(ts.filter fun p=>p.2==1).map (·.1)
def negL (ts:List (Tm×Int)):List Tm:=(ts.filter fun p=>p.2 == -1).map (·.1)
def ind (t:Tm):Tm→Int:=fun u=>if u=t then 1 else 0
section
variable {T:List Sc} {V:List Va}
abbrev half1 (n:Nat):Nat:=(n-1) / 2
end

def Tv (bs:List Bd)(d:Ds)(a:Int):Bd:=(bs[(D7 d.last a).toNat]?).getD bd0
structure stOK (n:Nat) (bs:List Bd) (d:Ds) (a:Int):Prop where
 a0:0≤a
 an:a<(n:Int)
 l0:0≤D7 d.last a
 ll:D7 d.last a<(bs.length:Int)
def Path (n:Nat)(bs:List Bd)(d:Ds):List Int→Int→Prop
 | [],_=>True
 | a::r,b=>stOK n bs d a∧(Tv bs d a).y=r.headD b∧Path n bs d r b
def sumP (bs:List Bd)(d:Ds)(c:List Int):Int:=(c.map fun a=>(Tv bs d a).most).sum
section
variable {n:Nat} {bs:List Bd} {d:Ds}
structure CInv (n:Nat) (bs:List Bd) (d:Ds):Prop where
 s:d.sums.length=n
 l:d.last.length=n
 x:∀a,stOK n bs d a→(Tv bs d a).x=a
 le:∀a,stOK n bs d a→D7 d.sums (Tv bs d a).y+(Tv bs d a).most≤D7 d.sums a
 lt:∀a,0≤a→a<(n:Int)→D7 d.last a<(bs.length:Int)
 neg:∀(a:Int) (r:List Int),(a::r).Nodup→Path n bs d (a::r) a→sumP bs d (a::r)<0
end
def impD (d:Ds)(i:Nat)(b:Bd):Ds:=⟨d.sums.set b.x.toNat (D7 d.sums b.y+b.most),d.last.set b.x.toNat (i:Int)⟩
section
variable {n:Nat} {bs:List Bd} {d:Ds} {i:Nat} {b:Bd}
end
def cycN (bs:List Bd)(d:Ds)(f:Int):Nat→Int→List Int
 | 0,_=>[]
 | n+1,a=>a::if H6 bs d a==f then [] else cycN bs d f n (H6 bs d a)
section
variable {n:Nat} {bs:List Bd} {d:Ds} {f:Int}
end

def lvN:Ex→Nat:=Pg fun e ns=>if e.args.isEmpty then 1 else ns.sum
section
variable {T:List Sc} {V:List Va}
def clW (c:List Lit):Nat:=(c.map fun y=>lvN y.cond).sum
def wtOK (k:Nat)(c:Cs):Prop:=∀x∈c.1,clW x≤k
end
end Go.Proofs.YtjedflcpjlgokaaGreatDoor

namespace Go.Aw
open Go

section
variable {P:Program} {T:List (Nat×TD)} {d:Option Nat} {ty:TypeId} {pos:String} {aft:Array Edge} {gd:Option (Nat×Bool)} {ρ:Operand→AV} {K:List HO→Prop}

theorem Ed {x i:Operand}{t e len:Nat}{td te:TD}{k:IntKind}{n:Int}{cs cs':List AV}(hT:G3 P T)(h:ρ x = .ptr cs)(hi:ρ i = .int k n)(ht:Bl T t=some td)(hk:td.kind = .array len e)
  (hte:Bl T e=some te) (h0:0≤n) (hc:n<len) (ho:cs.drop (n.toNat*te.size)=cs'):C6 P ⟨d,.indexAddr t x i,ty,pos,aft,gd⟩ ρ K (.ptr cs'):=
 .of_run fun g w a hr=>by
  obtain ⟨b,o,he,fv,h1,h2⟩:=(h▸hr x (by simp [Op.operands]):Rep g w _ _).inv_ptr
  have h4:=(hi▸hr i (by simp [Op.operands]):Rep g w _ _).inv_int
  have hu:=L0 (hT t td ht) hk
  refine ⟨.pointer (some ⟨b,o+n.toNat*te.size,none⟩),?_,?_⟩
  ·
   simp only [execOp,he,h4,Instr.indexAt,asIntOf,Sem.run_bind,Sem.run_pure,Result.andThen_ok,A1 hu,Instr.sureAddr]
   simp [h0,hc,Ff (hT e te hte),Gv]
  ·
   subst ho
   refine .ptr b (o+n.toNat*te.size) _ (fun j=>fv (n.toNat*te.size+j)) (fun j x hj=>?_) (fun j x hj=>?_)
   ·
    rw [List.getElem?_drop] at hj
    have:=h1 (n.toNat*te.size+j) x hj
    rwa [Nat.add_assoc]
   ·
    rw [List.getElem?_drop] at hj
    exact h2 (n.toNat*te.size+j) x hj

theorem bR {x:Operand}{t e n z:Nat}{td te:TD}{cs:List AV}{es:List (List AV)}(hT:G3 P T)(hx:ρ x = .ptr cs)(hcs:cs=es.flatten)(ht:Bl T t=some td)(hk:td.kind = .array n e)(hte:Bl T e=some te)(hz:te.size=z)
  (hl:Nat.beq es.length n=true) (hm:Nat.ble n maxLen=true) (hzs:es.all (fun e=>Nat.beq e.length z)=true) (h0:Nat.beq n 0=false):C6 P ⟨d,.slice t x none none none,ty,pos,aft,gd⟩ ρ K (.sl z es):=
 .of_run fun g w a hr=>by
  subst hcs
  obtain ⟨b,o,he,fv,h3,h4⟩:=(hx▸hr x (by simp [Op.operands]):Rep g w _ _).inv_ptr
  have hu:=L0 (hT t td ht) hk
  have hsz:=Ff (hT e te hte) w
  have hn0:n≠0:=by rintro rfl;exact absurd h0 (by decide)
  have hln:=Nat.eq_of_beq_eq_true hl
  have hz':∀e∈es,e.length=z:=fun e he=>Nat.eq_of_beq_eq_true (List.all_eq_true.1 hzs e he)
  refine ⟨.slice (some ⟨b,o,none⟩) n n,?_,.sl b o n n z es hln.symm (Nat.le_refl _) (Nat.le_of_ble_eq_true hm) hz' (fun i j=>fv (i*z+j)) (fun i e hi j x hj=>?_) (fun i e hi j x hj=>?_)⟩
  ·
   have e0:((n:Nat)=0)=False:=by simp [hn0]
   simp only [execOp,he,Instr.sliceAt,Sem.run_bind,A1 hu,Result.andThen_ok,Instr.sureAddr,Sem.run_pure,Instr.sliceBounds,Option.map_none,hsz,hn0,if_false,Nat.sub_zero,Nat.zero_mul,Gv,Nat.add_zero,e0]
  ·
   have:=h3 _ x (Rm es hz' i e hi j x hj)
   rwa [←Nat.add_assoc] at this
  · exact h4 _ x (Rm es hz' i e hi j x hj)
end
end Go.Aw

namespace Go.Proofs.YtjedflcpjlgokaaGreatDoor
open Go Go.Aw

section
variable {T:List Sc} {V:List Va}
theorem uI (evs:List Ev)(t:Tm)(s:E9):(S1 evs t s).length=evs.length:=List.length_modify ..
theorem qX (evs:List Ev)(t:Tm)(x:Int):(Pi evs t x).length=evs.length:=by unfold Pi;split <;> exact List.length_modify ..
theorem Yd (vals:List Int):∀(ts:List Tm) (i:Nat) (evs:List Ev),(Gf vals i ts evs).length=evs.length
 | [],i,evs=>rfl
 | t::r,i,evs=>by rw [Gf,Yd vals r,qX]
theorem Rk (w:Wm):∀(ws:List Wd) (s:Ns),(ws.foldl (Hg w) s).2.2.length=s.2.2.length
  | [],s=>rfl
  | x::r,s=>by
    rw [List.foldl_cons,Rk w r]
    cases hc:x.const with
    | true=>rw [Rw hc]
    | false=>rw [R8 hc];exact uI ..
theorem zD (c:List Lit):(kJ T V c).length=V.length:=by
 show ((Gs T V c).2.foldl (Hg (D5 T V c).1) _).2.2.length=_
 rw [Rk]
 show (Gf _ 0 _ _).length=_
 rw [Yd,Oo]
theorem bF:∀(l:List (List Lit)) (o:Int),(Xq T V o l).2.length≤V.length
  | [],o=>Nat.zero_le _
  | c::r,o=>by
    rw [Xq]
    split
    · exact bF r o
    split
    · show (kJ T V c).length≤_;rw [zD];exact Nat.le_refl _
    · exact bF r 0
theorem gF (es:List Ex):(Bz T V es).2.1.length≤V.length:=by
 unfold Bz
 split
 · exact Nat.zero_le _
 ·
  show (Br T V _).2.length≤_
  unfold Br
  split
  · exact Nat.zero_le _
  · exact bF _ _
section
variable {l:List Ev} {a b:Ex}
def tr2 (l:List Ev)(a b:Ex):Bool:=Li ⟨Eg l,-1,Ke⟩ a&&Li ⟨Eg l,-1,Ke⟩ b
end
end

def bdAt (bs:List Bd)(i:Int):Bd:=(bs[i.toNat]?).getD bd0
def vfBad (bs:List Bd)(c:List Int)(j:Nat):Bool:=(bdAt bs ((c[j]?).getD 0)).y != (bdAt bs ((c[(j+1) % c.length]?).getD 0)).x
def vfSum (bs:List Bd)(c:List Int):Int:=(c.map fun i=>(bdAt bs i).most).sum
def vfOut (bs:List Bd)(i:Int):Bool:=decide (i<0)||decide ((bs.length:Int)≤i)
def VerifyS (z:Zn)(c:List Int):Int:=
 if He z != 0 then He z
 else if (c.length:Int)==0||decide (256<(c.length:Int)) then 15
 else if c.any (vfOut z.bs) then 2
 else if (List.range c.length).any (vfBad z.bs c) then 18
 else if decide (0≤vfSum z.bs c) then 18 else 0
def satS (l:List Int)(b:Bd):Bool:=decide (D7 l b.x-D7 l b.y≤b.most)
def farS (v:Int):Bool:=decide (v < -1152921504606846976)||decide (1152921504606846976<v)
def HoldsS (z:Zn)(l:List Int):Bool×Int:=
 if He z != 0 then (false,He z)
 else if (l.length:Int) != z.n then (false,15)
 else if l.any farS then (false,2)
 else if D7 l 0 != 0 then (false,3)
 else (!(z.bs.any fun b=>!satS l b),0)
section
variable {n:Nat} {bs:List Bd} {d:Ds}
end
section
variable {T:List Sc} {V:List Va}
def strL (T:List Sc)(V:List Va)(y:Lit):Bool:=(y.cond.op==9 && !((y.cond.args.length:Int)==0))&&((C7 T V (Ap y.cond)).2 != 0||(C7 T V (Ap y.cond)).1==2)
theorem tD {a b c:Ex}(ha:CondOK T V a)(hb:CondOK T V b)(hc:CondOK T V c)(h1:(Cj T V a b).1=1)(h2:(Cj T V b c).1=1):(Cj T V a c).1≠2:=fun h3=>by
 obtain ⟨evs,e1,e2,e3⟩:=imp_no ha.kc.types ha.kc.vars ha hc h3
 have hE:=Uv ha.kc.kok.ty e1
 have e4:=aN ha.kc.types ha.kc.vars ha hb hE h1 e2
 have e5:=aN ha.kc.types ha.kc.vars hb hc hE h2 e4
 rw [e5] at e3;cases e3
theorem Wg {a:Ex}(ha:CondOK T V a):Dz T V [a]=0:=dF ha.kc.types ha.kc.vars (by simp) fun x hx=>by rw [List.mem_singleton.1 hx];exact ha
theorem gC {a:Ex}(ha:CondOK T V a):(Bz T V [a]).2.2=0:=by rw [bD (by rw [Wg ha];rfl) rfl]
theorem jB {a b:Ex}(ha:CondOK T V a)(hb:CondOK T V b)(h1:(Cj T V a b).1=1)(hp:(Bz T V [a]).1=1) :
  (Bz T V [b]).1≠2∧Lk T V (Bz T V [a]).2.1=true∧Li ⟨Eg (Bz T V [a]).2.1,-1,Ke⟩ b=true:=by
 have e0:Bz T V [a]=((Br T V (Ip T V [a] ([[]],true))).1,(Br T V (Ip T V [a] ([[]],true))).2,0):=bD (by rw [Wg ha];rfl) rfl
 have e1:Bz T V [b]=((Br T V (Ip T V [b] ([[]],true))).1,(Br T V (Ip T V [b] ([[]],true))).2,0):=bD (by rw [Wg hb];rfl) rfl
 rw [e0] at hp ⊢
 rw [e1]
 obtain ⟨q1,q2⟩:=sL ha.kc.types ha.kc.kok.ty (fun x hx=>by rw [List.mem_singleton.1 hx];exact ha) hp
 have hE:=Uv ha.kc.kok.ty q1
 have q3:tv (Eg (Br T V (Ip T V [a] ([[]],true))).2) a=true:=by simpa using q2
 have q4:=aN ha.kc.types ha.kc.vars ha hb hE h1 q3
 refine ⟨wO hE (fun x hx=>by rw [List.mem_singleton.1 hx];exact hb) (by simpa using q4),?_,?_⟩
 · exact jD ha.kc.types ha.kc.kok.ty (by have:=qV ha.kc.vars;omega) q1
 · simp only;rw [hb.truth hE.suits];exact q4
end
end Go.Proofs.YtjedflcpjlgokaaGreatDoor
