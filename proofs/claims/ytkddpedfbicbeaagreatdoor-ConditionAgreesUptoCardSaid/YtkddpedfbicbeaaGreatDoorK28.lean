/-
  Several texts in one: S49, S50, Au, S51. No condition.
-/
import Derived.Test.YtkddpedfbicbeaaGreatDoorK27
import Derived.Test.YtkddpedfbicbeaaGreatDoorK14
set_option linter.unusedVariables false
set_option linter.unusedSimpArgs false
namespace Go.Proofs.YtkddpedfbicbeaaGreatDoor
open Go Go.Aw

section
variable {T:List Sc} {V:List Va} {env:List (List Ev)}
structure CondOK (T:List Sc) (V:List Va) (e:Ex):Prop where
 kc:KC T V e
 kind:Am T V e=1
theorem CondOK.zero {e:Ex}(h:CondOK T V e):Dx T V e=0:=kc_cond h.kc h.kind
theorem CondOK.lits {e:Ex}(h:CondOK T V e)(s:Bool):Ig (LitF T V) (C4 T V e s):=qO h.kc.kok h.kind (Ip h.kc) s
theorem cond_ok {e:Ex}(h:Dx T V e=0):CondOK T V e:=by
 have:=Sr (T:=T) (V:=V) (e:=e) (by rw [h];rfl)
 exact ⟨this.1,this.2⟩
theorem lV (h1:Eb T=0)(h2:Ie T V=0):(C9 T V (Fw true)).2=0:=by
 have hc:B5 (Fw true)=0:=by decide +kernel
 unfold C9
 rw [if_neg (by rw [h1];decide),if_neg (by rw [h2];decide),if_neg (by rw [hc];decide),Eo];rfl
theorem vG {es:List Ex}(h1:Eb T=0)(h2:Ie T V=0)(hl:es.length≤256)(h:∀e∈es,CondOK T V e):D8 T V es=0:=by
 unfold D8
 rw [if_neg (by rw [lV h1 h2];decide),if_neg (by simp;omega)]
 exact Tw fun e he=>(h e he).zero
theorem gA (hT:Eb T=0)(hty:Ln T V){c:Cs}(hf:Ig (LitF T V) c)(h:(Cp T V c).1=1):c.2=true∧EvI T V (Cp T V c).2∧Rs (Dw (Cp T V c).2) c.1=true:=by
  cases h2:c.2 with
  | false=>rw [bJ (by rw [h2];rfl)] at h;exact absurd h (by decide)
  | true=>
    rw [Xu (by rw [h2];rfl)] at h ⊢
    obtain ⟨x,hx,hk,hc,he⟩:=X5 (by decide) h
    rw [he]
    obtain ⟨h3,h4⟩:=cS hT hty (hf x hx) hk hc
    exact ⟨rfl,h3,List.any_eq_true.2 ⟨x,hx,h4⟩⟩
theorem bN {a b:Ex}(ha:CondOK T V a)(hb:CondOK T V b):Ig (LitF T V) (Kp T V a b):=F1 (ha.lits true) (hb.lits false)
theorem aV (hS:Gq T V env){a b:Ex}(ha:CondOK T V a)(hb:CondOK T V b)(h:(Kp T V a b).2=true):Rs env (Kp T V a b).1=(tv env a && !tv env b):=by
 obtain ⟨h3,h4,h5⟩:=Sw (env:=env) h
 unfold Kp
 rw [h5,X1 hS a ha.kc.kok ha.kind true h3,X1 hS b hb.kc.kok hb.kind false h4]
 cases tv env a <;> cases tv env b <;> rfl
theorem Mf {a b:Ex}(h1:Eb T=0)(h2:Ie T V=0)(ha:CondOK T V a)(hb:CondOK T V b):D8 T V [a,b]=0:=
 vG h1 h2 (by simp) fun e he=>by
  rcases List.mem_cons.1 he with rfl | he
  · exact ha
  · rw [List.mem_singleton.1 he];exact hb
theorem Nc {a b:Ex}(h0:D8 T V [a,b]=0):(Cn T V a b).2=0∧((Cn T V a b).1=1→(Cp T V (Kp T V a b)).1=2)∧((Cn T V a b).1=2→(Cp T V (Kp T V a b)).1=1)∧((Cn T V a b).1=0→(Cp T V (Kp T V a b)).1=0):=by
  have h:(D8 T V [a,b] != 0)=false:=by rw [h0];rfl
  cases h1:((Cp T V (Kp T V a b)).1==1) with
  | true=>
    rw [Imp_2 h h1]
    have:(Cp T V (Kp T V a b)).1=1:=by simpa using h1
    refine ⟨rfl,fun e=>absurd e (by decide),fun _=>this,fun e=>absurd e (by decide)⟩
  | false=>
    cases h2:((Cp T V (Kp T V a b)).1==2) with
    | true=>
      rw [Imp_3 h h1 h2]
      have:(Cp T V (Kp T V a b)).1=2:=by simpa using h2
      exact ⟨rfl,fun _=>this,fun e=>absurd e (by decide),fun e=>absurd e (by decide)⟩
    | false=>
      rw [Imp_4 h h1 h2]
      have n1:(Cp T V (Kp T V a b)).1≠1:=by simpa using h1
      have n2:(Cp T V (Kp T V a b)).1≠2:=by simpa using h2
      exact ⟨rfl,fun e=>absurd e n1,fun e=>absurd e n2,fun e=>e⟩
theorem zX {a b:Ex}(h1:Eb T=0)(h2:Ie T V=0)(ha:CondOK T V a)(hb:CondOK T V b)(hE:EnvOK T V env)(h:(Cn T V a b).1=1)(ht:tv env a=true):tv env b=true:=by
  have hv:=(Nc (Mf h1 h2 ha hb)).2.1 h
  cases hq:tv env b with
  | true=>rfl
  | false=>
    exfalso
    cases hc:(Kp T V a b).2 with
    | false=>rw [bJ (by rw [hc];rfl)] at hv;exact absurd hv (by decide)
    | true=>
      refine kY hE (bN ha hb) ?_ hv
      rw [aV hE.suits ha hb hc,ht,hq];rfl
theorem yS {a b:Ex}(h1:Eb T=0)(h2:Ie T V=0)(ha:CondOK T V a)(hb:CondOK T V b)(h:(Cn T V a b).1=2):∃evs,EvI T V evs∧tv (Dw evs) a=true∧tv (Dw evs) b=false:=by
 have hv:=(Nc (Mf h1 h2 ha hb)).2.2.1 h
 obtain ⟨q1,q2,q3⟩:=gA h1 ha.kc.kok.ty (bN ha hb) hv
 rw [aV (T6 ha.kc.kok.ty q2) ha hb q1,Bool.and_eq_true,Bool.not_eq_true'] at q3
 exact ⟨_,q2,q3.1,q3.2⟩
theorem or_cond {a b:Ex}(ha:CondOK T V a)(hb:CondOK T V b)(h:B5 (two 11 a b)=0):CondOK T V (two 11 a b)∧∀env,Gq T V env→tv env (two 11 a b)=(tv env a||tv env b):=by
 have k:=kok_mk2 (op:=11) ha.kc.kok hb.kc.kok (.inr ⟨.inr rfl,ha.kind,hb.kind⟩)
 refine ⟨⟨⟨k,ha.kc.types,ha.kc.vars,h⟩,Uo _ _ (by omega) k⟩,fun env hS=>?_⟩
 rw [tw_or hS k rfl];rfl
theorem Q3 {l:List Ev}{e:Ex}(h:Om T V l e=true):CondOK T V e∧EnvOK T V (Dw l):=by
 obtain ⟨_,_,_,h4,h5⟩:=gE h
 exact ⟨cond_ok h5,env_of h4⟩
theorem CondOK.truth {e:Ex}(h:CondOK T V e)(hS:Gq T V env):L8 ⟨env,-1,Kn⟩ e=tv env e:=vT hS h.kc.kok h.kind h.kc.check
structure FindOK (T:List Sc) (V:List Va) (l:List Ev) (a b:Ex):Prop where
 ca:CondOK T V a
 cb:CondOK T V b
 env:EnvOK T V (Dw l)
theorem find_ok {l:List Ev}{a b:Ex}(h1:Om T V l a=true)(h2:Om T V l b=true):FindOK T V l a b:=⟨(Q3 h1).1,(Q3 h2).1,(Q3 h1).2⟩
section
variable {l:List Ev} {a b:Ex}
end
end

def evN0 (τ:Tm→Int)(e:Ex)(vs:List Int):Int:=
 if e.op==0 then 0 else if e.op==1||e.op==2 then τ (Dy e) else if e.op==5 then Ro 0 vs+aY 0 vs else if e.op==6 then Ro 0 vs-aY 0 vs else 0
def evT (τ:Tm→Int):Ex→Int:=Re (evN0 τ)
theorem evT_eq (τ:Tm→Int)(e:Ex):evT τ e=evN0 τ e (e.args.map (evT τ)):=Wa _ e
theorem V3 (τ:Tm→Int)(e:Ex):C0 e=0→∀{b:Int} {s:Su},(Bb e b s).2=true→Ja τ (Bb e b s).1.ts=Ja τ s.ts+b*evT τ e:=by
  refine Ex.Aa0 (P:=fun e=>C0 e=0→∀{b:Int} {s:Su},(Bb e b s).2=true→Ja τ (Bb e b s).1.ts=Ja τ s.ts+b*evT τ e) (fun e ih hn b s h=>?_) e
  have hz:=Ba hn
  rw [evT_eq,evN0]
  rcases Lt hz.1 with c | ⟨c,c1⟩ | ⟨c,hl⟩ | ⟨c,c1,c2,c3⟩
  · rw [Ei c,if_pos c];simp
  · rw [B0 c c1,Cz c,if_pos c1];exact Xj ..
  · have m0:=A4 (show 0<e.args.length by omega)
    have m1:=Bn hl
    have key:∀c:Int,(e.op=5∧c=b)∨(e.op=6∧c=0-b)→Ja τ (Bb e b s).1.ts=Ja τ s.ts+b*evT τ (Ao e)+c*evT τ (Bj e):=by
      intro c hc
      rw [H4 hl hc] at h ⊢
      cases h1:(Bb (Ao e) b s).2 with
      | false=>rw [h1] at h;cases h
      | true=>
        rw [h1] at h
        have a1:=ih _ m0 (hz.2 _ m0) (b:=b) (s:=s) h1
        have b1:=ih _ m1 (hz.2 _ m1) (b:=c) (s:=(Bb (Ao e) b s).1) h
        show Ja τ (Bb (Bj e) c (Bb (Ao e) b s).1).1.ts=_
        rw [b1,a1]
    have n0:(e.op==0)=false:=by simp;omega
    have n1:(e.op==1||e.op==2)=false:=by simp;omega
    rw [Cz n0,Cz n1,K7 _ _ (by omega),L1 _ _ hl]
    rcases c with c | c
    · rw [key b (.inl ⟨c,rfl⟩),if_pos (by simpa using c),Int.mul_add];omega
    · rw [key (0-b) (.inr ⟨c,rfl⟩),Cz (by simp;omega),if_pos (by simpa using c),Int.mul_sub,Int.sub_mul,Int.zero_mul];omega
  · rw [E2 c c1 c2 c3] at h;cases h
theorem mU (e:Ex):C0 e=0→∀{b c:Int} {s t:Su},(Bb e b s).2=(Bb e c t).2:=by
 refine Ex.Aa0 (P:=fun e=>C0 e=0→∀{b c:Int} {s t:Su},(Bb e b s).2=(Bb e c t).2) (fun e ih hn b c s t=>?_) e
 have hz:=Ba hn
 rcases Lt hz.1 with h | ⟨h,h1⟩ | ⟨h,hl⟩ | ⟨h,h1,h2,h3⟩
 · rw [Ei h,Ei h]
 · rw [B0 h h1,B0 h h1]
 ·
  have m0:=A4 (show 0<e.args.length by omega)
  have m1:=Bn hl
  have key:∀x y:Int,((e.op=5∧x=b)∨(e.op=6∧x=0-b))→((e.op=5∧y=c)∨(e.op=6∧y=0-c))→(Bb e b s).2=(Bb e c t).2:=by
   intro x y hx hy
   rw [H4 hl hx,H4 hl hy]
   have i0:=ih _ m0 (hz.2 _ m0) (b:=b) (c:=c) (s:=s) (t:=t)
   rw [i0]
   cases hq:(Bb (Ao e) c t).2 with
   | false=>rfl
   | true=>exact ih _ m1 (hz.2 _ m1)
  rcases h with h | h
  · exact key b c (.inl ⟨h,rfl⟩) (.inl ⟨h,rfl⟩)
  · exact key _ _ (.inr ⟨h,rfl⟩) (.inr ⟨h,rfl⟩)
 · rw [E2 h h1 h2 h3,E2 h h1 h2 h3]
def jR (p:Tm×Int):Bool:=p.2==0||p.2==1||p.2 == -1
def Tf (ts:List (Tm×Int)):List Tm:=(ts.filter fun p=>p.2==1).map (·.1)
def T1 (ts:List (Tm×Int)):List Tm:=(ts.filter fun p=>p.2 == -1).map (·.1)
theorem S4:∀(ts:List (Tm×Int)) (p m:List Tm),Dl ts p m=if ts.all jR then some (p++Tf ts,m++T1 ts) else none
  | [],p,m=>by simp [Dl,Tf,T1]
  | t::r,p,m=>by
    have hk:(t::r).all jR=(jR t&&r.all jR):=List.all_cons ..
    rw [hk]
    cases h0:t.2==0 with
    | true=>
      have e0:t.2=0:=by simpa using h0
      rw [oT h0,S4 r,show jR t=true by unfold jR;rw [h0];rfl,Bool.true_and]
      have a:Tf (t::r)=Tf r:=by simp [Tf,e0]
      have b:T1 (t::r)=T1 r:=by simp [T1,e0]
      rw [a,b]
    | false=>
      cases h1:t.2==1 with
      | true=>
        have e1:t.2=1:=by simpa using h1
        rw [nC h0 h1,S4 r,show jR t=true by unfold jR;rw [h1];simp,Bool.true_and]
        have a:Tf (t::r)=t.1::Tf r:=by simp [Tf,e1]
        have b:T1 (t::r)=T1 r:=by simp [T1,e1]
        rw [a,b,List.append_assoc];rfl
      | false=>
        cases h2:t.2 == -1 with
        | true=>
          have e2:t.2 = -1:=by simpa using h2
          rw [oN h0 h1 h2,S4 r,show jR t=true by unfold jR;rw [h2];simp,Bool.true_and]
          have a:Tf (t::r)=Tf r:=by simp [Tf,e2]
          have b:T1 (t::r)=t.1::T1 r:=by simp [T1,e2]
          rw [a,b,List.append_assoc];rfl
        | false=>
          rw [mS h0 h1 h2,show jR t=false by unfold jR;rw [h0,h1,h2];rfl,Bool.false_and];rfl
def ind (t:Tm):Tm→Int:=fun u=>if u=t then 1 else 0
theorem Ww {t:Tm}:∀{ts:List (Tm×Int)},t∉ts.map (·.1)→Ja (ind t) ts=0
  | [],_=>rfl
  | p::r,h=>by
    rw [List.map_cons,List.mem_cons,not_or] at h
    have ih:=Ww h.2
    simp only [Ja,List.map_cons,List.sum_cons] at ih ⊢
    rw [ih]
    unfold ind
    rw [if_neg (fun e=>h.1 e.symm)];simp
theorem V4:∀{ts:List (Tm×Int)} {p:Tm×Int},(ts.map (·.1)).Nodup→p∈ts→Ja (ind p.1) ts=p.2
  | [],_,_,h=>by cases h
  | q::r,p,hn,h=>by
    rw [List.map_cons,List.nodup_cons] at hn
    rcases List.mem_cons.1 h with rfl | h
    · have:=Ww hn.1
      simp only [Ja,List.map_cons,List.sum_cons] at this ⊢
      rw [this];unfold ind;rw [if_pos rfl];omega
    · have ih:=V4 hn.2 h
      have hne:q.1≠p.1:=fun e=>hn.1 (by rw [e];exact List.mem_map_of_mem h)
      simp only [Ja,List.map_cons,List.sum_cons] at ih ⊢
      rw [ih];unfold ind;rw [if_neg hne];omega
theorem tX {ts:List (Tm×Int)}{t:Tm}(hn:(ts.map (·.1)).Nodup)(h:Ja (ind t) ts≠0):(t,Ja (ind t) ts)∈ts:=by
 by_cases hm:t∈ts.map (·.1)
 ·
  obtain ⟨p,hp,rfl⟩:=List.mem_map.1 hm
  rw [V4 hn hp];exact hp
 · exact absurd (Ww hm) h
theorem Yr {ts:List (Tm×Int)}(hn:(ts.map (·.1)).Nodup)(f:Tm×Int→Bool):((ts.filter f).map (·.1)).Nodup:=by
 refine List.Sublist.nodup ?_ hn
 exact (List.filter_sublist).map _
theorem Wg {ts:List (Tm×Int)}(hn:(ts.map (·.1)).Nodup)(t:Tm)(c:Int)(hc:c≠0):t∈((ts.filter fun p=>p.2==c).map (·.1))↔Ja (ind t) ts=c:=by
 constructor
 ·
  intro h
  obtain ⟨p,hp,rfl⟩:=List.mem_map.1 h
  obtain ⟨h1,h2⟩:=List.mem_filter.1 hp
  rw [V4 hn h1];simpa using h2
 ·
  intro h
  have:=tX hn (t:=t) (by rw [h];exact hc)
  rw [h] at this
  exact List.mem_map.2 ⟨(t,c),List.mem_filter.2 ⟨this,by simp⟩,rfl⟩
theorem gap_sym {A B:Su}(hA:(A.ts.map (·.1)).Nodup)(hB:(B.ts.map (·.1)).Nodup)(h:∀τ,Ja τ B.ts = - Ja τ A.ts)(hg:(N7 A).2=true):(N7 B).2=true:=by
  unfold N7 at hg ⊢
  rw [S4] at hg ⊢
  cases ha:A.ts.all jR with
  | false=>rw [ha] at hg;cases hg
  | true=>
    rw [ha,if_pos rfl] at hg
    have hb:B.ts.all jR=true:=by
      rw [List.all_eq_true]
      intro p hp
      have h1:=V4 hB hp
      have h2:=h (ind p.1)
      rw [h1] at h2
      by_cases h3:Ja (ind p.1) A.ts=0
      · rw [h3] at h2;unfold jR;rw [h2];rfl
      · have h4:=List.all_eq_true.1 ha _ (tX hA h3)
        unfold jR at h4 ⊢
        simp only [Bool.or_eq_true,beq_iff_eq] at h4 ⊢
        omega
    rw [hb,if_pos rfl]
    simp only [List.nil_append,Bool.and_eq_true,decide_eq_true_eq] at hg ⊢
    have l1:(Tf B.ts).length≤(T1 A.ts).length:=Mv (Yr hB _) fun t ht=>by
      have:=(Wg hB t 1 (by decide)).1 ht
      exact (Wg hA t (-1) (by decide)).2 (by have:=h (ind t);omega)
    have l2:(T1 B.ts).length≤(Tf A.ts).length:=Mv (Yr hB _) fun t ht=>by
      have:=(Wg hB t (-1) (by decide)).1 ht
      exact (Wg hA t 1 (by decide)).2 (by have:=h (ind t);omega)
    omega
theorem fZ {a b:Ex}(ha:C0 a=0)(hb:C0 b=0)(h:(B2 a b).2=true):(B2 b a).2=true:=by
  unfold B2 at h
  cases h1:(Bb a 1 Jc).2 with
  | false=>rw [h1] at h;cases h
  | true=>
    cases h2:(Bb b (-1) (Bb a 1 Jc).1).2 with
    | false=>rw [h1,h2] at h;cases h
    | true=>
      rw [h1,h2] at h
      have h3:(Bb b 1 Jc).2=true:=by rw [mU b hb (b:=1) (c:=-1) (s:=Jc) (t:=(Bb a 1 Jc).1)];exact h2
      have h4:(Bb a (-1) (Bb b 1 Jc).1).2=true:=by rw [mU a ha (b:=-1) (c:=1) (s:=(Bb b 1 Jc).1) (t:=Jc)];exact h1
      unfold B2
      rw [h3,h4]
      have n0:(Jc.ts.map (·.1)).Nodup:=by simp [Jc]
      refine gap_sym (A:=(Bb b (-1) (Bb a 1 Jc).1).1) (Lb b hb (Lb a ha n0)) (Lb a ha (Lb b hb n0)) (fun τ=>?_) h
      rw [V3 τ a ha h4,V3 τ b hb h3,V3 τ b hb h2,V3 τ a ha h1]
      have h0:Ja τ Jc.ts=0:=rfl
      omega
section
variable {T:List Sc} {V:List Va}
theorem X8 {a b:Ex}(h:(B2 a b).2=true):Bt T V (two 7 a b)=true:=by
 rw [W2 (by rfl) (by rfl) (by rfl)];exact h
theorem Vk (e:Ex):KOK T V e→Am T V e=1→Hk T V e=true→∀s,Ig (fun y=>Bt T V y.cond=true) (C4 T V e s):=by
  refine Ex.Aa0 (P:=fun e=>KOK T V e→Am T V e=1→Hk T V e=true→∀s,Ig (fun y=>Bt T V y.cond=true) (C4 T V e s)) (fun e ih hk hr hp s=>?_) e
  rw [P7,Ul] at hp
  have args:Cg T V e=true→∀a∈e.args,Hk T V a=true:=fun hc a ha=>by
    rw [hc] at hp
    have h2:(e.args.map (Hk T V)).all id=true:=hp
    exact List.all_eq_true.1 h2 _ (List.mem_map_of_mem ha)
  rcases Iy s hk with h | ⟨h,hl⟩ | ⟨h,hl⟩ | ⟨h,hl,h1⟩ | ⟨h,hl,h1,h2⟩ | ⟨h0,h12,h10,h,h9⟩
  · cases h1:((e.val.num==1)==s) with
    | true=>rw [Fl h h1];intro x hx y hy;rw [List.mem_singleton.1 hx] at hy;cases hy
    | false=>rw [Fh h h1];intro x hx;cases hx
  · have h9 : (e.op == 9) = false := by have : e.op = 12 := by simpa using h
                                        simp;omega
    have m0:=A4 hl
    rw [Fo hl h];exact ih _ m0 (Ax hk m0) (Ic hk m0 (.inr (.inr (by simpa using h)))) (args (by rw [jY h9,h];simp) _ m0) _
  · have ho:e.op=10∨e.op=11:=by simpa using h
    have h9:(e.op==9)=false:=by simp;omega
    have hc:Cg T V e=true:=by rw [jY h9,h];rfl
    have m0:=A4 (show 0<e.args.length by omega)
    have m1:=Bn hl
    have i0:=ih _ m0 (Ax hk m0) (Ic hk m0 (by omega)) (args hc _ m0) s
    have i1:=ih _ m1 (Ax hk m1) (Ic hk m1 (by omega)) (args hc _ m1) s
    cases h1:((e.op==10)==s) with
    | true=>rw [Fk hl h h1];exact F1 i0 i1
    | false=>rw [Fg hl h h1];exact Lx i0 i1
  · have hc:Cg T V e=true:=by rw [jU h];exact h1
    have ho:e.op=9:=by simpa using h
    have m0:=A4 (show 0<e.args.length by omega)
    have m1:=Bn hl
    have k0:Am T V (Ao e)=1:=by simpa using h1
    have k1:Am T V (Bj e)=1:=by rw [Ht hk ho m1];exact k0
    have i0:=ih _ m0 (Ax hk m0) k0 (args hc _ m0)
    have i1:=ih _ m1 (Ax hk m1) k1 (args hc _ m1)
    rw [Fj hl h h1]
    exact Lx (F1 (i0 _) (i1 _)) (F1 (i0 _) (i1 _))
  · have hc:Cg T V e=false:=by rw [jU h];exact h1
    have ho:e.op=9:=by simpa using h
    have m0:=A4 (show 0<e.args.length by omega)
    have m1:=Bn hl
    rw [hc] at hp
    have hsim:Bt T V e=true:=hp
    have h3:=h2
    rw [Bool.and_eq_true] at h3
    have k0:Am T V (Ao e)=0:=by simpa using h3.1
    have hb:(B2 (Ao e) (Bj e)).2=true:=by
      rw [W2 (by rw [ho];rfl) (by unfold Cr;rw [h];simp) (by unfold Cl;rw [k0];simp)] at hsim
      exact hsim
    rw [Fq h h1 h2]
    refine J4 fun y hy=>?_
    rcases List.mem_cons.1 hy with rfl | hy
    · exact X8 hb
    · rw [List.mem_singleton.1 hy];exact X8 (fZ (Ax hk m0).nodes (Ax hk m1).nodes hb)
  · have hc:Cg T V e=false:=by
      cases h9':e.op==9 with
      | true=>rw [jU h9'];exact (h9 h9').1
      | false=>rw [jY h9',h10,h12,h0];rfl
    rw [hc] at hp
    rw [h]
    exact J4 fun y hy=>by rw [List.mem_singleton.1 hy];exact hp
theorem Pn {a b:Cs}{m n z:Nat}(ha:a.2=true)(hb:b.2=true)(la:a.1.length≤2 ^ m)(lb:b.1.length≤2 ^ n)(hz:m+n≤z)(h8:z≤8):(Ee a b).2=true∧(Ee a b).1.length≤2 ^ z:=by
 have h1:a.1.length*b.1.length≤2 ^ z:=by
  refine Nat.le_trans (Nat.mul_le_mul la lb) ?_
  rw [←Nat.pow_add]
  exact Nat.pow_le_pow_right (by decide) hz
 have h2:2 ^ z≤2 ^ 8:=Nat.pow_le_pow_right (by decide) h8
 have h3:decide ((256:Int)<(a.1.length:Int)*(b.1.length:Int))=false:=by
  rw [decide_eq_false_iff_not,←Int.natCast_mul]
  have:(2:Nat) ^ 8=256:=by decide
  omega
 rw [Tq (by rw [ha,hb];rfl),Xn h3]
 refine ⟨rfl,?_⟩
 simp only
 have:(a.1.flatMap fun x=>b.1.map fun y=>x++y).length=a.1.length*b.1.length:=by
  rw [List.length_flatMap]
  simp only [List.length_map]
  generalize a.1=q
  induction q with
  | nil=>simp
  | cons x r ih=>rw [List.map_cons,List.sum_cons,ih,List.length_cons,Nat.add_mul];omega
 omega
theorem eK {a b:Cs}{m n z:Nat}(ha:a.2=true)(hb:b.2=true)(la:a.1.length≤2 ^ m)(lb:b.1.length≤2 ^ n)(hm:m+1≤z)(hn:n+1≤z)(h8:z≤8):(Ii a b).2=true∧(Ii a b).1.length≤2 ^ z:=by
 obtain ⟨y,rfl⟩:∃y,z=y+1:=⟨z-1,by omega⟩
 have h1:2 ^ m≤2 ^ y:=Nat.pow_le_pow_right (by decide) (by omega)
 have h2:2 ^ n≤2 ^ y:=Nat.pow_le_pow_right (by decide) (by omega)
 have h3:2 ^ (y+1)≤2 ^ 8:=Nat.pow_le_pow_right (by decide) h8
 have h4:2 ^ (y+1)=2*2 ^ y:=by rw [Nat.pow_succ];omega
 have h5:(2:Nat) ^ 8=256:=by decide
 rw [Yh (by rw [ha,hb];simp;omega)]
 refine ⟨rfl,?_⟩
 simp only [List.length_append]
 omega
abbrev Im (n:Nat):Nat:=(n-1) / 2
theorem fG (e:Ex):KOK T V e→Av e≤9→∀s,(C4 T V e s).2=true∧(C4 T V e s).1.length≤2 ^ Im (Av e):=by
 refine Ex.Aa0 (P:=fun e=>KOK T V e→Av e≤9→∀s,(C4 T V e s).2=true∧(C4 T V e s).1.length≤2 ^ Im (Av e)) (fun e ih hk hs s=>?_) e
 have one:1≤2 ^ Im (Av e):=Nat.one_le_two_pow
 have pos:∀a:Ex,1≤Av a:=fun a=>by rw [Ef];omega
 rcases Iy s hk with h | ⟨h,hl⟩ | ⟨h,hl⟩ | ⟨h,hl,h1⟩ | ⟨h,hl,h1,h2⟩ | ⟨_,_,_,h,_⟩
 ·
  cases h1:((e.val.num==1)==s) with
  | true=>rw [Fl h h1];exact ⟨rfl,by simpa using one⟩
  | false=>rw [Fh h h1];exact ⟨rfl,by simp⟩
 ·
  have m0:=A4 hl
  have hlt:=uY hl
  rw [Fo hl h]
  obtain ⟨a1,a2⟩:=ih _ m0 (Ax hk m0) (by omega) (!s)
  exact ⟨a1,Nat.le_trans a2 (Nat.pow_le_pow_right (by decide) (by unfold Im;omega))⟩
 ·
  have m0:=A4 (show 0<e.args.length by omega)
  have m1:=Bn hl
  have hz:=Dd hl
  have p0:=pos (Ao e);have p1:=pos (Bj e)
  obtain ⟨a1,a2⟩:=ih _ m0 (Ax hk m0) (by omega) s
  obtain ⟨b1,b2⟩:=ih _ m1 (Ax hk m1) (by omega) s
  cases h1:((e.op==10)==s) with
  | true=>rw [Fk hl h h1];exact Pn a1 b1 a2 b2 (by unfold Im;omega) (by unfold Im;omega)
  | false=>rw [Fg hl h h1];exact eK a1 b1 a2 b2 (by unfold Im;omega) (by unfold Im;omega) (by unfold Im;omega)
 ·
  have m0:=A4 (show 0<e.args.length by omega)
  have m1:=Bn hl
  have hz:=Dd hl
  have p0:=pos (Ao e);have p1:=pos (Bj e)
  have i0:=ih _ m0 (Ax hk m0) (by omega)
  have i1:=ih _ m1 (Ax hk m1) (by omega)
  rw [Fj hl h h1]
  obtain ⟨a1,a2⟩:=Pn (z:=Im (Av e)-1) (i0 true).1 (i1 s).1 (i0 true).2 (i1 s).2 (by unfold Im;omega) (by unfold Im;omega)
  obtain ⟨b1,b2⟩:=Pn (z:=Im (Av e)-1) (i0 false).1 (i1 (!s)).1 (i0 false).2 (i1 (!s)).2 (by unfold Im;omega) (by unfold Im;omega)
  exact eK a1 b1 a2 b2 (by unfold Im;omega) (by unfold Im;omega) (by unfold Im;omega)
 ·
  have hz:=Dd hl
  have p0:=pos (Ao e);have p1:=pos (Bj e)
  rw [Fq h h1 h2]
  refine ⟨rfl,?_⟩
  have:2 ^ 1≤2 ^ Im (Av e):=Nat.pow_le_pow_right (by decide) (by unfold Im;omega)
  simpa [Dz] using this
 ·
  rw [h]
  exact ⟨rfl,by simpa [Dz] using one⟩
theorem lP {l:List Lit}(hl:Un T V l)(h:∀y∈l,Bt T V y.cond=true)(hlen:l.length≤16):Jq T V l=true:=by
 have h1:=Kf hl
 have h2:=h1.len;have h3:=h1.bnds
 unfold Jq In
 have hn:(C2 T V l).n=((B6 T V l).ts.length:Int)+1:=rfl
 have hb:(C2 T V l).bs.length=2*(B6 T V l).ts.length+(B6 T V l).bs.length:=by
  show (G0 T V 0 (B6 T V l).ts++(B6 T V l).bs).length=_
  rw [List.length_append,V2]
 rw [List.all_eq_true.2 h,Bool.true_and,Bool.and_eq_true,Bool.and_eq_true]
 refine ⟨⟨decide_eq_true (by omega),decide_eq_true (by omega)⟩,decide_eq_true (by omega)⟩
theorem fP:∀{l:List (List Lit)} {o:Int},o≠0→(∀c∈l,Jq T V c=true)→(Y9 T V o l).1≠0
  | [],o,ho,_=>ho
  | c::r,o,ho,h=>by
    rw [Y9]
    split
    · exact fP ho fun x hx=>h x (List.mem_cons_of_mem _ hx)
    · rw [if_pos (h c (List.mem_cons_self ..))];show (1:Int)≠0;decide
theorem lI {a:Ex}(ha:CondOK T V a)(hp:Hk T V a=true)(hs:Av a≤8):(Cn T V a a).1≠0:=by
 intro h0
 have hv:=(Nc (Mf ha.kc.types ha.kc.vars ha ha)).2.2.2 h0
 obtain ⟨a1,a2⟩:=fG a ha.kc.kok (by omega) true
 obtain ⟨b1,b2⟩:=fG a ha.kc.kok (by omega) false
 obtain ⟨c1,_⟩:=Pn (z:=8) a1 b1 a2 b2 (by unfold Im;omega) (by omega)
 have hc:(!(Kp T V a a).2)=false:=by show (!(Ee _ _).2)=false;rw [c1];rfl
 rw [Xu hc] at hv
 refine fP (by decide) (fun c hc=>?_) hv
 have hf:=bN ha ha c hc
 have hsim:∀y∈c,Bt T V y.cond=true:=F1 (P:=fun y=>Bt T V y.cond=true) (Vk a ha.kc.kok ha.kind hp true) (Vk a ha.kc.kok ha.kind hp false) c hc
 have hl:=(Kg (Fm a ha.kc.kok true) (Fm a ha.kc.kok false)).lits c hc
 exact lP (Sj hf) hsim (by omega)
end
end Go.Proofs.YtkddpedfbicbeaaGreatDoor

namespace Go.Aw
open Go

section
variable {P:Program} {T:List (Nat×TD)} {d:Option Nat} {ty:TypeId} {pos:String} {aft:Array Edge} {gd:Option (Nat×Bool)} {ρ:Operand→AV} {K:List HO→Prop}

theorem H6 {x i:Operand}{t e len:Nat}{td te:TD}{k:IntKind}{n:Int}{cs cs':List AV}(hT:Ho P T)(h:ρ x = .ptr cs)(hi:ρ i = .int k n)(ht:Bs T t=some td)(hk:td.kind = .array len e)
  (hte:Bs T e=some te) (h0:0≤n) (hc:n<len) (ho:cs.drop (n.toNat*te.size)=cs'):Di P ⟨d,.indexAddr t x i,ty,pos,aft,gd⟩ ρ K (.ptr cs'):=
 .of_run fun g w a hr=>by
  obtain ⟨b,o,he,fv,h1,h2⟩:=(h▸hr x (by simp [Op.operands]):Rep g w _ _).inv_ptr
  have h4:=(hi▸hr i (by simp [Op.operands]):Rep g w _ _).inv_int
  have hu:=Tz (hT t td ht) hk
  refine ⟨.pointer (some ⟨b,o+n.toNat*te.size,none⟩),?_,?_⟩
  ·
   simp only [execOp,he,h4,Instr.indexAt,asIntOf,Sem.run_bind,Sem.run_pure,Result.andThen_ok,A7 hu,Instr.sureAddr]
   simp [h0,hc,Ha (hT e te hte),H5]
  ·
   subst ho
   refine .ptr b (o+n.toNat*te.size) _ (fun j=>fv (n.toNat*te.size+j)) (fun j x hj=>?_) (fun j x hj=>?_)
   ·
    rw [List.getElem?_drop] at hj
    have:=h1 (n.toNat*te.size+j) x hj
    rwa [Nat.add_assoc]
   ·
    rw [List.getElem?_drop] at hj
    exact h2 (n.toNat*te.size+j) x hj

end
end Go.Aw

namespace Go.Proofs.YtkddpedfbicbeaaGreatDoor
open Go Go.Aw

section
variable {T:List Sc} {V:List Va}
section
variable {l:List Ev} {a b:Ex}
theorem jI (h:(!Om T V l a || !Om T V l b)=false):FindOK T V l a b:=by
 rw [Bool.or_eq_false_iff,Bool.not_eq_false',Bool.not_eq_false'] at h
 exact find_ok h.1 h.2
def tr2 (l:List Ev)(a b:Ex):Bool:=L8 ⟨Dw l,-1,Kn⟩ a&&L8 ⟨Dw l,-1,Kn⟩ b
theorem FindOK.self (h:FindOK T V l a b):(Cn T V a a).2=0∧(Cn T V a a).1≠2:=by
 refine ⟨(Nc (Mf h.ca.kc.types h.ca.kc.vars h.ca h.ca)).1,fun h2=>?_⟩
 obtain ⟨evs,h1,h3,h4⟩:=yS h.ca.kc.types h.ca.kc.vars h.ca h.ca h2
 rw [h3] at h4;cases h4
theorem FindOK.plain (h:FindOK T V l a b):Nw T V a=(Hk T V a,0):=iA (by rw [h.ca.zero];rfl)
theorem eH {e:Ex}(h:decide (((Fc 9 e:Nat):Int)≤8)=true):Av e≤8:=by
 have h1:=of_decide_eq_true h
 rcases Rc 9 e with h2 | h2
 · omega
 · omega
theorem FindOK.agree1 (h:FindOK T V l a b):(((((Cn T V a b).2 != 0)||((Cn T V a a).2 != 0))||((Nw T V a).2 != 0))||((Cn T V a a).1==2))=false∧(((Nw T V a).1&&((Cn T V a a).1==0))&&decide (((Fc 9 a:Nat):Int)≤8))=false:=by
  obtain ⟨s1,s2⟩:=h.self
  have e1:(Cn T V a b).2=0:=(Nc (Mf h.ca.kc.types h.ca.kc.vars h.ca h.cb)).1
  rw [h.plain]
  refine ⟨by rw [e1,s1];simpa using s2,?_⟩
  simp only
  cases hp:Hk T V a with
  | false=>rfl
  | true=>
    cases hs:decide (((Fc 9 a:Nat):Int)≤8) with
    | false=>rw [Bool.and_false]
    | true=>
      have:=lI h.ca hp (eH hs)
      simpa using this
theorem FindOK.agree2 (h:FindOK T V l a b):((((Cn T V a b).1==1)&&L8 ⟨Dw l,-1,Kn⟩ a)&&(!L8 ⟨Dw l,-1,Kn⟩ b))=false:=by
  rw [h.ca.truth h.env.suits,h.cb.truth h.env.suits]
  cases h1:(Cn T V a b).1==1 with
  | false=>rfl
  | true=>
    cases h2:tv (Dw l) a with
    | false=>rfl
    | true=>
      rw [zX h.ca.kc.types h.ca.kc.vars h.ca h.cb h.env (by simpa using h1) h2];rfl
theorem FindOK.agree3 (h:FindOK T V l a b)(h0:(B5 (two 11 a b) != 0)=false):(Cn T V a (two 11 a b)).2=0∧(Cn T V a (two 11 a b)).1≠2:=by
 obtain ⟨hc,ht⟩:=or_cond h.ca h.cb (by simpa using h0)
 refine ⟨(Nc (Mf h.ca.kc.types h.ca.kc.vars h.ca hc)).1,fun h2=>?_⟩
 obtain ⟨evs,h1,h3,h4⟩:=yS h.ca.kc.types h.ca.kc.vars h.ca hc h2
 rw [ht _ (T6 h.ca.kc.kok.ty h1),h3] at h4;cases h4
end
end
end Go.Proofs.YtkddpedfbicbeaaGreatDoor
