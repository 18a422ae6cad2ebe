/-
  Several texts in one: S49, S50, Au, S51, Y3. No condition.
-/
import Derived.Test.YtkddpedfbicbeaaGreatDoorK26
import Derived.Test.YtkddpedfbicbeaaGreatDoorK14
import Derived.Test.YtkddpedfbicbeaaGreatDoorAz
import Derived.KernelRfl
set_option linter.unusedVariables false
set_option linter.unusedSimpArgs false
namespace Go.Proofs.YtkddpedfbicbeaaGreatDoor
open Go Go.Aw

section
variable {T:List Sc} {V:List Va} {env:List (List Ev)}
/-- a condition that is checked -/
structure CondOK (T:List Sc) (V:List Va) (e:Ex):Prop where
 kc:KC T V e
 kind:Am T V e=1
theorem CondOK.zero {e:Ex}(h:CondOK T V e):Eb T V e=0:=kc_cond h.kc h.kind
theorem CondOK.lits {e:Ex}(h:CondOK T V e)(s:Bool):H4 (LitF T V) (Da T V e s):=rA h.kc.kok h.kind (Is h.kc) s
theorem cond_ok {e:Ex}(h:Eb T V e=0):CondOK T V e:=by
 have:=R0 (T:=T) (V:=V) (e:=e) (by rw [h];rfl)
 exact ⟨this.1,this.2⟩
theorem jY (h1:Ea T=0)(h2:Hv T V=0):(Db T V (Em true)).2=0:=by
 have hc:Bu (Em true)=0:=by decide +kernel
 unfold Db
 rw [if_neg (by rw [h1];decide),if_neg (by rw [h2];decide),if_neg (by rw [hc];decide),Ee];rfl
theorem yY {es:List Ex}(h1:Ea T=0)(h2:Hv T V=0)(hl:es.length≤256)(h:∀e∈es,CondOK T V e):Ed T V es=0:=by
 unfold Ed
 rw [if_neg (by rw [jY h1 h2];decide),if_neg (by simp;omega)]
 exact Ua fun e he=>(h e he).zero
theorem wA (h:Hv T V=0):V.length≤16:=by
 unfold Hv at h
 split at h
 · cases h
 ·
  rename_i h1
  simp only [decide_eq_true_eq] at h1
  omega
theorem aP {P:Lit→Prop}:H4 P ([[]],true):=fun x hx y hy=>by rw [List.mem_singleton.1 hx] at hy;cases hy
theorem X8:∀(es:List Ex) {c:Cs},H4 (LitF T V) c→(∀e∈es,CondOK T V e)→H4 (LitF T V) (Ke T V es c)
 | [],c,h,_=>h
 | e::r,c,h,he=>X8 r (c:=El c (Da T V e true)) (Jl h ((he e (List.mem_cons_self ..)).lits true)) fun x hx=>he x (List.mem_cons_of_mem _ hx)
theorem Rb (hS:E6 T V env):∀(es:List Ex) {c:Cs},(∀e∈es,CondOK T V e)→(Ke T V es c).2=true→c.2=true∧P4 env (Ke T V es c).1=(P4 env c.1&&es.all (tv env))
  | [],c,_,h=>⟨h,by simp [Ke]⟩
  | e::r,c,he,h=>by
    have hk:=he e (List.mem_cons_self ..)
    obtain ⟨h1,h2⟩:=Rb hS r (c:=El c (Da T V e true)) (fun x hx=>he x (List.mem_cons_of_mem _ hx)) h
    obtain ⟨h3,h4,h5⟩:=Oy (env:=env) h1
    refine ⟨h3,?_⟩
    show P4 env (Ke T V r (El c (Da T V e true))).1=_
    rw [h2,h5,Q7 hS e hk.kc.kok hk.kind true h4,List.all_cons]
    cases P4 env c.1 <;> cases tv env e <;> rfl
theorem oH (hE:EnvOK T V env){es:List Ex}(he:∀e∈es,CondOK T V e)(ht:es.all (tv env)=true):(B3 T V (Ke T V es ([[]],true))).1≠2:=by
  cases h:(Ke T V es ([[]],true)).2 with
  | false=>rw [Yk (by rw [h];rfl)];show (0:Int)≠2;decide
  | true=>
    refine Yj hE (X8 es aP he) ?_
    rw [(Rb hE.suits es he h).2,ht];rfl
theorem U2 (hT:Ea T=0)(hty:Jt T V){c:Cs}(hf:H4 (LitF T V) c)(h:(B3 T V c).1=1):c.2=true∧EvI T V (B3 T V c).2∧P4 (Dy (B3 T V c).2) c.1=true:=by
  cases h2:c.2 with
  | false=>rw [Yk (by rw [h2];rfl)] at h;exact absurd h (by decide)
  | true=>
    rw [bT (by rw [h2];rfl)] at h ⊢
    obtain ⟨x,hx,hk,hc,he⟩:=Wx (by decide) h
    rw [he]
    obtain ⟨h3,h4⟩:=eC hT hty (hf x hx) hk hc
    exact ⟨rfl,h3,List.any_eq_true.2 ⟨x,hx,h4⟩⟩
theorem iK (hT:Ea T=0)(hty:Jt T V){es:List Ex}(he:∀e∈es,CondOK T V e)(h:(B3 T V (Ke T V es ([[]],true))).1=1) :
  EvI T V (B3 T V (Ke T V es ([[]],true))).2∧es.all (tv (Dy (B3 T V (Ke T V es ([[]],true))).2))=true:=by
 obtain ⟨h1,h2,h3⟩:=U2 hT hty (X8 es aP he) h
 refine ⟨h2,?_⟩
 rw [(Rb (Po hty h2) es he h1).2,Bool.and_eq_true] at h3
 exact h3.2
theorem oL {a b:Ex}(ha:CondOK T V a)(hb:CondOK T V b):H4 (LitF T V) (K4 T V a b):=Jl (ha.lits true) (hb.lits false)
theorem Zu (hS:E6 T V env){a b:Ex}(ha:CondOK T V a)(hb:CondOK T V b)(h:(K4 T V a b).2=true):P4 env (K4 T V a b).1=(tv env a && !tv env b):=by
 obtain ⟨h3,h4,h5⟩:=Oy (env:=env) h
 unfold K4
 rw [h5,Q7 hS a ha.kc.kok ha.kind true h3,Q7 hS b hb.kc.kok hb.kind false h4]
 cases tv env a <;> cases tv env b <;> rfl
/-- what a verdict of an implication says -/
theorem Sm {a b:Ex}(h1:Ea T=0)(h2:Hv T V=0)(ha:CondOK T V a)(hb:CondOK T V b):Ed T V [a,b]=0:=
 yY h1 h2 (by simp) fun e he=>by
  rcases List.mem_cons.1 he with rfl | he
  · exact ha
  · rw [List.mem_singleton.1 he];exact hb
theorem Yu {a b:Ex}(h0:Ed T V [a,b]=0):(C9 T V a b).2=0∧((C9 T V a b).1=1→(B3 T V (K4 T V a b)).1=2)∧((C9 T V a b).1=2→(B3 T V (K4 T V a b)).1=1)∧((C9 T V a b).1=0→(B3 T V (K4 T V a b)).1=0):=by
  have h:(Ed T V [a,b] != 0)=false:=by rw [h0];rfl
  cases h1:((B3 T V (K4 T V a b)).1==1) with
  | true=>
    rw [Imp_2 h h1]
    have:(B3 T V (K4 T V a b)).1=1:=by simpa using h1
    refine ⟨rfl,fun e=>absurd e (by decide),fun _=>this,fun e=>absurd e (by decide)⟩
  | false=>
    cases h2:((B3 T V (K4 T V a b)).1==2) with
    | true=>
      rw [Imp_3 h h1 h2]
      have:(B3 T V (K4 T V a b)).1=2:=by simpa using h2
      exact ⟨rfl,fun _=>this,fun e=>absurd e (by decide),fun e=>absurd e (by decide)⟩
    | false=>
      rw [Imp_4 h h1 h2]
      have n1:(B3 T V (K4 T V a b)).1≠1:=by simpa using h1
      have n2:(B3 T V (K4 T V a b)).1≠2:=by simpa using h2
      exact ⟨rfl,fun e=>absurd e n1,fun e=>absurd e n2,fun e=>e⟩
/-- an implication that is claimed holds for all events -/
theorem imp_yes {a b:Ex}(h1:Ea T=0)(h2:Hv T V=0)(ha:CondOK T V a)(hb:CondOK T V b)(hE:EnvOK T V env)(h:(C9 T V a b).1=1)(ht:tv env a=true):tv env b=true:=by
  have hv:=(Yu (Sm h1 h2 ha hb)).2.1 h
  cases hq:tv env b with
  | true=>rfl
  | false=>
    exfalso
    cases hc:(K4 T V a b).2 with
    | false=>rw [Yk (by rw [hc];rfl)] at hv;exact absurd hv (by decide)
    | true=>
      refine Yj hE (oL ha hb) ?_ hv
      rw [Zu hE.suits ha hb hc,ht,hq];rfl
/-- an implication that is denied has events -/
theorem imp_no {a b:Ex}(h1:Ea T=0)(h2:Hv T V=0)(ha:CondOK T V a)(hb:CondOK T V b)(h:(C9 T V a b).1=2):∃evs,EvI T V evs∧tv (Dy evs) a=true∧tv (Dy evs) b=false:=by
 have hv:=(Yu (Sm h1 h2 ha hb)).2.2.1 h
 obtain ⟨q1,q2,q3⟩:=U2 h1 ha.kc.kok.ty (oL ha hb) hv
 rw [Zu (Po ha.kc.kok.ty q2) ha hb q1,Bool.and_eq_true,Bool.not_eq_true'] at q3
 exact ⟨_,q2,q3.1,q3.2⟩
/-! ### negations, disjunctions -/
theorem wX {b:Ex}(hb:CondOK T V b)(h:(Cz b).2=0):CondOK T V (Cz b).1∧∀env,E6 T V env→tv env (Cz b).1 = !tv env b:=by
  obtain ⟨k1,k2,k3⟩:=nL b hb.kc.kok hb.kind
  have hN:Cz b=if Bu (Fh b) != 0 then (Wc,Bu (Fh b)) else (Fh b,0):=by
    unfold Cz
    rw [if_neg (by rw [hb.kc.check];decide)]
  rw [hN] at h ⊢
  cases h1:(Bu (Fh b) != 0) with
  | true=>rw [h1,if_pos rfl] at h;simp only at h;rw [h] at h1;cases h1
  | false=>
    rw [Ci rfl]
    exact ⟨⟨⟨k1,hb.kc.types,hb.kc.vars,by simpa using h1⟩,k2⟩,k3⟩
/-! ### the laws -/
theorem Q8 {l:List Ev}{e:Ex}(h:O9 T V l e=true):CondOK T V e∧EnvOK T V (Dy l):=by
 obtain ⟨_,_,_,h4,h5⟩:=fU h
 exact ⟨cond_ok h5,env_of h4⟩
theorem CondOK.truth {e:Ex}(h:CondOK T V e)(hS:E6 T V env):Ko ⟨env,-1,Kl⟩ e=tv env e:=uD hS h.kc.kok h.kind h.kc.check
/-- what the law Finds says -/
structure FindOK (T:List Sc) (V:List Va) (l:List Ev) (a b:Ex):Prop where
 ca:CondOK T V a
 cb:CondOK T V b
 env:EnvOK T V (Dy l)
theorem find_ok {l:List Ev}{a b:Ex}(h1:O9 T V l a=true)(h2:O9 T V l b=true):FindOK T V l a b:=⟨(Q8 h1).1,(Q8 h2).1,(Q8 h1).2⟩
section
variable {l:List Ev} {a b:Ex}
theorem FindOK.all (h:FindOK T V l a b):∀e∈[a,b],CondOK T V e:=fun e he=>by
 rcases List.mem_cons.1 he with rfl | he
 · exact h.ca
 · rw [List.mem_singleton.1 he];exact h.cb
theorem FindOK.poss (h:FindOK T V l a b):B1 T V [a,b]=((B3 T V (Ke T V [a,b] ([[]],true))).1,(B3 T V (Ke T V [a,b] ([[]],true))).2,0):=
 wF (by rw [Sm h.ca.kc.types h.ca.kc.vars h.ca h.cb];rfl) rfl
theorem FindOK.err (h:FindOK T V l a b):(B1 T V [a,b]).2.2=0:=by rw [h.poss]
theorem FindOK.no (h:FindOK T V l a b)(hv:(B1 T V [a,b]).1=2):(Ko ⟨Dy l,-1,Kl⟩ a&&Ko ⟨Dy l,-1,Kl⟩ b)=false:=by
 rw [h.poss] at hv
 rw [h.ca.truth h.env.suits,h.cb.truth h.env.suits,Bool.eq_false_iff]
 intro ht
 refine oH h.env h.all ?_ hv
 simpa using ht
theorem FindOK.yes (h:FindOK T V l a b)(hv:(B1 T V [a,b]).1=1):Ix T V (B1 T V [a,b]).2.1=true∧(Ko ⟨Dy (B1 T V [a,b]).2.1,-1,Kl⟩ a&&Ko ⟨Dy (B1 T V [a,b]).2.1,-1,Kl⟩ b)=true:=by
 rw [h.poss] at hv ⊢
 obtain ⟨h1,h2⟩:=iK h.ca.kc.types h.ca.kc.kok.ty h.all hv
 have hS:=Po h.ca.kc.kok.ty h1
 refine ⟨mK h.ca.kc.types h.ca.kc.kok.ty (by have:=wA h.ca.kc.vars;omega) h1,?_⟩
 simp only
 rw [h.ca.truth hS,h.cb.truth hS]
 simpa using h2
theorem FindOK.negE (h:FindOK T V l a b):(Cz b).2=0∨(Cz b).2=5∨(Cz b).2=12:=
 SceneOK.negE (l:=l) ⟨h.cb.kc,h.cb.kind,h.env.suits⟩
theorem FindOK.imp (h:FindOK T V l a b)(h0:(Cz b).2=0):(C9 T V a (Cz b).1).2=0∧((B1 T V [a,b]).1=1→(C9 T V a (Cz b).1).1≠1)∧((B1 T V [a,b]).1=2→(C9 T V a (Cz b).1).1≠2):=by
 obtain ⟨hn,ht⟩:=wX h.cb h0
 refine ⟨(Yu (Sm h.ca.kc.types h.ca.kc.vars h.ca hn)).1,fun hv hw=>?_,fun hv hw=>?_⟩
 ·
  rw [h.poss] at hv
  obtain ⟨h1,h2⟩:=iK h.ca.kc.types h.ca.kc.kok.ty h.all hv
  have hE:=V1 h.ca.kc.kok.ty h1
  simp only [List.all_cons,List.all_nil,Bool.and_true,Bool.and_eq_true] at h2
  have h3:=imp_yes h.ca.kc.types h.ca.kc.vars h.ca hn hE hw h2.1
  rw [ht _ hE.suits,h2.2] at h3
  cases h3
 ·
  rw [h.poss] at hv
  obtain ⟨evs,h1,h2,h3⟩:=imp_no h.ca.kc.types h.ca.kc.vars h.ca hn hw
  have hE:=V1 h.ca.kc.kok.ty h1
  rw [ht _ hE.suits,Bool.not_eq_false'] at h3
  exact oH hE h.all (by simp [h2,h3]) hv
end
end

/-! ### a difference the other way round -/
def evN0 (τ:Tm→Int)(e:Ex)(vs:List Int):Int:=
 if e.op==0 then 0 else if e.op==1||e.op==2 then τ (D1 e) else if e.op==5 then Ql 0 vs+Wn 0 vs else if e.op==6 then Ql 0 vs-Wn 0 vs else 0
def evT (τ:Tm→Int):Ex→Int:=Rh (evN0 τ)
def okK (p:Tm×Int):Bool:=p.2==0||p.2==1||p.2 == -1
def posL (ts:List (Tm×Int)):List Tm:=(ts.filter fun p=>p.2==1).map (·.1)
def negL (ts:List (Tm×Int)):List Tm:=(ts.filter fun p=>p.2 == -1).map (·.1)
def ind (t:Tm):Tm→Int:=fun u=>if u=t then 1 else 0
/-! ### plain conditions have simple literals -/
section
variable {T:List Sc} {V:List Va}
/-! ### few clauses -/
abbrev half1 (n:Nat):Nat:=(n-1) / 2
end
end Go.Proofs.YtkddpedfbicbeaaGreatDoor

namespace Go.Aw
open Go

section
variable {P:Program} {T:List (Nat×TD)} {d:Option Nat} {ty:TypeId} {pos:String} {aft:Array Edge} {gd:Option (Nat×Bool)} {ρ:Operand→AV} {K:List HO→Prop}

theorem Fc {x i:Operand}{t e len:Nat}{td te:TD}{k:IntKind}{n:Int}{cs cs':List AV}(hT:Hs P T)(h:ρ x = .ptr cs)(hi:ρ i = .int k n)(ht:Br T t=some td)(hk:td.kind = .array len e)
  (hte:Br T e=some te) (h0:0≤n) (hc:n<len) (ho:cs.drop (n.toNat*te.size)=cs'):Dj P ⟨d,.indexAddr t x i,ty,pos,aft,gd⟩ ρ K (.ptr cs'):=
 .of_run fun g w a hr=>by
  obtain ⟨b,o,he,fv,h1,h2⟩:=(h▸hr x (by simp [Op.operands]):Rep g w _ _).inv_ptr
  have h4:=(hi▸hr i (by simp [Op.operands]):Rep g w _ _).inv_int
  have hu:=Pw (hT t td ht) hk
  refine ⟨.pointer (some ⟨b,o+n.toNat*te.size,none⟩),?_,?_⟩
  ·
   simp only [execOp,he,h4,Instr.indexAt,asIntOf,Sem.run_bind,Sem.run_pure,Result.andThen_ok,A7 hu,Instr.sureAddr]
   simp [h0,hc,Gy (hT e te hte),Hy]
  ·
   subst ho
   refine .ptr b (o+n.toNat*te.size) _ (fun j=>fv (n.toNat*te.size+j)) (fun j x hj=>?_) (fun j x hj=>?_)
   ·
    rw [List.getElem?_drop] at hj
    have:=h1 (n.toNat*te.size+j) x hj
    rwa [Nat.add_assoc]
   ·
    rw [List.getElem?_drop] at hj
    exact h2 (n.toNat*te.size+j) x hj

/-- An array behind a pointer, as a slice. -/
theorem cU {x:Operand}{t e n z:Nat}{td te:TD}{cs:List AV}{es:List (List AV)}(hT:Hs P T)(hx:ρ x = .ptr cs)(hcs:cs=es.flatten)(ht:Br T t=some td)(hk:td.kind = .array n e)(hte:Br T e=some te)(hz:te.size=z)
  (hl:Nat.beq es.length n=true) (hm:Nat.ble n maxLen=true) (hzs:es.all (fun e=>Nat.beq e.length z)=true) (h0:Nat.beq n 0=false):Dj P ⟨d,.slice t x none none none,ty,pos,aft,gd⟩ ρ K (.sl z es):=
 .of_run fun g w a hr=>by
  subst hcs
  obtain ⟨b,o,he,fv,h3,h4⟩:=(hx▸hr x (by simp [Op.operands]):Rep g w _ _).inv_ptr
  have hu:=Pw (hT t td ht) hk
  have hsz:=Gy (hT e te hte) w
  have hn0:n≠0:=by rintro rfl;exact absurd h0 (by decide)
  have hln:=Nat.eq_of_beq_eq_true hl
  have hz':∀e∈es,e.length=z:=fun e he=>Nat.eq_of_beq_eq_true (List.all_eq_true.1 hzs e he)
  refine ⟨.slice (some ⟨b,o,none⟩) n n,?_,.sl b o n n z es hln.symm (Nat.le_refl _) (Nat.le_of_ble_eq_true hm) hz' (fun i j=>fv (i*z+j)) (fun i e hi j x hj=>?_) (fun i e hi j x hj=>?_)⟩
  ·
   have e0:((n:Nat)=0)=False:=by simp [hn0]
   simp only [execOp,he,Instr.sliceAt,Sem.run_bind,A7 hu,Result.andThen_ok,Instr.sureAddr,Sem.run_pure,Instr.sliceBounds,Option.map_none,hsz,hn0,if_false,Nat.sub_zero,Nat.zero_mul,Hy,Nat.add_zero,e0]
  ·
   have:=h3 _ x (bW es hz' i e hi j x hj)
   rwa [←Nat.add_assoc] at this
  · exact h4 _ x (bW es hz' i e hi j x hj)
end
end Go.Aw

namespace Go.Proofs.YtkddpedfbicbeaaGreatDoor
open Go Go.Aw

section
variable {T:List Sc} {V:List Va}
theorem vH (evs:List Ev)(t:Tm)(s:Fr):(Uk evs t s).length=evs.length:=List.length_modify ..
theorem xH (evs:List Ev)(t:Tm)(x:Int):(Qi evs t x).length=evs.length:=by unfold Qi;split <;> exact List.length_modify ..
theorem aQ (vals:List Int):∀(ts:List Tm) (i:Nat) (evs:List Ev),(G2 vals i ts evs).length=evs.length
 | [],i,evs=>rfl
 | t::r,i,evs=>by rw [G2,aQ vals r,xH]
theorem Tb (w:Wm):∀(ws:List Wd) (s:Ns),(ws.foldl (H8 w) s).2.2.length=s.2.2.length
  | [],s=>rfl
  | x::r,s=>by
    rw [List.foldl_cons,Tb w r]
    cases hc:x.const with
    | true=>rw [Sl hc]
    | false=>rw [R3 hc];exact vH ..
theorem evC_len (c:List Lit):(nO T V c).length=V.length:=by
 show ((Hf T V c).2.foldl (H8 (Ef T V c).1) _).2.2.length=_
 rw [Tb]
 show (G2 _ 0 _ _).length=_
 rw [aQ,P5]
theorem bJ:∀(l:List (List Lit)) (o:Int),(Yy T V o l).2.length≤V.length
  | [],o=>Nat.zero_le _
  | c::r,o=>by
    rw [Yy]
    split
    · exact bJ r o
    split
    · show (nO T V c).length≤_;rw [evC_len];exact Nat.le_refl _
    · exact bJ r 0
theorem gO (es:List Ex):(B1 T V es).2.1.length≤V.length:=by
 unfold B1
 split
 · exact Nat.zero_le _
 ·
  show (B3 T V _).2.length≤_
  unfold B3
  split
  · exact Nat.zero_le _
  · exact bJ _ _
section
variable {l:List Ev} {a b:Ex}
theorem jB (h:(!O9 T V l a || !O9 T V l b)=false):FindOK T V l a b:=by
 rw [Bool.or_eq_false_iff,Bool.not_eq_false',Bool.not_eq_false'] at h
 exact find_ok h.1 h.2
def tr2 (l:List Ev)(a b:Ex):Bool:=Ko ⟨Dy l,-1,Kl⟩ a&&Ko ⟨Dy l,-1,Kl⟩ b
theorem FindOK.cond3 (h:FindOK T V l a b):((((B1 T V [a,b]).1==2)&&tr2 l a b)||(((B1 T V [a,b]).1==1)&&((!Ix T V (B1 T V [a,b]).2.1)||(!tr2 (B1 T V [a,b]).2.1 a b))))=false:=by
  rw [Bool.or_eq_false_iff]
  constructor
  · cases h1:(B1 T V [a,b]).1==2 with
    | false=>rfl
    | true=>exact h.no (by simpa using h1)
  · cases h1:(B1 T V [a,b]).1==1 with
    | false=>rfl
    | true=>
      obtain ⟨q1,q2⟩:=h.yes (by simpa using h1)
      rw [q1,show tr2 (B1 T V [a,b]).2.1 a b=true from q2];rfl
theorem FindOK.last (h:FindOK T V l a b)(h0:(Cz b).2=0):(((true&&((C9 T V a (Cz b).1).2==0))&&(!(((B1 T V [a,b]).1==1)&&((C9 T V a (Cz b).1).1==1))))&&(!(((B1 T V [a,b]).1==2)&&((C9 T V a (Cz b).1).1==2))))=true:=by
 obtain ⟨q1,q2,q3⟩:=h.imp h0
 rw [q1]
 have e1:(((B1 T V [a,b]).1==1)&&((C9 T V a (Cz b).1).1==1))=false:=by
  cases h1:(B1 T V [a,b]).1==1 with
  | false=>rfl
  | true=>have:=q2 (by simpa using h1);simpa using this
 have e2:(((B1 T V [a,b]).1==2)&&((C9 T V a (Cz b).1).1==2))=false:=by
  cases h1:(B1 T V [a,b]).1==2 with
  | false=>rfl
  | true=>have:=q3 (by simpa using h1);simpa using this
 rw [e1,e2];rfl
theorem FindOK.negC (h:FindOK T V l a b)(h0:((Cz b).2 != 0)=true):(((Cz b).2==5)||((Cz b).2==12))=true:=by
 rcases h.negE with q | q | q
 · rw [q] at h0;cases h0
 · rw [q];rfl
 · rw [q];rfl
/-! ### Agrees -/
end
end
set_option maxHeartbeats 1600000
set_option maxRecDepth 20000

theorem Xx (T:List Sc)(V:List Va)(e:Ex)(hk:KOK T V e):Av Tryz.prog 89 [.agg (Co T V),.agg (cE e)] (.int .i64 (Am T V e)):=by
 refine Av.body (n:=37) Ai Tryz.func89 rfl rfl rfl fun H=>?_
 refine Ah (Qp (F5 [_,_]) (Qp K8 (Qp At (Ag (AW.seq (Ah (Qp Ks (Qp Bs (Ag ?_)))))))))
 refine AW.block (AW.seq (Ah (Qp A5 (Qp Be (Ag (A3 (fun hc1=>?_) fun hc1=>?_))))))
 ·
  refine Bx (A3 (fun hc2=>?_) fun hc2=>?_)
  ·
   refine Ah (Qp Jp (Qp Jp (Qp Bs (Qp At (Ag (AW.ret (Ba (Aj ?_))))))))
   refine Qr (Iq _) ?_
   first
    | exact Eq.trans rfl (congrArg (fun q:Int=>AV.int .i64 q) hfk).symm
    | (exfalso;simp_all;done)
    | (simp_all [Ad,Am];done)
  ·
   refine Ah (Qp A5 (Qp Be (Ag (A3 (fun hc3=>?_) fun hc3=>?_))))
   ·
    refine AW.seq ?_
    refine (lX hk (eq_of_beq ‹(e.op==1)=true›)).elim fun v hv=>?_
    refine hv.elim fun s hv=>?_
    refine hv.elim fun f hv=>?_
    have hv0:=hv.1
    have hv1:=hv.2.1
    have ht0:=hv.2.2.1
    have ht1:=hv.2.2.2.1
    have hf0:=hv.2.2.2.2.1
    have hf1:=hv.2.2.2.2.2.1
    have hfk:=hv.2.2.2.2.2.2
    refine AW.draw mixed (fun _=>True) trivial (by kernel_rfl) ?_
    refine Qn 0 rfl (Qf [_,_]) (Qn 1 rfl Dk (Qn 2 rfl (Qf [_]) (Qn 3 rfl Dk (Qn 4 rfl Xo (Qn 5 rfl Bs ?_)))))
    refine Qn 6 rfl (Af (c:=[.str _,Iq _]) Ai rfl rfl rfl rfl rfl rfl (hv0) (Bh hv1)) ?_
    refine Qn 7 rfl (Qf [Iq _]) (Qn 8 rfl Bs ?_)
    refine Qn 9 rfl (Af (c:=[.str _,_]) Ai rfl rfl rfl rfl rfl rfl (ht0) (Bh ht1)) ?_
    refine Qn 10 rfl (Qf [_]) (Qn 11 rfl Dk (Qn 12 rfl Q2 (Qn 13 rfl Bs ?_)))
    refine Qn 14 rfl (Af (c:=[.str _,Iq _]) Ai rfl rfl rfl rfl rfl rfl (hf0) (Bh hf1)) ?_
    refine Qn 15 rfl (Qf [Iq _]) (Qn 16 rfl Bs (Qn 17 rfl At ?_))
    refine Jv.done _ _ (by kernel_rfl) ?_
    refine Ae (AW.ret (Ba (Aj ?_)))
    refine Qr (Iq _) ?_
    first
     | exact Eq.trans rfl (congrArg (fun q:Int=>AV.int .i64 q) hfk).symm
     | (exfalso;simp_all;done)
     | (simp_all [Ad,Am];done)
   ·
    refine AW.seq (Ah (Qp A5 (Qp Be (Ag (A3 (fun hc4=>?_) fun hc4=>?_)))))
    ·
     refine Bx (A3 (fun hc5=>?_) fun hc5=>?_)
     ·
      refine Ah (Qp At (Ag (AW.ret (Ba (Aj ?_)))))
      refine Qr (Iq _) ?_
      first
       | exact Eq.trans rfl (congrArg (fun q:Int=>AV.int .i64 q) hfk).symm
       | (exfalso;simp_all;done)
       | (simp_all [Ad,Am];done)
     ·
      refine AW.skip (Bq (Ae (Ah (Qp At (Ag (AW.ret ?_))))))
      refine Qr (Iq _) ?_
      first
       | exact Eq.trans rfl (congrArg (fun q:Int=>AV.int .i64 q) hfk).symm
       | (exfalso;simp_all;done)
       | (simp_all [Ad,Am];done)
    ·
     refine Ah (Qp A5 (Qp Be (Ag (A3 (fun hc6=>?_) fun hc6=>?_))))
     ·
      refine Bx (A3 (fun hc7=>?_) fun hc7=>?_)
      ·
       refine Ah (Qp At (Ag (AW.ret (Ba (Aj ?_)))))
       refine Qr (Iq _) ?_
       first
        | exact Eq.trans rfl (congrArg (fun q:Int=>AV.int .i64 q) hfk).symm
        | (exfalso;simp_all;done)
        | (simp_all [Ad,Am];done)
      ·
       refine AW.skip (Bq (Ae (Ah (Qp At (Ag (AW.ret ?_))))))
       refine Qr (Iq _) ?_
       first
        | exact Eq.trans rfl (congrArg (fun q:Int=>AV.int .i64 q) hfk).symm
        | (exfalso;simp_all;done)
        | (simp_all [Ad,Am];done)
     ·
      refine Ah (Qp A5 (Qp Be (Ag (A3 (fun hc8=>?_) fun hc8=>?_))))
      ·
       refine Bx (A3 (fun hc9=>?_) fun hc9=>?_)
       ·
        refine Ah (Qp At (Ag (AW.ret (Ba (Aj ?_)))))
        refine Qr (Iq _) ?_
        first
         | exact Eq.trans rfl (congrArg (fun q:Int=>AV.int .i64 q) hfk).symm
         | (exfalso;simp_all;done)
         | (simp_all [Ad,Am];done)
       ·
        refine AW.skip (Bq (Ae (Ah (Qp At (Ag (AW.ret ?_))))))
        refine Qr (Iq _) ?_
        first
         | exact Eq.trans rfl (congrArg (fun q:Int=>AV.int .i64 q) hfk).symm
         | (exfalso;simp_all;done)
         | (simp_all [Ad,Am];done)
      ·
       refine AW.region (Qp A5 (Qp Be (Ag (A3 (fun hc10=>?_) fun hc10=>?_))))
       ·
        refine Ah (Qp At (Ag (AW.ret (Ba (Aj ?_)))))
        refine Qr (Iq _) ?_
        first
         | exact Eq.trans rfl (congrArg (fun q:Int=>AV.int .i64 q) hfk).symm
         | (exfalso;simp_all;done)
         | (simp_all [Ad,Am];done)
       ·
        refine AW.skip (Bq (Ae (Ah (Qp At (Ag (AW.ret ?_))))))
        refine Qr (Iq _) ?_
        first
         | exact Eq.trans rfl (congrArg (fun q:Int=>AV.int .i64 q) hfk).symm
         | (exfalso;simp_all;done)
         | (simp_all [Ad,Am];done)
 ·
  refine AW.region (Qp A5 (Qp Be (Ag (A3 (fun hc11=>?_) fun hc11=>?_))))
  ·
   refine Ah (Qp Jp (Qp Jp (Qp Bs (Qp At (Ag (AW.ret (Ba (Aj ?_))))))))
   refine Qr (Iq _) ?_
   first
    | exact Eq.trans rfl (congrArg (fun q:Int=>AV.int .i64 q) hfk).symm
    | (exfalso;simp_all;done)
    | (simp_all [Ad,Am];done)
  ·
   refine Ah (Qp A5 (Qp Be (Ag (A3 (fun hc12=>?_) fun hc12=>?_))))
   ·
    refine AW.seq ?_
    refine (lX hk (eq_of_beq ‹(e.op==1)=true›)).elim fun v hv=>?_
    refine hv.elim fun s hv=>?_
    refine hv.elim fun f hv=>?_
    have hv0:=hv.1
    have hv1:=hv.2.1
    have ht0:=hv.2.2.1
    have ht1:=hv.2.2.2.1
    have hf0:=hv.2.2.2.2.1
    have hf1:=hv.2.2.2.2.2.1
    have hfk:=hv.2.2.2.2.2.2
    refine AW.draw mixed (fun _=>True) trivial (by kernel_rfl) ?_
    refine Qn 0 rfl (Qf [_,_]) (Qn 1 rfl Dk (Qn 2 rfl (Qf [_]) (Qn 3 rfl Dk (Qn 4 rfl Xo (Qn 5 rfl Bs ?_)))))
    refine Qn 6 rfl (Af (c:=[.str _,Iq _]) Ai rfl rfl rfl rfl rfl rfl (hv0) (Bh hv1)) ?_
    refine Qn 7 rfl (Qf [Iq _]) (Qn 8 rfl Bs ?_)
    refine Qn 9 rfl (Af (c:=[.str _,_]) Ai rfl rfl rfl rfl rfl rfl (ht0) (Bh ht1)) ?_
    refine Qn 10 rfl (Qf [_]) (Qn 11 rfl Dk (Qn 12 rfl Q2 (Qn 13 rfl Bs ?_)))
    refine Qn 14 rfl (Af (c:=[.str _,Iq _]) Ai rfl rfl rfl rfl rfl rfl (hf0) (Bh hf1)) ?_
    refine Qn 15 rfl (Qf [Iq _]) (Qn 16 rfl Bs (Qn 17 rfl At ?_))
    refine Jv.done _ _ (by kernel_rfl) ?_
    refine Ae (AW.ret (Ba (Aj ?_)))
    refine Qr (Iq _) ?_
    first
     | exact Eq.trans rfl (congrArg (fun q:Int=>AV.int .i64 q) hfk).symm
     | (exfalso;simp_all;done)
     | (simp_all [Ad,Am];done)
   ·
    refine AW.seq (Ah (Qp A5 (Qp Be (Ag (A3 (fun hc13=>?_) fun hc13=>?_)))))
    ·
     refine Bx (A3 (fun hc14=>?_) fun hc14=>?_)
     ·
      refine Ah (Qp At (Ag (AW.ret (Ba (Aj ?_)))))
      refine Qr (Iq _) ?_
      first
       | exact Eq.trans rfl (congrArg (fun q:Int=>AV.int .i64 q) hfk).symm
       | (exfalso;simp_all;done)
       | (simp_all [Ad,Am];done)
     ·
      refine AW.skip (Bq (Ae (Ah (Qp At (Ag (AW.ret ?_))))))
      refine Qr (Iq _) ?_
      first
       | exact Eq.trans rfl (congrArg (fun q:Int=>AV.int .i64 q) hfk).symm
       | (exfalso;simp_all;done)
       | (simp_all [Ad,Am];done)
    ·
     refine Ah (Qp A5 (Qp Be (Ag (A3 (fun hc15=>?_) fun hc15=>?_))))
     ·
      refine Bx (A3 (fun hc16=>?_) fun hc16=>?_)
      ·
       refine Ah (Qp At (Ag (AW.ret (Ba (Aj ?_)))))
       refine Qr (Iq _) ?_
       first
        | exact Eq.trans rfl (congrArg (fun q:Int=>AV.int .i64 q) hfk).symm
        | (exfalso;simp_all;done)
        | (simp_all [Ad,Am];done)
      ·
       refine AW.skip (Bq (Ae (Ah (Qp At (Ag (AW.ret ?_))))))
       refine Qr (Iq _) ?_
       first
        | exact Eq.trans rfl (congrArg (fun q:Int=>AV.int .i64 q) hfk).symm
        | (exfalso;simp_all;done)
        | (simp_all [Ad,Am];done)
     ·
      refine Ah (Qp A5 (Qp Be (Ag (A3 (fun hc17=>?_) fun hc17=>?_))))
      ·
       refine Bx (A3 (fun hc18=>?_) fun hc18=>?_)
       ·
        refine Ah (Qp At (Ag (AW.ret (Ba (Aj ?_)))))
        refine Qr (Iq _) ?_
        first
         | exact Eq.trans rfl (congrArg (fun q:Int=>AV.int .i64 q) hfk).symm
         | (exfalso;simp_all;done)
         | (simp_all [Ad,Am];done)
       ·
        refine AW.skip (Bq (Ae (Ah (Qp At (Ag (AW.ret ?_))))))
        refine Qr (Iq _) ?_
        first
         | exact Eq.trans rfl (congrArg (fun q:Int=>AV.int .i64 q) hfk).symm
         | (exfalso;simp_all;done)
         | (simp_all [Ad,Am];done)
      ·
       refine AW.region (Qp A5 (Qp Be (Ag (A3 (fun hc19=>?_) fun hc19=>?_))))
       ·
        refine Ah (Qp At (Ag (AW.ret (Ba (Aj ?_)))))
        refine Qr (Iq _) ?_
        first
         | exact Eq.trans rfl (congrArg (fun q:Int=>AV.int .i64 q) hfk).symm
         | (exfalso;simp_all;done)
         | (simp_all [Ad,Am];done)
       ·
        refine AW.skip (Bq (Ae (Ah (Qp At (Ag (AW.ret ?_))))))
        refine Qr (Iq _) ?_
        first
         | exact Eq.trans rfl (congrArg (fun q:Int=>AV.int .i64 q) hfk).symm
         | (exfalso;simp_all;done)
         | (simp_all [Ad,Am];done)
theorem W0 (e:Ex):Av Tryz.prog 135 [.agg (cE e)] (.bool (Cu e)):=by
 refine Av.body (n:=16) Ai Tryz.func135 rfl rfl rfl fun H=>?_
 refine Ah (Qp K8 (Qp Be (Df (Qp Ks (Qp Bs (Qp A5 (Qp Bp (Qg [] Qw Ks (Qg [(7,_)] Qw Bs ?_)))))))))
 refine Qg [(8,_)] Qw A5 (Qp E2 (Qp Bp (Qg [] Qw Ks (Qg [(12,_)] Qw Bs (Qg [(13,_)] Qw A5 (Qp E2 (Qp Be (Ag (AW.ret ?_)))))))))
 refine Qr (.bool _) ?_
 rfl
theorem xU (t:Tm):Av Tryz.prog 81 [.agg (H9 t)] (.agg (cE (Hn t))):=by
 refine Av.body (n:=10) Ai Tryz.func81 rfl rfl rfl fun H=>?_
 refine Ah (Qp (F5 [Iq _,Iq _,Iq _]) ?_)
 refine Qe (Al (l:=[.int .i64 0,.sl 8 [],.int .i64 0,.int .i64 0,.int .i64 0,.int .i64 0,.int .i64 0,.str []]) (by kernel_rfl)) ?_
 rintro _ _ ⟨b2,rfl,rfl⟩
 refine Df (Qp (Qf [Iq _,Iq _,Iq _]) (Qp Bs (Qp (Qf [Iq _,Iq _]) (Qp Bs (Qp (Qf [Iq _]) (Qp Bs (Qp (Ep [Iq _,_,Iq _,Iq _,Iq _,Iq _,Iq _,.str _]) ?_)))))))
 refine Cm 0 [Iq _,_,Iq _,Iq _,Iq _,Iq _,Iq _,.str _] (_::_) ?_
 refine Ag (AW.ret ?_)
 refine ⟨.inr rfl,[.agg [Iq _,_,Iq _,Iq _,Iq _,Iq _,Iq _,.str _]],.cons (.box _ _ _ 0 _ _ _ _ rfl rfl rfl rfl rfl rfl) <| .nil,.cons _ (.refl _),?_⟩
 rfl
theorem jS (e:Ex):Av Tryz.prog 134 [.agg (cE e)] (.bool (Sg e)):=by
 refine Av.body (n:=11) Ai Tryz.func134 rfl rfl rfl fun H=>?_
 refine Ah (Qp K8 (Qp Be (Df (Qp Ks (Qp Bs (Qp A5 (Qp Bp (Qg [] Qw Ks (Qg [(7,_)] Qw Bs ?_)))))))))
 refine Qg [(8,_)] Qw A5 (Qp E2 (Qp Be (Ag (AW.ret ?_))))
 refine Qr (.bool _) ?_
 rfl
theorem gJ (T:List Sc)(hl:T.length≤1048576)(hst:∀s∈T,Jk s)(V:List Va)(hvl:V.length≤1048576)(e:Ex)(hse:Ar e≤1048576):Av Tryz.prog 51 [.sl 2 (T.map Nz),.sl 2 (V.map Un),.agg (cE e)] (.int .i64 (Eb T V e)):=by
 refine Av.body (n:=21) Ai Tryz.func51 rfl rfl rfl fun H=>?_
 refine Ah (Qp K8 (Qp At (Df (Qp C4 (Qp C4 (Qp D0 ?_))))))
 refine Qp (Qc rfl (c32 T hl hst V hvl e hse)) ?_
 refine Qp Mv (Qp Jn (Qp Jn (Qp At (Qp At (Ag (AW.seq (Ah (Qp A0 (Qp Cr ?_)))))))))
 refine Ag (A3 (fun hc1=>?_) fun hc1=>?_)
 ·
  refine Ah (Qp A0 (Qp At (Ag (Dr ?_))))
  refine Qr (Iq _) ?_
  exact Eq.trans rfl (congrArg (fun q:Int=>AV.int .i64 q) (pO hc1)).symm
 ·
  refine Bx (AW.seq (Ah (Qp A0 (Qp Cr (Ag (A3 (fun hc2=>?_) fun hc2=>?_))))))
  ·
   refine Ah (Qp At (Ag (Dr ?_)))
   refine Qr (Iq _) ?_
   exact Eq.trans rfl (congrArg (fun q:Int=>AV.int .i64 q) (oZ hc1 hc2)).symm
  ·
   refine Bx (Ah (Qp At (Ag (AW.ret ?_))))
   refine Qr (Iq _) ?_
   exact Eq.trans rfl (congrArg (fun q:Int=>AV.int .i64 q) (pA hc1 hc2)).symm
theorem Pf (T:List Sc)(hl:T.length≤1048576)(hst:∀s∈T,Jk s)(V:List Va)(hvl:V.length≤1048576)(e:Ex)(hse:Ar e≤1048576):Av Tryz.prog 49 [.agg (Co T V),.agg (cE e)] (.int .i64 (Eb T V e)):=by
 refine Av.body (n:=21) Ai Tryz.func49 rfl rfl rfl fun H=>?_
 refine Ah (Qp (F5 [_,_]) (Qp K8 (Qp At (Df (Qp (Qf [_,_]) (Qp Dk (Qp (Qf [_]) (Qp Dk (Qp D0 ?_)))))))))
 refine Qp (Qc rfl (c31 T hl hst V hvl e hse)) ?_
 refine Qp Mv (Qp Jn (Qp Jn (Qp At (Qp At (Ag (AW.seq (Ah (Qp A0 (Qp Cr ?_)))))))))
 refine Ag (A3 (fun hc1=>?_) fun hc1=>?_)
 ·
  refine Ah (Qp A0 (Qp At (Ag (Dr ?_))))
  refine Qr (Iq _) ?_
  exact Eq.trans rfl (congrArg (fun q:Int=>AV.int .i64 q) (pO hc1)).symm
 ·
  refine Bx (AW.seq (Ah (Qp A0 (Qp Cr (Ag (A3 (fun hc2=>?_) fun hc2=>?_))))))
  ·
   refine Ah (Qp At (Ag (Dr ?_)))
   refine Qr (Iq _) ?_
   exact Eq.trans rfl (congrArg (fun q:Int=>AV.int .i64 q) (oZ hc1 hc2)).symm
  ·
   refine Bx (Ah (Qp At (Ag (AW.ret ?_))))
   refine Qr (Iq _) ?_
   exact Eq.trans rfl (congrArg (fun q:Int=>AV.int .i64 q) (pA hc1 hc2)).symm
theorem Rx (T:List Sc)(V:List Va)(e:Ex)(hk:KOK T V e):Av Tryz.prog 136 [.agg (Co T V),.agg (cE e)] (.bool (Cp T V e)):=by
 refine Av.body (n:=17) Ai Tryz.func136 rfl rfl rfl fun H=>?_
 refine Ah (Qp (F5 [_,_]) (Qp K8 (Qp Be (Ag (AW.seq ?_)))))
 refine AW.draw mixed (fun _=>True) trivial (by kernel_rfl) ?_
 refine Qn 0 rfl Ks (Qn 1 rfl Bs (Qn 2 rfl A5 (Qn 3 rfl Bp (Qo 4 rfl [] Qw (Ck [_,_]) (Qo 5 rfl [] Qw K5 (Qo 6 rfl [(10,_)] Qw Dk ?_))))))
 refine Jv.pure _ _ 7 _ _ rfl (by kernel_rfl) (by kernel_rfl) rfl (.opt _ (.ptr _) [(11,_)] rfl (rX.all ⟨Ent.Aac _ _,trivial⟩) (fun hG=>Af (c:=[Iq _,_,Iq _,Iq _,Iq _,Iq _,Iq _,.str _]) Ai rfl rfl rfl rfl rfl rfl (by decide) (Fp (Nat.lt_of_succ_lt (g9 hk hG)))) rfl) ?_
 refine Qo 8 rfl [(12,_)] Qw D0 ?_
 refine Jv.pure _ _ 9 _ _ rfl (by kernel_rfl) (by kernel_rfl) rfl (.opt _ (Iq _) [(9,_),(13,_)] rfl (rX.all ⟨Ent.Aac _ _,Ent.Aac _ _,trivial⟩) (fun hG=>C7 (by kernel_rfl) rfl rfl (Xx T V _ (A1 hk (A4 (Nat.lt_of_succ_lt (g9 hk hG)))))) rfl) ?_
 refine Qo 10 rfl [(14,_)] Qw A5 (Qn 11 rfl E1 (Qn 12 rfl Be ?_))
 refine Jv.done _ _ (by kernel_rfl) ?_
 refine Ae (AW.ret ?_)
 refine Qr (.bool _) ?_
 rfl
theorem kG (T:List Sc)(V:List Va)(e:Ex)(hk:KOK T V e):Av Tryz.prog 83 [.agg (Co T V),.agg (cE e)] (.bool (Eo T V e)):=by
 refine Av.body (n:=21) Ai Tryz.func83 rfl rfl rfl fun H=>?_
 refine Ah (Qp (F5 [_,_]) (Qp K8 (Qp Be (Ag (AW.seq (Ah (Qp Ks (Qp Bs (Ag ?_)))))))))
 refine AW.block (Ah (Qp A5 (Qp Be (Ag (A3 (fun hc1=>?_) fun hc1=>?_)))))
 ·
  refine AW.seq ?_
  have h2:=l9 hk ‹(e.op==9)=true›
  have h00:0<e.args.length:=by omega
  refine AW.draw mixed (fun _=>True) trivial (by kernel_rfl) ?_
  refine Qn 0 rfl (Ck [_,_]) (Qn 1 rfl K5 (Qn 2 rfl Dk ?_))
  refine Qn 3 rfl (Af (c:=[Iq _,_,Iq _,Iq _,Iq _,Iq _,Iq _,.str _]) Ai rfl rfl rfl rfl rfl rfl (by decide) (Fp h00)) ?_
  refine Qn 4 rfl D0 ?_
  refine Qn 5 rfl (Qc rfl (Xx T V _ (A1 hk (A4 h00)))) ?_
  refine Qn 6 rfl A5 (Qn 7 rfl Be ?_)
  refine Jv.done _ _ (by kernel_rfl) ?_
  refine Ae (AW.ret (Ba (Aj ?_)))
  refine Qr (.bool _) ?_
  first
   | (exfalso;simp_all;done)
   | (simp_all [Ad,Eo];done)
 ·
  refine AW.seq (Ah (Qp A5 (Qp Be (Ag (A3 (fun hc2=>?_) fun hc2=>?_)))))
  ·
   refine Bx (A3 (fun hc3=>?_) fun hc3=>?_)
   ·
    refine Ah (Qp Be (Ag (AW.ret (Ba (Aj ?_)))))
    refine Qr (.bool _) ?_
    first
     | (exfalso;simp_all;done)
     | (simp_all [Ad,Eo];done)
   ·
    refine AW.skip (Bq (Ae (Ah (Qp Be (Ag (AW.ret ?_))))))
    refine Qr (.bool _) ?_
    first
     | (exfalso;simp_all;done)
     | (simp_all [Ad,Eo];done)
  ·
   refine Ah (Qp A5 (Qp Be (Ag (A3 (fun hc4=>?_) fun hc4=>?_))))
   ·
    refine Bx (A3 (fun hc5=>?_) fun hc5=>?_)
    ·
     refine Ah (Qp Be (Ag (AW.ret (Ba (Aj ?_)))))
     refine Qr (.bool _) ?_
     first
      | (exfalso;simp_all;done)
      | (simp_all [Ad,Eo];done)
    ·
     refine AW.skip (Bq (Ae (Ah (Qp Be (Ag (AW.ret ?_))))))
     refine Qr (.bool _) ?_
     first
      | (exfalso;simp_all;done)
      | (simp_all [Ad,Eo];done)
   ·
    refine Ah (Qp A5 (Qp Be (Ag (A3 (fun hc6=>?_) fun hc6=>?_))))
    ·
     refine Bx (A3 (fun hc7=>?_) fun hc7=>?_)
     ·
      refine Ah (Qp Be (Ag (AW.ret (Ba (Aj ?_)))))
      refine Qr (.bool _) ?_
      first
       | (exfalso;simp_all;done)
       | (simp_all [Ad,Eo];done)
     ·
      refine AW.skip (Bq (Ae (Ah (Qp Be (Ag (AW.ret ?_))))))
      refine Qr (.bool _) ?_
      first
       | (exfalso;simp_all;done)
       | (simp_all [Ad,Eo];done)
    ·
     refine AW.region (Qp A5 (Qp Be (Ag (A3 (fun hc8=>?_) fun hc8=>?_))))
     ·
      refine Ah (Qp Be (Ag (AW.ret (Ba (Aj ?_)))))
      refine Qr (.bool _) ?_
      first
       | (exfalso;simp_all;done)
       | (simp_all [Ad,Eo];done)
     ·
      refine AW.skip (Bq (Ae (Ah (Qp Be (Ag (AW.ret ?_))))))
      refine Qr (.bool _) ?_
      first
       | (exfalso;simp_all;done)
       | (simp_all [Ad,Eo];done)

end Go.Proofs.YtkddpedfbicbeaaGreatDoor
