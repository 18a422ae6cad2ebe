/-
  Several texts in one: S43, S44, S45. No condition.
-/
import Derived.Test.YtjedflcpjlgokaaGreatDoorK18
import Derived.Test.YtjedflcpjlgokaaGreatDoorK17
set_option linter.unusedVariables false
set_option linter.unusedSimpArgs false
namespace Go.Proofs.YtjedflcpjlgokaaGreatDoor
open Go Go.Aw

section
variable {T:List Sc} {V:List Va} {env:List (List Ev)}
structure LitF (T:List Sc) (V:List Va) (y:Lit):Prop where
 kok:KOK T V y.cond
 size:Av y.cond≤64
 kind:Ak T V y.cond=1
 eqB:y.cond.op=9→Ak T V (Ap y.cond)≠1
 eqI:y.cond.op=9→Ak T V (Ap y.cond)=0→y.neg=false
theorem Sr {v:Vl}(h:Ao v=0):v.kind=0∨v.kind=1∨v.kind=2:=by
 unfold Ao at h
 split at h
 · rename_i h1;simp at h1;omega
 split at h
 · rename_i h1;simp at h1;omega
 · cases h
theorem sR (hE:EnvOK T V env){e:Ex}(hk:KOK T V e){b:Int}{s:Su}(h:(A5 e b s).2=true):Ak T V e=0∨Ak T V e=1∨Ak T V e=2:=by
 have hz:=A9 hk.nodes
 rcases Ka hz.1 with c | ⟨c,c1⟩ | ⟨c,hl⟩ | ⟨c,c1,c2,c3⟩
 ·
  have h1:Ak T V e=e.val.kind:=by unfold Ak;rw [if_pos (by rw [c];rfl)]
  rw [h1];exact Sr (Nz hz.1 (by simpa using c)).1
 ·
  obtain ⟨_,h2,h3⟩:=Vo hE hk c1
  rw [←h3];exact Sr h2
 ·
  left
  have ho:e.op=5∨e.op=6:=by simpa using c
  unfold Ak
  rw [if_neg (by simp;omega),if_neg (by simp;omega),if_pos (by simp;omega)]
 · rw [Eb c c1 c2 c3] at h;cases h
theorem uC {a b:Ex}(h:(Bu a b).2=true):(A5 a 1 H9).2=true:=by
 unfold Bu at h
 cases h1:(A5 a 1 H9).2 with
 | true=>rfl
 | false=>rw [h1] at h;cases h
theorem bL (hE:EnvOK T V env){y:Lit}(hf:LitF T V y)(ho:(y.cond.op==1)=false)(hn:(Aa T V y).2=true) :
    (y.cond.op=7∨y.cond.op=8∨y.cond.op=9)∧Ak T V (Ap y.cond)=0∧Ak T V (B3 y.cond)=0∧(Bu (Ap y.cond) (B3 y.cond)).2=true∧Aa T V y=Bu (Ap y.cond) (B3 y.cond):=by
  cases h2:(!Cc y.cond||C0 T V y.cond) with
  | true=>rw [bS ho h2] at hn;cases hn
  | false=>
    rw [cD ho h2] at hn
    have hc:=Qu h2
    have hop:y.cond.op=7∨y.cond.op=8∨y.cond.op=9:=by
      unfold Cc at hc
      simp only [Bool.or_eq_true,beq_iff_eq] at hc
      omega
    have ht:C0 T V y.cond=false:=by
      rw [Bool.or_eq_false_iff] at h2;exact h2.2
    have hl:=Wu hf.kok (by omega) (by omega)
    have m0:=Ax (show 0<y.cond.args.length by omega)
    have m1:=Bf (show 1<y.cond.args.length by omega)
    have k0:Ak T V (Ap y.cond)=0:=by
      rcases hop with h | h | h
      · have h1:=Pq hf.kok m0;unfold Mp at h1;rw [h] at h1;simpa using h1
      · have h1:=Pq hf.kok m0;unfold Mp at h1;rw [h] at h1;simpa using h1
      · rcases sR hE (An hf.kok m0) (uC hn) with h3 | h3 | h3
        · exact h3
        · exact absurd h3 (hf.eqB h)
        · unfold C0 at ht
          rw [h,h3] at ht;cases ht
    have k1:Ak T V (B3 y.cond)=0:=by
      rcases hop with h | h | h
      · have h1:=Pq hf.kok m1;unfold Mp at h1;rw [h] at h1;simpa using h1
      · have h1:=Pq hf.kok m1;unfold Mp at h1;rw [h] at h1;simpa using h1
      · rw [Lf hf.kok h m1];exact k0
    exact ⟨hop,k0,k1,hn,cD ho h2⟩
def Pw (p:Int→Int)(b:Bd):Prop:=p b.x-p b.y≤b.most
theorem wH (hE:EnvOK T V env){y:Lit}(hf:LitF T V y)(hn:(Aa T V y).2=true){p:Int→Int}{x z:Int}(hx:p x=eR (Wj env) (Aa T V y).1.plus)(hz:p z=eR (Wj env) (Aa T V y).1.minus) :
    (∀b∈Dk y x z (Aa T V y).1.rest,Pw p b)↔gY env y=true:=by
  cases ho:y.cond.op==1 with
  | true=>
    have h1:y.cond.op=1:=by simpa using ho
    rw [Ys ho] at hx hz ⊢
    obtain ⟨_,h2,h3⟩:=Vo hE hf.kok (by rw [ho];rfl)
    have hb:=Qq h2 (h3.trans hf.kind)
    have hv:Wj env (Dh y.cond)=(vl env y.cond).num:=by unfold Wj;rw [Lw (A9 hf.kok.nodes).1 (by rw [ho];rfl)]
    simp only [eR,List.map_cons,List.map_nil,List.sum_cons,List.sum_nil,hv] at hx hz
    have hnum:(vl env y.cond).num=0∨(vl env y.cond).num=1:=by rw [hb];cases (vl env y.cond).num==1 <;> simp [Fo]
    have ht:tv env y.cond=((vl env y.cond).num==1):=rfl
    unfold gY Dk
    rw [ht]
    cases hneg:y.neg with
    | true=>
      simp only [h1]
      simp only [Pw,List.mem_singleton,forall_eq,beq_self_eq_true,Bool.true_and,Bool.true_or,if_true]
      rw [hx,hz]
      rcases hnum with h | h <;> rw [h] <;> simp
    | false=>
      simp only [h1]
      simp [Pw,hx,hz]
      rcases hnum with h | h <;> rw [h] <;> simp
  | false=>
    obtain ⟨hop,k0,k1,hb,he⟩:=bL hE hf ho hn
    have h1:y.cond.op≠1:=by simpa using ho
    have hl:=Wu hf.kok (by omega) (by omega)
    have m0:=Ax (show 0<y.cond.args.length by omega)
    have m1:=Bf (show 1<y.cond.args.length by omega)
    have hsz:=Da (e:=y.cond) (by omega)
    have hs:=hf.size
    obtain ⟨hv,_,_⟩:=cH hE (An hf.kok m0) (An hf.kok m1) k0 k1 (by omega) hb
    rw [he] at hx hz ⊢
    rw [←hx,←hz] at hv
    unfold gY Dk
    rcases hop with h | h | h
    · rw [uQ hE.suits hf.kok h,h]
      cases hneg:y.neg <;> simp [Pw] <;> omega
    · rw [tw_leq hE.suits hf.kok h,h]
      cases hneg:y.neg <;> simp [Pw] <;> omega
    · rw [Aas hE.suits hf.kok h k0,h,hf.eqI h k0]
      simp [Pw]
      omega
def pv (τ:Tm→Int)(ts:List Tm)(k:Int):Int:=if k≤0 then 0 else ((ts[(k-1).toNat]?).map τ).getD 0
theorem kP:∀{ts:List Tm} {t:Tm},t∈ts→ts[ts.idxOf t]? = some t
  | u::r,t,h=>by
    rw [List.idxOf_cons]
    by_cases e:u=t
    · subst e;simp
    · have h1:(u==t)=false:=by simpa using e
      rw [h1]
      rcases List.mem_cons.1 h with rfl | h
      · exact absurd rfl e
      · simpa using kP h
theorem iZ:∀{ts r:List Tm} {t:Tm},t∈ts→(ts++r).idxOf t=ts.idxOf t
  | u::s,r,t,h=>by
    rw [List.cons_append,List.idxOf_cons,List.idxOf_cons]
    by_cases e:u=t
    · subst e;simp
    · have h1:(u==t)=false:=by simpa using e
      rw [h1]
      rcases List.mem_cons.1 h with rfl | h
      · exact absurd rfl e
      · simp [iZ h]
theorem rT {τ:Tm→Int}{ts l:List Tm}(hl:l.length≤1)(h:∀t∈l,t∈ts):pv τ ts (Bv ts l)=eR τ l:=by
  match l,hl with
  | [],_=>rfl
  | [t],_=>
    have hm:=kP (h t (List.mem_cons_self ..))
    show pv τ ts (((ts.idxOf t:Nat):Int)+1)=_
    unfold pv
    rw [if_neg (by omega),show ((((ts.idxOf t:Nat):Int)+1)-1).toNat=ts.idxOf t by omega,hm]
    simp [eR]
theorem jQ {ts r l:List Tm}(h:∀t∈l,t∈ts):Bv (ts++r) l=Bv ts l:=by
  match l with
  | []=>rfl
  | t::_=>
    show (((ts++r).idxOf t:Nat):Int)+1=_
    rw [iZ (h t (List.mem_cons_self ..))];rfl
theorem Yg (ts l:List Tm):∃r,Ar ts l=ts++r:=by
 unfold Ar
 split
 · exact ⟨[],by simp⟩
 ·
  split
  · exact ⟨[],by simp⟩
  · exact ⟨_,rfl⟩
theorem Xd {ts l:List Tm}(hl:l.length≤1):∀t∈l,t∈Ar ts l:=by
  match l,hl with
  | [],_=>intro t h;cases h
  | [u],_=>
    intro t h
    rw [List.mem_singleton.1 h]
    unfold Ar
    simp only
    split
    · rename_i h1;simpa using h1
    · simp
def My (T:List Sc)(V:List Va)(ts:List Tm)(c:Lit):List Bd:=if (Aa T V c).2 then Dk c (Bv ts (Aa T V c).1.plus) (Bv ts (Aa T V c).1.minus) (Aa T V c).1.rest else []
theorem P7 {c:Lit}(h:(Aa T V c).2=true):(Aa T V c).1.plus.length≤1∧(Aa T V c).1.minus.length≤1:=by
 unfold Aa at h ⊢
 split
 · exact ⟨Nat.le_refl _,Nat.zero_le _⟩
 ·
  rename_i h1
  rw [if_neg h1] at h
  split
  · exact ⟨Nat.zero_le _,Nat.zero_le _⟩
  ·
   rename_i h2
   rw [if_neg h2] at h
   unfold Bu at h ⊢
   split
   · exact ⟨Nat.zero_le _,Nat.zero_le _⟩
   ·
    rename_i h3
    rw [if_neg h3] at h
    split
    · exact ⟨Nat.zero_le _,Nat.zero_le _⟩
    ·
     rename_i h4
     rw [if_neg h4] at h
     unfold Mk at h ⊢
     split
     ·
      rename_i h5
      rw [h5] at h
      simp only [Bool.and_eq_true,decide_eq_true_eq] at h
      exact ⟨by simp only;omega,by simp only;omega⟩
     · exact ⟨Nat.zero_le _,Nat.zero_le _⟩
theorem Ti:∀(l:List Lit) (s:Sy),(∃r,(l.foldl (Cq T V) s).ts=s.ts++r)∧(l.foldl (Cq T V) s).bs=s.bs++l.flatMap (My T V (l.foldl (Cq T V) s).ts)∧
    ∀c∈l,(Aa T V c).2=true→(∀t∈(Aa T V c).1.plus,t∈(l.foldl (Cq T V) s).ts)∧∀t∈(Aa T V c).1.minus,t∈(l.foldl (Cq T V) s).ts
  | [],s=>⟨⟨[],by simp⟩,by simp,fun c h=>by cases h⟩
  | c::r,s=>by
    rw [List.foldl_cons]
    obtain ⟨⟨q,h1⟩,h2,h3⟩:=Ti r (Cq T V s c)
    cases hn:(Aa T V c).2 with
    | false=>
      have hs:Cq T V s c=s:=Jh (by rw [hn];rfl)
      rw [hs] at h1 h2 h3 ⊢
      refine ⟨⟨q,h1⟩,?_,fun d hd hdn=>?_⟩
      · rw [h2,List.flatMap_cons]
        have:My T V (r.foldl (Cq T V) s).ts c = []:=by unfold My;rw [hn];rfl
        rw [this];rfl
      · rcases List.mem_cons.1 hd with rfl | hd
        · rw [hn] at hdn;cases hdn
        · exact h3 d hd hdn
    | true=>
      have hs:=Jc (T:=T) (V:=V) (s:=s) (c:=c) (by rw [hn];rfl)
      obtain ⟨lp,lm⟩:=P7 hn
      obtain ⟨r1,e1⟩:=Yg s.ts (Aa T V c).1.plus
      obtain ⟨r2,e2⟩:=Yg (Ar s.ts (Aa T V c).1.plus) (Aa T V c).1.minus
      have hts:(Cq T V s c).ts=Ar (Ar s.ts (Aa T V c).1.plus) (Aa T V c).1.minus:=by rw [hs]
      have hp:∀t∈(Aa T V c).1.plus,t∈Ar s.ts (Aa T V c).1.plus:=Xd lp
      have hm:∀t∈(Aa T V c).1.minus,t∈Ar (Ar s.ts (Aa T V c).1.plus) (Aa T V c).1.minus:=Xd lm
      have hF:(r.foldl (Cq T V) (Cq T V s c)).ts=Ar s.ts (Aa T V c).1.plus++(r2++q):=by rw [h1,hts,e2,List.append_assoc]
      have hF2:(r.foldl (Cq T V) (Cq T V s c)).ts=Ar (Ar s.ts (Aa T V c).1.plus) (Aa T V c).1.minus++q:=by rw [h1,hts]
      refine ⟨⟨r1++(r2++q),by rw [hF,e1,List.append_assoc]⟩,?_,fun d hd hdn=>?_⟩
      · rw [h2,List.flatMap_cons,←List.append_assoc]
        congr 1
        unfold My
        rw [hn,if_pos rfl]
        have n1:Bv (r.foldl (Cq T V) (Cq T V s c)).ts (Aa T V c).1.plus=Bv (Ar s.ts (Aa T V c).1.plus) (Aa T V c).1.plus:=by rw [hF];exact jQ hp
        have n2:Bv (r.foldl (Cq T V) (Cq T V s c)).ts (Aa T V c).1.minus=Bv (Ar (Ar s.ts (Aa T V c).1.plus) (Aa T V c).1.minus) (Aa T V c).1.minus:=by rw [hF2];exact jQ hm
        rw [n1,n2,hs]
      · rcases List.mem_cons.1 hd with rfl | hd
        · exact ⟨fun t ht=>by rw [hF];exact List.mem_append_left _ (hp t ht),fun t ht=>by rw [hF2];exact List.mem_append_left _ (hm t ht)⟩
        · exact h3 d hd hdn
theorem uZ (hE:EnvOK T V env){l:List Lit}(hf:∀y∈l,LitF T V y):(∀b∈(Bz T V l).bs,Pw (pv (Wj env) (Bz T V l).ts) b)↔∀y∈l,(Aa T V y).2=true→gY env y=true:=by
 obtain ⟨_,h2,h3⟩:=Ti (T:=T) (V:=V) l ⟨[],[]⟩
 have h2':(Bz T V l).bs=l.flatMap (My T V (Bz T V l).ts):=by
  show (l.foldl (Cq T V) ⟨[],[]⟩).bs=_
  rw [h2];rfl
 rw [h2']
 have each:∀y∈l,(Aa T V y).2=true→((∀b∈My T V (Bz T V l).ts y,Pw (pv (Wj env) (Bz T V l).ts) b)↔gY env y=true):=fun y hy hn=>by
  obtain ⟨m1,m2⟩:=h3 y hy hn
  obtain ⟨l1,l2⟩:=P7 hn
  unfold My
  rw [hn,if_pos rfl]
  exact wH hE (hf y hy) hn (rT l1 m1) (rT l2 m2)
 constructor
 ·
  intro h y hy hn
  exact (each y hy hn).1 fun b hb=>h b (List.mem_flatMap.2 ⟨y,hy,hb⟩)
 ·
  intro h b hb
  obtain ⟨y,hy,hb⟩:=List.mem_flatMap.1 hb
  cases hn:(Aa T V y).2 with
  | true=>exact (each y hy hn).2 (h y hy hn) b hb
  | false=>unfold My at hb;rw [hn] at hb;cases hb
end

section
variable {T:List Sc} {V:List Va} {env:List (List Ev)}
def Ht (P:Lit→Prop)(c:Cs):Prop:=∀x∈c.1,∀y∈x,P y
theorem Ek {P:Lit→Prop}{a b:Cs}(ha:Ht P a)(hb:Ht P b):Ht P (Dy a b):=by
 unfold Dy
 split
 · intro x hx;cases hx
 ·
  unfold Kg
  split
  · intro x hx;cases hx
  ·
   intro x hx y hy
   obtain ⟨p,hp,hm⟩:=List.mem_flatMap.1 hx
   obtain ⟨q,hq,rfl⟩:=List.mem_map.1 hm
   rcases List.mem_append.1 hy with h | h
   · exact ha p hp y h
   · exact hb q hq y h
theorem H1 {P:Lit→Prop}{a b:Cs}(ha:Ht P a)(hb:Ht P b):Ht P (Hf a b):=by
 unfold Hf
 split
 · intro x hx;cases hx
 ·
  intro x hx y hy
  rcases List.mem_append.1 hx with h | h
  · exact ha x h y hy
  · exact hb x h y hy
theorem F9 {P:Lit→Prop}{l:List Lit}(h:∀y∈l,P y):Ht P (Dn l):=by
 intro x hx y hy
 unfold Dn at hx
 obtain ⟨z,hz,rfl⟩:=List.mem_map.1 hx
 rw [List.mem_singleton.1 hy]
 exact h z hz
def eqF (T:List Sc)(V:List Va)(y:Lit):Prop:=(y.cond.op=9→Ak T V (Ap y.cond)≠1)∧(y.cond.op=9→Ak T V (Ap y.cond)=0→y.neg=false)
theorem iD (e:Ex):KOK T V e→∀s,Ht (eqF T V) (Bw T V e s):=by
 refine Ex.Aa8 (P:=fun e=>KOK T V e→∀s,Ht (eqF T V) (Bw T V e s)) (fun e ih hk s=>?_) e
 rcases Gz s hk with h | ⟨h,hl⟩ | ⟨h,hl⟩ | ⟨h,hl,h1⟩ | ⟨h,hl,h1,h2⟩ | ⟨_,_,_,h,h9⟩
 ·
  cases h1:((e.val.num==1)==s) with
  | true=>rw [Eh h h1];intro x hx y hy;rw [List.mem_singleton.1 hx] at hy;cases hy
  | false=>rw [Ef h h1];intro x hx;cases hx
 · rw [Ed hl h];exact ih _ (Ax hl) (An hk (Ax hl)) _
 ·
  have m0:=Ax (show 0<e.args.length by omega)
  have m1:=Bf hl
  cases h1:((e.op==10)==s) with
  | true=>rw [Ei hl h h1];exact Ek (ih _ m0 (An hk m0) _) (ih _ m1 (An hk m1) _)
  | false=>rw [Eg hl h h1];exact H1 (ih _ m0 (An hk m0) _) (ih _ m1 (An hk m1) _)
 ·
  have m0:=Ax (show 0<e.args.length by omega)
  have m1:=Bf hl
  have i0:=ih _ m0 (An hk m0)
  have i1:=ih _ m1 (An hk m1)
  rw [Ej hl h h1]
  exact H1 (Ek (i0 _) (i1 _)) (Ek (i0 _) (i1 _))
 ·
  rw [Ee h h1 h2]
  refine F9 fun y hy=>?_
  rcases List.mem_cons.1 hy with rfl | hy
  · exact ⟨fun h=>absurd (show (7:Int)=9 from h) (by decide),fun h=>absurd (show (7:Int)=9 from h) (by decide)⟩
  · rw [List.mem_singleton.1 hy];exact ⟨fun h=>absurd (show (7:Int)=9 from h) (by decide),fun h=>absurd (show (7:Int)=9 from h) (by decide)⟩
 ·
  rw [h]
  refine F9 fun y hy=>?_
  rw [List.mem_singleton.1 hy]
  refine ⟨fun ho=>?_,fun ho h0=>?_⟩
  ·
   have:=(h9 (by simpa using ho)).1
   simpa using this
  ·
   have:=(h9 (by simpa using ho)).2
   rw [h0] at this
   simpa using this
theorem lZ {e:Ex}(hk:KOK T V e)(h1:Ak T V e=1)(hs:Av e≤64)(s:Bool):Ht (LitF T V) (Bw T V e s):=fun x hx y hy=>by
 have a:=Oo e hk s x hx y hy
 have b:=gV e hk h1 s x hx y hy
 have c:=iD e hk s x hx y hy
 exact ⟨a.1,Nat.le_trans a.2 hs,b,c.1,c.2⟩
theorem Q4 {l:List Lit}(h:∀y∈l,LitF T V y):Q9 T V l:=fun y hy=>⟨(h y hy).kok,(h y hy).size⟩
theorem Oq {α:Type}{f:α→Int}:∀{l:List α},(∀x∈l,f x=0)→At f l=0
  | [],_=>rfl
  | a::r,h=>by
    rw [At,if_neg (by rw [h a (List.mem_cons_self ..)];decide)]
    exact Oq fun x hx=>h x (List.mem_cons_of_mem _ hx)
theorem S0 {ts l:List Tm}(h:∀t∈l,t∈ts):0≤Bv ts l∧Bv ts l≤(ts.length:Int):=by
  match l with
  | []=>exact ⟨Int.le_refl _,by show (0:Int)≤_;omega⟩
  | t::r=>
    have:=List.idxOf_lt_length_of_mem (h t (List.mem_cons_self ..))
    show 0≤((ts.idxOf t:Nat):Int)+1∧((ts.idxOf t:Nat):Int)+1≤_
    omega
theorem mV {c:Lit}{x z r:Int}:∀b∈Dk c x z r,(b.x=x∨b.x=z)∧(b.y=x∨b.y=z):=by
 intro b hb
 unfold Dk at hb
 repeat' split at hb
 all_goals
  simp only [List.mem_cons,List.not_mem_nil,or_false] at hb
  rcases hb with rfl | rfl <;> simp
theorem cK:∀(ts:List Tm) (i:Nat),∀b∈Gu T V i ts,0≤b.x∧b.x≤(i:Int)+ts.length∧0≤b.y∧b.y≤(i:Int)+ts.length
  | [],i,b,h=>by cases h
  | t::r,i,b,h=>by
    rw [Gu] at h
    rw [List.length_cons]
    rcases List.mem_cons.1 h with rfl | h
    · simp only;omega
    · rcases List.mem_cons.1 h with rfl | h
      · simp only;omega
      · have:=cK r (i+1) b h;omega
theorem sys_bs (l:List Lit):(Bz T V l).bs=l.flatMap (My T V (Bz T V l).ts):=by
 obtain ⟨_,h2,_⟩:=Ti (T:=T) (V:=V) l ⟨[],[]⟩
 show (l.foldl (Cq T V) ⟨[],[]⟩).bs=_
 rw [h2];rfl
theorem wS (l:List Lit):∀c∈l,(Aa T V c).2=true→(∀t∈(Aa T V c).1.plus,t∈(Bz T V l).ts)∧∀t∈(Aa T V c).1.minus,t∈(Bz T V l).ts:=
 (Ti (T:=T) (V:=V) l ⟨[],[]⟩).2.2
theorem jA (l:List Lit):∀b∈(A7 T V l).bs,0≤b.x∧b.x<(A7 T V l).n∧0≤b.y∧b.y<(A7 T V l).n:=by
  intro b hb
  show 0≤b.x∧b.x<((Bz T V l).ts.length:Int)+1∧0≤b.y∧b.y<((Bz T V l).ts.length:Int)+1
  rcases List.mem_append.1 (show b∈Gu T V 0 (Bz T V l).ts++(Bz T V l).bs from hb) with h | h
  · have:=cK _ _ b h;omega
  · rw [sys_bs] at h
    obtain ⟨c,hc,hb⟩:=List.mem_flatMap.1 h
    cases hn:(Aa T V c).2 with
    | false=>unfold My at hb;rw [hn] at hb;cases hb
    | true=>
      unfold My at hb
      rw [hn,if_pos rfl] at hb
      obtain ⟨m1,m2⟩:=wS l c hc hn
      have r1:=S0 m1
      have r2:=S0 m2
      obtain ⟨h1,h2⟩:=mV b hb
      rcases h1 with h1 | h1 <;> rcases h2 with h2 | h2 <;> omega
theorem N9 {l:List Lit}(hl:Q9 T V l)(hf:Ha (A7 T V l)=true):De (A7 T V l)=0:=by
 unfold Ha at hf
 simp only [Bool.and_eq_true,decide_eq_true_eq] at hf
 have hn:(A7 T V l).n=((Bz T V l).ts.length:Int)+1:=rfl
 unfold De
 rw [if_neg (by simp;omega),if_neg (by simp;omega)]
 refine Oq fun b hb=>?_
 have h1:=jA l b hb
 have h2:=J5 hl b hb
 have hbig:H6=140737488355329:=rfl
 unfold bdE
 rw [if_neg (by simp only [Bool.or_eq_true,decide_eq_true_eq];omega)]
theorem pv_zero (τ:Tm→Int)(ts:List Tm):pv τ ts 0=0:=rfl
theorem pv_at {τ:Tm→Int}{ts:List Tm}{k:Nat}{t:Tm}(h:ts[k]? = some t):pv τ ts ((k:Int)+1)=τ t:=by
 unfold pv
 rw [if_neg (by omega),show (((k:Int)+1)-1).toNat=k by omega,h];rfl
def sg (env:List (List Ev))(x:Wd):Gk:=if x.const then x.text else (vl env (Hs x.field)).text
def wfW (x:Wd):Prop:=(x.const=true→x.field=tm0)∧(x.const=false→x.text = [])
structure StrL (T:List Sc) (V:List Va) (c:Lit):Prop where
 op:c.cond.op=9
 len:c.cond.args.length=2
 d0:(Ap c.cond).op=0∨(Ap c.cond).op=1
 d1:(B3 c.cond).op=0∨(B3 c.cond).op=1
 k0:Ak T V (Ap c.cond)=2
 k1:Ak T V (B3 c.cond)=2
 m0:Ap c.cond∈c.cond.args
 m1:B3 c.cond∈c.cond.args
def wSg (env:List (List Ev))(w:Wm):Prop:=∀p∈w,sg env p.1=sg env p.2
def wWf (w:Wm):Prop:=∀p∈w,wfW p.1∧wfW p.2
end

theorem Uz {bs:List Bd}:∀(m:Nat) (s:Ds×Int),(Do bs (m+1) s).2<0→∃d,Do bs (m+1) s=I8 bs d∧(I8 bs d).2<0
  | 0,s,h=>by
    cases hq:decide ((I8 bs s.1).2<0) with
    | true=>rw [Jb hq] at h ⊢;exact ⟨s.1,rfl,h⟩
    | false=>rw [K7 hq] at h;exact absurd h (of_decide_eq_false hq)
  | m+1,s,h=>by
    cases hq:decide ((I8 bs s.1).2<0) with
    | true=>rw [Jb hq] at h ⊢;exact ⟨s.1,rfl,h⟩
    | false=>rw [K7 hq] at h ⊢;exact Uz m _ h
theorem mG {bs:List Bd}:∀{i:Nat} {s:Ds×Int},(∀b∈bs,0≤b.x)→0≤s.2→0≤(Gi i bs s).2:=by
  induction bs with
  | nil=>intro i s _ h;exact h
  | cons b r ih=>
    intro i s hb h
    rw [Gi]
    refine ih (fun x hx=>hb x (List.mem_cons_of_mem _ hx)) ?_
    cases hq:decide (C5 s.1.sums b.y+b.most<C5 s.1.sums b.x) with
    | false=>rw [R4 hq];exact h
    | true=>rw [Mb hq];exact hb b (List.mem_cons_self ..)
theorem sQ:∀(bs:List Bd) (i:Nat) (s:Ds×Int),(∀b∈bs,0≤b.x)→(Gi i bs s).2<0→Gi i bs s=s∧FixF (gf s.1.sums) bs
  | [],i,s,_,h=>⟨rfl,fun b hb=>by cases hb⟩
  | b::r,i,s,hb,h=>by
    have hr:∀x∈r,0≤x.x:=fun x hx=>hb x (List.mem_cons_of_mem _ hx)
    rw [Gi] at h ⊢
    cases hq:decide (C5 s.1.sums b.y+b.most<C5 s.1.sums b.x) with
    | true=>
      rw [Mb hq] at h
      have:=mG (i:=i+1) (s:=(⟨s.1.sums.set b.x.toNat (C5 s.1.sums b.y+b.most),s.1.last.set b.x.toNat (i:Int)⟩,b.x)) hr (hb b (List.mem_cons_self ..))
      omega
    | false=>
      rw [R4 hq] at h ⊢
      obtain ⟨h1,h2⟩:=sQ r (i+1) s hr h
      refine ⟨h1,fun c hc=>?_⟩
      rcases List.mem_cons.1 hc with rfl | hc
      · have h3:=of_decide_eq_false hq
        have h4:¬(gf s.1.sums c.y.toNat+c.most<gf s.1.sums c.x.toNat):=h3
        omega
      · exact h2 c hc
theorem oD {n:Nat}{bs:List Bd}(hm:∀b∈bs,-H6≤b.most∧b.most≤H6)(h:(Bl (zn n bs)).ok=true) :
    (Bl (zn n bs)).values.length=n∧C5 (Bl (zn n bs)).values 0=0∧∀b∈bs,Pw (C5 (Bl (zn n bs)).values) b:=by
  cases hz:De (zn n bs) != 0 with
  | true=>rw [Th hz] at h;cases h
  | false=>
    cases he:decide ((Cy (zn n bs)).2<0) with
    | false=>rw [L3 hz he] at h;cases h
    | true=>
      have hk:=cY hz hm
      have hs:=(aO hk).s
      rw [L9 hz he]
      simp only [List.length_map]
      have he':=of_decide_eq_true he
      rw [Ls] at he'
      obtain ⟨d,h1,h2⟩:=Uz n _ he'
      obtain ⟨h3,h4⟩:=sQ bs 0 (d,-1) (fun b hb=>(hk.bd b hb).1) h2
      rw [←Ls] at h1
      have h5:(Cy (zn n bs)).1=d:=by rw [h1];show (Gi 0 bs (d,-1)).1=d;rw [h3]
      rw [h5] at hs ⊢
      have hix:∀k:Int,0≤k→k<(n:Int)→C5 (d.sums.map fun v=>v-C5 d.sums 0) k=C5 d.sums k-C5 d.sums 0:=fun k k0 k1=>by
        have hlt:k.toNat<d.sums.length:=by omega
        have hg:=List.getElem?_eq_getElem hlt
        show ((d.sums.map fun v=>v-C5 d.sums 0)[k.toNat]?).getD 0=(d.sums[k.toNat]?).getD 0-C5 d.sums 0
        rw [List.getElem?_map,hg];rfl
      have hn:=hk.n1
      refine ⟨hs,?_,fun b hb=>?_⟩
      · rw [hix 0 (by omega) (by omega)];omega
      · have hb2:=hk.bd b hb
        have h6:=h4 b hb
        have h7:C5 d.sums b.x≤C5 d.sums b.y+b.most:=h6
        show C5 _ b.x-C5 _ b.y≤b.most
        rw [hix b.x hb2.1 hb2.2.1,hix b.y hb2.2.2.1 hb2.2.2.2]
        omega
inductive Root (w:Wm):Wd→Wd→Prop
 | here {x:Wd}:Il w x=none→Root w x x
 | step {x y r:Wd}:Il w x=some y→Root w y r→Root w x r
def sameW (w:Wm)(x y:Wd):Prop:=Df w x=Df w y
section
variable {T:List Sc} {V:List Va}
structure wGood (W:Wd→Prop) (w:Wm):Prop where
 key:∀p∈w,p.1.const=false
 val:∀p∈w,W p.2
end
end Go.Proofs.YtjedflcpjlgokaaGreatDoor
