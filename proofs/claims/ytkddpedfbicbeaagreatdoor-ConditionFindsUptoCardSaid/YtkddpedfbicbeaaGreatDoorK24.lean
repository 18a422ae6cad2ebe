/-
  Several texts in one: S43, S44. No condition.
-/
import Derived.Test.YtkddpedfbicbeaaGreatDoorK23
import Derived.Test.YtkddpedfbicbeaaGreatDoorK21
set_option linter.unusedVariables false
set_option linter.unusedSimpArgs false
namespace Go.Proofs.YtkddpedfbicbeaaGreatDoor
open Go Go.Aw

section
variable {T:List Sc} {V:List Va} {env:List (List Ev)}
/-- the forms that clauses hold -/
structure LitF (T:List Sc) (V:List Va) (y:Lit):Prop where
 kok:KOK T V y.cond
 size:Ar y.cond≤64
 kind:Am T V y.cond=1
 eqB:y.cond.op=9→Am T V (Ao y.cond)≠1
 eqI:y.cond.op=9→Am T V (Ao y.cond)=0→y.neg=false
theorem Oh {v:Vl}(h:Ap v=0):v.kind=0∨v.kind=1∨v.kind=2:=by
 unfold Ap at h
 split at h
 · rename_i h1;simp at h1;omega
 split at h
 · rename_i h1;simp at h1;omega
 · cases h
theorem yX (hE:EnvOK T V env){e:Ex}(hk:KOK T V e){b:Int}{s:Su}(h:(Bn e b s).2=true):Am T V e=0∨Am T V e=1∨Am T V e=2:=by
 have hz:=Bb hk.nodes
 rcases Pi hz.1 with c | ⟨c,c1⟩ | ⟨c,hl⟩ | ⟨c,c1,c2,c3⟩
 ·
  have h1:Am T V e=e.val.kind:=by unfold Am;rw [if_pos (by rw [c];rfl)]
  rw [h1];exact Oh (H6 hz.1 (by simpa using c)).1
 ·
  obtain ⟨_,h2,h3⟩:=O4 hE hk c1
  rw [←h3];exact Oh h2
 ·
  left
  have ho:e.op=5∨e.op=6:=by simpa using c
  unfold Am
  rw [if_neg (by simp;omega),if_neg (by simp;omega),if_pos (by simp;omega)]
 · rw [Gt c c1 c2 c3] at h;cases h
theorem btw_lin {a b:Ex}(h:(Ch a b).2=true):(Bn a 1 Kr).2=true:=by
 unfold Ch at h
 cases h1:(Bn a 1 Kr).2 with
 | true=>rfl
 | false=>rw [h1] at h;cases h
theorem jJ (hE:EnvOK T V env){y:Lit}(hf:LitF T V y)(ho:(y.cond.op==1)=false)(hn:(Aa T V y).2=true) :
    (y.cond.op=7∨y.cond.op=8∨y.cond.op=9)∧Am T V (Ao y.cond)=0∧Am T V (Bg y.cond)=0∧(Ch (Ao y.cond) (Bg y.cond)).2=true∧Aa T V y=Ch (Ao y.cond) (Bg y.cond):=by
  cases h2:(!Cu y.cond||Cp T V y.cond) with
  | true=>rw [oC ho h2] at hn;cases hn
  | false=>
    rw [Zv ho h2] at hn
    have hc:=V2 h2
    have hop:y.cond.op=7∨y.cond.op=8∨y.cond.op=9:=by
      unfold Cu at hc
      simp only [Bool.or_eq_true,beq_iff_eq] at hc
      omega
    have ht:Cp T V y.cond=false:=by
      rw [Bool.or_eq_false_iff] at h2;exact h2.2
    have hl:=iU hf.kok (by omega) (by omega)
    have m0:=A4 (show 0<y.cond.args.length by omega)
    have m1:=Bi (show 1<y.cond.args.length by omega)
    have k0:Am T V (Ao y.cond)=0:=by
      rcases hop with h | h | h
      · have h1:=Ot hf.kok m0;unfold Mo at h1;rw [h] at h1;simpa using h1
      · have h1:=Ot hf.kok m0;unfold Mo at h1;rw [h] at h1;simpa using h1
      · rcases yX hE (A1 hf.kok m0) (btw_lin hn) with h3 | h3 | h3
        · exact h3
        · exact absurd h3 (hf.eqB h)
        · unfold Cp at ht
          rw [h,h3] at ht;cases ht
    have k1:Am T V (Bg y.cond)=0:=by
      rcases hop with h | h | h
      · have h1:=Ot hf.kok m1;unfold Mo at h1;rw [h] at h1;simpa using h1
      · have h1:=Ot hf.kok m1;unfold Mo at h1;rw [h] at h1;simpa using h1
      · rw [Ik hf.kok h m1];exact k0
    exact ⟨hop,k0,k1,hn,Zv ho h2⟩
def Uj (p:Int→Int)(b:Bd):Prop:=p b.x-p b.y≤b.most
theorem lit_iff (hE:EnvOK T V env){y:Lit}(hf:LitF T V y)(hn:(Aa T V y).2=true){p:Int→Int}{x z:Int}(hx:p x=gL (Ty env) (Aa T V y).1.plus)(hz:p z=gL (Ty env) (Aa T V y).1.minus) :
    (∀b∈D6 y x z (Aa T V y).1.rest,Uj p b)↔Pa env y=true:=by
  cases ho:y.cond.op==1 with
  | true=>
    have h1:y.cond.op=1:=by simpa using ho
    rw [Zp ho] at hx hz ⊢
    obtain ⟨_,h2,h3⟩:=O4 hE hf.kok (by rw [ho];rfl)
    have hb:=E7 h2 (h3.trans hf.kind)
    have hv:Ty env (D1 y.cond)=(vl env y.cond).num:=by unfold Ty;rw [K1 (Bb hf.kok.nodes).1 (by rw [ho];rfl)]
    simp only [gL,List.map_cons,List.map_nil,List.sum_cons,List.sum_nil,hv] at hx hz
    have hnum:(vl env y.cond).num=0∨(vl env y.cond).num=1:=by rw [hb];cases (vl env y.cond).num==1 <;> simp [D3]
    have ht:tv env y.cond=((vl env y.cond).num==1):=rfl
    unfold Pa D6
    rw [ht]
    cases hneg:y.neg with
    | true=>
      simp only [h1]
      simp only [Uj,List.mem_singleton,forall_eq,beq_self_eq_true,Bool.true_and,Bool.true_or,if_true]
      rw [hx,hz]
      rcases hnum with h | h <;> rw [h] <;> simp
    | false=>
      simp only [h1]
      simp [Uj,hx,hz]
      rcases hnum with h | h <;> rw [h] <;> simp
  | false=>
    obtain ⟨hop,k0,k1,hb,he⟩:=jJ hE hf ho hn
    have h1:y.cond.op≠1:=by simpa using ho
    have hl:=iU hf.kok (by omega) (by omega)
    have m0:=A4 (show 0<y.cond.args.length by omega)
    have m1:=Bi (show 1<y.cond.args.length by omega)
    have hsz:=Dx (e:=y.cond) (by omega)
    have hs:=hf.size
    obtain ⟨hv,_,_⟩:=iI hE (A1 hf.kok m0) (A1 hf.kok m1) k0 k1 (by omega) hb
    rw [he] at hx hz ⊢
    rw [←hx,←hz] at hv
    unfold Pa D6
    rcases hop with h | h | h
    · rw [Td hE.suits hf.kok h,h]
      cases hneg:y.neg <;> simp [Uj] <;> omega
    · rw [kV hE.suits hf.kok h,h]
      cases hneg:y.neg <;> simp [Uj] <;> omega
    · rw [wU hE.suits hf.kok h k0,h,hf.eqI h k0]
      simp [Uj]
      omega
/-! ### The system of a clause -/
def pv (τ:Tm→Int)(ts:List Tm)(k:Int):Int:=if k≤0 then 0 else ((ts[(k-1).toNat]?).map τ).getD 0
theorem oW:∀{ts:List Tm} {t:Tm},t∈ts→ts[ts.idxOf t]? = some t
  | u::r,t,h=>by
    rw [List.idxOf_cons]
    by_cases e:u=t
    · subst e;simp
    · have h1:(u==t)=false:=by simpa using e
      rw [h1]
      rcases List.mem_cons.1 h with rfl | h
      · exact absurd rfl e
      · simpa using oW h
theorem mW:∀{ts r:List Tm} {t:Tm},t∈ts→(ts++r).idxOf t=ts.idxOf t
  | u::s,r,t,h=>by
    rw [List.cons_append,List.idxOf_cons,List.idxOf_cons]
    by_cases e:u=t
    · subst e;simp
    · have h1:(u==t)=false:=by simpa using e
      rw [h1]
      rcases List.mem_cons.1 h with rfl | h
      · exact absurd rfl e
      · simp [mW h]
theorem xF {τ:Tm→Int}{ts l:List Tm}(hl:l.length≤1)(h:∀t∈l,t∈ts):pv τ ts (B4 ts l)=gL τ l:=by
  match l,hl with
  | [],_=>rfl
  | [t],_=>
    have hm:=oW (h t (List.mem_cons_self ..))
    show pv τ ts (((ts.idxOf t:Nat):Int)+1)=_
    unfold pv
    rw [if_neg (by omega),show ((((ts.idxOf t:Nat):Int)+1)-1).toNat=ts.idxOf t by omega,hm]
    simp [gL]
theorem pN {ts r l:List Tm}(h:∀t∈l,t∈ts):B4 (ts++r) l=B4 ts l:=by
  match l with
  | []=>rfl
  | t::_=>
    show (((ts++r).idxOf t:Nat):Int)+1=_
    rw [mW (h t (List.mem_cons_self ..))];rfl
theorem Z6 (ts l:List Tm):∃r,A2 ts l=ts++r:=by
 unfold A2
 split
 · exact ⟨[],by simp⟩
 ·
  split
  · exact ⟨[],by simp⟩
  · exact ⟨_,rfl⟩
theorem Zx {ts l:List Tm}(hl:l.length≤1):∀t∈l,t∈A2 ts l:=by
  match l,hl with
  | [],_=>intro t h;cases h
  | [u],_=>
    intro t h
    rw [List.mem_singleton.1 h]
    unfold A2
    simp only
    split
    · rename_i h1;simpa using h1
    · simp
def O3 (T:List Sc)(V:List Va)(ts:List Tm)(c:Lit):List Bd:=if (Aa T V c).2 then D6 c (B4 ts (Aa T V c).1.plus) (B4 ts (Aa T V c).1.minus) (Aa T V c).1.rest else []
theorem fG {c:Lit}(h:(Aa T V c).2=true):(Aa T V c).1.plus.length≤1∧(Aa T V c).1.minus.length≤1:=by
 unfold Aa at h ⊢
 split
 · exact ⟨Nat.le_refl _,Nat.zero_le _⟩
 ·
  rename_i h1
  rw [if_neg h1] at h
  split
  · exact ⟨Nat.zero_le _,Nat.zero_le _⟩
  ·
   rename_i h2
   rw [if_neg h2] at h
   unfold Ch at h ⊢
   split
   · exact ⟨Nat.zero_le _,Nat.zero_le _⟩
   ·
    rename_i h3
    rw [if_neg h3] at h
    split
    · exact ⟨Nat.zero_le _,Nat.zero_le _⟩
    ·
     rename_i h4
     rw [if_neg h4] at h
     unfold S0 at h ⊢
     split
     ·
      rename_i h5
      rw [h5] at h
      simp only [Bool.and_eq_true,decide_eq_true_eq] at h
      exact ⟨by simp only;omega,by simp only;omega⟩
     · exact ⟨Nat.zero_le _,Nat.zero_le _⟩
theorem V9:∀(l:List Lit) (s:Sy),(∃r,(l.foldl (Dd T V) s).ts=s.ts++r)∧(l.foldl (Dd T V) s).bs=s.bs++l.flatMap (O3 T V (l.foldl (Dd T V) s).ts)∧
    ∀c∈l,(Aa T V c).2=true→(∀t∈(Aa T V c).1.plus,t∈(l.foldl (Dd T V) s).ts)∧∀t∈(Aa T V c).1.minus,t∈(l.foldl (Dd T V) s).ts
  | [],s=>⟨⟨[],by simp⟩,by simp,fun c h=>by cases h⟩
  | c::r,s=>by
    rw [List.foldl_cons]
    obtain ⟨⟨q,h1⟩,h2,h3⟩:=V9 r (Dd T V s c)
    cases hn:(Aa T V c).2 with
    | false=>
      have hs:Dd T V s c=s:=Le (by rw [hn];rfl)
      rw [hs] at h1 h2 h3 ⊢
      refine ⟨⟨q,h1⟩,?_,fun d hd hdn=>?_⟩
      · rw [h2,List.flatMap_cons]
        have:O3 T V (r.foldl (Dd T V) s).ts c = []:=by unfold O3;rw [hn];rfl
        rw [this];rfl
      · rcases List.mem_cons.1 hd with rfl | hd
        · rw [hn] at hdn;cases hdn
        · exact h3 d hd hdn
    | true=>
      have hs:=Lo (T:=T) (V:=V) (s:=s) (c:=c) (by rw [hn];rfl)
      obtain ⟨lp,lm⟩:=fG hn
      obtain ⟨r1,e1⟩:=Z6 s.ts (Aa T V c).1.plus
      obtain ⟨r2,e2⟩:=Z6 (A2 s.ts (Aa T V c).1.plus) (Aa T V c).1.minus
      have hts:(Dd T V s c).ts=A2 (A2 s.ts (Aa T V c).1.plus) (Aa T V c).1.minus:=by rw [hs]
      have hp:∀t∈(Aa T V c).1.plus,t∈A2 s.ts (Aa T V c).1.plus:=Zx lp
      have hm:∀t∈(Aa T V c).1.minus,t∈A2 (A2 s.ts (Aa T V c).1.plus) (Aa T V c).1.minus:=Zx lm
      have hF:(r.foldl (Dd T V) (Dd T V s c)).ts=A2 s.ts (Aa T V c).1.plus++(r2++q):=by rw [h1,hts,e2,List.append_assoc]
      have hF2:(r.foldl (Dd T V) (Dd T V s c)).ts=A2 (A2 s.ts (Aa T V c).1.plus) (Aa T V c).1.minus++q:=by rw [h1,hts]
      refine ⟨⟨r1++(r2++q),by rw [hF,e1,List.append_assoc]⟩,?_,fun d hd hdn=>?_⟩
      · rw [h2,List.flatMap_cons,←List.append_assoc]
        congr 1
        unfold O3
        rw [hn,if_pos rfl]
        have n1:B4 (r.foldl (Dd T V) (Dd T V s c)).ts (Aa T V c).1.plus=B4 (A2 s.ts (Aa T V c).1.plus) (Aa T V c).1.plus:=by rw [hF];exact pN hp
        have n2:B4 (r.foldl (Dd T V) (Dd T V s c)).ts (Aa T V c).1.minus=B4 (A2 (A2 s.ts (Aa T V c).1.plus) (Aa T V c).1.minus) (Aa T V c).1.minus:=by rw [hF2];exact pN hm
        rw [n1,n2,hs]
      · rcases List.mem_cons.1 hd with rfl | hd
        · exact ⟨fun t ht=>by rw [hF];exact List.mem_append_left _ (hp t ht),fun t ht=>by rw [hF2];exact List.mem_append_left _ (hm t ht)⟩
        · exact h3 d hd hdn
/-- the bounds of the literals hold exactly if the literals with numbers are true -/
theorem nQ (hE:EnvOK T V env){l:List Lit}(hf:∀y∈l,LitF T V y):(∀b∈(Cg T V l).bs,Uj (pv (Ty env) (Cg T V l).ts) b)↔∀y∈l,(Aa T V y).2=true→Pa env y=true:=by
 obtain ⟨_,h2,h3⟩:=V9 (T:=T) (V:=V) l ⟨[],[]⟩
 have h2':(Cg T V l).bs=l.flatMap (O3 T V (Cg T V l).ts):=by
  show (l.foldl (Dd T V) ⟨[],[]⟩).bs=_
  rw [h2];rfl
 rw [h2']
 have each:∀y∈l,(Aa T V y).2=true→((∀b∈O3 T V (Cg T V l).ts y,Uj (pv (Ty env) (Cg T V l).ts) b)↔Pa env y=true):=fun y hy hn=>by
  obtain ⟨m1,m2⟩:=h3 y hy hn
  obtain ⟨l1,l2⟩:=fG hn
  unfold O3
  rw [hn,if_pos rfl]
  exact lit_iff hE (hf y hy) hn (xF l1 m1) (xF l2 m2)
 constructor
 ·
  intro h y hy hn
  exact (each y hy hn).1 fun b hb=>h b (List.mem_flatMap.2 ⟨y,hy,hb⟩)
 ·
  intro h b hb
  obtain ⟨y,hy,hb⟩:=List.mem_flatMap.1 hb
  cases hn:(Aa T V y).2 with
  | true=>exact (each y hy hn).2 (h y hy hn) b hb
  | false=>unfold O3 at hb;rw [hn] at hb;cases hb
end

section
variable {T:List Sc} {V:List Va} {env:List (List Ev)}
/-! ### the forms of clauses -/
def H4 (P:Lit→Prop)(c:Cs):Prop:=∀x∈c.1,∀y∈x,P y
theorem Jl {P:Lit→Prop}{a b:Cs}(ha:H4 P a)(hb:H4 P b):H4 P (El a b):=by
 unfold El
 split
 · intro x hx;cases hx
 ·
  unfold Mc
  split
  · intro x hx;cases hx
  ·
   intro x hx y hy
   obtain ⟨p,hp,hm⟩:=List.mem_flatMap.1 hx
   obtain ⟨q,hq,rfl⟩:=List.mem_map.1 hm
   rcases List.mem_append.1 hy with h | h
   · exact ha p hp y h
   · exact hb q hq y h
theorem Vf {P:Lit→Prop}{a b:Cs}(ha:H4 P a)(hb:H4 P b):H4 P (Jf a b):=by
 unfold Jf
 split
 · intro x hx;cases hx
 ·
  intro x hx y hy
  rcases List.mem_append.1 hx with h | h
  · exact ha x h y hy
  · exact hb x h y hy
theorem Q1 {P:Lit→Prop}{l:List Lit}(h:∀y∈l,P y):H4 P (Eg l):=by
 intro x hx y hy
 unfold Eg at hx
 obtain ⟨z,hz,rfl⟩:=List.mem_map.1 hx
 rw [List.mem_singleton.1 hy]
 exact h z hz
def eqF (T:List Sc)(V:List Va)(y:Lit):Prop:=(y.cond.op=9→Am T V (Ao y.cond)≠1)∧(y.cond.op=9→Am T V (Ao y.cond)=0→y.neg=false)
theorem mC (e:Ex):KOK T V e→∀s,H4 (eqF T V) (Da T V e s):=by
 refine Ex.Aak (P:=fun e=>KOK T V e→∀s,H4 (eqF T V) (Da T V e s)) (fun e ih hk s=>?_) e
 rcases Ls s hk with h | ⟨h,hl⟩ | ⟨h,hl⟩ | ⟨h,hl,h1⟩ | ⟨h,hl,h1,h2⟩ | ⟨_,_,_,h,h9⟩
 ·
  cases h1:((e.val.num==1)==s) with
  | true=>rw [Gg h h1];intro x hx y hy;rw [List.mem_singleton.1 hx] at hy;cases hy
  | false=>rw [Gr h h1];intro x hx;cases hx
 · rw [Gd hl h];exact ih _ (A4 hl) (A1 hk (A4 hl)) _
 ·
  have m0:=A4 (show 0<e.args.length by omega)
  have m1:=Bi hl
  cases h1:((e.op==10)==s) with
  | true=>rw [Gk hl h h1];exact Jl (ih _ m0 (A1 hk m0) _) (ih _ m1 (A1 hk m1) _)
  | false=>rw [Gq hl h h1];exact Vf (ih _ m0 (A1 hk m0) _) (ih _ m1 (A1 hk m1) _)
 ·
  have m0:=A4 (show 0<e.args.length by omega)
  have m1:=Bi hl
  have i0:=ih _ m0 (A1 hk m0)
  have i1:=ih _ m1 (A1 hk m1)
  rw [Gb hl h h1]
  exact Vf (Jl (i0 _) (i1 _)) (Jl (i0 _) (i1 _))
 ·
  rw [Gl h h1 h2]
  refine Q1 fun y hy=>?_
  rcases List.mem_cons.1 hy with rfl | hy
  · exact ⟨fun h=>absurd (show (7:Int)=9 from h) (by decide),fun h=>absurd (show (7:Int)=9 from h) (by decide)⟩
  · rw [List.mem_singleton.1 hy];exact ⟨fun h=>absurd (show (7:Int)=9 from h) (by decide),fun h=>absurd (show (7:Int)=9 from h) (by decide)⟩
 ·
  rw [h]
  refine Q1 fun y hy=>?_
  rw [List.mem_singleton.1 hy]
  refine ⟨fun ho=>?_,fun ho h0=>?_⟩
  ·
   have:=(h9 (by simpa using ho)).1
   simpa using this
  ·
   have:=(h9 (by simpa using ho)).2
   rw [h0] at this
   simpa using this
theorem rA {e:Ex}(hk:KOK T V e)(h1:Am T V e=1)(hs:Ar e≤64)(s:Bool):H4 (LitF T V) (Da T V e s):=fun x hx y hy=>by
 have a:=Py e hk s x hx y hy
 have b:=kP e hk h1 s x hx y hy
 have c:=mC e hk s x hx y hy
 exact ⟨a.1,Nat.le_trans a.2 hs,b,c.1,c.2⟩
theorem Yd {l:List Lit}(h:∀y∈l,LitF T V y):Ve T V l:=fun y hy=>⟨(h y hy).kok,(h y hy).size⟩
/-! ### zones -/
theorem Ua {α:Type}{f:α→Int}:∀{l:List α},(∀x∈l,f x=0)→Aq f l=0
  | [],_=>rfl
  | a::r,h=>by
    rw [Aq,if_neg (by rw [h a (List.mem_cons_self ..)];decide)]
    exact Ua fun x hx=>h x (List.mem_cons_of_mem _ hx)
theorem U9 {ts l:List Tm}(h:∀t∈l,t∈ts):0≤B4 ts l∧B4 ts l≤(ts.length:Int):=by
  match l with
  | []=>exact ⟨Int.le_refl _,by show (0:Int)≤_;omega⟩
  | t::r=>
    have:=List.idxOf_lt_length_of_mem (h t (List.mem_cons_self ..))
    show 0≤((ts.idxOf t:Nat):Int)+1∧((ts.idxOf t:Nat):Int)+1≤_
    omega
theorem qZ {c:Lit}{x z r:Int}:∀b∈D6 c x z r,(b.x=x∨b.x=z)∧(b.y=x∨b.y=z):=by
 intro b hb
 unfold D6 at hb
 repeat' split at hb
 all_goals
  simp only [List.mem_cons,List.not_mem_nil,or_false] at hb
  rcases hb with rfl | rfl <;> simp
theorem eX:∀(ts:List Tm) (i:Nat),∀b∈Hl T V i ts,0≤b.x∧b.x≤(i:Int)+ts.length∧0≤b.y∧b.y≤(i:Int)+ts.length
  | [],i,b,h=>by cases h
  | t::r,i,b,h=>by
    rw [Hl] at h
    rw [List.length_cons]
    rcases List.mem_cons.1 h with rfl | h
    · simp only;omega
    · rcases List.mem_cons.1 h with rfl | h
      · simp only;omega
      · have:=eX r (i+1) b h;omega
theorem sys_bs (l:List Lit):(Cg T V l).bs=l.flatMap (O3 T V (Cg T V l).ts):=by
 obtain ⟨_,h2,_⟩:=V9 (T:=T) (V:=V) l ⟨[],[]⟩
 show (l.foldl (Dd T V) ⟨[],[]⟩).bs=_
 rw [h2];rfl
theorem sys_has (l:List Lit):∀c∈l,(Aa T V c).2=true→(∀t∈(Aa T V c).1.plus,t∈(Cg T V l).ts)∧∀t∈(Aa T V c).1.minus,t∈(Cg T V l).ts:=
 (V9 (T:=T) (V:=V) l ⟨[],[]⟩).2.2
theorem nU (l:List Lit):∀b∈(C5 T V l).bs,0≤b.x∧b.x<(C5 T V l).n∧0≤b.y∧b.y<(C5 T V l).n:=by
  intro b hb
  show 0≤b.x∧b.x<((Cg T V l).ts.length:Int)+1∧0≤b.y∧b.y<((Cg T V l).ts.length:Int)+1
  rcases List.mem_append.1 (show b∈Hl T V 0 (Cg T V l).ts++(Cg T V l).bs from hb) with h | h
  · have:=eX _ _ b h;omega
  · rw [sys_bs] at h
    obtain ⟨c,hc,hb⟩:=List.mem_flatMap.1 h
    cases hn:(Aa T V c).2 with
    | false=>unfold O3 at hb;rw [hn] at hb;cases hb
    | true=>
      unfold O3 at hb
      rw [hn,if_pos rfl] at hb
      obtain ⟨m1,m2⟩:=sys_has l c hc hn
      have r1:=U9 m1
      have r2:=U9 m2
      obtain ⟨h1,h2⟩:=qZ b hb
      rcases h1 with h1 | h1 <;> rcases h2 with h2 | h2 <;> omega
theorem qI {l:List Lit}(hl:Ve T V l)(hf:I8 (C5 T V l)=true):I4 (C5 T V l)=0:=by
 unfold I8 at hf
 simp only [Bool.and_eq_true,decide_eq_true_eq] at hf
 have hn:(C5 T V l).n=((Cg T V l).ts.length:Int)+1:=rfl
 unfold I4
 rw [if_neg (by simp;omega),if_neg (by simp;omega)]
 refine Ua fun b hb=>?_
 have h1:=nU l b hb
 have h2:=P9 hl b hb
 have hbig:Jo=140737488355329:=rfl
 unfold bdE
 rw [if_neg (by simp only [Bool.or_eq_true,decide_eq_true_eq];omega)]
/-! ### limits -/
theorem sU {v:Vl}(h:Ap v=0) : -1099511627776≤v.num∧v.num≤1099511627776:=by
 rcases Oh h with h1 | h1 | h1
 · exact T3 h (.inl h1)
 · exact T3 h (.inr h1)
 ·
  unfold Ap at h
  rw [if_neg (by rw [h1];decide),if_pos (by rw [h1];rfl)] at h
  split at h
  · cases h
  ·
   rename_i h2
   have:v.num=0:=by simpa using h2
   omega
theorem vB (hE:EnvOK T V env){t:Tm}(hk:KOK T V (Hn t))(ho:t.op=1∨t.op=2):(C0 T V t).1≤Ty env t∧Ty env t≤(C0 T V t).2:=by
  obtain ⟨h1,h2,h3⟩:=O4 hE hk (show ((Hn t).op==1||(Hn t).op==2)=true by show (t.op==1||t.op==2)=true;simpa using ho)
  have hr:=sU h2
  cases h:t.op==2 with
  | true=>rw [yP h];exact h1 h
  | false=>
    cases hb:Am T V (Hn t)==1 with
    | true=>
      rw [vR h hb]
      have hb':Am T V (Hn t)=1:=by simpa using hb
      have:=E7 h2 (h3.trans hb')
      have hnum:(vl env (Hn t)).num=0∨(vl env (Hn t)).num=1:=by rw [this];cases (vl env (Hn t)).num==1 <;> simp [D3]
      show (0:Int)≤(vl env (Hn t)).num∧(vl env (Hn t)).num≤1
      omega
    | false=>rw [tU h hb];exact hr
theorem pv_zero (τ:Tm→Int)(ts:List Tm):pv τ ts 0=0:=rfl
theorem pv_at {τ:Tm→Int}{ts:List Tm}{k:Nat}{t:Tm}(h:ts[k]? = some t):pv τ ts ((k:Int)+1)=τ t:=by
 unfold pv
 rw [if_neg (by omega),show (((k:Int)+1)-1).toNat=k by omega,h];rfl
theorem Z1 {p:Int→Int}{τ:Tm→Int}(h0:p 0=0):∀(ts:List Tm) (i:Nat),(∀(k:Nat) (t:Tm),ts[k]? = some t→p ((i:Int)+k+1)=τ t)→(∀t∈ts,(C0 T V t).1≤τ t∧τ t≤(C0 T V t).2)→∀b∈Hl T V i ts,Uj p b
  | [],i,_,_,b,h=>by cases h
  | t::r,i,hp,hl,b,h=>by
    have h1:=hp 0 t rfl
    have h2:=hl t (List.mem_cons_self ..)
    rw [show (i:Int)+((0:Nat):Int)+1=(i:Int)+1 by omega] at h1
    rw [Hl] at h
    rcases List.mem_cons.1 h with rfl | h
    · show p ((i:Int)+1)-p 0≤_;rw [h0,h1];simp only;omega
    · rcases List.mem_cons.1 h with rfl | h
      · show p 0-p ((i:Int)+1)≤_;rw [h0,h1];simp only;omega
      · refine Z1 h0 r (i+1) (fun k u hk=>?_) (fun u hu=>hl u (List.mem_cons_of_mem _ hu)) b h
        rw [show ((i+1:Nat):Int)+k+1=(i:Int)+((k+1:Nat):Int)+1 by omega]
        exact hp (k+1) u (by simpa using hk)
theorem gS (hE:EnvOK T V env){l:List Lit}(hf:∀y∈l,LitF T V y)(hfit:I8 (C5 T V l)=true)(ht:∀y∈l,Pa env y=true):(Ew (C5 T V l)).ok=true:=by
 have hl:=Yd hf
 have hz:=qI hl hfit
 rw [oU] at hz ⊢
 refine jO (p:=pv (Ty env) (Cg T V l).ts) (by rw [hz];rfl) fun b hb=>?_
 rcases List.mem_append.1 (show b∈Hl T V 0 (Cg T V l).ts++(Cg T V l).bs from hb) with h | h
 ·
  refine Z1 (p:=pv (Ty env) (Cg T V l).ts) (τ:=Ty env) rfl _ 0 (fun k t hk=>?_) (fun t ht'=>?_) b h
  · rw [show ((0:Nat):Int)+(k:Int)+1=(k:Int)+1 by omega];exact pv_at hk
  · exact vB hE ((Lr hl).terms t ht') (lH hl t ht').op
 · exact (nQ hE hf).2 (fun y hy _=>ht y hy) b h
/-! ### strings -/
def sg (env:List (List Ev))(x:Wd):Fr:=if x.const then x.text else (vl env (Hn x.field)).text
def tR (x:Wd):Prop:=(x.const=true→x.field=tm0)∧(x.const=false→x.text = [])
theorem gB (e:Ex):tR (B9 e):=by
 unfold B9
 split
 · exact ⟨fun _=>rfl,fun h=>(by cases h)⟩
 · exact ⟨fun h=>(by cases h),fun _=>rfl⟩
theorem sg_as {e:Ex}(hz:Bw e=0)(h:(e.op==0||e.op==1)=true):sg env (B9 e)=(vl env e).text:=by
  cases h0:e.op==0 with
  | true=>
    rw [cA h0]
    show e.val.text=(By _ e).1.text
    rw [Tc hz (by simpa using h0)]
  | false=>
    rw [h0,Bool.false_or] at h
    rw [bR h0]
    show (vl env (Hn (D1 e))).text=_
    rw [K1 hz (by rw [h];rfl)]
/-- an equation of strings -/
structure StrL (T:List Sc) (V:List Va) (c:Lit):Prop where
 op:c.cond.op=9
 len:c.cond.args.length=2
 d0:(Ao c.cond).op=0∨(Ao c.cond).op=1
 d1:(Bg c.cond).op=0∨(Bg c.cond).op=1
 k0:Am T V (Ao c.cond)=2
 k1:Am T V (Bg c.cond)=2
 m0:Ao c.cond∈c.cond.args
 m1:Bg c.cond∈c.cond.args
theorem Wg {c:Lit}(hk:KOK T V c.cond)(h:Cp T V c.cond=true)(h2:B5 T V c.cond=true):StrL T V c:=by
 obtain ⟨h3,h4⟩:=Sn hk (show (!Cp T V c.cond || !B5 T V c.cond)=false by rw [h,h2];rfl)
 unfold Cp at h
 rw [Bool.and_eq_true] at h
 have m0:=A4 (show 0<c.cond.args.length by omega)
 have m1:=Bi (show 1<c.cond.args.length by omega)
 have ho:c.cond.op=9:=by simpa using h.1
 have hk0:Am T V (Ao c.cond)=2:=by simpa using h.2
 exact ⟨ho,h3,by simpa using h4 _ m0,by simpa using h4 _ m1,hk0,by rw [Ik hk ho m1];exact hk0,m0,m1⟩
theorem Vc {s:Bool}{c:Lit}(h:Cd T V s c=true):c.neg = !s∧Cp T V c.cond=true∧B5 T V c.cond=true:=by
 unfold Cd at h
 rw [Bool.and_eq_true,Bool.and_eq_true] at h
 refine ⟨?_,h.2.1,h.2.2⟩
 have:=h.1
 cases hn:c.neg <;> cases s <;> rw [hn] at this <;> first | rfl | cases this
theorem Sr (hE:EnvOK T V env){e:Ex}(hk:KOK T V e)(h:e.op=0∨e.op=1):Ap (vl env e)=0∧(vl env e).kind=Am T V e:=by
 rcases h with h | h
 ·
  have hz:=(Bb hk.nodes).1
  have hv:vl env e=e.val:=by show (By _ e).1=_;rw [Tc hz h]
  refine ⟨by rw [hv];exact (H6 hz h).1,Si hE.suits hk⟩
 ·
  obtain ⟨_,h2,h3⟩:=O4 hE hk (by rw [h];rfl)
  exact ⟨h2,h3⟩
theorem Wl {v:Vl}(h:Ap v=0)(hk:v.kind=2):v.num=0:=by
 unfold Ap at h
 rw [if_neg (by rw [hk];decide),if_pos (by rw [hk];rfl)] at h
 split at h
 · cases h
 · rename_i h2;simpa using h2
theorem wP (hE:EnvOK T V env){c:Lit}(hk:KOK T V c.cond)(hs:StrL T V c):tv env c.cond=true↔sg env (B9 (Ao c.cond))=sg env (B9 (Bg c.cond)):=by
 have k0:=A1 hk hs.m0
 have k1:=A1 hk hs.m1
 rw [vZ hE.suits hk hs.op,mT,sg_as (Bb k0.nodes).1 (by simpa using hs.d0),sg_as (Bb k1.nodes).1 (by simpa using hs.d1)]
 obtain ⟨a1,a2⟩:=Sr hE k0 hs.d0
 obtain ⟨b1,b2⟩:=Sr hE k1 hs.d1
 rw [hs.k0] at a2
 rw [hs.k1] at b2
 have a3:=Wl a1 a2
 have b3:=Wl b1 b2
 revert a2 a3 b2 b3
 generalize vl env (Ao c.cond)=v
 generalize vl env (Bg c.cond)=w
 intro a2 a3 b2 b3
 constructor
 · intro h;rw [h]
 ·
  intro h
  cases v;cases w
  simp_all
def wSg (env:List (List Ev))(w:Wm):Prop:=∀p∈w,sg env p.1=sg env p.2
def wWf (w:Wm):Prop:=∀p∈w,tR p.1∧tR p.2
theorem X7 {w:Wm}{x y:Wd}(h:F9 w x=some y):(x,y)∈w:=by
 obtain ⟨i,p,h1,h2,h3⟩:=aL h
 have:=List.mem_of_getElem? h1
 rw [←h2,←h3];exact this
theorem iR {w:Wm}(h:wSg env w):∀(n:Nat) (x:Wd),sg env (Qj w n x)=sg env x
  | 0,x=>rfl
  | n+1,x=>by
    rw [Qj]
    cases hg:F9 w x with
    | none=>rfl
    | some y=>simp only;rw [iR h n y,h _ (X7 hg)]
theorem gW {w:Wm}(h:wWf w):∀(n:Nat) (x:Wd),tR x→tR (Qj w n x)
  | 0,x,hx=>hx
  | n+1,x,hx=>by
    rw [Qj]
    cases hg:F9 w x with
    | none=>exact hx
    | some y=>exact gW h n y (h _ (X7 hg)).2
theorem jF {a b:Wd}(ha:tR a)(hb:tR b)(h:(a.const&&b.const)=true)(ht:a.text=b.text):a=b:=by
 rw [Bool.and_eq_true] at h
 have h1:=ha.1 h.1
 have h2:=hb.1 h.2
 obtain ⟨c,t,f⟩:=a
 obtain ⟨c',t',f'⟩:=b
 simp only at h h1 h2 ht
 rw [h.1,h.2,h1,h2,ht]
theorem eqAB_wf {w:Wm}{a b:Wd}(h:wWf w)(ha:tR a)(hb:tR b):wWf (Nr w a b).1:=by
 unfold Nr
 split
 · exact h
 split
 · exact h
 split
 ·
  intro p hp
  rcases List.mem_append.1 hp with hp | hp
  · exact h p hp
  · rw [List.mem_singleton.1 hp];exact ⟨hb,ha⟩
 ·
  intro p hp
  rcases List.mem_append.1 hp with hp | hp
  · exact h p hp
  · rw [List.mem_singleton.1 hp];exact ⟨ha,hb⟩
theorem sL {w:Wm}{c:Lit}(h:wWf w):wWf (E8 w c).1:=by rw [Jy];exact eqAB_wf h (gW h _ _ (gB _)) (gW h _ _ (gB _))
theorem sG {w:Wm}{c:Lit}(h:wSg env w)(hw:wWf w)(he:sg env (B9 (Ao c.cond))=sg env (B9 (Bg c.cond))):(E8 w c).2=true∧wSg env (E8 w c).1:=by
  rw [Jy]
  have ha:=iR h w.length (B9 (Ao c.cond))
  have hb:=iR h w.length (B9 (Bg c.cond))
  have wa:=gW hw w.length _ (gB (Ao c.cond))
  have wb:=gW hw w.length _ (gB (Bg c.cond))
  change sg env (Cc w (B9 (Ao c.cond)))=_ at ha
  change sg env (Cc w (B9 (Bg c.cond)))=_ at hb
  change tR (Cc w (B9 (Ao c.cond))) at wa
  change tR (Cc w (B9 (Bg c.cond))) at wb
  have hab:sg env (Cc w (B9 (Ao c.cond)))=sg env (Cc w (B9 (Bg c.cond))):=by rw [ha,hb,he]
  revert wa wb hab
  generalize Cc w (B9 (Ao c.cond))=a
  generalize Cc w (B9 (Bg c.cond))=b
  intro wa wb hab
  unfold Nr
  by_cases hq:a=b
  · rw [if_pos hq];exact ⟨rfl,h⟩
  rw [if_neg hq]
  cases hc:(a.const&&b.const) with
  | true=>
    have h2:=hc
    rw [Bool.and_eq_true] at h2
    unfold sg at hab
    rw [if_pos h2.1,if_pos h2.2] at hab
    exact absurd (jF wa wb hc hab) hq
  | false=>
    rw [Ci rfl]
    cases h3:a.const with
    | true=>
      rw [if_pos rfl]
      refine ⟨rfl,fun p hp=>?_⟩
      rcases List.mem_append.1 hp with hp | hp
      · exact h p hp
      · rw [List.mem_singleton.1 hp];exact hab.symm
    | false=>
      rw [Ci rfl]
      refine ⟨rfl,fun p hp=>?_⟩
      rcases List.mem_append.1 hp with hp | hp
      · exact h p hp
      · rw [List.mem_singleton.1 hp];exact hab
theorem cJ:∀(l:List Lit) (w:Wm),(∀c∈l,Cd T V true c=true→sg env (B9 (Ao c.cond))=sg env (B9 (Bg c.cond)))→wSg env w→wWf w→(I9 T V l w).2=true∧wSg env (I9 T V l w).1
  | [],w,_,h,_=>⟨rfl,h⟩
  | c::r,w,hl,h,hw=>by
    have hr:=fun x hx=>hl x (List.mem_cons_of_mem _ hx)
    cases h1:Cd T V true c with
    | false=>rw [Mi h1];exact cJ r w hr h hw
    | true=>
      obtain ⟨h2,h3⟩:=sG (c:=c) h hw (hl c (List.mem_cons_self ..) h1)
      rw [Mj h1 h2]
      exact cJ r _ hr h3 (sL hw)
theorem nS {w:Wm}(h:wSg env w):∀(l:List Lit),(∀c∈l,Cd T V false c=true→sg env (B9 (Ao c.cond))≠sg env (B9 (Bg c.cond)))→N6 T V w l=true
  | [],_=>rfl
  | c::r,hl=>by
    have hr:=nS h r fun x hx=>hl x (List.mem_cons_of_mem _ hx)
    rw [N6]
    cases h1:Cd T V false c with
    | false=>exact hr
    | true=>
      have h2:=hl c (List.mem_cons_self ..) h1
      rw [if_neg (by decide),if_neg ?_]
      · exact hr
      · intro he
        have h3:=congrArg (sg env) he
        rw [show sg env (Cc w (B9 (Ao c.cond)))=_ from iR h _ _,show sg env (Cc w (B9 (Bg c.cond)))=_ from iR h _ _] at h3
        exact h2 h3
theorem bZ (hE:EnvOK T V env){l:List Lit}(hl:Ve T V l)(ht:∀y∈l,Pa env y=true):(Ef T V l).2=true:=by
 have key:∀{s:Bool} {c:Lit},c∈l→Cd T V s c=true→(tv env c.cond=true↔sg env (B9 (Ao c.cond))=sg env (B9 (Bg c.cond)))∧tv env c.cond=s:=fun {s c} hc hs=>by
  obtain ⟨h1,h2,h3⟩:=Vc hs
  have hk:=(hl c hc).1
  refine ⟨wP hE hk (Wg hk h2 h3),?_⟩
  have h4:=ht c hc
  unfold Pa at h4
  rw [h1] at h4
  cases hq:tv env c.cond <;> cases s <;> rw [hq] at h4 <;> first | rfl | cases h4
 obtain ⟨h1,h2⟩:=cJ (T:=T) (V:=V) (env:=env) l [] (fun c hc hs=>(key hc hs).1.1 (key hc hs).2) (fun p hp=>by cases hp) (fun p hp=>by cases hp)
 unfold Ef
 rw [h1,Bool.true_and]
 refine nS h2 l fun c hc hs he=>?_
 have h3:=(key hc hs).1.2 he
 rw [(key hc hs).2] at h3
 cases h3
theorem kL (hE:EnvOK T V env){l:List Lit}(hf:∀y∈l,LitF T V y)(ht:jW env l=true):Qk T V l=true:=by
 have ht':∀y∈l,Pa env y=true:=List.all_eq_true.1 ht
 cases h:I8 (C5 T V l) with
 | false=>exact uJ (by rw [h];rfl)
 | true=>rw [dC (by rw [h];rfl),bZ hE (Yd hf) ht',gS hE hf h ht'];rfl
/-! ### verdicts -/
theorem Yx:∀(l:List (List Lit)),(Yy T V 0 l).1≠2
  | []=>by show (0:Int)≠2;decide
  | c::r=>by
    rw [Yy]
    split
    · exact Yx r
    split
    · show (1:Int)≠2;decide
    · exact Yx r
theorem uL:∀{l:List (List Lit)} {o:Int},(∃c∈l,Qk T V c=true)→(Yy T V o l).1≠2
  | [],_,⟨c,hc,_⟩=>by cases hc
  | d::r,o,⟨c,hc,hk⟩=>by
    rw [Yy]
    split
    · rename_i h
      rw [Bool.and_eq_true] at h
      rcases List.mem_cons.1 hc with rfl | hc
      · rw [hk] at h;cases h.1
      · exact uL ⟨c,hc,hk⟩
    split
    · show (1:Int)≠2;decide
    · exact Yx r
theorem Yj (hE:EnvOK T V env){c:Cs}(hf:H4 (LitF T V) c)(ht:P4 env c.1=true):(B3 T V c).1≠2:=by
  cases h:(!c.2) with
  | true=>rw [Yk h];show (0:Int)≠2;decide
  | false=>
    rw [bT h]
    obtain ⟨x,hx,hx2⟩:=List.any_eq_true.1 ht
    exact uL ⟨x,hx,kL hE (hf x hx) hx2⟩
/-- a verdict of yes has a clause that is solved and certain -/
theorem Wx:∀{l:List (List Lit)} {o:Int},o≠1→(Yy T V o l).1=1→∃c∈l,Qk T V c=true∧Lj T V c=true∧Yy T V o l=(1,nO T V c)
  | [],o,ho,h=>absurd h ho
  | c::r,o,ho,h=>by
    cases h1:(!Qk T V c&&decide ((c.length:Int)≤256)) with
    | true=>
      rw [gZ h1] at h ⊢
      obtain ⟨d,hd,hx⟩:=Wx ho h
      exact ⟨d,List.mem_cons_of_mem _ hd,hx⟩
    | false=>
      cases h2:Lj T V c with
      | true=>
        refine ⟨c,List.mem_cons_self ..,?_,h2,mY h1 h2⟩
        rw [(Px h2).2,Bool.and_true] at h1
        simpa using h1
      | false=>
        rw [xC h1 h2] at h ⊢
        obtain ⟨d,hd,hx⟩:=Wx (by decide) h
        exact ⟨d,List.mem_cons_of_mem _ hd,hx⟩
end
end Go.Proofs.YtkddpedfbicbeaaGreatDoor
