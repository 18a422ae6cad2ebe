/-
  Several texts in one: S43, S44. No condition.
-/
import Derived.Test.YtkddpedfbicbeaaGreatDoorK24
import Derived.Test.YtkddpedfbicbeaaGreatDoorK22
set_option linter.unusedVariables false
set_option linter.unusedSimpArgs false
namespace Go.Proofs.YtkddpedfbicbeaaGreatDoor
open Go Go.Aw

section
variable {T:List Sc} {V:List Va} {env:List (List Ev)}
structure LitF (T:List Sc) (V:List Va) (y:Lit):Prop where
 kok:KOK T V y.cond
 size:Av y.cond≤64
 kind:Am T V y.cond=1
 eqB:y.cond.op=9→Am T V (Ao y.cond)≠1
 eqI:y.cond.op=9→Am T V (Ao y.cond)=0→y.neg=false
theorem Pi {v:Vl}(h:An v=0):v.kind=0∨v.kind=1∨v.kind=2:=by
 unfold An at h
 split at h
 · rename_i h1;simp at h1;omega
 split at h
 · rename_i h1;simp at h1;omega
 · cases h
theorem wW (hE:EnvOK T V env){e:Ex}(hk:KOK T V e){b:Int}{s:Su}(h:(Bb e b s).2=true):Am T V e=0∨Am T V e=1∨Am T V e=2:=by
 have hz:=Ba hk.nodes
 rcases Lt hz.1 with c | ⟨c,c1⟩ | ⟨c,hl⟩ | ⟨c,c1,c2,c3⟩
 ·
  have h1:Am T V e=e.val.kind:=by unfold Am;rw [if_pos (by rw [c];rfl)]
  rw [h1];exact Pi (I6 hz.1 (by simpa using c)).1
 ·
  obtain ⟨_,h2,h3⟩:=Ok hE hk c1
  rw [←h3];exact Pi h2
 ·
  left
  have ho:e.op=5∨e.op=6:=by simpa using c
  unfold Am
  rw [if_neg (by simp;omega),if_neg (by simp;omega),if_pos (by simp;omega)]
 · rw [E2 c c1 c2 c3] at h;cases h
theorem btw_lin {a b:Ex}(h:(B2 a b).2=true):(Bb a 1 Jc).2=true:=by
 unfold B2 at h
 cases h1:(Bb a 1 Jc).2 with
 | true=>rfl
 | false=>rw [h1] at h;cases h
theorem iL (hE:EnvOK T V env){y:Lit}(hf:LitF T V y)(ho:(y.cond.op==1)=false)(hn:(Aa T V y).2=true) :
    (y.cond.op=7∨y.cond.op=8∨y.cond.op=9)∧Am T V (Ao y.cond)=0∧Am T V (Bj y.cond)=0∧(B2 (Ao y.cond) (Bj y.cond)).2=true∧Aa T V y=B2 (Ao y.cond) (Bj y.cond):=by
  cases h2:(!Cr y.cond||Cl T V y.cond) with
  | true=>rw [nA ho h2] at hn;cases hn
  | false=>
    rw [aS ho h2] at hn
    have hc:=Wh h2
    have hop:y.cond.op=7∨y.cond.op=8∨y.cond.op=9:=by
      unfold Cr at hc
      simp only [Bool.or_eq_true,beq_iff_eq] at hc
      omega
    have ht:Cl T V y.cond=false:=by
      rw [Bool.or_eq_false_iff] at h2;exact h2.2
    have hl:=qN hf.kok (by omega) (by omega)
    have m0:=A4 (show 0<y.cond.args.length by omega)
    have m1:=Bn (show 1<y.cond.args.length by omega)
    have k0:Am T V (Ao y.cond)=0:=by
      rcases hop with h | h | h
      · have h1:=Rl hf.kok m0;unfold N6 at h1;rw [h] at h1;simpa using h1
      · have h1:=Rl hf.kok m0;unfold N6 at h1;rw [h] at h1;simpa using h1
      · rcases wW hE (Ax hf.kok m0) (btw_lin hn) with h3 | h3 | h3
        · exact h3
        · exact absurd h3 (hf.eqB h)
        · unfold Cl at ht
          rw [h,h3] at ht;cases ht
    have k1:Am T V (Bj y.cond)=0:=by
      rcases hop with h | h | h
      · have h1:=Rl hf.kok m1;unfold N6 at h1;rw [h] at h1;simpa using h1
      · have h1:=Rl hf.kok m1;unfold N6 at h1;rw [h] at h1;simpa using h1
      · rw [Ht hf.kok h m1];exact k0
    exact ⟨hop,k0,k1,hn,aS ho h2⟩
def T9 (p:Int→Int)(b:Bd):Prop:=p b.x-p b.y≤b.most
theorem Aaf (hE:EnvOK T V env){y:Lit}(hf:LitF T V y)(hn:(Aa T V y).2=true){p:Int→Int}{x z:Int}(hx:p x=fO (Tg env) (Aa T V y).1.plus)(hz:p z=fO (Tg env) (Aa T V y).1.minus) :
    (∀b∈D1 y x z (Aa T V y).1.rest,T9 p b)↔Pk env y=true:=by
  cases ho:y.cond.op==1 with
  | true=>
    have h1:y.cond.op=1:=by simpa using ho
    rw [Zv ho] at hx hz ⊢
    obtain ⟨_,h2,h3⟩:=Ok hE hf.kok (by rw [ho];rfl)
    have hb:=Fz h2 (h3.trans hf.kind)
    have hv:Tg env (Dy y.cond)=(vl env y.cond).num:=by unfold Tg;rw [K8 (Ba hf.kok.nodes).1 (by rw [ho];rfl)]
    simp only [fO,List.map_cons,List.map_nil,List.sum_cons,List.sum_nil,hv] at hx hz
    have hnum:(vl env y.cond).num=0∨(vl env y.cond).num=1:=by rw [hb];cases (vl env y.cond).num==1 <;> simp [D0]
    have ht:tv env y.cond=((vl env y.cond).num==1):=rfl
    unfold Pk D1
    rw [ht]
    cases hneg:y.neg with
    | true=>
      simp only [h1]
      simp only [T9,List.mem_singleton,forall_eq,beq_self_eq_true,Bool.true_and,Bool.true_or,if_true]
      rw [hx,hz]
      rcases hnum with h | h <;> rw [h] <;> simp
    | false=>
      simp only [h1]
      simp [T9,hx,hz]
      rcases hnum with h | h <;> rw [h] <;> simp
  | false=>
    obtain ⟨hop,k0,k1,hb,he⟩:=iL hE hf ho hn
    have h1:y.cond.op≠1:=by simpa using ho
    have hl:=qN hf.kok (by omega) (by omega)
    have m0:=A4 (show 0<y.cond.args.length by omega)
    have m1:=Bn (show 1<y.cond.args.length by omega)
    have hsz:=Dd (e:=y.cond) (by omega)
    have hs:=hf.size
    obtain ⟨hv,_,_⟩:=iE hE (Ax hf.kok m0) (Ax hf.kok m1) k0 k1 (by omega) hb
    rw [he] at hx hz ⊢
    rw [←hx,←hz] at hv
    unfold Pk D1
    rcases hop with h | h | h
    · rw [cQ hE.suits hf.kok h,h]
      cases hneg:y.neg <;> simp [T9] <;> omega
    · rw [tw_leq hE.suits hf.kok h,h]
      cases hneg:y.neg <;> simp [T9] <;> omega
    · rw [wJ hE.suits hf.kok h k0,h,hf.eqI h k0]
      simp [T9]
      omega
def pv (τ:Tm→Int)(ts:List Tm)(k:Int):Int:=if k≤0 then 0 else ((ts[(k-1).toNat]?).map τ).getD 0
theorem nT:∀{ts:List Tm} {t:Tm},t∈ts→ts[ts.idxOf t]? = some t
  | u::r,t,h=>by
    rw [List.idxOf_cons]
    by_cases e:u=t
    · subst e;simp
    · have h1:(u==t)=false:=by simpa using e
      rw [h1]
      rcases List.mem_cons.1 h with rfl | h
      · exact absurd rfl e
      · simpa using nT h
theorem pL:∀{ts r:List Tm} {t:Tm},t∈ts→(ts++r).idxOf t=ts.idxOf t
  | u::s,r,t,h=>by
    rw [List.cons_append,List.idxOf_cons,List.idxOf_cons]
    by_cases e:u=t
    · subst e;simp
    · have h1:(u==t)=false:=by simpa using e
      rw [h1]
      rcases List.mem_cons.1 h with rfl | h
      · exact absurd rfl e
      · simp [pL h]
theorem vS {τ:Tm→Int}{ts l:List Tm}(hl:l.length≤1)(h:∀t∈l,t∈ts):pv τ ts (B3 ts l)=fO τ l:=by
  match l,hl with
  | [],_=>rfl
  | [t],_=>
    have hm:=nT (h t (List.mem_cons_self ..))
    show pv τ ts (((ts.idxOf t:Nat):Int)+1)=_
    unfold pv
    rw [if_neg (by omega),show ((((ts.idxOf t:Nat):Int)+1)-1).toNat=ts.idxOf t by omega,hm]
    simp [fO]
theorem oZ {ts r l:List Tm}(h:∀t∈l,t∈ts):B3 (ts++r) l=B3 ts l:=by
  match l with
  | []=>rfl
  | t::_=>
    show (((ts++r).idxOf t:Nat):Int)+1=_
    rw [pL (h t (List.mem_cons_self ..))];rfl
theorem Z0 (ts l:List Tm):∃r,A1 ts l=ts++r:=by
 unfold A1
 split
 · exact ⟨[],by simp⟩
 ·
  split
  · exact ⟨[],by simp⟩
  · exact ⟨_,rfl⟩
theorem aA {ts l:List Tm}(hl:l.length≤1):∀t∈l,t∈A1 ts l:=by
  match l,hl with
  | [],_=>intro t h;cases h
  | [u],_=>
    intro t h
    rw [List.mem_singleton.1 h]
    unfold A1
    simp only
    split
    · rename_i h1;simpa using h1
    · simp
def Pg (T:List Sc)(V:List Va)(ts:List Tm)(c:Lit):List Bd:=if (Aa T V c).2 then D1 c (B3 ts (Aa T V c).1.plus) (B3 ts (Aa T V c).1.minus) (Aa T V c).1.rest else []
theorem eY {c:Lit}(h:(Aa T V c).2=true):(Aa T V c).1.plus.length≤1∧(Aa T V c).1.minus.length≤1:=by
 unfold Aa at h ⊢
 split
 · exact ⟨Nat.le_refl _,Nat.zero_le _⟩
 ·
  rename_i h1
  rw [if_neg h1] at h
  split
  · exact ⟨Nat.zero_le _,Nat.zero_le _⟩
  ·
   rename_i h2
   rw [if_neg h2] at h
   unfold B2 at h ⊢
   split
   · exact ⟨Nat.zero_le _,Nat.zero_le _⟩
   ·
    rename_i h3
    rw [if_neg h3] at h
    split
    · exact ⟨Nat.zero_le _,Nat.zero_le _⟩
    ·
     rename_i h4
     rw [if_neg h4] at h
     unfold N7 at h ⊢
     split
     ·
      rename_i h5
      rw [h5] at h
      simp only [Bool.and_eq_true,decide_eq_true_eq] at h
      exact ⟨by simp only;omega,by simp only;omega⟩
     · exact ⟨Nat.zero_le _,Nat.zero_le _⟩
theorem Vy:∀(l:List Lit) (s:Sy),(∃r,(l.foldl (Dc T V) s).ts=s.ts++r)∧(l.foldl (Dc T V) s).bs=s.bs++l.flatMap (Pg T V (l.foldl (Dc T V) s).ts)∧
    ∀c∈l,(Aa T V c).2=true→(∀t∈(Aa T V c).1.plus,t∈(l.foldl (Dc T V) s).ts)∧∀t∈(Aa T V c).1.minus,t∈(l.foldl (Dc T V) s).ts
  | [],s=>⟨⟨[],by simp⟩,by simp,fun c h=>by cases h⟩
  | c::r,s=>by
    rw [List.foldl_cons]
    obtain ⟨⟨q,h1⟩,h2,h3⟩:=Vy r (Dc T V s c)
    cases hn:(Aa T V c).2 with
    | false=>
      have hs:Dc T V s c=s:=Lg (by rw [hn];rfl)
      rw [hs] at h1 h2 h3 ⊢
      refine ⟨⟨q,h1⟩,?_,fun d hd hdn=>?_⟩
      · rw [h2,List.flatMap_cons]
        have:Pg T V (r.foldl (Dc T V) s).ts c = []:=by unfold Pg;rw [hn];rfl
        rw [this];rfl
      · rcases List.mem_cons.1 hd with rfl | hd
        · rw [hn] at hdn;cases hdn
        · exact h3 d hd hdn
    | true=>
      have hs:=Lj (T:=T) (V:=V) (s:=s) (c:=c) (by rw [hn];rfl)
      obtain ⟨lp,lm⟩:=eY hn
      obtain ⟨r1,e1⟩:=Z0 s.ts (Aa T V c).1.plus
      obtain ⟨r2,e2⟩:=Z0 (A1 s.ts (Aa T V c).1.plus) (Aa T V c).1.minus
      have hts:(Dc T V s c).ts=A1 (A1 s.ts (Aa T V c).1.plus) (Aa T V c).1.minus:=by rw [hs]
      have hp:∀t∈(Aa T V c).1.plus,t∈A1 s.ts (Aa T V c).1.plus:=aA lp
      have hm:∀t∈(Aa T V c).1.minus,t∈A1 (A1 s.ts (Aa T V c).1.plus) (Aa T V c).1.minus:=aA lm
      have hF:(r.foldl (Dc T V) (Dc T V s c)).ts=A1 s.ts (Aa T V c).1.plus++(r2++q):=by rw [h1,hts,e2,List.append_assoc]
      have hF2:(r.foldl (Dc T V) (Dc T V s c)).ts=A1 (A1 s.ts (Aa T V c).1.plus) (Aa T V c).1.minus++q:=by rw [h1,hts]
      refine ⟨⟨r1++(r2++q),by rw [hF,e1,List.append_assoc]⟩,?_,fun d hd hdn=>?_⟩
      · rw [h2,List.flatMap_cons,←List.append_assoc]
        congr 1
        unfold Pg
        rw [hn,if_pos rfl]
        have n1:B3 (r.foldl (Dc T V) (Dc T V s c)).ts (Aa T V c).1.plus=B3 (A1 s.ts (Aa T V c).1.plus) (Aa T V c).1.plus:=by rw [hF];exact oZ hp
        have n2:B3 (r.foldl (Dc T V) (Dc T V s c)).ts (Aa T V c).1.minus=B3 (A1 (A1 s.ts (Aa T V c).1.plus) (Aa T V c).1.minus) (Aa T V c).1.minus:=by rw [hF2];exact oZ hm
        rw [n1,n2,hs]
      · rcases List.mem_cons.1 hd with rfl | hd
        · exact ⟨fun t ht=>by rw [hF];exact List.mem_append_left _ (hp t ht),fun t ht=>by rw [hF2];exact List.mem_append_left _ (hm t ht)⟩
        · exact h3 d hd hdn
theorem oQ (hE:EnvOK T V env){l:List Lit}(hf:∀y∈l,LitF T V y):(∀b∈(B6 T V l).bs,T9 (pv (Tg env) (B6 T V l).ts) b)↔∀y∈l,(Aa T V y).2=true→Pk env y=true:=by
 obtain ⟨_,h2,h3⟩:=Vy (T:=T) (V:=V) l ⟨[],[]⟩
 have h2':(B6 T V l).bs=l.flatMap (Pg T V (B6 T V l).ts):=by
  show (l.foldl (Dc T V) ⟨[],[]⟩).bs=_
  rw [h2];rfl
 rw [h2']
 have each:∀y∈l,(Aa T V y).2=true→((∀b∈Pg T V (B6 T V l).ts y,T9 (pv (Tg env) (B6 T V l).ts) b)↔Pk env y=true):=fun y hy hn=>by
  obtain ⟨m1,m2⟩:=h3 y hy hn
  obtain ⟨l1,l2⟩:=eY hn
  unfold Pg
  rw [hn,if_pos rfl]
  exact Aaf hE (hf y hy) hn (vS l1 m1) (vS l2 m2)
 constructor
 ·
  intro h y hy hn
  exact (each y hy hn).1 fun b hb=>h b (List.mem_flatMap.2 ⟨y,hy,hb⟩)
 ·
  intro h b hb
  obtain ⟨y,hy,hb⟩:=List.mem_flatMap.1 hb
  cases hn:(Aa T V y).2 with
  | true=>exact (each y hy hn).2 (h y hy hn) b hb
  | false=>unfold Pg at hb;rw [hn] at hb;cases hb
end

section
variable {T:List Sc} {V:List Va} {env:List (List Ev)}
def Ig (P:Lit→Prop)(c:Cs):Prop:=∀x∈c.1,∀y∈x,P y
theorem F1 {P:Lit→Prop}{a b:Cs}(ha:Ig P a)(hb:Ig P b):Ig P (Ee a b):=by
 unfold Ee
 split
 · intro x hx;cases hx
 ·
  unfold Na
  split
  · intro x hx;cases hx
  ·
   intro x hx y hy
   obtain ⟨p,hp,hm⟩:=List.mem_flatMap.1 hx
   obtain ⟨q,hq,rfl⟩:=List.mem_map.1 hm
   rcases List.mem_append.1 hy with h | h
   · exact ha p hp y h
   · exact hb q hq y h
theorem Lx {P:Lit→Prop}{a b:Cs}(ha:Ig P a)(hb:Ig P b):Ig P (Ii a b):=by
 unfold Ii
 split
 · intro x hx;cases hx
 ·
  intro x hx y hy
  rcases List.mem_append.1 hx with h | h
  · exact ha x h y hy
  · exact hb x h y hy
theorem J4 {P:Lit→Prop}{l:List Lit}(h:∀y∈l,P y):Ig P (Dz l):=by
 intro x hx y hy
 unfold Dz at hx
 obtain ⟨z,hz,rfl⟩:=List.mem_map.1 hx
 rw [List.mem_singleton.1 hy]
 exact h z hz
def eqF (T:List Sc)(V:List Va)(y:Lit):Prop:=(y.cond.op=9→Am T V (Ao y.cond)≠1)∧(y.cond.op=9→Am T V (Ao y.cond)=0→y.neg=false)
theorem lY (e:Ex):KOK T V e→∀s,Ig (eqF T V) (C4 T V e s):=by
 refine Ex.Aa0 (P:=fun e=>KOK T V e→∀s,Ig (eqF T V) (C4 T V e s)) (fun e ih hk s=>?_) e
 rcases Iy s hk with h | ⟨h,hl⟩ | ⟨h,hl⟩ | ⟨h,hl,h1⟩ | ⟨h,hl,h1,h2⟩ | ⟨_,_,_,h,h9⟩
 ·
  cases h1:((e.val.num==1)==s) with
  | true=>rw [Fl h h1];intro x hx y hy;rw [List.mem_singleton.1 hx] at hy;cases hy
  | false=>rw [Fh h h1];intro x hx;cases hx
 · rw [Fo hl h];exact ih _ (A4 hl) (Ax hk (A4 hl)) _
 ·
  have m0:=A4 (show 0<e.args.length by omega)
  have m1:=Bn hl
  cases h1:((e.op==10)==s) with
  | true=>rw [Fk hl h h1];exact F1 (ih _ m0 (Ax hk m0) _) (ih _ m1 (Ax hk m1) _)
  | false=>rw [Fg hl h h1];exact Lx (ih _ m0 (Ax hk m0) _) (ih _ m1 (Ax hk m1) _)
 ·
  have m0:=A4 (show 0<e.args.length by omega)
  have m1:=Bn hl
  have i0:=ih _ m0 (Ax hk m0)
  have i1:=ih _ m1 (Ax hk m1)
  rw [Fj hl h h1]
  exact Lx (F1 (i0 _) (i1 _)) (F1 (i0 _) (i1 _))
 ·
  rw [Fq h h1 h2]
  refine J4 fun y hy=>?_
  rcases List.mem_cons.1 hy with rfl | hy
  · exact ⟨fun h=>absurd (show (7:Int)=9 from h) (by decide),fun h=>absurd (show (7:Int)=9 from h) (by decide)⟩
  · rw [List.mem_singleton.1 hy];exact ⟨fun h=>absurd (show (7:Int)=9 from h) (by decide),fun h=>absurd (show (7:Int)=9 from h) (by decide)⟩
 ·
  rw [h]
  refine J4 fun y hy=>?_
  rw [List.mem_singleton.1 hy]
  refine ⟨fun ho=>?_,fun ho h0=>?_⟩
  ·
   have:=(h9 (by simpa using ho)).1
   simpa using this
  ·
   have:=(h9 (by simpa using ho)).2
   rw [h0] at this
   simpa using this
theorem qO {e:Ex}(hk:KOK T V e)(h1:Am T V e=1)(hs:Av e≤64)(s:Bool):Ig (LitF T V) (C4 T V e s):=fun x hx y hy=>by
 have a:=Pt e hk s x hx y hy
 have b:=mA e hk h1 s x hx y hy
 have c:=lY e hk s x hx y hy
 exact ⟨a.1,Nat.le_trans a.2 hs,b,c.1,c.2⟩
theorem Sj {l:List Lit}(h:∀y∈l,LitF T V y):Un T V l:=fun y hy=>⟨(h y hy).kok,(h y hy).size⟩
theorem Tw {α:Type}{f:α→Int}:∀{l:List α},(∀x∈l,f x=0)→Aq f l=0
  | [],_=>rfl
  | a::r,h=>by
    rw [Aq,if_neg (by rw [h a (List.mem_cons_self ..)];decide)]
    exact Tw fun x hx=>h x (List.mem_cons_of_mem _ hx)
theorem Uz {ts l:List Tm}(h:∀t∈l,t∈ts):0≤B3 ts l∧B3 ts l≤(ts.length:Int):=by
  match l with
  | []=>exact ⟨Int.le_refl _,by show (0:Int)≤_;omega⟩
  | t::r=>
    have:=List.idxOf_lt_length_of_mem (h t (List.mem_cons_self ..))
    show 0≤((ts.idxOf t:Nat):Int)+1∧((ts.idxOf t:Nat):Int)+1≤_
    omega
theorem qW {c:Lit}{x z r:Int}:∀b∈D1 c x z r,(b.x=x∨b.x=z)∧(b.y=x∨b.y=z):=by
 intro b hb
 unfold D1 at hb
 repeat' split at hb
 all_goals
  simp only [List.mem_cons,List.not_mem_nil,or_false] at hb
  rcases hb with rfl | rfl <;> simp
theorem iX:∀(ts:List Tm) (i:Nat),∀b∈G0 T V i ts,0≤b.x∧b.x≤(i:Int)+ts.length∧0≤b.y∧b.y≤(i:Int)+ts.length
  | [],i,b,h=>by cases h
  | t::r,i,b,h=>by
    rw [G0] at h
    rw [List.length_cons]
    rcases List.mem_cons.1 h with rfl | h
    · simp only;omega
    · rcases List.mem_cons.1 h with rfl | h
      · simp only;omega
      · have:=iX r (i+1) b h;omega
theorem sys_bs (l:List Lit):(B6 T V l).bs=l.flatMap (Pg T V (B6 T V l).ts):=by
 obtain ⟨_,h2,_⟩:=Vy (T:=T) (V:=V) l ⟨[],[]⟩
 show (l.foldl (Dc T V) ⟨[],[]⟩).bs=_
 rw [h2];rfl
theorem sys_has (l:List Lit):∀c∈l,(Aa T V c).2=true→(∀t∈(Aa T V c).1.plus,t∈(B6 T V l).ts)∧∀t∈(Aa T V c).1.minus,t∈(B6 T V l).ts:=
 (Vy (T:=T) (V:=V) l ⟨[],[]⟩).2.2
theorem mY (l:List Lit):∀b∈(C2 T V l).bs,0≤b.x∧b.x<(C2 T V l).n∧0≤b.y∧b.y<(C2 T V l).n:=by
  intro b hb
  show 0≤b.x∧b.x<((B6 T V l).ts.length:Int)+1∧0≤b.y∧b.y<((B6 T V l).ts.length:Int)+1
  rcases List.mem_append.1 (show b∈G0 T V 0 (B6 T V l).ts++(B6 T V l).bs from hb) with h | h
  · have:=iX _ _ b h;omega
  · rw [sys_bs] at h
    obtain ⟨c,hc,hb⟩:=List.mem_flatMap.1 h
    cases hn:(Aa T V c).2 with
    | false=>unfold Pg at hb;rw [hn] at hb;cases hb
    | true=>
      unfold Pg at hb
      rw [hn,if_pos rfl] at hb
      obtain ⟨m1,m2⟩:=sys_has l c hc hn
      have r1:=Uz m1
      have r2:=Uz m2
      obtain ⟨h1,h2⟩:=qW b hb
      rcases h1 with h1 | h1 <;> rcases h2 with h2 | h2 <;> omega
theorem rR {l:List Lit}(hl:Un T V l)(hf:In (C2 T V l)=true):I1 (C2 T V l)=0:=by
 unfold In at hf
 simp only [Bool.and_eq_true,decide_eq_true_eq] at hf
 have hn:(C2 T V l).n=((B6 T V l).ts.length:Int)+1:=rfl
 unfold I1
 rw [if_neg (by simp;omega),if_neg (by simp;omega)]
 refine Tw fun b hb=>?_
 have h1:=mY l b hb
 have h2:=Pz hl b hb
 have hbig:Jm=140737488355329:=rfl
 unfold bdE
 rw [if_neg (by simp only [Bool.or_eq_true,decide_eq_true_eq];omega)]
theorem pY {v:Vl}(h:An v=0) : -1099511627776≤v.num∧v.num≤1099511627776:=by
 rcases Pi h with h1 | h1 | h1
 · exact T2 h (.inl h1)
 · exact T2 h (.inr h1)
 ·
  unfold An at h
  rw [if_neg (by rw [h1];decide),if_pos (by rw [h1];rfl)] at h
  split at h
  · cases h
  ·
   rename_i h2
   have:v.num=0:=by simpa using h2
   omega
theorem wA (hE:EnvOK T V env){t:Tm}(hk:KOK T V (Hf t))(ho:t.op=1∨t.op=2):(C3 T V t).1≤Tg env t∧Tg env t≤(C3 T V t).2:=by
  obtain ⟨h1,h2,h3⟩:=Ok hE hk (show ((Hf t).op==1||(Hf t).op==2)=true by show (t.op==1||t.op==2)=true;simpa using ho)
  have hr:=pY h2
  cases h:t.op==2 with
  | true=>rw [vY h];exact h1 h
  | false=>
    cases hb:Am T V (Hf t)==1 with
    | true=>
      rw [xH h hb]
      have hb':Am T V (Hf t)=1:=by simpa using hb
      have:=Fz h2 (h3.trans hb')
      have hnum:(vl env (Hf t)).num=0∨(vl env (Hf t)).num=1:=by rw [this];cases (vl env (Hf t)).num==1 <;> simp [D0]
      show (0:Int)≤(vl env (Hf t)).num∧(vl env (Hf t)).num≤1
      omega
    | false=>rw [uZ h hb];exact hr
theorem pv_zero (τ:Tm→Int)(ts:List Tm):pv τ ts 0=0:=rfl
theorem pv_at {τ:Tm→Int}{ts:List Tm}{k:Nat}{t:Tm}(h:ts[k]? = some t):pv τ ts ((k:Int)+1)=τ t:=by
 unfold pv
 rw [if_neg (by omega),show (((k:Int)+1)-1).toNat=k by omega,h];rfl
theorem Z5 {p:Int→Int}{τ:Tm→Int}(h0:p 0=0):∀(ts:List Tm) (i:Nat),(∀(k:Nat) (t:Tm),ts[k]? = some t→p ((i:Int)+k+1)=τ t)→(∀t∈ts,(C3 T V t).1≤τ t∧τ t≤(C3 T V t).2)→∀b∈G0 T V i ts,T9 p b
  | [],i,_,_,b,h=>by cases h
  | t::r,i,hp,hl,b,h=>by
    have h1:=hp 0 t rfl
    have h2:=hl t (List.mem_cons_self ..)
    rw [show (i:Int)+((0:Nat):Int)+1=(i:Int)+1 by omega] at h1
    rw [G0] at h
    rcases List.mem_cons.1 h with rfl | h
    · show p ((i:Int)+1)-p 0≤_;rw [h0,h1];simp only;omega
    · rcases List.mem_cons.1 h with rfl | h
      · show p 0-p ((i:Int)+1)≤_;rw [h0,h1];simp only;omega
      · refine Z5 h0 r (i+1) (fun k u hk=>?_) (fun u hu=>hl u (List.mem_cons_of_mem _ hu)) b h
        rw [show ((i+1:Nat):Int)+k+1=(i:Int)+((k+1:Nat):Int)+1 by omega]
        exact hp (k+1) u (by simpa using hk)
theorem jO (hE:EnvOK T V env){l:List Lit}(hf:∀y∈l,LitF T V y)(hfit:In (C2 T V l)=true)(ht:∀y∈l,Pk env y=true):(Er (C2 T V l)).ok=true:=by
 have hl:=Sj hf
 have hz:=rR hl hfit
 rw [pJ] at hz ⊢
 refine gY (p:=pv (Tg env) (B6 T V l).ts) (by rw [hz];rfl) fun b hb=>?_
 rcases List.mem_append.1 (show b∈G0 T V 0 (B6 T V l).ts++(B6 T V l).bs from hb) with h | h
 ·
  refine Z5 (p:=pv (Tg env) (B6 T V l).ts) (τ:=Tg env) rfl _ 0 (fun k t hk=>?_) (fun t ht'=>?_) b h
  · rw [show ((0:Nat):Int)+(k:Int)+1=(k:Int)+1 by omega];exact pv_at hk
  · exact wA hE ((Kf hl).terms t ht') (mF hl t ht').op
 · exact (oQ hE hf).2 (fun y hy _=>ht y hy) b h
def sg (env:List (List Ev))(x:Wd):Ft:=if x.const then x.text else (vl env (Hf x.field)).text
def tP (x:Wd):Prop:=(x.const=true→x.field=tm0)∧(x.const=false→x.text = [])
theorem iC (e:Ex):tP (B8 e):=by
 unfold B8
 split
 · exact ⟨fun _=>rfl,fun h=>(by cases h)⟩
 · exact ⟨fun h=>(by cases h),fun _=>rfl⟩
theorem sg_as {e:Ex}(hz:Bx e=0)(h:(e.op==0||e.op==1)=true):sg env (B8 e)=(vl env e).text:=by
  cases h0:e.op==0 with
  | true=>
    rw [cL h0]
    show e.val.text=(Bw _ e).1.text
    rw [Ta hz (by simpa using h0)]
  | false=>
    rw [h0,Bool.false_or] at h
    rw [dD h0]
    show (vl env (Hf (Dy e))).text=_
    rw [K8 hz (by rw [h];rfl)]
structure StrL (T:List Sc) (V:List Va) (c:Lit):Prop where
 op:c.cond.op=9
 len:c.cond.args.length=2
 d0:(Ao c.cond).op=0∨(Ao c.cond).op=1
 d1:(Bj c.cond).op=0∨(Bj c.cond).op=1
 k0:Am T V (Ao c.cond)=2
 k1:Am T V (Bj c.cond)=2
 m0:Ao c.cond∈c.cond.args
 m1:Bj c.cond∈c.cond.args
theorem V9 {c:Lit}(hk:KOK T V c.cond)(h:Cl T V c.cond=true)(h2:Bt T V c.cond=true):StrL T V c:=by
 obtain ⟨h3,h4⟩:=S9 hk (show (!Cl T V c.cond || !Bt T V c.cond)=false by rw [h,h2];rfl)
 unfold Cl at h
 rw [Bool.and_eq_true] at h
 have m0:=A4 (show 0<c.cond.args.length by omega)
 have m1:=Bn (show 1<c.cond.args.length by omega)
 have ho:c.cond.op=9:=by simpa using h.1
 have hk0:Am T V (Ao c.cond)=2:=by simpa using h.2
 exact ⟨ho,h3,by simpa using h4 _ m0,by simpa using h4 _ m1,hk0,by rw [Ht hk ho m1];exact hk0,m0,m1⟩
theorem U0 {s:Bool}{c:Lit}(h:B9 T V s c=true):c.neg = !s∧Cl T V c.cond=true∧Bt T V c.cond=true:=by
 unfold B9 at h
 rw [Bool.and_eq_true,Bool.and_eq_true] at h
 refine ⟨?_,h.2.1,h.2.2⟩
 have:=h.1
 cases hn:c.neg <;> cases s <;> rw [hn] at this <;> first | rfl | cases this
theorem Sh (hE:EnvOK T V env){e:Ex}(hk:KOK T V e)(h:e.op=0∨e.op=1):An (vl env e)=0∧(vl env e).kind=Am T V e:=by
 rcases h with h | h
 ·
  have hz:=(Ba hk.nodes).1
  have hv:vl env e=e.val:=by show (Bw _ e).1=_;rw [Ta hz h]
  refine ⟨by rw [hv];exact (I6 hz h).1,Ru hE.suits hk⟩
 ·
  obtain ⟨_,h2,h3⟩:=Ok hE hk (by rw [h];rfl)
  exact ⟨h2,h3⟩
theorem Wo {v:Vl}(h:An v=0)(hk:v.kind=2):v.num=0:=by
 unfold An at h
 rw [if_neg (by rw [hk];decide),if_pos (by rw [hk];rfl)] at h
 split at h
 · cases h
 · rename_i h2;simpa using h2
theorem xE (hE:EnvOK T V env){c:Lit}(hk:KOK T V c.cond)(hs:StrL T V c):tv env c.cond=true↔sg env (B8 (Ao c.cond))=sg env (B8 (Bj c.cond)):=by
 have k0:=Ax hk hs.m0
 have k1:=Ax hk hs.m1
 rw [vQ hE.suits hk hs.op,pC,sg_as (Ba k0.nodes).1 (by simpa using hs.d0),sg_as (Ba k1.nodes).1 (by simpa using hs.d1)]
 obtain ⟨a1,a2⟩:=Sh hE k0 hs.d0
 obtain ⟨b1,b2⟩:=Sh hE k1 hs.d1
 rw [hs.k0] at a2
 rw [hs.k1] at b2
 have a3:=Wo a1 a2
 have b3:=Wo b1 b2
 revert a2 a3 b2 b3
 generalize vl env (Ao c.cond)=v
 generalize vl env (Bj c.cond)=w
 intro a2 a3 b2 b3
 constructor
 · intro h;rw [h]
 ·
  intro h
  cases v;cases w
  simp_all
def wSg (env:List (List Ev))(w:Wm):Prop:=∀p∈w,sg env p.1=sg env p.2
def wWf (w:Wm):Prop:=∀p∈w,tP p.1∧tP p.2
theorem Yw {w:Wm}{x y:Wd}(h:Ga w x=some y):(x,y)∈w:=by
 obtain ⟨i,p,h1,h2,h3⟩:=Zq h
 have:=List.mem_of_getElem? h1
 rw [←h2,←h3];exact this
theorem jK {w:Wm}(h:wSg env w):∀(n:Nat) (x:Wd),sg env (Qd w n x)=sg env x
  | 0,x=>rfl
  | n+1,x=>by
    rw [Qd]
    cases hg:Ga w x with
    | none=>rfl
    | some y=>simp only;rw [jK h n y,h _ (Yw hg)]
theorem eQ {w:Wm}(h:wWf w):∀(n:Nat) (x:Wd),tP x→tP (Qd w n x)
  | 0,x,hx=>hx
  | n+1,x,hx=>by
    rw [Qd]
    cases hg:Ga w x with
    | none=>exact hx
    | some y=>exact eQ h n y (h _ (Yw hg)).2
theorem fK {a b:Wd}(ha:tP a)(hb:tP b)(h:(a.const&&b.const)=true)(ht:a.text=b.text):a=b:=by
 rw [Bool.and_eq_true] at h
 have h1:=ha.1 h.1
 have h2:=hb.1 h.2
 obtain ⟨c,t,f⟩:=a
 obtain ⟨c',t',f'⟩:=b
 simp only at h h1 h2 ht
 rw [h.1,h.2,h1,h2,ht]
theorem Aab {w:Wm}{a b:Wd}(h:wWf w)(ha:tP a)(hb:tP b):wWf (Nu w a b).1:=by
 unfold Nu
 split
 · exact h
 split
 · exact h
 split
 ·
  intro p hp
  rcases List.mem_append.1 hp with hp | hp
  · exact h p hp
  · rw [List.mem_singleton.1 hp];exact ⟨hb,ha⟩
 ·
  intro p hp
  rcases List.mem_append.1 hp with hp | hp
  · exact h p hp
  · rw [List.mem_singleton.1 hp];exact ⟨ha,hb⟩
theorem tC {w:Wm}{c:Lit}(h:wWf w):wWf (E3 w c).1:=by rw [Ju];exact Aab h (eQ h _ _ (iC _)) (eQ h _ _ (iC _))
theorem qA {w:Wm}{c:Lit}(h:wSg env w)(hw:wWf w)(he:sg env (B8 (Ao c.cond))=sg env (B8 (Bj c.cond))):(E3 w c).2=true∧wSg env (E3 w c).1:=by
  rw [Ju]
  have ha:=jK h w.length (B8 (Ao c.cond))
  have hb:=jK h w.length (B8 (Bj c.cond))
  have wa:=eQ hw w.length _ (iC (Ao c.cond))
  have wb:=eQ hw w.length _ (iC (Bj c.cond))
  change sg env (Cb w (B8 (Ao c.cond)))=_ at ha
  change sg env (Cb w (B8 (Bj c.cond)))=_ at hb
  change tP (Cb w (B8 (Ao c.cond))) at wa
  change tP (Cb w (B8 (Bj c.cond))) at wb
  have hab:sg env (Cb w (B8 (Ao c.cond)))=sg env (Cb w (B8 (Bj c.cond))):=by rw [ha,hb,he]
  revert wa wb hab
  generalize Cb w (B8 (Ao c.cond))=a
  generalize Cb w (B8 (Bj c.cond))=b
  intro wa wb hab
  unfold Nu
  by_cases hq:a=b
  · rw [if_pos hq];exact ⟨rfl,h⟩
  rw [if_neg hq]
  cases hc:(a.const&&b.const) with
  | true=>
    have h2:=hc
    rw [Bool.and_eq_true] at h2
    unfold sg at hab
    rw [if_pos h2.1,if_pos h2.2] at hab
    exact absurd (fK wa wb hc hab) hq
  | false=>
    rw [Cz rfl]
    cases h3:a.const with
    | true=>
      rw [if_pos rfl]
      refine ⟨rfl,fun p hp=>?_⟩
      rcases List.mem_append.1 hp with hp | hp
      · exact h p hp
      · rw [List.mem_singleton.1 hp];exact hab.symm
    | false=>
      rw [Cz rfl]
      refine ⟨rfl,fun p hp=>?_⟩
      rcases List.mem_append.1 hp with hp | hp
      · exact h p hp
      · rw [List.mem_singleton.1 hp];exact hab
theorem dF:∀(l:List Lit) (w:Wm),(∀c∈l,B9 T V true c=true→sg env (B8 (Ao c.cond))=sg env (B8 (Bj c.cond)))→wSg env w→wWf w→(Jb T V l w).2=true∧wSg env (Jb T V l w).1
  | [],w,_,h,_=>⟨rfl,h⟩
  | c::r,w,hl,h,hw=>by
    have hr:=fun x hx=>hl x (List.mem_cons_of_mem _ hx)
    cases h1:B9 T V true c with
    | false=>rw [Ms h1];exact dF r w hr h hw
    | true=>
      obtain ⟨h2,h3⟩:=qA (c:=c) h hw (hl c (List.mem_cons_self ..) h1)
      rw [Md h1 h2]
      exact dF r _ hr h3 (tC hw)
theorem pH {w:Wm}(h:wSg env w):∀(l:List Lit),(∀c∈l,B9 T V false c=true→sg env (B8 (Ao c.cond))≠sg env (B8 (Bj c.cond)))→Oe T V w l=true
  | [],_=>rfl
  | c::r,hl=>by
    have hr:=pH h r fun x hx=>hl x (List.mem_cons_of_mem _ hx)
    rw [Oe]
    cases h1:B9 T V false c with
    | false=>exact hr
    | true=>
      have h2:=hl c (List.mem_cons_self ..) h1
      rw [if_neg (by decide),if_neg ?_]
      · exact hr
      · intro he
        have h3:=congrArg (sg env) he
        rw [show sg env (Cb w (B8 (Ao c.cond)))=_ from jK h _ _,show sg env (Cb w (B8 (Bj c.cond)))=_ from jK h _ _] at h3
        exact h2 h3
theorem cD (hE:EnvOK T V env){l:List Lit}(hl:Un T V l)(ht:∀y∈l,Pk env y=true):(Eg T V l).2=true:=by
 have key:∀{s:Bool} {c:Lit},c∈l→B9 T V s c=true→(tv env c.cond=true↔sg env (B8 (Ao c.cond))=sg env (B8 (Bj c.cond)))∧tv env c.cond=s:=fun {s c} hc hs=>by
  obtain ⟨h1,h2,h3⟩:=U0 hs
  have hk:=(hl c hc).1
  refine ⟨xE hE hk (V9 hk h2 h3),?_⟩
  have h4:=ht c hc
  unfold Pk at h4
  rw [h1] at h4
  cases hq:tv env c.cond <;> cases s <;> rw [hq] at h4 <;> first | rfl | cases h4
 obtain ⟨h1,h2⟩:=dF (T:=T) (V:=V) (env:=env) l [] (fun c hc hs=>(key hc hs).1.1 (key hc hs).2) (fun p hp=>by cases hp) (fun p hp=>by cases hp)
 unfold Eg
 rw [h1,Bool.true_and]
 refine pH h2 l fun c hc hs he=>?_
 have h3:=(key hc hs).1.2 he
 rw [(key hc hs).2] at h3
 cases h3
theorem lR (hE:EnvOK T V env){l:List Lit}(hf:∀y∈l,LitF T V y)(ht:jT env l=true):Qb T V l=true:=by
 have ht':∀y∈l,Pk env y=true:=List.all_eq_true.1 ht
 cases h:In (C2 T V l) with
 | false=>exact yM (by rw [h];rfl)
 | true=>rw [cN (by rw [h];rfl),cD hE (Sj hf) ht',jO hE hf h ht'];rfl
theorem Xs:∀(l:List (List Lit)),(Y9 T V 0 l).1≠2
  | []=>by show (0:Int)≠2;decide
  | c::r=>by
    rw [Y9]
    split
    · exact Xs r
    split
    · show (1:Int)≠2;decide
    · exact Xs r
theorem vM:∀{l:List (List Lit)} {o:Int},(∃c∈l,Qb T V c=true)→(Y9 T V o l).1≠2
  | [],_,⟨c,hc,_⟩=>by cases hc
  | d::r,o,⟨c,hc,hk⟩=>by
    rw [Y9]
    split
    · rename_i h
      rw [Bool.and_eq_true] at h
      rcases List.mem_cons.1 hc with rfl | hc
      · rw [hk] at h;cases h.1
      · exact vM ⟨c,hc,hk⟩
    split
    · show (1:Int)≠2;decide
    · exact Xs r
theorem kY (hE:EnvOK T V env){c:Cs}(hf:Ig (LitF T V) c)(ht:Rs env c.1=true):(Cp T V c).1≠2:=by
  cases h:(!c.2) with
  | true=>rw [bJ h];show (0:Int)≠2;decide
  | false=>
    rw [Xu h]
    obtain ⟨x,hx,hx2⟩:=List.any_eq_true.1 ht
    exact vM ⟨x,hx,lR hE (hf x hx) hx2⟩
theorem X5:∀{l:List (List Lit)} {o:Int},o≠1→(Y9 T V o l).1=1→∃c∈l,Qb T V c=true∧Jq T V c=true∧Y9 T V o l=(1,tK T V c)
  | [],o,ho,h=>absurd h ho
  | c::r,o,ho,h=>by
    cases h1:(!Qb T V c&&decide ((c.length:Int)≤256)) with
    | true=>
      rw [fT h1] at h ⊢
      obtain ⟨d,hd,hx⟩:=X5 ho h
      exact ⟨d,List.mem_cons_of_mem _ hd,hx⟩
    | false=>
      cases h2:Jq T V c with
      | true=>
        refine ⟨c,List.mem_cons_self ..,?_,h2,nN h1 h2⟩
        rw [(P8 h2).2,Bool.and_true] at h1
        simpa using h1
      | false=>
        rw [wM h1 h2] at h ⊢
        obtain ⟨d,hd,hx⟩:=X5 (by decide) h
        exact ⟨d,List.mem_cons_of_mem _ hd,hx⟩
end
end Go.Proofs.YtkddpedfbicbeaaGreatDoor
