/-
  Several texts in one: S43, S44, S45. No condition.
-/
import Derived.Test.YtjedflcpjlgokaaGreatDoorK23
import Derived.Test.YtjedflcpjlgokaaGreatDoorK22
set_option linter.unusedVariables false
set_option linter.unusedSimpArgs false
namespace Go.Proofs.YtjedflcpjlgokaaGreatDoor
open Go Go.Aw

section
variable {T:List Sc} {V:List Va} {env:List (List Ev)}
structure LitF (T:List Sc) (V:List Va) (y:Lit):Prop where
 kok:KOK T V y.cond
 size:Ar y.cond≤64
 kind:An T V y.cond=1
 eqB:y.cond.op=9→An T V (Av y.cond)≠1
 eqI:y.cond.op=9→An T V (Av y.cond)=0→y.neg=false
theorem Tv {v:Vl}(h:Aq v=0):v.kind=0∨v.kind=1∨v.kind=2:=by
 unfold Aq at h
 split at h
 · rename_i h1;simp at h1;omega
 split at h
 · rename_i h1;simp at h1;omega
 · cases h
theorem sJ (hE:EnvOK T V env){e:Ex}(hk:KOK T V e){b:Int}{s:Su}(h:(Bg e b s).2=true):An T V e=0∨An T V e=1∨An T V e=2:=by
 have hz:=Bc hk.nodes
 rcases Kb hz.1 with c | ⟨c,c1⟩ | ⟨c,hl⟩ | ⟨c,c1,c2,c3⟩
 ·
  have h1:An T V e=e.val.kind:=by unfold An;rw [if_pos (by rw [c];rfl)]
  rw [h1];exact Tv (Lu hz.1 (by simpa using c)).1
 ·
  obtain ⟨_,h2,h3⟩:=Xd hE hk c1
  rw [←h3];exact Tv h2
 ·
  left
  have ho:e.op=5∨e.op=6:=by simpa using c
  unfold An
  rw [if_neg (by simp;omega),if_neg (by simp;omega),if_pos (by simp;omega)]
 · rw [F4 c c1 c2 c3] at h;cases h
theorem yE {a b:Ex}(h:(B7 a b).2=true):(Bg a 1 Ir).2=true:=by
 unfold B7 at h
 cases h1:(Bg a 1 Ir).2 with
 | true=>rfl
 | false=>rw [h1] at h;cases h
theorem gQ (hE:EnvOK T V env){y:Lit}(hf:LitF T V y)(ho:(y.cond.op==1)=false)(hn:(Aa T V y).2=true) :
    (y.cond.op=7∨y.cond.op=8∨y.cond.op=9)∧An T V (Av y.cond)=0∧An T V (Cc y.cond)=0∧(B7 (Av y.cond) (Cc y.cond)).2=true∧Aa T V y=B7 (Av y.cond) (Cc y.cond):=by
  cases h2:(!Cb y.cond||Dl T V y.cond) with
  | true=>rw [eU ho h2] at hn;cases hn
  | false=>
    rw [Zx ho h2] at hn
    have hc:=Rt h2
    have hop:y.cond.op=7∨y.cond.op=8∨y.cond.op=9:=by
      unfold Cb at hc
      simp only [Bool.or_eq_true,beq_iff_eq] at hc
      omega
    have ht:Dl T V y.cond=false:=by
      rw [Bool.or_eq_false_iff] at h2;exact h2.2
    have hl:=X5 hf.kok (by omega) (by omega)
    have m0:=A0 (show 0<y.cond.args.length by omega)
    have m1:=Bk (show 1<y.cond.args.length by omega)
    have k0:An T V (Av y.cond)=0:=by
      rcases hop with h | h | h
      · have h1:=Oj hf.kok m0;unfold Nu at h1;rw [h] at h1;simpa using h1
      · have h1:=Oj hf.kok m0;unfold Nu at h1;rw [h] at h1;simpa using h1
      · rcases sJ hE (A2 hf.kok m0) (yE hn) with h3 | h3 | h3
        · exact h3
        · exact absurd h3 (hf.eqB h)
        · unfold Dl at ht
          rw [h,h3] at ht;cases ht
    have k1:An T V (Cc y.cond)=0:=by
      rcases hop with h | h | h
      · have h1:=Oj hf.kok m1;unfold Nu at h1;rw [h] at h1;simpa using h1
      · have h1:=Oj hf.kok m1;unfold Nu at h1;rw [h] at h1;simpa using h1
      · rw [O6 hf.kok h m1];exact k0
    exact ⟨hop,k0,k1,hn,Zx ho h2⟩
def R6 (p:Int→Int)(b:Bd):Prop:=p b.x-p b.y≤b.most
theorem wF (hE:EnvOK T V env){y:Lit}(hf:LitF T V y)(hn:(Aa T V y).2=true){p:Int→Int}{x z:Int}(hx:p x=eI (Xs env) (Aa T V y).1.plus)(hz:p z=eI (Xs env) (Aa T V y).1.minus) :
    (∀b∈D5 y x z (Aa T V y).1.rest,R6 p b)↔eA env y=true:=by
  cases ho:y.cond.op==1 with
  | true=>
    have h1:y.cond.op=1:=by simpa using ho
    rw [Vt ho] at hx hz ⊢
    obtain ⟨_,h2,h3⟩:=Xd hE hf.kok (by rw [ho];rfl)
    have hb:=G2 h2 (h3.trans hf.kind)
    have hv:Xs env (Dv y.cond)=(vl env y.cond).num:=by unfold Xs;rw [Ky (Bc hf.kok.nodes).1 (by rw [ho];rfl)]
    simp only [eI,List.map_cons,List.map_nil,List.sum_cons,List.sum_nil,hv] at hx hz
    have hnum:(vl env y.cond).num=0∨(vl env y.cond).num=1:=by rw [hb];cases (vl env y.cond).num==1 <;> simp [Eh]
    have ht:tv env y.cond=((vl env y.cond).num==1):=rfl
    unfold eA D5
    rw [ht]
    cases hneg:y.neg with
    | true=>
      simp only [h1]
      simp only [R6,List.mem_singleton,forall_eq,beq_self_eq_true,Bool.true_and,Bool.true_or,if_true]
      rw [hx,hz]
      rcases hnum with h | h <;> rw [h] <;> simp
    | false=>
      simp only [h1]
      simp [R6,hx,hz]
      rcases hnum with h | h <;> rw [h] <;> simp
  | false=>
    obtain ⟨hop,k0,k1,hb,he⟩:=gQ hE hf ho hn
    have h1:y.cond.op≠1:=by simpa using ho
    have hl:=X5 hf.kok (by omega) (by omega)
    have m0:=A0 (show 0<y.cond.args.length by omega)
    have m1:=Bk (show 1<y.cond.args.length by omega)
    have hsz:=Db (e:=y.cond) (by omega)
    have hs:=hf.size
    obtain ⟨hv,_,_⟩:=dA hE (A2 hf.kok m0) (A2 hf.kok m1) k0 k1 (by omega) hb
    rw [he] at hx hz ⊢
    rw [←hx,←hz] at hv
    unfold eA D5
    rcases hop with h | h | h
    · rw [zP hE.suits hf.kok h,h]
      cases hneg:y.neg <;> simp [R6] <;> omega
    · rw [tw_leq hE.suits hf.kok h,h]
      cases hneg:y.neg <;> simp [R6] <;> omega
    · rw [tw_eqI hE.suits hf.kok h k0,h,hf.eqI h k0]
      simp [R6]
      omega
def pv (τ:Tm→Int)(ts:List Tm)(k:Int):Int:=if k≤0 then 0 else ((ts[(k-1).toNat]?).map τ).getD 0
theorem lN:∀{ts:List Tm} {t:Tm},t∈ts→ts[ts.idxOf t]? = some t
  | u::r,t,h=>by
    rw [List.idxOf_cons]
    by_cases e:u=t
    · subst e;simp
    · have h1:(u==t)=false:=by simpa using e
      rw [h1]
      rcases List.mem_cons.1 h with rfl | h
      · exact absurd rfl e
      · simpa using lN h
theorem kT:∀{ts r:List Tm} {t:Tm},t∈ts→(ts++r).idxOf t=ts.idxOf t
  | u::s,r,t,h=>by
    rw [List.cons_append,List.idxOf_cons,List.idxOf_cons]
    by_cases e:u=t
    · subst e;simp
    · have h1:(u==t)=false:=by simpa using e
      rw [h1]
      rcases List.mem_cons.1 h with rfl | h
      · exact absurd rfl e
      · simp [kT h]
theorem vR {τ:Tm→Int}{ts l:List Tm}(hl:l.length≤1)(h:∀t∈l,t∈ts):pv τ ts (B9 ts l)=eI τ l:=by
  match l,hl with
  | [],_=>rfl
  | [t],_=>
    have hm:=lN (h t (List.mem_cons_self ..))
    show pv τ ts (((ts.idxOf t:Nat):Int)+1)=_
    unfold pv
    rw [if_neg (by omega),show ((((ts.idxOf t:Nat):Int)+1)-1).toNat=ts.idxOf t by omega,hm]
    simp [eI]
theorem mJ {ts r l:List Tm}(h:∀t∈l,t∈ts):B9 (ts++r) l=B9 ts l:=by
  match l with
  | []=>rfl
  | t::_=>
    show (((ts++r).idxOf t:Nat):Int)+1=_
    rw [kT (h t (List.mem_cons_self ..))];rfl
theorem Zs (ts l:List Tm):∃r,A3 ts l=ts++r:=by
 unfold A3
 split
 · exact ⟨[],by simp⟩
 ·
  split
  · exact ⟨[],by simp⟩
  · exact ⟨_,rfl⟩
theorem Zm {ts l:List Tm}(hl:l.length≤1):∀t∈l,t∈A3 ts l:=by
  match l,hl with
  | [],_=>intro t h;cases h
  | [u],_=>
    intro t h
    rw [List.mem_singleton.1 h]
    unfold A3
    simp only
    split
    · rename_i h1;simpa using h1
    · simp
def Of (T:List Sc)(V:List Va)(ts:List Tm)(c:Lit):List Bd:=if (Aa T V c).2 then D5 c (B9 ts (Aa T V c).1.plus) (B9 ts (Aa T V c).1.minus) (Aa T V c).1.rest else []
theorem Se {c:Lit}(h:(Aa T V c).2=true):(Aa T V c).1.plus.length≤1∧(Aa T V c).1.minus.length≤1:=by
 unfold Aa at h ⊢
 split
 · exact ⟨Nat.le_refl _,Nat.zero_le _⟩
 ·
  rename_i h1
  rw [if_neg h1] at h
  split
  · exact ⟨Nat.zero_le _,Nat.zero_le _⟩
  ·
   rename_i h2
   rw [if_neg h2] at h
   unfold B7 at h ⊢
   split
   · exact ⟨Nat.zero_le _,Nat.zero_le _⟩
   ·
    rename_i h3
    rw [if_neg h3] at h
    split
    · exact ⟨Nat.zero_le _,Nat.zero_le _⟩
    ·
     rename_i h4
     rw [if_neg h4] at h
     unfold Or at h ⊢
     split
     ·
      rename_i h5
      rw [h5] at h
      simp only [Bool.and_eq_true,decide_eq_true_eq] at h
      exact ⟨by simp only;omega,by simp only;omega⟩
     · exact ⟨Nat.zero_le _,Nat.zero_le _⟩
theorem Uv:∀(l:List Lit) (s:Sy),(∃r,(l.foldl (C7 T V) s).ts=s.ts++r)∧(l.foldl (C7 T V) s).bs=s.bs++l.flatMap (Of T V (l.foldl (C7 T V) s).ts)∧
    ∀c∈l,(Aa T V c).2=true→(∀t∈(Aa T V c).1.plus,t∈(l.foldl (C7 T V) s).ts)∧∀t∈(Aa T V c).1.minus,t∈(l.foldl (C7 T V) s).ts
  | [],s=>⟨⟨[],by simp⟩,by simp,fun c h=>by cases h⟩
  | c::r,s=>by
    rw [List.foldl_cons]
    obtain ⟨⟨q,h1⟩,h2,h3⟩:=Uv r (C7 T V s c)
    cases hn:(Aa T V c).2 with
    | false=>
      have hs:C7 T V s c=s:=Kf (by rw [hn];rfl)
      rw [hs] at h1 h2 h3 ⊢
      refine ⟨⟨q,h1⟩,?_,fun d hd hdn=>?_⟩
      · rw [h2,List.flatMap_cons]
        have:Of T V (r.foldl (C7 T V) s).ts c = []:=by unfold Of;rw [hn];rfl
        rw [this];rfl
      · rcases List.mem_cons.1 hd with rfl | hd
        · rw [hn] at hdn;cases hdn
        · exact h3 d hd hdn
    | true=>
      have hs:=J7 (T:=T) (V:=V) (s:=s) (c:=c) (by rw [hn];rfl)
      obtain ⟨lp,lm⟩:=Se hn
      obtain ⟨r1,e1⟩:=Zs s.ts (Aa T V c).1.plus
      obtain ⟨r2,e2⟩:=Zs (A3 s.ts (Aa T V c).1.plus) (Aa T V c).1.minus
      have hts:(C7 T V s c).ts=A3 (A3 s.ts (Aa T V c).1.plus) (Aa T V c).1.minus:=by rw [hs]
      have hp:∀t∈(Aa T V c).1.plus,t∈A3 s.ts (Aa T V c).1.plus:=Zm lp
      have hm:∀t∈(Aa T V c).1.minus,t∈A3 (A3 s.ts (Aa T V c).1.plus) (Aa T V c).1.minus:=Zm lm
      have hF:(r.foldl (C7 T V) (C7 T V s c)).ts=A3 s.ts (Aa T V c).1.plus++(r2++q):=by rw [h1,hts,e2,List.append_assoc]
      have hF2:(r.foldl (C7 T V) (C7 T V s c)).ts=A3 (A3 s.ts (Aa T V c).1.plus) (Aa T V c).1.minus++q:=by rw [h1,hts]
      refine ⟨⟨r1++(r2++q),by rw [hF,e1,List.append_assoc]⟩,?_,fun d hd hdn=>?_⟩
      · rw [h2,List.flatMap_cons,←List.append_assoc]
        congr 1
        unfold Of
        rw [hn,if_pos rfl]
        have n1:B9 (r.foldl (C7 T V) (C7 T V s c)).ts (Aa T V c).1.plus=B9 (A3 s.ts (Aa T V c).1.plus) (Aa T V c).1.plus:=by rw [hF];exact mJ hp
        have n2:B9 (r.foldl (C7 T V) (C7 T V s c)).ts (Aa T V c).1.minus=B9 (A3 (A3 s.ts (Aa T V c).1.plus) (Aa T V c).1.minus) (Aa T V c).1.minus:=by rw [hF2];exact mJ hm
        rw [n1,n2,hs]
      · rcases List.mem_cons.1 hd with rfl | hd
        · exact ⟨fun t ht=>by rw [hF];exact List.mem_append_left _ (hp t ht),fun t ht=>by rw [hF2];exact List.mem_append_left _ (hm t ht)⟩
        · exact h3 d hd hdn
theorem yX (hE:EnvOK T V env){l:List Lit}(hf:∀y∈l,LitF T V y):(∀b∈(B1 T V l).bs,R6 (pv (Xs env) (B1 T V l).ts) b)↔∀y∈l,(Aa T V y).2=true→eA env y=true:=by
 obtain ⟨_,h2,h3⟩:=Uv (T:=T) (V:=V) l ⟨[],[]⟩
 have h2':(B1 T V l).bs=l.flatMap (Of T V (B1 T V l).ts):=by
  show (l.foldl (C7 T V) ⟨[],[]⟩).bs=_
  rw [h2];rfl
 rw [h2']
 have each:∀y∈l,(Aa T V y).2=true→((∀b∈Of T V (B1 T V l).ts y,R6 (pv (Xs env) (B1 T V l).ts) b)↔eA env y=true):=fun y hy hn=>by
  obtain ⟨m1,m2⟩:=h3 y hy hn
  obtain ⟨l1,l2⟩:=Se hn
  unfold Of
  rw [hn,if_pos rfl]
  exact wF hE (hf y hy) hn (vR l1 m1) (vR l2 m2)
 constructor
 ·
  intro h y hy hn
  exact (each y hy hn).1 fun b hb=>h b (List.mem_flatMap.2 ⟨y,hy,hb⟩)
 ·
  intro h b hb
  obtain ⟨y,hy,hb⟩:=List.mem_flatMap.1 hb
  cases hn:(Aa T V y).2 with
  | true=>exact (each y hy hn).2 (h y hy hn) b hb
  | false=>unfold Of at hb;rw [hn] at hb;cases hb
end

section
variable {T:List Sc} {V:List Va} {env:List (List Ev)}
def Jw (P:Lit→Prop)(c:Cs):Prop:=∀x∈c.1,∀y∈x,P y
theorem H1 {P:Lit→Prop}{a b:Cs}(ha:Jw P a)(hb:Jw P b):Jw P (Ek a b):=by
 unfold Ek
 split
 · intro x hx;cases hx
 ·
  unfold Lh
  split
  · intro x hx;cases hx
  ·
   intro x hx y hy
   obtain ⟨p,hp,hm⟩:=List.mem_flatMap.1 hx
   obtain ⟨q,hq,rfl⟩:=List.mem_map.1 hm
   rcases List.mem_append.1 hy with h | h
   · exact ha p hp y h
   · exact hb q hq y h
theorem Ly {P:Lit→Prop}{a b:Cs}(ha:Jw P a)(hb:Jw P b):Jw P (Ie a b):=by
 unfold Ie
 split
 · intro x hx;cases hx
 ·
  intro x hx y hy
  rcases List.mem_append.1 hx with h | h
  · exact ha x h y hy
  · exact hb x h y hy
theorem J1 {P:Lit→Prop}{l:List Lit}(h:∀y∈l,P y):Jw P (D9 l):=by
 intro x hx y hy
 unfold D9 at hx
 obtain ⟨z,hz,rfl⟩:=List.mem_map.1 hx
 rw [List.mem_singleton.1 hy]
 exact h z hz
def eqF (T:List Sc)(V:List Va)(y:Lit):Prop:=(y.cond.op=9→An T V (Av y.cond)≠1)∧(y.cond.op=9→An T V (Av y.cond)=0→y.neg=false)
theorem jY (e:Ex):KOK T V e→∀s,Jw (eqF T V) (Cl T V e s):=by
 refine Ex.Aav (P:=fun e=>KOK T V e→∀s,Jw (eqF T V) (Cl T V e s)) (fun e ih hk s=>?_) e
 rcases It s hk with h | ⟨h,hl⟩ | ⟨h,hl⟩ | ⟨h,hl,h1⟩ | ⟨h,hl,h1,h2⟩ | ⟨_,_,_,h,h9⟩
 ·
  cases h1:((e.val.num==1)==s) with
  | true=>rw [Fq h h1];intro x hx y hy;rw [List.mem_singleton.1 hx] at hy;cases hy
  | false=>rw [Fm h h1];intro x hx;cases hx
 · rw [Fp hl h];exact ih _ (A0 hl) (A2 hk (A0 hl)) _
 ·
  have m0:=A0 (show 0<e.args.length by omega)
  have m1:=Bk hl
  cases h1:((e.op==10)==s) with
  | true=>rw [Fs hl h h1];exact H1 (ih _ m0 (A2 hk m0) _) (ih _ m1 (A2 hk m1) _)
  | false=>rw [Fl hl h h1];exact Ly (ih _ m0 (A2 hk m0) _) (ih _ m1 (A2 hk m1) _)
 ·
  have m0:=A0 (show 0<e.args.length by omega)
  have m1:=Bk hl
  have i0:=ih _ m0 (A2 hk m0)
  have i1:=ih _ m1 (A2 hk m1)
  rw [Fr hl h h1]
  exact Ly (H1 (i0 _) (i1 _)) (H1 (i0 _) (i1 _))
 ·
  rw [Fk h h1 h2]
  refine J1 fun y hy=>?_
  rcases List.mem_cons.1 hy with rfl | hy
  · exact ⟨fun h=>absurd (show (7:Int)=9 from h) (by decide),fun h=>absurd (show (7:Int)=9 from h) (by decide)⟩
  · rw [List.mem_singleton.1 hy];exact ⟨fun h=>absurd (show (7:Int)=9 from h) (by decide),fun h=>absurd (show (7:Int)=9 from h) (by decide)⟩
 ·
  rw [h]
  refine J1 fun y hy=>?_
  rw [List.mem_singleton.1 hy]
  refine ⟨fun ho=>?_,fun ho h0=>?_⟩
  ·
   have:=(h9 (by simpa using ho)).1
   simpa using this
  ·
   have:=(h9 (by simpa using ho)).2
   rw [h0] at this
   simpa using this
theorem oN {e:Ex}(hk:KOK T V e)(h1:An T V e=1)(hs:Ar e≤64)(s:Bool):Jw (LitF T V) (Cl T V e s):=fun x hx y hy=>by
 have a:=Pf e hk s x hx y hy
 have b:=iG e hk h1 s x hx y hy
 have c:=jY e hk s x hx y hy
 exact ⟨a.1,Nat.le_trans a.2 hs,b,c.1,c.2⟩
theorem Rp {l:List Lit}(h:∀y∈l,LitF T V y):Sq T V l:=fun y hy=>⟨(h y hy).kok,(h y hy).size⟩
theorem Tb {α:Type}{f:α→Int}:∀{l:List α},(∀x∈l,f x=0)→Ao f l=0
  | [],_=>rfl
  | a::r,h=>by
    rw [Ao,if_neg (by rw [h a (List.mem_cons_self ..)];decide)]
    exact Tb fun x hx=>h x (List.mem_cons_of_mem _ hx)
theorem Tz {ts l:List Tm}(h:∀t∈l,t∈ts):0≤B9 ts l∧B9 ts l≤(ts.length:Int):=by
  match l with
  | []=>exact ⟨Int.le_refl _,by show (0:Int)≤_;omega⟩
  | t::r=>
    have:=List.idxOf_lt_length_of_mem (h t (List.mem_cons_self ..))
    show 0≤((ts.idxOf t:Nat):Int)+1∧((ts.idxOf t:Nat):Int)+1≤_
    omega
theorem oW {c:Lit}{x z r:Int}:∀b∈D5 c x z r,(b.x=x∨b.x=z)∧(b.y=x∨b.y=z):=by
 intro b hb
 unfold D5 at hb
 repeat' split at hb
 all_goals
  simp only [List.mem_cons,List.not_mem_nil,or_false] at hb
  rcases hb with rfl | rfl <;> simp
theorem gR:∀(ts:List Tm) (i:Nat),∀b∈Ho T V i ts,0≤b.x∧b.x≤(i:Int)+ts.length∧0≤b.y∧b.y≤(i:Int)+ts.length
  | [],i,b,h=>by cases h
  | t::r,i,b,h=>by
    rw [Ho] at h
    rw [List.length_cons]
    rcases List.mem_cons.1 h with rfl | h
    · simp only;omega
    · rcases List.mem_cons.1 h with rfl | h
      · simp only;omega
      · have:=gR r (i+1) b h;omega
theorem sys_bs (l:List Lit):(B1 T V l).bs=l.flatMap (Of T V (B1 T V l).ts):=by
 obtain ⟨_,h2,_⟩:=Uv (T:=T) (V:=V) l ⟨[],[]⟩
 show (l.foldl (C7 T V) ⟨[],[]⟩).bs=_
 rw [h2];rfl
theorem yH (l:List Lit):∀c∈l,(Aa T V c).2=true→(∀t∈(Aa T V c).1.plus,t∈(B1 T V l).ts)∧∀t∈(Aa T V c).1.minus,t∈(B1 T V l).ts:=
 (Uv (T:=T) (V:=V) l ⟨[],[]⟩).2.2
theorem mB (l:List Lit):∀b∈(Bf T V l).bs,0≤b.x∧b.x<(Bf T V l).n∧0≤b.y∧b.y<(Bf T V l).n:=by
  intro b hb
  show 0≤b.x∧b.x<((B1 T V l).ts.length:Int)+1∧0≤b.y∧b.y<((B1 T V l).ts.length:Int)+1
  rcases List.mem_append.1 (show b∈Ho T V 0 (B1 T V l).ts++(B1 T V l).bs from hb) with h | h
  · have:=gR _ _ b h;omega
  · rw [sys_bs] at h
    obtain ⟨c,hc,hb⟩:=List.mem_flatMap.1 h
    cases hn:(Aa T V c).2 with
    | false=>unfold Of at hb;rw [hn] at hb;cases hb
    | true=>
      unfold Of at hb
      rw [hn,if_pos rfl] at hb
      obtain ⟨m1,m2⟩:=yH l c hc hn
      have r1:=Tz m1
      have r2:=Tz m2
      obtain ⟨h1,h2⟩:=oW b hb
      rcases h1 with h1 | h1 <;> rcases h2 with h2 | h2 <;> omega
theorem Pj {l:List Lit}(hl:Sq T V l)(hf:Ic (Bf T V l)=true):Gt (Bf T V l)=0:=by
 unfold Ic at hf
 simp only [Bool.and_eq_true,decide_eq_true_eq] at hf
 have hn:(Bf T V l).n=((B1 T V l).ts.length:Int)+1:=rfl
 unfold Gt
 rw [if_neg (by simp;omega),if_neg (by simp;omega)]
 refine Tb fun b hb=>?_
 have h1:=mB l b hb
 have h2:=Mh hl b hb
 have hbig:Jk=140737488355329:=rfl
 unfold bdE
 rw [if_neg (by simp only [Bool.or_eq_true,decide_eq_true_eq];omega)]
theorem pv_zero (τ:Tm→Int)(ts:List Tm):pv τ ts 0=0:=rfl
theorem pv_at {τ:Tm→Int}{ts:List Tm}{k:Nat}{t:Tm}(h:ts[k]? = some t):pv τ ts ((k:Int)+1)=τ t:=by
 unfold pv
 rw [if_neg (by omega),show (((k:Int)+1)-1).toNat=k by omega,h];rfl
def sg (env:List (List Ev))(x:Wd):Hn:=if x.const then x.text else (vl env (Fx x.field)).text
def wfW (x:Wd):Prop:=(x.const=true→x.field=tm0)∧(x.const=false→x.text = [])
structure StrL (T:List Sc) (V:List Va) (c:Lit):Prop where
 op:c.cond.op=9
 len:c.cond.args.length=2
 d0:(Av c.cond).op=0∨(Av c.cond).op=1
 d1:(Cc c.cond).op=0∨(Cc c.cond).op=1
 k0:An T V (Av c.cond)=2
 k1:An T V (Cc c.cond)=2
 m0:Av c.cond∈c.cond.args
 m1:Cc c.cond∈c.cond.args
def wSg (env:List (List Ev))(w:Wm):Prop:=∀p∈w,sg env p.1=sg env p.2
def wWf (w:Wm):Prop:=∀p∈w,wfW p.1∧wfW p.2
end

theorem Wq {bs:List Bd}:∀(m:Nat) (s:Ds×Int),(Ea bs (m+1) s).2<0→∃d,Ea bs (m+1) s=Ka bs d∧(Ka bs d).2<0
  | 0,s,h=>by
    cases hq:decide ((Ka bs s.1).2<0) with
    | true=>rw [Kg hq] at h ⊢;exact ⟨s.1,rfl,h⟩
    | false=>rw [Mk hq] at h;exact absurd h (of_decide_eq_false hq)
  | m+1,s,h=>by
    cases hq:decide ((Ka bs s.1).2<0) with
    | true=>rw [Kg hq] at h ⊢;exact ⟨s.1,rfl,h⟩
    | false=>rw [Mk hq] at h ⊢;exact Wq m _ h
theorem nQ {bs:List Bd}:∀{i:Nat} {s:Ds×Int},(∀b∈bs,0≤b.x)→0≤s.2→0≤(Hm i bs s).2:=by
  induction bs with
  | nil=>intro i s _ h;exact h
  | cons b r ih=>
    intro i s hb h
    rw [Hm]
    refine ih (fun x hx=>hb x (List.mem_cons_of_mem _ hx)) ?_
    cases hq:decide (Du s.1.sums b.y+b.most<Du s.1.sums b.x) with
    | false=>rw [Tl hq];exact h
    | true=>rw [Mu hq];exact hb b (List.mem_cons_self ..)
theorem tX:∀(bs:List Bd) (i:Nat) (s:Ds×Int),(∀b∈bs,0≤b.x)→(Hm i bs s).2<0→Hm i bs s=s∧FixF (gf s.1.sums) bs
  | [],i,s,_,h=>⟨rfl,fun b hb=>by cases hb⟩
  | b::r,i,s,hb,h=>by
    have hr:∀x∈r,0≤x.x:=fun x hx=>hb x (List.mem_cons_of_mem _ hx)
    rw [Hm] at h ⊢
    cases hq:decide (Du s.1.sums b.y+b.most<Du s.1.sums b.x) with
    | true=>
      rw [Mu hq] at h
      have:=nQ (i:=i+1) (s:=(⟨s.1.sums.set b.x.toNat (Du s.1.sums b.y+b.most),s.1.last.set b.x.toNat (i:Int)⟩,b.x)) hr (hb b (List.mem_cons_self ..))
      omega
    | false=>
      rw [Tl hq] at h ⊢
      obtain ⟨h1,h2⟩:=tX r (i+1) s hr h
      refine ⟨h1,fun c hc=>?_⟩
      rcases List.mem_cons.1 hc with rfl | hc
      · have h3:=of_decide_eq_false hq
        have h4:¬(gf s.1.sums c.y.toNat+c.most<gf s.1.sums c.x.toNat):=h3
        omega
      · exact h2 c hc
theorem oP {n:Nat}{bs:List Bd}(hm:∀b∈bs,-Jk≤b.most∧b.most≤Jk)(h:(Bs (zn n bs)).ok=true) :
    (Bs (zn n bs)).values.length=n∧Du (Bs (zn n bs)).values 0=0∧∀b∈bs,R6 (Du (Bs (zn n bs)).values) b:=by
  cases hz:Gt (zn n bs) != 0 with
  | true=>rw [Vc hz] at h;cases h
  | false=>
    cases he:decide ((Di (zn n bs)).2<0) with
    | false=>rw [Nf hz he] at h;cases h
    | true=>
      have hk:=fA hz hm
      have hs:=(bL hk).s
      rw [Nj hz he]
      simp only [List.length_map]
      have he':=of_decide_eq_true he
      rw [Na] at he'
      obtain ⟨d,h1,h2⟩:=Wq n _ he'
      obtain ⟨h3,h4⟩:=tX bs 0 (d,-1) (fun b hb=>(hk.bd b hb).1) h2
      rw [←Na] at h1
      have h5:(Di (zn n bs)).1=d:=by rw [h1];show (Hm 0 bs (d,-1)).1=d;rw [h3]
      rw [h5] at hs ⊢
      have hix:∀k:Int,0≤k→k<(n:Int)→Du (d.sums.map fun v=>v-Du d.sums 0) k=Du d.sums k-Du d.sums 0:=fun k k0 k1=>by
        have hlt:k.toNat<d.sums.length:=by omega
        have hg:=List.getElem?_eq_getElem hlt
        show ((d.sums.map fun v=>v-Du d.sums 0)[k.toNat]?).getD 0=(d.sums[k.toNat]?).getD 0-Du d.sums 0
        rw [List.getElem?_map,hg];rfl
      have hn:=hk.n1
      refine ⟨hs,?_,fun b hb=>?_⟩
      · rw [hix 0 (by omega) (by omega)];omega
      · have hb2:=hk.bd b hb
        have h6:=h4 b hb
        have h7:Du d.sums b.x≤Du d.sums b.y+b.most:=h6
        show Du _ b.x-Du _ b.y≤b.most
        rw [hix b.x hb2.1 hb2.2.1,hix b.y hb2.2.2.1 hb2.2.2.2]
        omega
inductive Root (w:Wm):Wd→Wd→Prop
 | here {x:Wd}:Jf w x=none→Root w x x
 | step {x y r:Wd}:Jf w x=some y→Root w y r→Root w x r
def sameW (w:Wm)(x y:Wd):Prop:=D4 w x=D4 w y
section
variable {T:List Sc} {V:List Va}
structure wGood (W:Wd→Prop) (w:Wm):Prop where
 key:∀p∈w,p.1.const=false
 val:∀p∈w,W p.2
end
end Go.Proofs.YtjedflcpjlgokaaGreatDoor
