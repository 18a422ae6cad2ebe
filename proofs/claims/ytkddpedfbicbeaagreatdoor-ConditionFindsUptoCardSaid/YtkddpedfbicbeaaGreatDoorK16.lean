/-
  Several texts in one: S21, S22. No condition.
-/
import Derived.Test.YtkddpedfbicbeaaGreatDoorK04
import Derived.Test.YtkddpedfbicbeaaGreatDoorK15
set_option linter.unusedVariables false
set_option linter.unusedSimpArgs false
namespace Go.Proofs.YtkddpedfbicbeaaGreatDoor
open Go Go.Aw

section
variable {T:List Sc} {V:List Va}
/-- the error of a literal -/
def Za (T:List Sc)(V:List Va)(c:Lit):Int:=if Eb T V c.cond != 0 then Eb T V c.cond else if Eo T V c.cond||(c.neg&&(c.cond.op==9&&Am T V (Ao c.cond)==0)) then 3 else 0
theorem uH {l:List Lit}(h:((Db T V (Em true)).2 != 0)=true):Gf T V l=(Db T V (Em true)).2:=by rw [Gf,if_pos h]
theorem wV {l:List Lit}(h:((Db T V (Em true)).2 != 0)=false)(h2:decide ((256:Int)<(l.length:Int))=true):Gf T V l=5:=by rw [Gf,Ci h,if_pos h2]
theorem Xg {l:List Lit}(h:((Db T V (Em true)).2 != 0)=false)(h2:decide ((256:Int)<(l.length:Int))=false):Gf T V l=Aq (Za T V) l:=by rw [Gf,Ci h,Ci h2];rfl
theorem lit_1 {c:Lit}(h:(Eb T V c.cond != 0)=true):Za T V c=Eb T V c.cond:=by rw [Za,if_pos h]
theorem lit_2 {c:Lit}(h:(Eb T V c.cond != 0)=false)(h2:(Eo T V c.cond||((c.neg&&c.cond.op==9)&&Am T V (Ao c.cond)==0))=true):Za T V c=3:=by
 rw [Za,Ci h,if_pos (by rw [←Bool.and_assoc];exact h2)]
theorem lit_3 {c:Lit}(h:(Eb T V c.cond != 0)=false)(h2:(Eo T V c.cond||((c.neg&&c.cond.op==9)&&Am T V (Ao c.cond)==0))=false):Za T V c=0:=by
 rw [Za,Ci h,Ci (by rw [←Bool.and_assoc];exact h2)]
theorem Nj {α:Type}{f:α→Int}{l:List α}{k:Nat}{a:α}(hk:Aq f (l.take k)=0)(ha:l[k]? = some a)(h:f a≠0):Aq f l=f a:=by
  induction l generalizing k with
  | nil=>simp at ha
  | cons x r ih=>
    cases k with
    | zero => have : x = a := by simpa using ha
              subst this
              rw [Aq,if_pos (by simpa using h)]
    | succ k=>
      rw [List.take_succ_cons,Aq] at hk
      by_cases hx:(f x != 0)=true
      · rw [if_pos hx] at hk;rw [hk] at hx;cases hx
      · rw [if_neg hx] at hk
        rw [Aq,if_neg hx]
        exact ih hk (by simpa using ha)
theorem Rj {α:Type}{f:α→Int}{l:List α}{k:Nat}{a:α}(hk:Aq f (l.take k)=0)(ha:l[k]? = some a)(h:f a=0):Aq f (l.take (k+1))=0:=by
  rw [Cq ha]
  generalize l.take k=m at hk
  induction m with
  | nil=>simp [Aq,h]
  | cons x r ih=>
    rw [Aq] at hk
    by_cases hx:(f x != 0)=true
    · rw [if_pos hx] at hk;rw [hk] at hx;cases hx
    · rw [if_neg hx] at hk
      rw [List.cons_append,Aq,if_neg hx]
      exact ih hk
theorem g9c {e:Ex}(hk:KOK T V e){x b:Bool}(hG:Im [(x,false),(b&&e.op==9,true)]):1<e.args.length:=by
 have h:(b&&e.op==9)=true:=hG (b&&e.op==9,true) (by simp)
 have h9:e.op=9:=by simp at h;exact h.2
 exact Dg (Bb hk.nodes).1 (by omega)
/-- well-typed literals within the limits -/
def Ve (T:List Sc)(V:List Va)(l:List Lit):Prop:=∀c∈l,KOK T V c.cond∧Ar c.cond≤64
theorem lits_ok {l:List Lit}(h:Aq (Za T V) l=0):Ve T V l:=fun c hc=>by
 have h1:=G7 h c hc
 unfold Za at h1
 by_cases h2:(Eb T V c.cond != 0)=true
 · rw [if_pos h2] at h1;rw [h1] at h2;cases h2
 ·
  have hk:=(R0 (by simpa using h2)).1
  exact ⟨hk.kok,Is hk⟩
theorem sF {l:List Lit}(h:(Gf T V l != 0)=false):Ve T V l∧l.length≤256:=by
 have h0:Gf T V l=0:=by simpa using h
 unfold Gf at h0
 by_cases h1:((Db T V (Em true)).2 != 0)=true
 · rw [if_pos h1] at h0;rw [h0] at h1;cases h1
 ·
  rw [if_neg h1] at h0
  by_cases h2:decide ((256:Int)<(l.length:Int))=true
  · rw [if_pos h2] at h0;cases h0
  ·
   rw [if_neg h2] at h0
   exact ⟨lits_ok h0,by simp at h2;omega⟩
theorem Zp {l:Lit}(h:(l.cond.op==1)=true):Aa T V l=(⟨[D1 l.cond],[],0⟩,true):=by rw [Aa,if_pos h]
theorem oC {l:Lit}(h:(l.cond.op==1)=false)(h2:(!Cu l.cond||Cp T V l.cond)=true):Aa T V l=(tO,false):=by rw [Aa,Ci h,if_pos h2]
theorem Zv {l:Lit}(h:(l.cond.op==1)=false)(h2:(!Cu l.cond||Cp T V l.cond)=false):Aa T V l=Ch (Ao l.cond) (Bg l.cond):=by rw [Aa,Ci h,Ci h2]
theorem V2 {l:Lit}(h2:(!Cu l.cond||Cp T V l.cond)=false):Cu l.cond=true:=by
 cases hq:Cu l.cond with
 | true=>rfl
 | false=>rw [hq] at h2;simp at h2
theorem yP {t:Tm}(h:(t.op==2)=true):C0 T V t=(0,1099511627776):=by rw [C0,if_pos h]
theorem vR {t:Tm}(h:(t.op==2)=false)(h2:(Am T V (Hn t)==1)=true):C0 T V t=(0,1):=by rw [C0,Ci h,if_pos h2]
theorem tU {t:Tm}(h:(t.op==2)=false)(h2:(Am T V (Hn t)==1)=false):C0 T V t=(-1099511627776,1099511627776):=by rw [C0,Ci h,Ci h2]

/-! ### the terms of a well-typed sum -/
theorem aU (e:Ex):KOK T V e→∀{b:Int} {s:Su},(∀p∈s.ts,KOK T V (Hn p.1))→∀p∈(Bn e b s).1.ts,KOK T V (Hn p.1):=by
  refine Ex.Aak (P:=fun e=>KOK T V e→∀{b:Int} {s:Su},(∀p∈s.ts,KOK T V (Hn p.1))→∀p∈(Bn e b s).1.ts,KOK T V (Hn p.1)) (fun e ih hk b s hs=>?_) e
  have hz:=Bb hk.nodes
  rcases Pi hz.1 with h | ⟨h,h1⟩ | ⟨h,hl⟩ | ⟨h,h1,h2,h3⟩
  · rw [Fw h];exact hs
  · rw [B6 h h1]
    intro p hp
    have key:∀{ts:List (Tm×Int)},(∀p∈ts,KOK T V (Hn p.1))→∀p∈In (D1 e) b ts,KOK T V (Hn p.1):=by
      intro ts
      induction ts with
      | nil=>intro _ p hp;rw [In,List.mem_singleton] at hp;rw [hp];rw [K1 hz.1 h1];exact hk
      | cons q r ihr=>
        intro hts p hp
        rw [In] at hp
        split at hp
        · rcases List.mem_cons.1 hp with rfl | hp
          · exact hts q (List.mem_cons_self ..)
          · exact hts p (List.mem_cons_of_mem _ hp)
        · rcases List.mem_cons.1 hp with rfl | hp
          · exact hts p (List.mem_cons_self ..)
          · exact ihr (fun p hp=>hts p (List.mem_cons_of_mem _ hp)) p hp
    exact key hs p hp
  · have m0:=A4 (show 0<e.args.length by omega)
    have m1:=Bi hl
    have key:∀c,∀p∈(if !(Bn (Ao e) b s).2 then ((Bn (Ao e) b s).1,false) else Bn (Bg e) c (Bn (Ao e) b s).1).1.ts,KOK T V (Hn p.1):=fun c=>by
      have i0:=ih _ m0 (A1 hk m0) (b:=b) hs
      split
      · exact i0
      · exact ih _ m1 (A1 hk m1) i0
    rcases h with h | h
    · rw [J4 (c:=b) hl (.inl ⟨h,rfl⟩)];exact key b
    · rw [J4 (c:=0-b) hl (.inr ⟨h,rfl⟩)];exact key _
  · rw [Gt h h1 h2 h3];exact hs
theorem I5 {P:Tm→Prop}:∀{ts:List (Tm×Int)} {p m p' m':List Tm},(∀t∈ts,P t.1)→(∀t∈p,P t)→(∀t∈m,P t)→Dt ts p m=some (p',m')→(∀t∈p',P t)∧∀t∈m',P t
  | [],p,m,p',m',_,hp,hm,h=>by rw [Dt] at h;cases h;exact ⟨hp,hm⟩
  | t::r,p,m,p',m',ht,hp,hm,h=>by
    rw [Dt] at h
    have hr:∀t∈r,P t.1:=fun x hx=>ht x (List.mem_cons_of_mem _ hx)
    have h0:P t.1:=ht t (List.mem_cons_self ..)
    have snoc:∀{l:List Tm},(∀t∈l,P t)→∀x∈l ++ [t.1],P x:=fun hl x hx=>by
      rcases List.mem_append.1 hx with h | h
      · exact hl x h
      · rw [List.mem_singleton.1 h];exact h0
    split at h
    · exact I5 hr hp hm h
    · split at h
      · exact I5 hr (snoc hp) hm h
      · split at h
        · exact I5 hr hp (snoc hm) h
        · cases h
theorem dK {a b:Ex}(ha:KOK T V a)(hb:KOK T V b):∀p∈(C8 a b).ts,KOK T V (Hn p.1):=by
 have h1:=aU a ha (b:=1) (s:=Kr) (fun p hp=>by cases hp)
 unfold C8
 split
 · exact h1
 · exact aU b hb h1
/-- what a difference is made of -/
structure GOK (T:List Sc) (V:List Va) (g:Gp):Prop where
 plus:∀t∈g.plus,KOK T V (Hn t)
 minus:∀t∈g.minus,KOK T V (Hn t)
 rest : -140737488355328≤g.rest∧g.rest≤140737488355328
 lp:g.plus.length≤128
 lm:g.minus.length≤128
theorem cL:GOK T V tO:=⟨fun t h=>(by cases h),fun t h=>(by cases h),by simp [tO],by simp [tO],by simp [tO]⟩
theorem Pq:∀{ts:List (Tm×Int)} {p m p' m':List Tm},Dt ts p m=some (p',m')→p'.length≤p.length+ts.length∧m'.length≤m.length+ts.length
  | [],p,m,p',m',h=>by rw [Dt] at h;cases h;simp
  | t::r,p,m,p',m',h=>by
    rw [Dt] at h
    split at h
    · have:=Pq h;simp only [List.length_cons];omega
    · split at h
      · have:=Pq h;simp only [List.length_cons,List.length_append,List.length_nil] at this ⊢;omega
      · split at h
        · have:=Pq h;simp only [List.length_cons,List.length_append,List.length_nil] at this ⊢;omega
        · cases h
theorem lQ {a b:Ex}(ha:KOK T V a)(hb:KOK T V b)(hs:Ar a+Ar b≤128):GOK T V (Ch a b).1:=by
  unfold Ch
  split
  · exact cL
  rename_i h1
  split
  · exact cL
  rename_i h2
  have he:(Bn b (-1) (Bn a 1 Kr).1).1=C8 a b:=by unfold C8;rw [if_neg h1]
  rw [he]
  have ho:=aV ha.nodes hb.nodes
  unfold S0
  cases hp:Dt (C8 a b).ts [] [] with
  | none=>exact cL
  | some p=>
    obtain ⟨p,m⟩:=p
    obtain ⟨t1,t2⟩:=I5 (P:=fun t=>KOK T V (Hn t)) (dK ha hb) (fun t h=>by cases h) (fun t h=>by cases h) hp
    obtain ⟨l1,l2⟩:=Pq hp
    have hr:=ho.rest
    have hl:=ho.len
    simp only [List.length_nil,Nat.zero_add] at l1 l2
    exact ⟨t1,t2,by simp only;omega,by simp only;omega,by simp only;omega⟩
theorem Rq {l:Lit}(hk:KOK T V l.cond)(hs:Ar l.cond≤64):GOK T V (Aa T V l).1:=by
  cases h:l.cond.op==1 with
  | true=>
    rw [Zp h]
    refine ⟨fun t ht=>?_,fun t ht=>(by cases ht),by simp,by simp,by simp⟩
    rw [List.mem_singleton.1 ht,K1 (Bb hk.nodes).1 (by rw [h];rfl)]
    exact hk
  | false=>
    cases h2:(!Cu l.cond||Cp T V l.cond) with
    | true=>rw [oC h h2];exact cL
    | false=>
      rw [Zv h h2]
      have hl:=Ky hk (V2 h2)
      have hs2:=Dx hl
      exact lQ (A1 hk (A4 (by omega))) (A1 hk (Bi hl)) (by omega)
end

/-! ### the index of the terms -/
def tZ:Nat→List Tm→List (List AV×AV)
 | _,[]=>[]
 | i,t::r=>(H9 t,.int .i64 ((i:Int)+1))::tZ (i+1) r
def Ub (ts:List Tm):List (List AV×AV):=tZ 0 ts
theorem vI (t:Tm):∀(ts:List Tm) (i:Nat),∀p∈tZ i ts,G9 TL [(0,1,true,3),(1,1,true,3),(2,1,true,3)] (H9 t) p.1=some (Hr t p.1)
  | [],_,p,hp=>by cases hp
  | u::r,i,p,hp=>by
    rw [tZ] at hp
    rcases List.mem_cons.1 hp with rfl | hp
    · show G9 TL _ (H9 t) (H9 u)=some (Hr t (H9 u));rw [cY,S6]
    · exact vI t r (i+1) p hp
theorem cQ (t:Tm)(ts:List Tm):∀p∈Ub ts,G9 TL [(0,1,true,3),(1,1,true,3),(2,1,true,3)] (H9 t) p.1=some (Hr t p.1):=vI t ts 0
theorem nX (t:Tm):∀(ts:List Tm) (i:Nat),Hj (Hr t) (tZ i ts)=if ts.contains t then some (.int .i64 ((i:Int)+(ts.idxOf t:Nat)+1)) else none
  | [],_=>rfl
  | u::r,i=>by
    rw [tZ,Hj,S6,nX t r (i+1),List.contains_cons,List.idxOf_cons]
    cases hq:eA t u with
    | true=>
      have:=K3.1 hq
      subst this
      simp
    | false=>
      have hne:t≠u:=fun h=>by rw [K3.2 h] at hq;cases hq
      have h1:(t==u)=false:=by simpa using hne
      have h2:(u==t)=false:=by simpa using Ne.symm hne
      rw [h1,h2]
      simp only [Bool.false_or,cond_false,Bool.false_eq_true,if_false]
      split
      · congr 2;push_cast;omega
      · rfl
theorem Se (t:Tm)(ts:List Tm):Hj (Hr t) (Ub ts)=if ts.contains t then some (.int .i64 (((ts.idxOf t:Nat):Int)+1)) else none:=by
 unfold Ub
 rw [nX]
 simp
theorem yC (t:Tm)(ts:List Tm):(Hj (Hr t) (Ub ts)).isSome=ts.contains t:=by
 rw [Se];cases ts.contains t <;> rfl
theorem rG {t:Tm}{ts:List Tm}(h:ts.contains t=false):Hj (Hr t) (Ub ts)=none:=by rw [Se,h];rfl
theorem iM (t:Tm):∀(ts:List Tm) (i:Nat),tZ i (ts ++ [t])=tZ i ts ++ [(H9 t,.int .i64 ((i:Int)+ts.length+1))]
  | [],i=>by simp [tZ]
  | u::r,i=>by
    rw [List.cons_append,tZ,tZ,iM t r (i+1)]
    simp only [List.cons_append,List.length_cons]
    rw [show ((i+1:Nat):Int)+(r.length:Int)+1=(i:Int)+((r.length+1:Nat):Int)+1 by omega]
theorem sS (t:Tm)(ts:List Tm):Ub (ts ++ [t])=Ub ts ++ [(H9 t,.int .i64 ((ts.length:Int)+1))]:=by
 unfold Ub;rw [iM];simp
/-- what the map holds at a term that is there -/
theorem look_y {t:Tm}{ts:List Tm}(h:ts.contains t=true):match Hj (Hr t) (Ub ts) with | some y=>y = .int .i64 (((ts.idxOf t:Nat):Int)+1) | none=>[AV.int .i64 0] = [.int .i64 (((ts.idxOf t:Nat):Int)+1)]:=by
 rw [Se,if_pos h]
/-- at any -/
theorem look_y0 (t:Tm)(ts:List Tm):match Hj (Hr t) (Ub ts) with | some y=>y = .int .i64 (if ts.contains t then ((ts.idxOf t:Nat):Int)+1 else 0) | none=>[AV.int .i64 0] = [.int .i64 (if ts.contains t then ((ts.idxOf t:Nat):Int)+1 else 0)]:=by
 rw [Se]
 cases ts.contains t <;> rfl
theorem Yq (t:Tm)(l ts:List Tm):(A2 ts (t::l)).contains t=true:=by
 unfold A2
 simp only
 split
 · assumption
 · simp
theorem rH {t:Tm}{l ts:List Tm}(h:ts.contains t=false):A2 ts (t::l)=ts ++ [t]:=by unfold A2;simp only;rw [h];rfl
theorem sT {t:Tm}{l ts:List Tm}(h:ts.contains t=true):A2 ts (t::l)=ts:=by unfold A2;simp only;rw [if_pos h]
theorem addTm_nil {ts:List Tm}:A2 ts []=ts:=rfl
theorem Th (ts l:List Tm):(A2 ts l).length≤ts.length+1:=by
 cases l with
 | nil=>simp [A2]
 | cons t r=>unfold A2;simp only;split <;> simp
theorem Ld {P:Tm→Prop}{ts l:List Tm}(h:∀t∈ts,P t)(hl:∀t∈l,P t):∀t∈A2 ts l,P t:=by
  cases l with
  | nil=>exact h
  | cons t r=>
    unfold A2
    simp only
    split
    · exact h
    · intro u hu
      rcases List.mem_append.1 hu with hu | hu
      · exact h u hu
      · rw [List.mem_singleton.1 hu];exact hl t (List.mem_cons_self ..)
/-! ### the system in the heap -/
abbrev gF (m yb:Nat)(v:Value)(c0 c1:AV)(ts:List Tm)(R:List HO):List HO:=.row v (ts.map H9).length 143 3 :: .box yb 141 [c0,c1,.row v 3 (ts.map H9),.val (.map (some m))] :: .kmap m (Ub ts)::R
theorem unk_old {m yb:Nat}{v:Value}{c0 c1:AV}{ts l:List Tm}{t:Tm}{R:List HO}(h:ts.contains t=true):gF m yb v c0 c1 ts R=gF m yb v c0 c1 (A2 ts (t::l)) R:=by rw [sT h]
theorem zU {m yb:Nat}{v:Value}{c0 c1:AV}{ts l:List Tm}{t:Tm}{R:List HO}(h:ts.contains t=false) :
  (HO.row v (ts.map H9 ++ [H9 t]).length 143 3 :: .box yb 141 [c0,c1,.row v 3 (ts.map H9 ++ [H9 t]),.val (.map (some m))] :: .kmap m (Ub ts ++ [(H9 t,.int .i64 ((ts.length:Int)+1))])::R)=gF m yb v c0 c1 (A2 ts (t::l)) R:=by
 rw [rH h]
 simp only [gF]
 rw [sS,List.map_append];rfl
theorem num_old {t:Tm}{l ts:List Tm}:B4 (A2 ts (t::l)) (t::l)=(((A2 ts (t::l)).idxOf t:Nat):Int)+1:=rfl
/-! ### steps -/
section
variable {T:List Sc} {V:List Va}
theorem Le {s:Sy}{c:Lit}(h:(!(Aa T V c).2)=true):Dd T V s c=s:=by rw [Dd,if_pos h]
theorem Lo {s:Sy}{c:Lit}(h:(!(Aa T V c).2)=false):Dd T V s c=⟨A2 (A2 s.ts (Aa T V c).1.plus) (Aa T V c).1.minus,
 s.bs++D6 c (B4 (A2 s.ts (Aa T V c).1.plus) (Aa T V c).1.plus) (B4 (A2 (A2 s.ts (Aa T V c).1.plus) (Aa T V c).1.minus) (Aa T V c).1.minus) (Aa T V c).1.rest⟩:=by rw [Dd,Ci h]
theorem jN {l:List Lit}{k:Nat}{c:Lit}(h:l[k]? = some c):Cg T V (l.take (k+1))=Dd T V (Cg T V (l.take k)) c:=by
 unfold Cg
 rw [Cq h,List.foldl_append];rfl
theorem mP (c:Lit)(x z rest:Int):(D6 c x z rest).length≤2:=by
 unfold D6
 repeat' split
 all_goals simp
/-- how large a system is, and that its terms are well-typed -/
structure syOK (T:List Sc) (V:List Va) (n:Nat) (s:Sy):Prop where
 len:s.ts.length≤2*n
 bnds:s.bs.length≤2*n
 terms:∀t∈s.ts,KOK T V (Hn t)
theorem yN:∀{l:List Lit},Ve T V l→∀{n:Nat} {s:Sy},syOK T V n s→syOK T V (n+l.length) (l.foldl (Dd T V) s)
  | [],_,n,s,hs=>hs
  | c::r,hl,n,s,hs=>by
    rw [List.foldl_cons,List.length_cons,show n+(r.length+1)=(n+1)+r.length by omega]
    refine yN (fun x hx=>hl x (List.mem_cons_of_mem _ hx)) ?_
    cases h : !(Aa T V c).2 with
    | true=>rw [Le h];exact ⟨by have:=hs.len;omega,by have:=hs.bnds;omega,hs.terms⟩
    | false=>
      rw [Lo h]
      have hg:=Rq (hl c (List.mem_cons_self ..)).1 (hl c (List.mem_cons_self ..)).2
      refine ⟨?_,?_,?_⟩
      · have h1:=Th s.ts (Aa T V c).1.plus
        have h2:=Th (A2 s.ts (Aa T V c).1.plus) (Aa T V c).1.minus
        have:=hs.len
        simp only;omega
      · simp only [List.length_append]
        have:=mP c (B4 (A2 s.ts (Aa T V c).1.plus) (Aa T V c).1.plus) (B4 (A2 (A2 s.ts (Aa T V c).1.plus) (Aa T V c).1.minus) (Aa T V c).1.minus) (Aa T V c).1.rest
        have:=hs.bnds
        omega
      · exact Ld (Ld hs.terms hg.plus) hg.minus
theorem Lr {l:List Lit}(h:Ve T V l):syOK T V l.length (Cg T V l):=by
 have:=yN h (n:=0) (s:=⟨[],[]⟩) ⟨by simp,by simp,fun t ht=>by cases ht⟩
 rw [Nat.zero_add] at this
 exact this
theorem zG {l:List Lit}(h:Ve T V l)(k:Nat):Ve T V (l.take k):=fun c hc=>h c (List.mem_of_mem_take hc)
theorem fK:∀(ts:List Tm) (i:Nat) (t:Tm),Hl T V i (ts ++ [t])=Hl T V i ts ++ [⟨(i:Int)+ts.length+1,0,(C0 T V t).2⟩,⟨0,(i:Int)+ts.length+1,0-(C0 T V t).1⟩]
  | [],i,t=>by simp [Hl]
  | u::r,i,t=>by
    rw [List.cons_append,Hl,Hl,fK r (i+1) t]
    simp only [List.cons_append,List.length_cons]
    rw [show ((i+1:Nat):Int)+(r.length:Int)+1=(i:Int)+((r.length+1:Nat):Int)+1 by omega]
theorem wT {ts:List Tm}{k:Nat}{t:Tm}(h:ts[k]? = some t):Hl T V 0 (ts.take (k+1))=Hl T V 0 (ts.take k) ++ [⟨(k:Int)+1,0,(C0 T V t).2⟩,⟨0,(k:Int)+1,0-(C0 T V t).1⟩]:=by
 have hl:=A9 h
 rw [Cq h,fK]
 simp [Nat.min_eq_left (Nat.le_of_lt hl)]
theorem cF:∀(ts:List Tm) (i:Nat),(Hl T V i ts).length=2*ts.length
 | [],i=>rfl
 | t::r,i=>by rw [Hl];simp only [List.length_cons,cF r (i+1)];omega
theorem Sp (t:Tm) : -1099511627776≤(C0 T V t).1∧(C0 T V t).1≤1099511627776∧-1099511627776≤(C0 T V t).2∧(C0 T V t).2≤1099511627776:=by
 unfold C0
 repeat' split
 all_goals simp
/-- the system behind its pointer -/
def rK (T:List Sc)(V:List Va)(l:List Lit):List AV:=[.int .i64 (C5 T V l).n,.sl 3 ((C5 T V l).bs.map Rt),.sl 3 ((Cg T V l).ts.map H9),.junk]
theorem zZ {α:Type}{l:List α}(h:(((l.length:Nat):Int)==0)=false):∃t r,l=t::r:=by
 cases l with
 | nil=>cases h
 | cons t r=>exact ⟨t,r,rfl⟩
theorem nil_of {α:Type}{l:List α}(h:(((l.length:Nat):Int)==0)=true):l = []:=by
 cases l with
 | nil=>rfl
 | cons t r=>simp at h;omega
theorem sc_two {a b:List AV}(h1:Bf a=true)(h2:Bf b=true):∀c∈[a,b],Bf c=true:=fun c hc=>by
 rcases List.mem_cons.1 hc with rfl | hc
 · exact h1
 · rw [List.mem_singleton.1 hc];exact h2
theorem bd_1 {c:Lit}{x z r:Int}(h:(c.cond.op==1&&c.neg)=true):D6 c x z r = [⟨x,z,0-r⟩]:=by rw [D6,if_pos (by rw [h];rfl)]
theorem bd_2 {c:Lit}{x z r:Int}(h:(c.cond.op==8 && !c.neg)=true):D6 c x z r = [⟨x,z,0-r⟩]:=by rw [D6,if_pos (by rw [h];simp)]
theorem xM {c:Lit}{x z r:Int}(h:(c.cond.op==1&&c.neg)=false)(h2:(c.cond.op==8 && !c.neg)=false):D6 c x z r=if c.cond.op==1||c.cond.op==8 then [⟨z,x,r-1⟩] else if c.cond.op==7 && !c.neg then [⟨x,z,0-r-1⟩] else if c.cond.op==7 then [⟨z,x,r⟩] else [⟨x,z,0-r⟩,⟨z,x,r⟩]:=by
 rw [D6,Ci (by rw [h,h2];rfl)]
theorem bd_3 {c:Lit}{x z r:Int}(h:(c.cond.op==1&&c.neg)=false)(h2:(c.cond.op==8 && !c.neg)=false)(h3:(c.cond.op==1)=true):D6 c x z r = [⟨z,x,r-1⟩]:=by rw [xM h h2,if_pos (by rw [h3];rfl)]
theorem bd_4 {c:Lit}{x z r:Int}(h:(c.cond.op==1&&c.neg)=false)(h2:(c.cond.op==8 && !c.neg)=false)(h3:(c.cond.op==8)=true):D6 c x z r = [⟨z,x,r-1⟩]:=by rw [xM h h2,if_pos (by rw [h3];simp)]
theorem bd_5 {c:Lit}{x z r:Int}(h:(c.cond.op==1&&c.neg)=false)(h2:(c.cond.op==8 && !c.neg)=false)(h3:(c.cond.op==1)=false)(h4:(c.cond.op==8)=false)(h5:(c.cond.op==7 && !c.neg)=true):D6 c x z r = [⟨x,z,0-r-1⟩]:=by rw [xM h h2,Ci (by rw [h3,h4];rfl),if_pos h5]
theorem bd_6 {c:Lit}{x z r:Int}(h:(c.cond.op==1&&c.neg)=false)(h2:(c.cond.op==8 && !c.neg)=false)(h3:(c.cond.op==1)=false)(h4:(c.cond.op==8)=false)(h5:(c.cond.op==7 && !c.neg)=false)(h6:(c.cond.op==7)=true):D6 c x z r = [⟨z,x,r⟩]:=by rw [xM h h2,Ci (by rw [h3,h4];rfl),Ci h5,if_pos h6]
theorem bd_7 {c:Lit}{x z r:Int}(h:(c.cond.op==1&&c.neg)=false)(h2:(c.cond.op==8 && !c.neg)=false)(h3:(c.cond.op==1)=false)(h4:(c.cond.op==8)=false)(h5:(c.cond.op==7 && !c.neg)=false)(h6:(c.cond.op==7)=false):D6 c x z r = [⟨x,z,0-r⟩,⟨z,x,r⟩]:=by rw [xM h h2,Ci (by rw [h3,h4];rfl),Ci h5,Ci h6]
theorem cSy_eq {l:List Lit}{s:Sy}{eZ eB:List (List AV)}(h:s=Cg T V l)(hz:eZ=(Hl T V 0 s.ts).map Rt)(hb:eB=s.bs.map Rt):AV.ptr [.int .i64 ((s.ts.length:Int)+1),.sl 3 (eZ++eB),.sl 3 (s.ts.map H9),.junk] = .ptr (rK T V l):=by
 rw [hz,hb,←List.map_append,h];rfl
/-- one step of the loop -/
theorem Lt {l:List Lit}{k:Nat}{c:Lit}{s:Sy}{bs:List Bd}(h:l[k]? = some c)(hs:s=Cg T V (l.take k))(hn:(!(Aa T V c).2)=false)
  (hb:D6 c (B4 (A2 s.ts (Aa T V c).1.plus) (Aa T V c).1.plus) (B4 (A2 (A2 s.ts (Aa T V c).1.plus) (Aa T V c).1.minus) (Aa T V c).1.minus) (Aa T V c).1.rest=bs) :
  (⟨A2 (A2 s.ts (Aa T V c).1.plus) (Aa T V c).1.minus,s.bs++bs⟩:Sy)=Cg T V (l.take (k+1)):=by
 rw [jN h,←hs,Lo hn,hb]
theorem tY {l:List Lit}{k:Nat}{c:Lit}{s:Sy}(h:l[k]? = some c)(hs:s=Cg T V (l.take k))(hn:(!(Aa T V c).2)=true):s=Cg T V (l.take (k+1)):=by
 rw [jN h,←hs,Le hn]
theorem Ma {s:List Bd}{e:List (List AV)}{b:Bd}(h:e=s.map Rt):e ++ [Rt b]=(s ++ [b]).map Rt:=by rw [h,List.map_append];rfl
theorem tE {s:List Bd}{e:List (List AV)}{b c:Bd}(h:e=s.map Rt):(e ++ [Rt b]) ++ [Rt c]=(s ++ [b,c]).map Rt:=by rw [h,List.map_append,List.append_assoc];rfl
theorem pV {ts l:List Tm}{n:Nat}(h:ts.length≤n):0≤B4 ts l∧B4 ts l≤(n:Int)+1:=by
  unfold B4
  cases l with
  | nil=>simp only;omega
  | cons t r=>
    simp only
    have:ts.idxOf t≤ts.length:=List.idxOf_le_length
    omega
theorem Zone_1 {l:List Lit}(h:(Gf T V l != 0)=true):Qq T V l=⟨zn0,[],Gf T V l⟩:=by rw [Qq,if_pos h]
theorem Zone_2 {l:List Lit}(h:(Gf T V l != 0)=false)(h2:(!I8 (C5 T V l))=true):Qq T V l=⟨zn0,[],17⟩:=by rw [Qq,Ci h,if_pos h2]
theorem Zone_3 {l:List Lit}(h:(Gf T V l != 0)=false)(h2:(!I8 (C5 T V l))=false):Qq T V l=⟨C5 T V l,(Cg T V l).ts.map Hn,0⟩:=by rw [Qq,Ci h,Ci h2]
end
end Go.Proofs.YtkddpedfbicbeaaGreatDoor
