/-
  Several texts in one: S21, S22. No condition.
-/
import Derived.Test.YtjedflcpjlgokaaGreatDoorK04
import Derived.Test.YtjedflcpjlgokaaGreatDoorK16
set_option linter.unusedVariables false
set_option linter.unusedSimpArgs false
namespace Go.Proofs.YtjedflcpjlgokaaGreatDoor
open Go Go.Aw

section
variable {T:List Sc} {V:List Va}
def X1 (T:List Sc)(V:List Va)(c:Lit):Int:=if D1 T V c.cond != 0 then D1 T V c.cond else if C6 T V c.cond||(c.neg&&(c.cond.op==9&&An T V (Av c.cond)==0)) then 3 else 0
theorem sF {l:List Lit}(h:((Cn T V (Fy true)).2 != 0)=true):Fu T V l=(Cn T V (Fy true)).2:=by rw [Fu,if_pos h]
theorem rU {l:List Lit}(h:((Cn T V (Fy true)).2 != 0)=false)(h2:decide ((256:Int)<(l.length:Int))=true):Fu T V l=5:=by rw [Fu,C8 h,if_pos h2]
theorem Xr {l:List Lit}(h:((Cn T V (Fy true)).2 != 0)=false)(h2:decide ((256:Int)<(l.length:Int))=false):Fu T V l=Ao (X1 T V) l:=by rw [Fu,C8 h,C8 h2];rfl
theorem lit_1 {c:Lit}(h:(D1 T V c.cond != 0)=true):X1 T V c=D1 T V c.cond:=by rw [X1,if_pos h]
theorem lit_2 {c:Lit}(h:(D1 T V c.cond != 0)=false)(h2:(C6 T V c.cond||((c.neg&&c.cond.op==9)&&An T V (Av c.cond)==0))=true):X1 T V c=3:=by
 rw [X1,C8 h,if_pos (by rw [←Bool.and_assoc];exact h2)]
theorem lit_3 {c:Lit}(h:(D1 T V c.cond != 0)=false)(h2:(C6 T V c.cond||((c.neg&&c.cond.op==9)&&An T V (Av c.cond)==0))=false):X1 T V c=0:=by
 rw [X1,C8 h,C8 (by rw [←Bool.and_assoc];exact h2)]
theorem My {α:Type}{f:α→Int}{l:List α}{k:Nat}{a:α}(hk:Ao f (l.take k)=0)(ha:l[k]? = some a)(h:f a≠0):Ao f l=f a:=by
  induction l generalizing k with
  | nil=>simp at ha
  | cons x r ih=>
    cases k with
    | zero => have : x = a := by simpa using ha
              subst this
              rw [Ao,if_pos (by simpa using h)]
    | succ k=>
      rw [List.take_succ_cons,Ao] at hk
      by_cases hx:(f x != 0)=true
      · rw [if_pos hx] at hk;rw [hk] at hx;cases hx
      · rw [if_neg hx] at hk
        rw [Ao,if_neg hx]
        exact ih hk (by simpa using ha)
theorem Qz {α:Type}{f:α→Int}{l:List α}{k:Nat}{a:α}(hk:Ao f (l.take k)=0)(ha:l[k]? = some a)(h:f a=0):Ao f (l.take (k+1))=0:=by
  rw [C4 ha]
  generalize l.take k=m at hk
  induction m with
  | nil=>simp [Ao,h]
  | cons x r ih=>
    rw [Ao] at hk
    by_cases hx:(f x != 0)=true
    · rw [if_pos hx] at hk;rw [hk] at hx;cases hx
    · rw [if_neg hx] at hk
      rw [List.cons_append,Ao,if_neg hx]
      exact ih hk
theorem g9c {e:Ex}(hk:KOK T V e){x b:Bool}(hG:Ij [(x,false),(b&&e.op==9,true)]):1<e.args.length:=by
 have h:(b&&e.op==9)=true:=hG (b&&e.op==9,true) (by simp)
 have h9:e.op=9:=by simp at h;exact h.2
 exact Ei (Bc hk.nodes).1 (by omega)
def Sq (T:List Sc)(V:List Va)(l:List Lit):Prop:=∀c∈l,KOK T V c.cond∧Ar c.cond≤64
theorem xT {l:List Lit}(h:Ao (X1 T V) l=0):Sq T V l:=fun c hc=>by
 have h1:=Gy h c hc
 unfold X1 at h1
 by_cases h2:(D1 T V c.cond != 0)=true
 · rw [if_pos h2] at h1;rw [h1] at h2;cases h2
 ·
  have hk:=(O3 (by simpa using h2)).1
  exact ⟨hk.kok,Jy hk⟩
theorem pM {l:List Lit}(h:(Fu T V l != 0)=false):Sq T V l∧l.length≤256:=by
 have h0:Fu T V l=0:=by simpa using h
 unfold Fu at h0
 by_cases h1:((Cn T V (Fy true)).2 != 0)=true
 · rw [if_pos h1] at h0;rw [h0] at h1;cases h1
 ·
  rw [if_neg h1] at h0
  by_cases h2:decide ((256:Int)<(l.length:Int))=true
  · rw [if_pos h2] at h0;cases h0
  ·
   rw [if_neg h2] at h0
   exact ⟨xT h0,by simp at h2;omega⟩
theorem Vt {l:Lit}(h:(l.cond.op==1)=true):Aa T V l=(⟨[Dv l.cond],[],0⟩,true):=by rw [Aa,if_pos h]
theorem eU {l:Lit}(h:(l.cond.op==1)=false)(h2:(!Cb l.cond||Dl T V l.cond)=true):Aa T V l=(nV,false):=by rw [Aa,C8 h,if_pos h2]
theorem Zx {l:Lit}(h:(l.cond.op==1)=false)(h2:(!Cb l.cond||Dl T V l.cond)=false):Aa T V l=B7 (Av l.cond) (Cc l.cond):=by rw [Aa,C8 h,C8 h2]
theorem Rt {l:Lit}(h2:(!Cb l.cond||Dl T V l.cond)=false):Cb l.cond=true:=by
 cases hq:Cb l.cond with
 | true=>rfl
 | false=>rw [hq] at h2;simp at h2
theorem lim_1 {t:Tm}(h:(t.op==2)=true):Dh T V t=(0,1099511627776):=by rw [Dh,if_pos h]
theorem lim_2 {t:Tm}(h:(t.op==2)=false)(h2:(An T V (Fx t)==1)=true):Dh T V t=(0,1):=by rw [Dh,C8 h,if_pos h2]
theorem lim_3 {t:Tm}(h:(t.op==2)=false)(h2:(An T V (Fx t)==1)=false):Dh T V t=(-1099511627776,1099511627776):=by rw [Dh,C8 h,C8 h2]

theorem Zb (e:Ex):KOK T V e→∀{b:Int} {s:Su},(∀p∈s.ts,KOK T V (Fx p.1))→∀p∈(Bg e b s).1.ts,KOK T V (Fx p.1):=by
  refine Ex.Aav (P:=fun e=>KOK T V e→∀{b:Int} {s:Su},(∀p∈s.ts,KOK T V (Fx p.1))→∀p∈(Bg e b s).1.ts,KOK T V (Fx p.1)) (fun e ih hk b s hs=>?_) e
  have hz:=Bc hk.nodes
  rcases Kb hz.1 with h | ⟨h,h1⟩ | ⟨h,hl⟩ | ⟨h,h1,h2,h3⟩
  · rw [Fa h];exact hs
  · rw [B8 h h1]
    intro p hp
    have key:∀{ts:List (Tm×Int)},(∀p∈ts,KOK T V (Fx p.1))→∀p∈Fv (Dv e) b ts,KOK T V (Fx p.1):=by
      intro ts
      induction ts with
      | nil=>intro _ p hp;rw [Fv,List.mem_singleton] at hp;rw [hp];rw [Ky hz.1 h1];exact hk
      | cons q r ihr=>
        intro hts p hp
        rw [Fv] at hp
        split at hp
        · rcases List.mem_cons.1 hp with rfl | hp
          · exact hts q (List.mem_cons_self ..)
          · exact hts p (List.mem_cons_of_mem _ hp)
        · rcases List.mem_cons.1 hp with rfl | hp
          · exact hts p (List.mem_cons_self ..)
          · exact ihr (fun p hp=>hts p (List.mem_cons_of_mem _ hp)) p hp
    exact key hs p hp
  · have m0:=A0 (show 0<e.args.length by omega)
    have m1:=Bk hl
    have key:∀c,∀p∈(if !(Bg (Av e) b s).2 then ((Bg (Av e) b s).1,false) else Bg (Cc e) c (Bg (Av e) b s).1).1.ts,KOK T V (Fx p.1):=fun c=>by
      have i0:=ih _ m0 (A2 hk m0) (b:=b) hs
      split
      · exact i0
      · exact ih _ m1 (A2 hk m1) i0
    rcases h with h | h
    · rw [Ik (c:=b) hl (.inl ⟨h,rfl⟩)];exact key b
    · rw [Ik (c:=0-b) hl (.inr ⟨h,rfl⟩)];exact key _
  · rw [F4 h h1 h2 h3];exact hs
theorem Iy {P:Tm→Prop}:∀{ts:List (Tm×Int)} {p m p' m':List Tm},(∀t∈ts,P t.1)→(∀t∈p,P t)→(∀t∈m,P t)→C5 ts p m=some (p',m')→(∀t∈p',P t)∧∀t∈m',P t
  | [],p,m,p',m',_,hp,hm,h=>by rw [C5] at h;cases h;exact ⟨hp,hm⟩
  | t::r,p,m,p',m',ht,hp,hm,h=>by
    rw [C5] at h
    have hr:∀t∈r,P t.1:=fun x hx=>ht x (List.mem_cons_of_mem _ hx)
    have h0:P t.1:=ht t (List.mem_cons_self ..)
    have snoc:∀{l:List Tm},(∀t∈l,P t)→∀x∈l ++ [t.1],P x:=fun hl x hx=>by
      rcases List.mem_append.1 hx with h | h
      · exact hl x h
      · rw [List.mem_singleton.1 h];exact h0
    split at h
    · exact Iy hr hp hm h
    · split at h
      · exact Iy hr (snoc hp) hm h
      · split at h
        · exact Iy hr hp (snoc hm) h
        · cases h
theorem aT {a b:Ex}(ha:KOK T V a)(hb:KOK T V b):∀p∈(C9 a b).ts,KOK T V (Fx p.1):=by
 have h1:=Zb a ha (b:=1) (s:=Ir) (fun p hp=>by cases hp)
 unfold C9
 split
 · exact h1
 · exact Zb b hb h1
structure GOK (T:List Sc) (V:List Va) (g:Gp):Prop where
 plus:∀t∈g.plus,KOK T V (Fx t)
 minus:∀t∈g.minus,KOK T V (Fx t)
 rest : -140737488355328≤g.rest∧g.rest≤140737488355328
 lp:g.plus.length≤128
 lm:g.minus.length≤128
theorem aR:GOK T V nV:=⟨fun t h=>(by cases h),fun t h=>(by cases h),by simp [nV],by simp [nV],by simp [nV]⟩
theorem Pm:∀{ts:List (Tm×Int)} {p m p' m':List Tm},C5 ts p m=some (p',m')→p'.length≤p.length+ts.length∧m'.length≤m.length+ts.length
  | [],p,m,p',m',h=>by rw [C5] at h;cases h;simp
  | t::r,p,m,p',m',h=>by
    rw [C5] at h
    split at h
    · have:=Pm h;simp only [List.length_cons];omega
    · split at h
      · have:=Pm h;simp only [List.length_cons,List.length_append,List.length_nil] at this ⊢;omega
      · split at h
        · have:=Pm h;simp only [List.length_cons,List.length_append,List.length_nil] at this ⊢;omega
        · cases h
theorem jT {a b:Ex}(ha:KOK T V a)(hb:KOK T V b)(hs:Ar a+Ar b≤128):GOK T V (B7 a b).1:=by
  unfold B7
  split
  · exact aR
  rename_i h1
  split
  · exact aR
  rename_i h2
  have he:(Bg b (-1) (Bg a 1 Ir).1).1=C9 a b:=by unfold C9;rw [if_neg h1]
  rw [he]
  have ho:=Zh ha.nodes hb.nodes
  unfold Or
  cases hp:C5 (C9 a b).ts [] [] with
  | none=>exact aR
  | some p=>
    obtain ⟨p,m⟩:=p
    obtain ⟨t1,t2⟩:=Iy (P:=fun t=>KOK T V (Fx t)) (aT ha hb) (fun t h=>by cases h) (fun t h=>by cases h) hp
    obtain ⟨l1,l2⟩:=Pm hp
    have hr:=ho.rest
    have hl:=ho.len
    simp only [List.length_nil,Nat.zero_add] at l1 l2
    exact ⟨t1,t2,by simp only;omega,by simp only;omega,by simp only;omega⟩
theorem Q4 {l:Lit}(hk:KOK T V l.cond)(hs:Ar l.cond≤64):GOK T V (Aa T V l).1:=by
  cases h:l.cond.op==1 with
  | true=>
    rw [Vt h]
    refine ⟨fun t ht=>?_,fun t ht=>(by cases ht),by simp,by simp,by simp⟩
    rw [List.mem_singleton.1 ht,Ky (Bc hk.nodes).1 (by rw [h];rfl)]
    exact hk
  | false=>
    cases h2:(!Cb l.cond||Dl T V l.cond) with
    | true=>rw [eU h h2];exact aR
    | false=>
      rw [Zx h h2]
      have hl:=Je hk (Rt h2)
      have hs2:=Db hl
      exact jT (A2 hk (A0 (by omega))) (A2 hk (Bk hl)) (by omega)
end

def uG:Nat→List Tm→List (List AV×AV)
 | _,[]=>[]
 | i,t::r=>(Hw t,.int .i64 ((i:Int)+1))::uG (i+1) r
def Th (ts:List Tm):List (List AV×AV):=uG 0 ts
theorem uB (t:Tm):∀(ts:List Tm) (i:Nat),∀p∈uG i ts,G1 TL [(0,1,true,3),(1,1,true,3),(2,1,true,3)] (Hw t) p.1=some (Hf t p.1)
  | [],_,p,hp=>by cases hp
  | u::r,i,p,hp=>by
    rw [uG] at hp
    rcases List.mem_cons.1 hp with rfl | hp
    · show G1 TL _ (Hw t) (Hw u)=some (Hf t (Hw u));rw [aW,R9]
    · exact uB t r (i+1) p hp
theorem aU (t:Tm)(ts:List Tm):∀p∈Th ts,G1 TL [(0,1,true,3),(1,1,true,3),(2,1,true,3)] (Hw t) p.1=some (Hf t p.1):=uB t ts 0
theorem kS (t:Tm):∀(ts:List Tm) (i:Nat),G4 (Hf t) (uG i ts)=if ts.contains t then some (.int .i64 ((i:Int)+(ts.idxOf t:Nat)+1)) else none
  | [],_=>rfl
  | u::r,i=>by
    rw [uG,G4,R9,kS t r (i+1),List.contains_cons,List.idxOf_cons]
    cases hq:Pq t u with
    | true=>
      have:=Ft.1 hq
      subst this
      simp
    | false=>
      have hne:t≠u:=fun h=>by rw [Ft.2 h] at hq;cases hq
      have h1:(t==u)=false:=by simpa using hne
      have h2:(u==t)=false:=by simpa using Ne.symm hne
      rw [h1,h2]
      simp only [Bool.false_or,cond_false,Bool.false_eq_true,if_false]
      split
      · congr 2;push_cast;omega
      · rfl
theorem Q9 (t:Tm)(ts:List Tm):G4 (Hf t) (Th ts)=if ts.contains t then some (.int .i64 (((ts.idxOf t:Nat):Int)+1)) else none:=by
 unfold Th
 rw [kS]
 simp
theorem vL (t:Tm)(ts:List Tm):(G4 (Hf t) (Th ts)).isSome=ts.contains t:=by
 rw [Q9];cases ts.contains t <;> rfl
theorem nA {t:Tm}{ts:List Tm}(h:ts.contains t=false):G4 (Hf t) (Th ts)=none:=by rw [Q9,h];rfl
theorem eV (t:Tm):∀(ts:List Tm) (i:Nat),uG i (ts ++ [t])=uG i ts ++ [(Hw t,.int .i64 ((i:Int)+ts.length+1))]
  | [],i=>by simp [uG]
  | u::r,i=>by
    rw [List.cons_append,uG,uG,eV t r (i+1)]
    simp only [List.cons_append,List.length_cons]
    rw [show ((i+1:Nat):Int)+(r.length:Int)+1=(i:Int)+((r.length+1:Nat):Int)+1 by omega]
theorem oF (t:Tm)(ts:List Tm):Th (ts ++ [t])=Th ts ++ [(Hw t,.int .i64 ((ts.length:Int)+1))]:=by
 unfold Th;rw [eV];simp
theorem look_y {t:Tm}{ts:List Tm}(h:ts.contains t=true):match G4 (Hf t) (Th ts) with | some y=>y = .int .i64 (((ts.idxOf t:Nat):Int)+1) | none=>[AV.int .i64 0] = [.int .i64 (((ts.idxOf t:Nat):Int)+1)]:=by
 rw [Q9,if_pos h]
theorem yV (t:Tm)(ts:List Tm):match G4 (Hf t) (Th ts) with | some y=>y = .int .i64 (if ts.contains t then ((ts.idxOf t:Nat):Int)+1 else 0) | none=>[AV.int .i64 0] = [.int .i64 (if ts.contains t then ((ts.idxOf t:Nat):Int)+1 else 0)]:=by
 rw [Q9]
 cases ts.contains t <;> rfl
theorem V8 (t:Tm)(l ts:List Tm):(A3 ts (t::l)).contains t=true:=by
 unfold A3
 simp only
 split
 · assumption
 · simp
theorem nR {t:Tm}{l ts:List Tm}(h:ts.contains t=false):A3 ts (t::l)=ts ++ [t]:=by unfold A3;simp only;rw [h];rfl
theorem nP {t:Tm}{l ts:List Tm}(h:ts.contains t=true):A3 ts (t::l)=ts:=by unfold A3;simp only;rw [if_pos h]
theorem addTm_nil {ts:List Tm}:A3 ts []=ts:=rfl
theorem Px (ts l:List Tm):(A3 ts l).length≤ts.length+1:=by
 cases l with
 | nil=>simp [A3]
 | cons t r=>unfold A3;simp only;split <;> simp
theorem K4 {P:Tm→Prop}{ts l:List Tm}(h:∀t∈ts,P t)(hl:∀t∈l,P t):∀t∈A3 ts l,P t:=by
  cases l with
  | nil=>exact h
  | cons t r=>
    unfold A3
    simp only
    split
    · exact h
    · intro u hu
      rcases List.mem_append.1 hu with hu | hu
      · exact h u hu
      · rw [List.mem_singleton.1 hu];exact hl t (List.mem_cons_self ..)
abbrev gH (m yb:Nat)(v:Value)(c0 c1:AV)(ts:List Tm)(R:List HO):List HO:=.row v (ts.map Hw).length 103 3 :: .box yb 101 [c0,c1,.row v 3 (ts.map Hw),.val (.map (some m))] :: .kmap m (Th ts)::R
theorem yP {m yb:Nat}{v:Value}{c0 c1:AV}{ts l:List Tm}{t:Tm}{R:List HO}(h:ts.contains t=true):gH m yb v c0 c1 ts R=gH m yb v c0 c1 (A3 ts (t::l)) R:=by rw [nP h]
theorem Aae {m yb:Nat}{v:Value}{c0 c1:AV}{ts l:List Tm}{t:Tm}{R:List HO}(h:ts.contains t=false) :
  (HO.row v (ts.map Hw ++ [Hw t]).length 103 3 :: .box yb 101 [c0,c1,.row v 3 (ts.map Hw ++ [Hw t]),.val (.map (some m))] :: .kmap m (Th ts ++ [(Hw t,.int .i64 ((ts.length:Int)+1))])::R)=gH m yb v c0 c1 (A3 ts (t::l)) R:=by
 rw [nR h]
 simp only [gH]
 rw [oF,List.map_append];rfl
theorem num_old {t:Tm}{l ts:List Tm}:B9 (A3 ts (t::l)) (t::l)=(((A3 ts (t::l)).idxOf t:Nat):Int)+1:=rfl
section
variable {T:List Sc} {V:List Va}
theorem Kf {s:Sy}{c:Lit}(h:(!(Aa T V c).2)=true):C7 T V s c=s:=by rw [C7,if_pos h]
theorem J7 {s:Sy}{c:Lit}(h:(!(Aa T V c).2)=false):C7 T V s c=⟨A3 (A3 s.ts (Aa T V c).1.plus) (Aa T V c).1.minus,
 s.bs++D5 c (B9 (A3 s.ts (Aa T V c).1.plus) (Aa T V c).1.plus) (B9 (A3 (A3 s.ts (Aa T V c).1.plus) (Aa T V c).1.minus) (Aa T V c).1.minus) (Aa T V c).1.rest⟩:=by rw [C7,C8 h]
theorem gK {l:List Lit}{k:Nat}{c:Lit}(h:l[k]? = some c):B1 T V (l.take (k+1))=C7 T V (B1 T V (l.take k)) c:=by
 unfold B1
 rw [C4 h,List.foldl_append];rfl
theorem jS (c:Lit)(x z rest:Int):(D5 c x z rest).length≤2:=by
 unfold D5
 repeat' split
 all_goals simp
structure syOK (T:List Sc) (V:List Va) (n:Nat) (s:Sy):Prop where
 len:s.ts.length≤2*n
 bnds:s.bs.length≤2*n
 terms:∀t∈s.ts,KOK T V (Fx t)
theorem rT:∀{l:List Lit},Sq T V l→∀{n:Nat} {s:Sy},syOK T V n s→syOK T V (n+l.length) (l.foldl (C7 T V) s)
  | [],_,n,s,hs=>hs
  | c::r,hl,n,s,hs=>by
    rw [List.foldl_cons,List.length_cons,show n+(r.length+1)=(n+1)+r.length by omega]
    refine rT (fun x hx=>hl x (List.mem_cons_of_mem _ hx)) ?_
    cases h : !(Aa T V c).2 with
    | true=>rw [Kf h];exact ⟨by have:=hs.len;omega,by have:=hs.bnds;omega,hs.terms⟩
    | false=>
      rw [J7 h]
      have hg:=Q4 (hl c (List.mem_cons_self ..)).1 (hl c (List.mem_cons_self ..)).2
      refine ⟨?_,?_,?_⟩
      · have h1:=Px s.ts (Aa T V c).1.plus
        have h2:=Px (A3 s.ts (Aa T V c).1.plus) (Aa T V c).1.minus
        have:=hs.len
        simp only;omega
      · simp only [List.length_append]
        have:=jS c (B9 (A3 s.ts (Aa T V c).1.plus) (Aa T V c).1.plus) (B9 (A3 (A3 s.ts (Aa T V c).1.plus) (Aa T V c).1.minus) (Aa T V c).1.minus) (Aa T V c).1.rest
        have:=hs.bnds
        omega
      · exact K4 (K4 hs.terms hg.plus) hg.minus
theorem J8 {l:List Lit}(h:Sq T V l):syOK T V l.length (B1 T V l):=by
 have:=rT h (n:=0) (s:=⟨[],[]⟩) ⟨by simp,by simp,fun t ht=>by cases ht⟩
 rw [Nat.zero_add] at this
 exact this
theorem rL {l:List Lit}(h:Sq T V l)(k:Nat):Sq T V (l.take k):=fun c hc=>h c (List.mem_of_mem_take hc)
theorem dP:∀(ts:List Tm) (i:Nat) (t:Tm),Ho T V i (ts ++ [t])=Ho T V i ts ++ [⟨(i:Int)+ts.length+1,0,(Dh T V t).2⟩,⟨0,(i:Int)+ts.length+1,0-(Dh T V t).1⟩]
  | [],i,t=>by simp [Ho]
  | u::r,i,t=>by
    rw [List.cons_append,Ho,Ho,dP r (i+1) t]
    simp only [List.cons_append,List.length_cons]
    rw [show ((i+1:Nat):Int)+(r.length:Int)+1=(i:Int)+((r.length+1:Nat):Int)+1 by omega]
theorem vP {ts:List Tm}{k:Nat}{t:Tm}(h:ts[k]? = some t):Ho T V 0 (ts.take (k+1))=Ho T V 0 (ts.take k) ++ [⟨(k:Int)+1,0,(Dh T V t).2⟩,⟨0,(k:Int)+1,0-(Dh T V t).1⟩]:=by
 have hl:=A4 h
 rw [C4 h,dP]
 simp [Nat.min_eq_left (Nat.le_of_lt hl)]
theorem U3:∀(ts:List Tm) (i:Nat),(Ho T V i ts).length=2*ts.length
 | [],i=>rfl
 | t::r,i=>by rw [Ho];simp only [List.length_cons,U3 r (i+1)];omega
theorem Nx (t:Tm) : -1099511627776≤(Dh T V t).1∧(Dh T V t).1≤1099511627776∧-1099511627776≤(Dh T V t).2∧(Dh T V t).2≤1099511627776:=by
 unfold Dh
 repeat' split
 all_goals simp
def oA (T:List Sc)(V:List Va)(l:List Lit):List AV:=[.int .i64 (Bf T V l).n,.sl 3 ((Bf T V l).bs.map Q7),.sl 3 ((B1 T V l).ts.map Hw),.junk]
theorem yI {α:Type}{l:List α}(h:(((l.length:Nat):Int)==0)=false):∃t r,l=t::r:=by
 cases l with
 | nil=>cases h
 | cons t r=>exact ⟨t,r,rfl⟩
theorem nil_of {α:Type}{l:List α}(h:(((l.length:Nat):Int)==0)=true):l = []:=by
 cases l with
 | nil=>rfl
 | cons t r=>simp at h;omega
theorem sc_two {a b:List AV}(h1:Be a=true)(h2:Be b=true):∀c∈[a,b],Be c=true:=fun c hc=>by
 rcases List.mem_cons.1 hc with rfl | hc
 · exact h1
 · rw [List.mem_singleton.1 hc];exact h2
theorem bd_1 {c:Lit}{x z r:Int}(h:(c.cond.op==1&&c.neg)=true):D5 c x z r = [⟨x,z,0-r⟩]:=by rw [D5,if_pos (by rw [h];rfl)]
theorem bd_2 {c:Lit}{x z r:Int}(h:(c.cond.op==8 && !c.neg)=true):D5 c x z r = [⟨x,z,0-r⟩]:=by rw [D5,if_pos (by rw [h];simp)]
theorem sI {c:Lit}{x z r:Int}(h:(c.cond.op==1&&c.neg)=false)(h2:(c.cond.op==8 && !c.neg)=false):D5 c x z r=if c.cond.op==1||c.cond.op==8 then [⟨z,x,r-1⟩] else if c.cond.op==7 && !c.neg then [⟨x,z,0-r-1⟩] else if c.cond.op==7 then [⟨z,x,r⟩] else [⟨x,z,0-r⟩,⟨z,x,r⟩]:=by
 rw [D5,C8 (by rw [h,h2];rfl)]
theorem bd_3 {c:Lit}{x z r:Int}(h:(c.cond.op==1&&c.neg)=false)(h2:(c.cond.op==8 && !c.neg)=false)(h3:(c.cond.op==1)=true):D5 c x z r = [⟨z,x,r-1⟩]:=by rw [sI h h2,if_pos (by rw [h3];rfl)]
theorem bd_4 {c:Lit}{x z r:Int}(h:(c.cond.op==1&&c.neg)=false)(h2:(c.cond.op==8 && !c.neg)=false)(h3:(c.cond.op==8)=true):D5 c x z r = [⟨z,x,r-1⟩]:=by rw [sI h h2,if_pos (by rw [h3];simp)]
theorem bd_5 {c:Lit}{x z r:Int}(h:(c.cond.op==1&&c.neg)=false)(h2:(c.cond.op==8 && !c.neg)=false)(h3:(c.cond.op==1)=false)(h4:(c.cond.op==8)=false)(h5:(c.cond.op==7 && !c.neg)=true):D5 c x z r = [⟨x,z,0-r-1⟩]:=by rw [sI h h2,C8 (by rw [h3,h4];rfl),if_pos h5]
theorem bd_6 {c:Lit}{x z r:Int}(h:(c.cond.op==1&&c.neg)=false)(h2:(c.cond.op==8 && !c.neg)=false)(h3:(c.cond.op==1)=false)(h4:(c.cond.op==8)=false)(h5:(c.cond.op==7 && !c.neg)=false)(h6:(c.cond.op==7)=true):D5 c x z r = [⟨z,x,r⟩]:=by rw [sI h h2,C8 (by rw [h3,h4];rfl),C8 h5,if_pos h6]
theorem bd_7 {c:Lit}{x z r:Int}(h:(c.cond.op==1&&c.neg)=false)(h2:(c.cond.op==8 && !c.neg)=false)(h3:(c.cond.op==1)=false)(h4:(c.cond.op==8)=false)(h5:(c.cond.op==7 && !c.neg)=false)(h6:(c.cond.op==7)=false):D5 c x z r = [⟨x,z,0-r⟩,⟨z,x,r⟩]:=by rw [sI h h2,C8 (by rw [h3,h4];rfl),C8 h5,C8 h6]
theorem cSy_eq {l:List Lit}{s:Sy}{eZ eB:List (List AV)}(h:s=B1 T V l)(hz:eZ=(Ho T V 0 s.ts).map Q7)(hb:eB=s.bs.map Q7):AV.ptr [.int .i64 ((s.ts.length:Int)+1),.sl 3 (eZ++eB),.sl 3 (s.ts.map Hw),.junk] = .ptr (oA T V l):=by
 rw [hz,hb,←List.map_append,h];rfl
theorem Lf {l:List Lit}{k:Nat}{c:Lit}{s:Sy}{bs:List Bd}(h:l[k]? = some c)(hs:s=B1 T V (l.take k))(hn:(!(Aa T V c).2)=false)
  (hb:D5 c (B9 (A3 s.ts (Aa T V c).1.plus) (Aa T V c).1.plus) (B9 (A3 (A3 s.ts (Aa T V c).1.plus) (Aa T V c).1.minus) (Aa T V c).1.minus) (Aa T V c).1.rest=bs) :
  (⟨A3 (A3 s.ts (Aa T V c).1.plus) (Aa T V c).1.minus,s.bs++bs⟩:Sy)=B1 T V (l.take (k+1)):=by
 rw [gK h,←hs,J7 hn,hb]
theorem vK {l:List Lit}{k:Nat}{c:Lit}{s:Sy}(h:l[k]? = some c)(hs:s=B1 T V (l.take k))(hn:(!(Aa T V c).2)=true):s=B1 T V (l.take (k+1)):=by
 rw [gK h,←hs,Kf hn]
theorem Mr {s:List Bd}{e:List (List AV)}{b:Bd}(h:e=s.map Q7):e ++ [Q7 b]=(s ++ [b]).map Q7:=by rw [h,List.map_append];rfl
theorem pV {s:List Bd}{e:List (List AV)}{b c:Bd}(h:e=s.map Q7):(e ++ [Q7 b]) ++ [Q7 c]=(s ++ [b,c]).map Q7:=by rw [h,List.map_append,List.append_assoc];rfl
theorem nZ {ts l:List Tm}{n:Nat}(h:ts.length≤n):0≤B9 ts l∧B9 ts l≤(n:Int)+1:=by
  unfold B9
  cases l with
  | nil=>simp only;omega
  | cons t r=>
    simp only
    have:ts.idxOf t≤ts.length:=List.idxOf_le_length
    omega
theorem Zone_1 {l:List Lit}(h:(Fu T V l != 0)=true):N3 T V l=⟨zn0,[],Fu T V l⟩:=by rw [N3,if_pos h]
theorem Zone_2 {l:List Lit}(h:(Fu T V l != 0)=false)(h2:(!Ic (Bf T V l))=true):N3 T V l=⟨zn0,[],17⟩:=by rw [N3,C8 h,if_pos h2]
theorem Zone_3 {l:List Lit}(h:(Fu T V l != 0)=false)(h2:(!Ic (Bf T V l))=false):N3 T V l=⟨Bf T V l,(B1 T V l).ts.map Fx,0⟩:=by rw [N3,C8 h,C8 h2]
end
end Go.Proofs.YtjedflcpjlgokaaGreatDoor
