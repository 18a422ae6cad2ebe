/-
  The zone of a clause: what its walk leans on. No condition.
-/
import Derived.Test.YtjedflcpjlgokaaGreatDoorK15
namespace Go.Proofs.YtjedflcpjlgokaaGreatDoor
open Go Go.Aw
set_option linter.unusedVariables false
set_option linter.unusedSimpArgs false

def uO:Nat→List Tm→List (List AV×AV)
 | _,[]=>[]
 | i,t::r=>(Hz t,.int .i64 ((i:Int)+1))::uO (i+1) r
def Th (ts:List Tm):List (List AV×AV):=uO 0 ts
theorem qT (t:Tm):∀(ts:List Tm) (i:Nat),∀p∈uO i ts,Gq TL [(0,1,true,3),(1,1,true,3),(2,1,true,3)] (Hz t) p.1=some (G4 t p.1)
  | [],_,p,hp=>by cases hp
  | u::r,i,p,hp=>by
    rw [uO] at hp
    rcases List.mem_cons.1 hp with rfl | hp
    · show Gq TL _ (Hz t) (Hz u)=some (G4 t (Hz u));rw [aK,Rb]
    · exact qT t r (i+1) p hp
theorem bN (t:Tm)(ts:List Tm):∀p∈Th ts,Gq TL [(0,1,true,3),(1,1,true,3),(2,1,true,3)] (Hz t) p.1=some (G4 t p.1):=qT t ts 0
theorem kV (t:Tm):∀(ts:List Tm) (i:Nat),Gy (G4 t) (uO i ts)=if ts.contains t then some (.int .i64 ((i:Int)+(ts.idxOf t:Nat)+1)) else none
  | [],_=>rfl
  | u::r,i=>by
    rw [uO,Gy,Rb,kV t r (i+1),List.contains_cons,List.idxOf_cons]
    cases hq:bO t u with
    | true=>
      have:=Km.1 hq
      subst this
      simp
    | false=>
      have hne:t≠u:=fun h=>by rw [Km.2 h] at hq;cases hq
      have h1:(t==u)=false:=by simpa using hne
      have h2:(u==t)=false:=by simpa using Ne.symm hne
      rw [h1,h2]
      simp only [Bool.false_or,cond_false,Bool.false_eq_true,if_false]
      split
      · congr 2;push_cast;omega
      · rfl
theorem Ra (t:Tm)(ts:List Tm):Gy (G4 t) (Th ts)=if ts.contains t then some (.int .i64 (((ts.idxOf t:Nat):Int)+1)) else none:=by
 unfold Th
 rw [kV]
 simp
theorem uN (t:Tm)(ts:List Tm):(Gy (G4 t) (Th ts)).isSome=ts.contains t:=by
 rw [Ra];cases ts.contains t <;> rfl
theorem oK {t:Tm}{ts:List Tm}(h:ts.contains t=false):Gy (G4 t) (Th ts)=none:=by rw [Ra,h];rfl
theorem eE (t:Tm):∀(ts:List Tm) (i:Nat),uO i (ts ++ [t])=uO i ts ++ [(Hz t,.int .i64 ((i:Int)+ts.length+1))]
  | [],i=>by simp [uO]
  | u::r,i=>by
    rw [List.cons_append,uO,uO,eE t r (i+1)]
    simp only [List.cons_append,List.length_cons]
    rw [show ((i+1:Nat):Int)+(r.length:Int)+1=(i:Int)+((r.length+1:Nat):Int)+1 by omega]
theorem qB (t:Tm)(ts:List Tm):Th (ts ++ [t])=Th ts ++ [(Hz t,.int .i64 ((ts.length:Int)+1))]:=by
 unfold Th;rw [eE];simp
theorem look_y {t:Tm}{ts:List Tm}(h:ts.contains t=true):match Gy (G4 t) (Th ts) with | some y=>y = .int .i64 (((ts.idxOf t:Nat):Int)+1) | none=>[AV.int .i64 0] = [.int .i64 (((ts.idxOf t:Nat):Int)+1)]:=by
 rw [Ra,if_pos h]
theorem xT (t:Tm)(ts:List Tm):match Gy (G4 t) (Th ts) with | some y=>y = .int .i64 (if ts.contains t then ((ts.idxOf t:Nat):Int)+1 else 0) | none=>[AV.int .i64 0] = [.int .i64 (if ts.contains t then ((ts.idxOf t:Nat):Int)+1 else 0)]:=by
 rw [Ra]
 cases ts.contains t <;> rfl
theorem Xd (t:Tm)(l ts:List Tm):(Av ts (t::l)).contains t=true:=by
 unfold Av
 simp only
 split
 · assumption
 · simp
theorem pL {t:Tm}{l ts:List Tm}(h:ts.contains t=false):Av ts (t::l)=ts ++ [t]:=by unfold Av;simp only;rw [h];rfl
theorem pU {t:Tm}{l ts:List Tm}(h:ts.contains t=true):Av ts (t::l)=ts:=by unfold Av;simp only;rw [if_pos h]
theorem addTm_nil {ts:List Tm}:Av ts []=ts:=rfl
theorem Si (ts l:List Tm):(Av ts l).length≤ts.length+1:=by
 cases l with
 | nil=>simp [Av]
 | cons t r=>unfold Av;simp only;split <;> simp
theorem Kp {P:Tm→Prop}{ts l:List Tm}(h:∀t∈ts,P t)(hl:∀t∈l,P t):∀t∈Av ts l,P t:=by
  cases l with
  | nil=>exact h
  | cons t r=>
    unfold Av
    simp only
    split
    · exact h
    · intro u hu
      rcases List.mem_append.1 hu with hu | hu
      · exact h u hu
      · rw [List.mem_singleton.1 hu];exact hl t (List.mem_cons_self ..)
abbrev dO (m yb:Nat)(v:Value)(c0 c1:AV)(ts:List Tm)(R:List HO):List HO:=.row v (ts.map Hz).length 103 3 :: .box yb 101 [c0,c1,.row v 3 (ts.map Hz),.val (.map (some m))] :: .kmap m (Th ts)::R
theorem zC {m yb:Nat}{v:Value}{c0 c1:AV}{ts l:List Tm}{t:Tm}{R:List HO}(h:ts.contains t=true):dO m yb v c0 c1 ts R=dO m yb v c0 c1 (Av ts (t::l)) R:=by rw [pU h]
theorem zI {m yb:Nat}{v:Value}{c0 c1:AV}{ts l:List Tm}{t:Tm}{R:List HO}(h:ts.contains t=false) :
  (HO.row v (ts.map Hz ++ [Hz t]).length 103 3 :: .box yb 101 [c0,c1,.row v 3 (ts.map Hz ++ [Hz t]),.val (.map (some m))] :: .kmap m (Th ts ++ [(Hz t,.int .i64 ((ts.length:Int)+1))])::R)=dO m yb v c0 c1 (Av ts (t::l)) R:=by
 rw [pL h]
 simp only [dO]
 rw [qB,List.map_append];rfl
theorem num_old {t:Tm}{l ts:List Tm}:B1 (Av ts (t::l)) (t::l)=(((Av ts (t::l)).idxOf t:Nat):Int)+1:=rfl
section
variable {T:List Sc} {V:List Va}
theorem Kt {s:Sy}{c:Lit}(h:(!(Aa T V c).2)=true):C1 T V s c=s:=by rw [C1,if_pos h]
theorem Ky {s:Sy}{c:Lit}(h:(!(Aa T V c).2)=false):C1 T V s c=⟨Av (Av s.ts (Aa T V c).1.plus) (Aa T V c).1.minus,
 s.bs++Dx c (B1 (Av s.ts (Aa T V c).1.plus) (Aa T V c).1.plus) (B1 (Av (Av s.ts (Aa T V c).1.plus) (Aa T V c).1.minus) (Aa T V c).1.minus) (Aa T V c).1.rest⟩:=by rw [C1,C3 h]
theorem cU {l:List Lit}{k:Nat}{c:Lit}(h:l[k]? = some c):Cp T V (l.take (k+1))=C1 T V (Cp T V (l.take k)) c:=by
 unfold Cp
 rw [C9 h,List.foldl_append];rfl
theorem jJ (c:Lit)(x z rest:Int):(Dx c x z rest).length≤2:=by
 unfold Dx
 repeat' split
 all_goals simp
structure syOK (T:List Sc) (V:List Va) (n:Nat) (s:Sy):Prop where
 len:s.ts.length≤2*n
 bnds:s.bs.length≤2*n
 terms:∀t∈s.ts,KOK T V (Hr t)
theorem sQ:∀{l:List Lit},Up T V l→∀{n:Nat} {s:Sy},syOK T V n s→syOK T V (n+l.length) (l.foldl (C1 T V) s)
  | [],_,n,s,hs=>hs
  | c::r,hl,n,s,hs=>by
    rw [List.foldl_cons,List.length_cons,show n+(r.length+1)=(n+1)+r.length by omega]
    refine sQ (fun x hx=>hl x (List.mem_cons_of_mem _ hx)) ?_
    cases h : !(Aa T V c).2 with
    | true=>rw [Kt h];exact ⟨by have:=hs.len;omega,by have:=hs.bnds;omega,hs.terms⟩
    | false=>
      rw [Ky h]
      have hg:=Qm (hl c (List.mem_cons_self ..)).1 (hl c (List.mem_cons_self ..)).2
      refine ⟨?_,?_,?_⟩
      · have h1:=Si s.ts (Aa T V c).1.plus
        have h2:=Si (Av s.ts (Aa T V c).1.plus) (Aa T V c).1.minus
        have:=hs.len
        simp only;omega
      · simp only [List.length_append]
        have:=jJ c (B1 (Av s.ts (Aa T V c).1.plus) (Aa T V c).1.plus) (B1 (Av (Av s.ts (Aa T V c).1.plus) (Aa T V c).1.minus) (Aa T V c).1.minus) (Aa T V c).1.rest
        have:=hs.bnds
        omega
      · exact Kp (Kp hs.terms hg.plus) hg.minus
theorem Lt {l:List Lit}(h:Up T V l):syOK T V l.length (Cp T V l):=by
 have:=sQ h (n:=0) (s:=⟨[],[]⟩) ⟨by simp,by simp,fun t ht=>by cases ht⟩
 rw [Nat.zero_add] at this
 exact this
theorem sK {l:List Lit}(h:Up T V l)(k:Nat):Up T V (l.take k):=fun c hc=>h c (List.mem_of_mem_take hc)
theorem dH:∀(ts:List Tm) (i:Nat) (t:Tm),G2 T V i (ts ++ [t])=G2 T V i ts ++ [⟨(i:Int)+ts.length+1,0,(Ct T V t).2⟩,⟨0,(i:Int)+ts.length+1,0-(Ct T V t).1⟩]
  | [],i,t=>by simp [G2]
  | u::r,i,t=>by
    rw [List.cons_append,G2,G2,dH r (i+1) t]
    simp only [List.cons_append,List.length_cons]
    rw [show ((i+1:Nat):Int)+(r.length:Int)+1=(i:Int)+((r.length+1:Nat):Int)+1 by omega]
theorem tP {ts:List Tm}{k:Nat}{t:Tm}(h:ts[k]? = some t):G2 T V 0 (ts.take (k+1))=G2 T V 0 (ts.take k) ++ [⟨(k:Int)+1,0,(Ct T V t).2⟩,⟨0,(k:Int)+1,0-(Ct T V t).1⟩]:=by
 have hl:=Bb h
 rw [C9 h,dH]
 simp [Nat.min_eq_left (Nat.le_of_lt hl)]
theorem Z6:∀(ts:List Tm) (i:Nat),(G2 T V i ts).length=2*ts.length
 | [],i=>rfl
 | t::r,i=>by rw [G2];simp only [List.length_cons,Z6 r (i+1)];omega
theorem Rs (t:Tm) : -1099511627776≤(Ct T V t).1∧(Ct T V t).1≤1099511627776∧-1099511627776≤(Ct T V t).2∧(Ct T V t).2≤1099511627776:=by
 unfold Ct
 repeat' split
 all_goals simp
def qP (T:List Sc)(V:List Va)(l:List Lit):List AV:=[.int .i64 (Cy T V l).n,.sl 3 ((Cy T V l).bs.map Qu),.sl 3 ((Cp T V l).ts.map Hz),.junk]
theorem wS {α:Type}{l:List α}(h:(((l.length:Nat):Int)==0)=false):∃t r,l=t::r:=by
 cases l with
 | nil=>cases h
 | cons t r=>exact ⟨t,r,rfl⟩
theorem nil_of {α:Type}{l:List α}(h:(((l.length:Nat):Int)==0)=true):l = []:=by
 cases l with
 | nil=>rfl
 | cons t r=>simp at h;omega
theorem sc_two {a b:List AV}(h1:Bc a=true)(h2:Bc b=true):∀c∈[a,b],Bc c=true:=fun c hc=>by
 rcases List.mem_cons.1 hc with rfl | hc
 · exact h1
 · rw [List.mem_singleton.1 hc];exact h2
theorem bd_1 {c:Lit}{x z r:Int}(h:(c.cond.op==1&&c.neg)=true):Dx c x z r = [⟨x,z,0-r⟩]:=by rw [Dx,if_pos (by rw [h];rfl)]
theorem bd_2 {c:Lit}{x z r:Int}(h:(c.cond.op==8 && !c.neg)=true):Dx c x z r = [⟨x,z,0-r⟩]:=by rw [Dx,if_pos (by rw [h];simp)]
theorem uZ {c:Lit}{x z r:Int}(h:(c.cond.op==1&&c.neg)=false)(h2:(c.cond.op==8 && !c.neg)=false):Dx c x z r=if c.cond.op==1||c.cond.op==8 then [⟨z,x,r-1⟩] else if c.cond.op==7 && !c.neg then [⟨x,z,0-r-1⟩] else if c.cond.op==7 then [⟨z,x,r⟩] else [⟨x,z,0-r⟩,⟨z,x,r⟩]:=by
 rw [Dx,C3 (by rw [h,h2];rfl)]
theorem bd_3 {c:Lit}{x z r:Int}(h:(c.cond.op==1&&c.neg)=false)(h2:(c.cond.op==8 && !c.neg)=false)(h3:(c.cond.op==1)=true):Dx c x z r = [⟨z,x,r-1⟩]:=by rw [uZ h h2,if_pos (by rw [h3];rfl)]
theorem bd_4 {c:Lit}{x z r:Int}(h:(c.cond.op==1&&c.neg)=false)(h2:(c.cond.op==8 && !c.neg)=false)(h3:(c.cond.op==8)=true):Dx c x z r = [⟨z,x,r-1⟩]:=by rw [uZ h h2,if_pos (by rw [h3];simp)]
theorem bd_5 {c:Lit}{x z r:Int}(h:(c.cond.op==1&&c.neg)=false)(h2:(c.cond.op==8 && !c.neg)=false)(h3:(c.cond.op==1)=false)(h4:(c.cond.op==8)=false)(h5:(c.cond.op==7 && !c.neg)=true):Dx c x z r = [⟨x,z,0-r-1⟩]:=by rw [uZ h h2,C3 (by rw [h3,h4];rfl),if_pos h5]
theorem bd_6 {c:Lit}{x z r:Int}(h:(c.cond.op==1&&c.neg)=false)(h2:(c.cond.op==8 && !c.neg)=false)(h3:(c.cond.op==1)=false)(h4:(c.cond.op==8)=false)(h5:(c.cond.op==7 && !c.neg)=false)(h6:(c.cond.op==7)=true):Dx c x z r = [⟨z,x,r⟩]:=by rw [uZ h h2,C3 (by rw [h3,h4];rfl),C3 h5,if_pos h6]
theorem bd_7 {c:Lit}{x z r:Int}(h:(c.cond.op==1&&c.neg)=false)(h2:(c.cond.op==8 && !c.neg)=false)(h3:(c.cond.op==1)=false)(h4:(c.cond.op==8)=false)(h5:(c.cond.op==7 && !c.neg)=false)(h6:(c.cond.op==7)=false):Dx c x z r = [⟨x,z,0-r⟩,⟨z,x,r⟩]:=by rw [uZ h h2,C3 (by rw [h3,h4];rfl),C3 h5,C3 h6]
theorem cSy_eq {l:List Lit}{s:Sy}{eZ eB:List (List AV)}(h:s=Cp T V l)(hz:eZ=(G2 T V 0 s.ts).map Qu)(hb:eB=s.bs.map Qu):AV.ptr [.int .i64 ((s.ts.length:Int)+1),.sl 3 (eZ++eB),.sl 3 (s.ts.map Hz),.junk] = .ptr (qP T V l):=by
 rw [hz,hb,←List.map_append,h];rfl
theorem K1 {l:List Lit}{k:Nat}{c:Lit}{s:Sy}{bs:List Bd}(h:l[k]? = some c)(hs:s=Cp T V (l.take k))(hn:(!(Aa T V c).2)=false)
  (hb:Dx c (B1 (Av s.ts (Aa T V c).1.plus) (Aa T V c).1.plus) (B1 (Av (Av s.ts (Aa T V c).1.plus) (Aa T V c).1.minus) (Aa T V c).1.minus) (Aa T V c).1.rest=bs) :
  (⟨Av (Av s.ts (Aa T V c).1.plus) (Aa T V c).1.minus,s.bs++bs⟩:Sy)=Cp T V (l.take (k+1)):=by
 rw [cU h,←hs,Ky hn,hb]
theorem sA {l:List Lit}{k:Nat}{c:Lit}{s:Sy}(h:l[k]? = some c)(hs:s=Cp T V (l.take k))(hn:(!(Aa T V c).2)=true):s=Cp T V (l.take (k+1)):=by
 rw [cU h,←hs,Kt hn]
theorem L9 {s:List Bd}{e:List (List AV)}{b:Bd}(h:e=s.map Qu):e ++ [Qu b]=(s ++ [b]).map Qu:=by rw [h,List.map_append];rfl
theorem qK {s:List Bd}{e:List (List AV)}{b c:Bd}(h:e=s.map Qu):(e ++ [Qu b]) ++ [Qu c]=(s ++ [b,c]).map Qu:=by rw [h,List.map_append,List.append_assoc];rfl
theorem pV {ts l:List Tm}{n:Nat}(h:ts.length≤n):0≤B1 ts l∧B1 ts l≤(n:Int)+1:=by
  unfold B1
  cases l with
  | nil=>simp only;omega
  | cons t r=>
    simp only
    have:ts.idxOf t≤ts.length:=List.idxOf_le_length
    omega
end
end Go.Proofs.YtjedflcpjlgokaaGreatDoor
