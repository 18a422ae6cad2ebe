/-
  The zone of a clause: what its walk leans on. No condition.
-/
import Derived.Test.YtkddpedfbicbeaaGreatDoorK16
namespace Go.Proofs.YtkddpedfbicbeaaGreatDoor
open Go Go.Aw
set_option linter.unusedVariables false
set_option linter.unusedSimpArgs false

def yN:Nat→List Tm→List (List AV×AV)
 | _,[]=>[]
 | i,t::r=>(Hz t,.int .i64 ((i:Int)+1))::yN (i+1) r
def Tx (ts:List Tm):List (List AV×AV):=yN 0 ts
theorem yY (t:Tm):∀(ts:List Tm) (i:Nat),∀p∈yN i ts,G6 TL [(0,1,true,3),(1,1,true,3),(2,1,true,3)] (Hz t) p.1=some (Hi t p.1)
  | [],_,p,hp=>by cases hp
  | u::r,i,p,hp=>by
    rw [yN] at hp
    rcases List.mem_cons.1 hp with rfl | hp
    · show G6 TL _ (Hz t) (Hz u)=some (Hi t (Hz u));rw [dE,R4]
    · exact yY t r (i+1) p hp
theorem cB (t:Tm)(ts:List Tm):∀p∈Tx ts,G6 TL [(0,1,true,3),(1,1,true,3),(2,1,true,3)] (Hz t) p.1=some (Hi t p.1):=yY t ts 0
theorem pB (t:Tm):∀(ts:List Tm) (i:Nat),Hc (Hi t) (yN i ts)=if ts.contains t then some (.int .i64 ((i:Int)+(ts.idxOf t:Nat)+1)) else none
  | [],_=>rfl
  | u::r,i=>by
    rw [yN,Hc,R4,pB t r (i+1),List.contains_cons,List.idxOf_cons]
    cases hq:dZ t u with
    | true=>
      have:=Kz.1 hq
      subst this
      simp
    | false=>
      have hne:t≠u:=fun h=>by rw [Kz.2 h] at hq;cases hq
      have h1:(t==u)=false:=by simpa using hne
      have h2:(u==t)=false:=by simpa using Ne.symm hne
      rw [h1,h2]
      simp only [Bool.false_or,cond_false,Bool.false_eq_true,if_false]
      split
      · congr 2;push_cast;omega
      · rfl
theorem R7 (t:Tm)(ts:List Tm):Hc (Hi t) (Tx ts)=if ts.contains t then some (.int .i64 (((ts.idxOf t:Nat):Int)+1)) else none:=by
 unfold Tx
 rw [pB]
 simp
theorem wX (t:Tm)(ts:List Tm):(Hc (Hi t) (Tx ts)).isSome=ts.contains t:=by
 rw [R7];cases ts.contains t <;> rfl
theorem pR {t:Tm}{ts:List Tm}(h:ts.contains t=false):Hc (Hi t) (Tx ts)=none:=by rw [R7,h];rfl
theorem iG (t:Tm):∀(ts:List Tm) (i:Nat),yN i (ts ++ [t])=yN i ts ++ [(Hz t,.int .i64 ((i:Int)+ts.length+1))]
  | [],i=>by simp [yN]
  | u::r,i=>by
    rw [List.cons_append,yN,yN,iG t r (i+1)]
    simp only [List.cons_append,List.length_cons]
    rw [show ((i+1:Nat):Int)+(r.length:Int)+1=(i:Int)+((r.length+1:Nat):Int)+1 by omega]
theorem rA (t:Tm)(ts:List Tm):Tx (ts ++ [t])=Tx ts ++ [(Hz t,.int .i64 ((ts.length:Int)+1))]:=by
 unfold Tx;rw [iG];simp
theorem look_y {t:Tm}{ts:List Tm}(h:ts.contains t=true):match Hc (Hi t) (Tx ts) with | some y=>y = .int .i64 (((ts.idxOf t:Nat):Int)+1) | none=>[AV.int .i64 0] = [.int .i64 (((ts.idxOf t:Nat):Int)+1)]:=by
 rw [R7,if_pos h]
theorem look_y0 (t:Tm)(ts:List Tm):match Hc (Hi t) (Tx ts) with | some y=>y = .int .i64 (if ts.contains t then ((ts.idxOf t:Nat):Int)+1 else 0) | none=>[AV.int .i64 0] = [.int .i64 (if ts.contains t then ((ts.idxOf t:Nat):Int)+1 else 0)]:=by
 rw [R7]
 cases ts.contains t <;> rfl
theorem Ya (t:Tm)(l ts:List Tm):(A1 ts (t::l)).contains t=true:=by
 unfold A1
 simp only
 split
 · assumption
 · simp
theorem pV {t:Tm}{l ts:List Tm}(h:ts.contains t=false):A1 ts (t::l)=ts ++ [t]:=by unfold A1;simp only;rw [h];rfl
theorem sG {t:Tm}{l ts:List Tm}(h:ts.contains t=true):A1 ts (t::l)=ts:=by unfold A1;simp only;rw [if_pos h]
theorem addTm_nil {ts:List Tm}:A1 ts []=ts:=rfl
theorem T5 (ts l:List Tm):(A1 ts l).length≤ts.length+1:=by
 cases l with
 | nil=>simp [A1]
 | cons t r=>unfold A1;simp only;split <;> simp
theorem Lc {P:Tm→Prop}{ts l:List Tm}(h:∀t∈ts,P t)(hl:∀t∈l,P t):∀t∈A1 ts l,P t:=by
  cases l with
  | nil=>exact h
  | cons t r=>
    unfold A1
    simp only
    split
    · exact h
    · intro u hu
      rcases List.mem_append.1 hu with hu | hu
      · exact h u hu
      · rw [List.mem_singleton.1 hu];exact hl t (List.mem_cons_self ..)
abbrev eT (m yb:Nat)(v:Value)(c0 c1:AV)(ts:List Tm)(R:List HO):List HO:=.row v (ts.map Hz).length 143 3 :: .box yb 141 [c0,c1,.row v 3 (ts.map Hz),.val (.map (some m))] :: .kmap m (Tx ts)::R
theorem unk_old {m yb:Nat}{v:Value}{c0 c1:AV}{ts l:List Tm}{t:Tm}{R:List HO}(h:ts.contains t=true):eT m yb v c0 c1 ts R=eT m yb v c0 c1 (A1 ts (t::l)) R:=by rw [sG h]
theorem unk_new {m yb:Nat}{v:Value}{c0 c1:AV}{ts l:List Tm}{t:Tm}{R:List HO}(h:ts.contains t=false) :
  (HO.row v (ts.map Hz ++ [Hz t]).length 143 3 :: .box yb 141 [c0,c1,.row v 3 (ts.map Hz ++ [Hz t]),.val (.map (some m))] :: .kmap m (Tx ts ++ [(Hz t,.int .i64 ((ts.length:Int)+1))])::R)=eT m yb v c0 c1 (A1 ts (t::l)) R:=by
 rw [pV h]
 simp only [eT]
 rw [rA,List.map_append];rfl
theorem num_old {t:Tm}{l ts:List Tm}:B3 (A1 ts (t::l)) (t::l)=(((A1 ts (t::l)).idxOf t:Nat):Int)+1:=rfl
section
variable {T:List Sc} {V:List Va}
theorem Lg {s:Sy}{c:Lit}(h:(!(Aa T V c).2)=true):Dc T V s c=s:=by rw [Dc,if_pos h]
theorem Lj {s:Sy}{c:Lit}(h:(!(Aa T V c).2)=false):Dc T V s c=⟨A1 (A1 s.ts (Aa T V c).1.plus) (Aa T V c).1.minus,
 s.bs++D1 c (B3 (A1 s.ts (Aa T V c).1.plus) (Aa T V c).1.plus) (B3 (A1 (A1 s.ts (Aa T V c).1.plus) (Aa T V c).1.minus) (Aa T V c).1.minus) (Aa T V c).1.rest⟩:=by rw [Dc,Cz h]
theorem iW {l:List Lit}{k:Nat}{c:Lit}(h:l[k]? = some c):B6 T V (l.take (k+1))=Dc T V (B6 T V (l.take k)) c:=by
 unfold B6
 rw [Cm h,List.foldl_append];rfl
theorem kR (c:Lit)(x z rest:Int):(D1 c x z rest).length≤2:=by
 unfold D1
 repeat' split
 all_goals simp
structure syOK (T:List Sc) (V:List Va) (n:Nat) (s:Sy):Prop where
 len:s.ts.length≤2*n
 bnds:s.bs.length≤2*n
 terms:∀t∈s.ts,KOK T V (Hf t)
theorem wO:∀{l:List Lit},Un T V l→∀{n:Nat} {s:Sy},syOK T V n s→syOK T V (n+l.length) (l.foldl (Dc T V) s)
  | [],_,n,s,hs=>hs
  | c::r,hl,n,s,hs=>by
    rw [List.foldl_cons,List.length_cons,show n+(r.length+1)=(n+1)+r.length by omega]
    refine wO (fun x hx=>hl x (List.mem_cons_of_mem _ hx)) ?_
    cases h : !(Aa T V c).2 with
    | true=>rw [Lg h];exact ⟨by have:=hs.len;omega,by have:=hs.bnds;omega,hs.terms⟩
    | false=>
      rw [Lj h]
      have hg:=Q0 (hl c (List.mem_cons_self ..)).1 (hl c (List.mem_cons_self ..)).2
      refine ⟨?_,?_,?_⟩
      · have h1:=T5 s.ts (Aa T V c).1.plus
        have h2:=T5 (A1 s.ts (Aa T V c).1.plus) (Aa T V c).1.minus
        have:=hs.len
        simp only;omega
      · simp only [List.length_append]
        have:=kR c (B3 (A1 s.ts (Aa T V c).1.plus) (Aa T V c).1.plus) (B3 (A1 (A1 s.ts (Aa T V c).1.plus) (Aa T V c).1.minus) (Aa T V c).1.minus) (Aa T V c).1.rest
        have:=hs.bnds
        omega
      · exact Lc (Lc hs.terms hg.plus) hg.minus
theorem Kf {l:List Lit}(h:Un T V l):syOK T V l.length (B6 T V l):=by
 have:=wO h (n:=0) (s:=⟨[],[]⟩) ⟨by simp,by simp,fun t ht=>by cases ht⟩
 rw [Nat.zero_add] at this
 exact this
theorem vA {l:List Lit}(h:Un T V l)(k:Nat):Un T V (l.take k):=fun c hc=>h c (List.mem_of_mem_take hc)
theorem gI:∀(ts:List Tm) (i:Nat) (t:Tm),G0 T V i (ts ++ [t])=G0 T V i ts ++ [⟨(i:Int)+ts.length+1,0,(C3 T V t).2⟩,⟨0,(i:Int)+ts.length+1,0-(C3 T V t).1⟩]
  | [],i,t=>by simp [G0]
  | u::r,i,t=>by
    rw [List.cons_append,G0,G0,gI r (i+1) t]
    simp only [List.cons_append,List.length_cons]
    rw [show ((i+1:Nat):Int)+(r.length:Int)+1=(i:Int)+((r.length+1:Nat):Int)+1 by omega]
theorem uU {ts:List Tm}{k:Nat}{t:Tm}(h:ts[k]? = some t):G0 T V 0 (ts.take (k+1))=G0 T V 0 (ts.take k) ++ [⟨(k:Int)+1,0,(C3 T V t).2⟩,⟨0,(k:Int)+1,0-(C3 T V t).1⟩]:=by
 have hl:=A8 h
 rw [Cm h,gI]
 simp [Nat.min_eq_left (Nat.le_of_lt hl)]
theorem V2:∀(ts:List Tm) (i:Nat),(G0 T V i ts).length=2*ts.length
 | [],i=>rfl
 | t::r,i=>by rw [G0];simp only [List.length_cons,V2 r (i+1)];omega
theorem Sm (t:Tm) : -1099511627776≤(C3 T V t).1∧(C3 T V t).1≤1099511627776∧-1099511627776≤(C3 T V t).2∧(C3 T V t).2≤1099511627776:=by
 unfold C3
 repeat' split
 all_goals simp
def rO (T:List Sc)(V:List Va)(l:List Lit):List AV:=[.int .i64 (C2 T V l).n,.sl 3 ((C2 T V l).bs.map Rp),.sl 3 ((B6 T V l).ts.map Hz),.junk]
theorem zJ {α:Type}{l:List α}(h:(((l.length:Nat):Int)==0)=false):∃t r,l=t::r:=by
 cases l with
 | nil=>cases h
 | cons t r=>exact ⟨t,r,rfl⟩
theorem nil_of {α:Type}{l:List α}(h:(((l.length:Nat):Int)==0)=true):l = []:=by
 cases l with
 | nil=>rfl
 | cons t r=>simp at h;omega
theorem sc_two {a b:List AV}(h1:Bf a=true)(h2:Bf b=true):∀c∈[a,b],Bf c=true:=fun c hc=>by
 rcases List.mem_cons.1 hc with rfl | hc
 · exact h1
 · rw [List.mem_singleton.1 hc];exact h2
theorem bd_1 {c:Lit}{x z r:Int}(h:(c.cond.op==1&&c.neg)=true):D1 c x z r = [⟨x,z,0-r⟩]:=by rw [D1,if_pos (by rw [h];rfl)]
theorem bd_2 {c:Lit}{x z r:Int}(h:(c.cond.op==8 && !c.neg)=true):D1 c x z r = [⟨x,z,0-r⟩]:=by rw [D1,if_pos (by rw [h];simp)]
theorem xG {c:Lit}{x z r:Int}(h:(c.cond.op==1&&c.neg)=false)(h2:(c.cond.op==8 && !c.neg)=false):D1 c x z r=if c.cond.op==1||c.cond.op==8 then [⟨z,x,r-1⟩] else if c.cond.op==7 && !c.neg then [⟨x,z,0-r-1⟩] else if c.cond.op==7 then [⟨z,x,r⟩] else [⟨x,z,0-r⟩,⟨z,x,r⟩]:=by
 rw [D1,Cz (by rw [h,h2];rfl)]
theorem bd_3 {c:Lit}{x z r:Int}(h:(c.cond.op==1&&c.neg)=false)(h2:(c.cond.op==8 && !c.neg)=false)(h3:(c.cond.op==1)=true):D1 c x z r = [⟨z,x,r-1⟩]:=by rw [xG h h2,if_pos (by rw [h3];rfl)]
theorem bd_4 {c:Lit}{x z r:Int}(h:(c.cond.op==1&&c.neg)=false)(h2:(c.cond.op==8 && !c.neg)=false)(h3:(c.cond.op==8)=true):D1 c x z r = [⟨z,x,r-1⟩]:=by rw [xG h h2,if_pos (by rw [h3];simp)]
theorem bd_5 {c:Lit}{x z r:Int}(h:(c.cond.op==1&&c.neg)=false)(h2:(c.cond.op==8 && !c.neg)=false)(h3:(c.cond.op==1)=false)(h4:(c.cond.op==8)=false)(h5:(c.cond.op==7 && !c.neg)=true):D1 c x z r = [⟨x,z,0-r-1⟩]:=by rw [xG h h2,Cz (by rw [h3,h4];rfl),if_pos h5]
theorem bd_6 {c:Lit}{x z r:Int}(h:(c.cond.op==1&&c.neg)=false)(h2:(c.cond.op==8 && !c.neg)=false)(h3:(c.cond.op==1)=false)(h4:(c.cond.op==8)=false)(h5:(c.cond.op==7 && !c.neg)=false)(h6:(c.cond.op==7)=true):D1 c x z r = [⟨z,x,r⟩]:=by rw [xG h h2,Cz (by rw [h3,h4];rfl),Cz h5,if_pos h6]
theorem bd_7 {c:Lit}{x z r:Int}(h:(c.cond.op==1&&c.neg)=false)(h2:(c.cond.op==8 && !c.neg)=false)(h3:(c.cond.op==1)=false)(h4:(c.cond.op==8)=false)(h5:(c.cond.op==7 && !c.neg)=false)(h6:(c.cond.op==7)=false):D1 c x z r = [⟨x,z,0-r⟩,⟨z,x,r⟩]:=by rw [xG h h2,Cz (by rw [h3,h4];rfl),Cz h5,Cz h6]
theorem cSy_eq {l:List Lit}{s:Sy}{eZ eB:List (List AV)}(h:s=B6 T V l)(hz:eZ=(G0 T V 0 s.ts).map Rp)(hb:eB=s.bs.map Rp):AV.ptr [.int .i64 ((s.ts.length:Int)+1),.sl 3 (eZ++eB),.sl 3 (s.ts.map Hz),.junk] = .ptr (rO T V l):=by
 rw [hz,hb,←List.map_append,h];rfl
theorem Lo {l:List Lit}{k:Nat}{c:Lit}{s:Sy}{bs:List Bd}(h:l[k]? = some c)(hs:s=B6 T V (l.take k))(hn:(!(Aa T V c).2)=false)
  (hb:D1 c (B3 (A1 s.ts (Aa T V c).1.plus) (Aa T V c).1.plus) (B3 (A1 (A1 s.ts (Aa T V c).1.plus) (Aa T V c).1.minus) (Aa T V c).1.minus) (Aa T V c).1.rest=bs) :
  (⟨A1 (A1 s.ts (Aa T V c).1.plus) (Aa T V c).1.minus,s.bs++bs⟩:Sy)=B6 T V (l.take (k+1)):=by
 rw [iW h,←hs,Lj hn,hb]
theorem vZ {l:List Lit}{k:Nat}{c:Lit}{s:Sy}(h:l[k]? = some c)(hs:s=B6 T V (l.take k))(hn:(!(Aa T V c).2)=true):s=B6 T V (l.take (k+1)):=by
 rw [iW h,←hs,Lg hn]
theorem M1 {s:List Bd}{e:List (List AV)}{b:Bd}(h:e=s.map Rp):e ++ [Rp b]=(s ++ [b]).map Rp:=by rw [h,List.map_append];rfl
theorem sK {s:List Bd}{e:List (List AV)}{b c:Bd}(h:e=s.map Rp):(e ++ [Rp b]) ++ [Rp c]=(s ++ [b,c]).map Rp:=by rw [h,List.map_append,List.append_assoc];rfl
theorem rU {ts l:List Tm}{n:Nat}(h:ts.length≤n):0≤B3 ts l∧B3 ts l≤(n:Int)+1:=by
  unfold B3
  cases l with
  | nil=>simp only;omega
  | cons t r=>
    simp only
    have:ts.idxOf t≤ts.length:=List.idxOf_le_length
    omega
theorem Zone_1 {l:List Lit}(h:(Gg T V l != 0)=true):Qx T V l=⟨zn0,[],Gg T V l⟩:=by rw [Qx,if_pos h]
theorem Zone_2 {l:List Lit}(h:(Gg T V l != 0)=false)(h2:(!In (C2 T V l))=true):Qx T V l=⟨zn0,[],17⟩:=by rw [Qx,Cz h,if_pos h2]
theorem Zone_3 {l:List Lit}(h:(Gg T V l != 0)=false)(h2:(!In (C2 T V l))=false):Qx T V l=⟨C2 T V l,(B6 T V l).ts.map Hf,0⟩:=by rw [Qx,Cz h,Cz h2]
end
end Go.Proofs.YtkddpedfbicbeaaGreatDoor
