/-
  Several texts in one: S26, S27. No condition.
-/
import Derived.Test.YtjedflcpjlgokaaGreatDoorK15
import Derived.Test.YtjedflcpjlgokaaGreatDoorK14
set_option linter.unusedVariables false
set_option linter.unusedSimpArgs false
namespace Go.Proofs.YtjedflcpjlgokaaGreatDoor
open Go Go.Aw
abbrev Gk:=List UInt8
abbrev Um:=List (Gk×Bool)
def sE (U:Um):List (List UInt8×AV):=U.map fun p=>(p.1,AV.bool p.2)
def Jr:Um→Gk→Bool
 | [],_=>false
 | (k,b)::r,n=>if k=n then b else Jr r n
def mH:Um→Gk→Option Nat
 | [],_=>none
 | (k,_)::r,n=>if k=n then some 0 else (mH r n).map (· + 1)
def Wx (U:Um)(n:Gk)(b:Bool):Um:=match mH U n with | some j=>U.modify j fun _=>(n,b) | none=>U ++ [(n,b)]
theorem oV (n:Gk):∀U:Um,match Lc (sE U) n with | some y=>y = .bool (Jr U n) | none=>[AV.bool false] = [.bool (Jr U n)]
  | []=>rfl
  | (k,b)::r=>by
    have ih:=oV n r
    show match (if k=n then some (AV.bool b) else Lc (sE r) n) with | some y=>y = .bool (if k=n then b else Jr r n) | none=>[AV.bool false] = [.bool (if k=n then b else Jr r n)]
    by_cases h:k=n
    · rw [if_pos h,if_pos h]
    · rw [if_neg h,if_neg h];exact ih
theorem pO (n:Gk):∀U:Um,S7 (sE U) n=mH U n
  | []=>rfl
  | (k,b)::r=>by
    show (if k=n then some 0 else (S7 (sE r) n).map (· + 1))=if k=n then some 0 else (mH r n).map (· + 1)
    rw [pO n r]
theorem Kw {α β:Type}(f:α→β)(g:α→α)(h:β→β)(hc:∀x,f (g x)=h (f x)):∀(l:List α) (j:Nat),(l.modify j g).map f=(l.map f).modify j h
 | [],j=>by simp
 | a::r,0=>by simp [hc]
 | a::r,j+1=>by simp [Kw f g h hc r j]
theorem sput_u (U:Um)(n:Gk)(b:Bool):vF (sE U) n (.bool b)=sE (Wx U n b):=by
 unfold vF Wx
 rw [pO]
 cases mH U n with
 | none=>simp [sE]
 | some j=>exact (Kw (fun p:Gk×Bool=>(p.1,AV.bool p.2)) (fun _=>(n,b)) (fun _=>(n,AV.bool b)) (fun _=>rfl) U j).symm
theorem cG {n:Gk}:∀{U:Um},Jr U n=true→n∈U.map Prod.fst
  | [],h=>by cases h
  | (k,b)::r,h=>by
    rw [Jr] at h
    by_cases hk:k=n
    · simp [hk]
    · rw [if_neg hk] at h;simp [cG h]
theorem Yi {a b:Nat}(ha:a<256)(hb:b<256)(h:UInt8.ofNat a=UInt8.ofNat b):a=b:=by
 have:=congrArg UInt8.toNat h
 simp at this
 omega
theorem pP {u:Nat}:Go.Lib.decDigits u≠[]:=by rw [Go.Lib.decDigits];split <;> simp
theorem fK {u:Nat}(h:¬u<10):Go.Lib.decDigits u=Go.Lib.decDigits (u / 10) ++ [UInt8.ofNat (48+u % 10)]:=by rw [Go.Lib.decDigits,dif_neg h]
theorem wZ:∀(u v:Nat),Go.Lib.decDigits u=Go.Lib.decDigits v→u=v:=by
  intro u
  induction u using Nat.strongRecOn with
  | _ u ih=>
    intro v h
    by_cases h1:u<10
    · rw [Go.Lib.decDigits_one h1] at h
      by_cases h2:v<10
      · rw [Go.Lib.decDigits_one h2] at h
        have:=Yi (by omega) (by omega) (List.cons.inj h).1
        omega
      · rw [fK h2] at h
        have:=congrArg List.length h
        simp at this
        exact absurd this pP
    · rw [fK h1] at h
      by_cases h2:v<10
      · rw [Go.Lib.decDigits_one h2] at h
        have:=congrArg List.length h
        simp at this
        exact absurd this pP
      · rw [fK h2] at h
        obtain ⟨e1,e2⟩:=List.append_inj' h rfl
        have h3:=ih (u / 10) (by omega) _ e1
        have h4:=Yi (by omega) (by omega) (List.cons.inj e2).1
        omega
theorem Ll {α:Type}[DecidableEq α]:∀{l m:List α},l.Nodup→l ⊆ m→l.length≤m.length
  | [],m,_,_=>Nat.zero_le _
  | a::r,m,hn,hs=>by
    have h1:=List.nodup_cons.1 hn
    have ha:a∈m:=hs (List.mem_cons_self ..)
    have h2:r ⊆ m.erase a:=fun x hx=>(List.mem_erase_of_ne (fun e:x=a=>h1.1 (by rw [←e];exact hx))).2 (hs (List.mem_cons_of_mem _ hx))
    have h3:=Ll h1.2 h2
    have h4:=List.length_erase_of_mem ha
    have h5:=List.length_pos_of_mem ha
    rw [List.length_cons];omega
def wN (k:Nat):Gk:=119::Go.Lib.itoa (k:Int)
theorem zJ {a b:Nat}(h:wN a=wN b):a=b:=by
 have h1:=(List.cons.inj h).2
 unfold Go.Lib.itoa at h1
 rw [if_neg (by omega),if_neg (by omega)] at h1
 have:=wZ _ _ h1
 omega
theorem cN {U:Um}:∀{j:Nat},(∀i,i<j→Jr U (wN i)=true)→j≤U.length:=by
 intro j h
 have hn:((List.range j).map wN).Nodup:=List.Pairwise.map _ (fun a b hab e=>hab (zJ e)) List.nodup_range
 have hs:(List.range j).map wN ⊆ U.map Prod.fst:=fun x hx=>by
  obtain ⟨i,hi,rfl⟩:=List.mem_map.1 hx
  exact cG (h i (List.mem_range.1 hi))
 have:=Ll hn hs
 simpa using this
def aI (U:Um):Nat→Nat→Nat
 | 0,k=>k
 | f+1,k=>if Jr U (wN k) then aI U f (k+1) else k
def tD (U:Um):Gk:=wN (aI U U.length 0)
theorem uR {U:Um}{f k:Nat}(h:Jr U (wN k)=false):aI U f k=k:=by
 cases f with
 | zero=>rfl
 | succ f=>rw [aI,if_neg (by rw [h];decide)]
theorem xL {U:Um}{f k:Nat}(h:Jr U (wN k)=true):aI U (f+1) k=aI U f (k+1):=by rw [aI,if_pos h]
def nmI (U:Um)(r:Wd)(n:Nat)(s:Gk):Prop:=(n=0∧s=r.text)∨(r.const=false∧∃j,n=j+1∧s=wN j∧(∀i,i<j→Jr U (wN i)=true)∧aI U U.length 0=aI U (U.length-j) j)
theorem vC {U:Um}{r:Wd}{n:Nat}{s:Gk}(h:nmI U r n s)(hc:r.const=false)(hu:n=0∨Jr U s=true):nmI U r (n+1) (wN n):=by
 rcases h with ⟨rfl,_⟩ | ⟨_,j,rfl,rfl,h1,h2⟩
 · exact .inr ⟨hc,0,rfl,rfl,fun i hi=>absurd hi (by omega),rfl⟩
 ·
  have hu':Jr U (wN j)=true:=hu.resolve_left (by omega)
  have h3:∀i,i<j+1→Jr U (wN i)=true:=fun i hi=>by
   rcases Nat.lt_or_ge i j with h | h
   · exact h1 i h
   · rw [show i=j by omega];exact hu'
  have h4:=cN h3
  exact .inr ⟨hc,j+1,rfl,rfl,h3,by rw [h2,show U.length-j=(U.length-(j+1))+1 by omega,xL hu']⟩
theorem Aaa {U:Um}{r:Wd}{n:Nat}{s:Gk}(h:nmI U r n s):n≤U.length+1:=by
 rcases h with ⟨rfl,_⟩ | ⟨_,j,rfl,rfl,h1,_⟩
 · omega
 · have:=cN h1;omega
def Po (U:Um)(r:Wd):Gk:=if r.const then r.text else tD U
theorem wM {U:Um}{r:Wd}{n:Nat}{s:Gk}(h:nmI U r n s)(hx:(!r.const&&(n==0||Jr U s))=false):s=Po U r:=by
  unfold Po
  cases hc:r.const with
  | true=>
    rcases h with ⟨_,h⟩ | ⟨h,_⟩
    · rw [if_pos rfl];exact h
    · rw [hc] at h;cases h
  | false=>
    rw [hc] at hx
    rcases h with ⟨rfl,_⟩ | ⟨_,j,rfl,rfl,_,h2⟩
    · simp at hx
    · rw [if_neg (by decide)]
      unfold tD
      rw [h2,uR (by simpa using hx)]
abbrev Nm:=List (Wd×Gk)
def nE (N:Nm):List (List AV×AV):=N.map fun p=>(Jz p.1,.str p.2)
def Jp (N:Nm)(r:Wd):Option Gk:=(N.find? fun p=>decide (p.1=r)).map (·.2)
theorem Xz (x:Wd)(N:Nm):∀p∈nE N,F0 TL [(0,1,true,4),(1,1,true,9),(2,3,true,103)] (Jz x) p.1=some (Ir x p.1):=by
 intro p hp
 obtain ⟨q,_,rfl⟩:=List.mem_map.1 hp
 show F0 TL _ (Jz x) (Jz q.1)=some (Ir x (Jz q.1))
 rw [Lx,L4]
theorem U4 (x:Wd):∀N:Nm,F5 (Ir x) (nE N)=(Jp N x).map fun y=>.str y
  | []=>rfl
  | q::r=>by
    have ih:=U4 x r
    unfold nE Jp at ih ⊢
    rw [List.map_cons,F5,L4,To,ih,List.find?_cons]
    by_cases h:q.1=x
    · rw [decide_eq_true h.symm,decide_eq_true h];rfl
    · rw [decide_eq_false (fun e=>h e.symm),decide_eq_false h];rfl
theorem Aav (x:Wd)(N:Nm):match F5 (Ir x) (nE N) with | some y=>y = .str ((Jp N x).getD []) | none=>[AV.str []] = [.str ((Jp N x).getD [])]:=by
 rw [U4];cases Jp N x <;> rfl
theorem has_n (x:Wd)(N:Nm):(F5 (Ir x) (nE N)).isSome=(Jp N x).isSome:=by rw [U4];cases Jp N x <;> rfl
theorem new_n {x:Wd}{N:Nm}(h:Jp N x=none):F5 (Ir x) (nE N)=none:=by rw [U4,h];rfl
theorem Zd (N:Nm)(r:Wd)(s:Gk):nE N ++ [(Jz r,AV.str s)]=nE (N ++ [(r,s)]):=by unfold nE;rw [List.map_append];rfl
theorem Rg {N:Nm}{r:Wd}{s:Gk}(h:Jp N r=none):Jp (N ++ [(r,s)]) r=some s:=by
 unfold Jp at h ⊢
 rw [Option.map_eq_none_iff] at h
 rw [List.find?_append,h]
 simp
theorem kidx_n {N:Nm}{r:Wd}{s:Gk}(h:Jp N r=none):Kb (Ir r) (nE (N ++ [(r,s)]))=some N.length:=by
  induction N with
  | nil=>
    show (if Ir r (Jz r) then some 0 else none)=_
    rw [L4,To];simp
  | cons q t ih=>
    unfold Jp at h ih
    rw [Option.map_eq_none_iff,List.find?_cons] at h
    by_cases hq:q.1=r
    · rw [decide_eq_true hq] at h;cases h
    · rw [decide_eq_false hq] at h
      show (if Ir r (Jz q.1) then some 0 else (Kb (Ir r) (nE (t ++ [(r,s)]))).map (· + 1))=_
      rw [L4,To,decide_eq_false (fun e=>hq e.symm),ih (by rw [Option.map_eq_none_iff];exact h)]
      rfl
theorem Aal (N:Nm)(r:Wd)(s s':Gk):Mo (nE (N ++ [(r,s)])) N.length (.str s')=nE (N ++ [(r,s')]):=by
 unfold Mo
 rw [←Zd,←Zd]
 have hl:(nE N).length=N.length:=List.length_map ..
 rw [←hl]
 generalize nE N=E
 induction E with
 | nil=>rfl
 | cons a t ih=>simp [ih]
theorem vA (x:Wd)(N:Nm):∀p∈nE N,Ir x p.1=true→p.1=Jz x:=by
 intro p hp h
 obtain ⟨q,_,rfl⟩:=List.mem_map.1 hp
 rw [L4] at h
 simp only
 rw [L6.1 h]
section
variable {T:List Sc} {V:List Va}
structure tmOK (T:List Sc) (V:List Va) (t:Tm):Prop where
 op:t.op=1∨t.op=2
 v0:0≤t.v
 v1:t.v<(V.length:Int)
 f:t.op=1→0≤t.field∧t.field<((E1 T V t.v).length:Int)
theorem yC {t:Tm}(hk:KOK T V (Hs t))(ho:t.op=1∨t.op=2):tmOK T V t:=by
 have hn:=(A9 hk.nodes).1
 have h2:=hk.kind
 unfold Bq at hn
 split at hn
 · cases hn
 split at hn
 · cases hn
 split at hn
 · cases hn
 rename_i h3
 have hk2:(Fa T V (Hs t)).2=0:=by
  have e:Ca T V (Hs t)=Fa T V (Hs t):=by unfold Hs;rw [Ca];rfl
  rw [←e];exact h2
 unfold Fa at hk2
 rw [if_neg (by show ¬(t.op==0)=true;simp;omega)] at hk2
 split at hk2
 · cases hk2
 rename_i h4
 have h4':¬(V.length:Int)≤t.v:=fun h=>h4 (decide_eq_true h)
 have h3':¬((((Dd t.op).1=true∧(t.v<0∨16≤t.v))∨((Dd t.op).2=true∧(t.field<0∨8≤t.field)))):=fun h=>h3 (by
  show ((Dd t.op).1&&(decide (t.v<0)||decide (16≤t.v))||((Dd t.op).2&&(decide (t.field<0)||decide (8≤t.field))))=true
  simp only [Bool.or_eq_true,Bool.and_eq_true,decide_eq_true_eq];exact h)
 have hu1:(Dd t.op).1=true:=by unfold Dd;rcases ho with h | h <;> simp [h]
 refine ⟨ho,by have:¬(t.v<0∨16≤t.v):=fun h=>h3' (.inl ⟨hu1,h⟩);omega,by omega,fun h1=>?_⟩
 have hu2:(Dd t.op).2=true:=by unfold Dd;simp [h1]
 have hf:¬(t.field<0∨8≤t.field):=fun h=>h3' (.inr ⟨hu2,h⟩)
 rw [if_neg (by show ¬(t.op==2||t.op==3)=true;simp;omega)] at hk2
 split at hk2
 · cases hk2
 rename_i h5
 have h5':¬((E1 T V t.v).length:Int)≤t.field:=fun h=>h5 (decide_eq_true h)
 omega
theorem kF {Pr:Tm→Prop}(hp:∀t:Tm,t.op=1∨t.op=2→Pr t)(e:Ex):Ci e=0→∀{b:Int} {s:Su},(∀p∈s.ts,Pr p.1)→∀p∈(A5 e b s).1.ts,Pr p.1:=by
  refine Ex.Aa8 (P:=fun e=>Ci e=0→∀{b:Int} {s:Su},(∀p∈s.ts,Pr p.1)→∀p∈(A5 e b s).1.ts,Pr p.1) (fun e ih hk b s hs=>?_) e
  have hz:=A9 hk
  rcases Ka hz.1 with h | ⟨h,h1⟩ | ⟨h,hl⟩ | ⟨h,h1,h2,h3⟩
  · rw [D2 h];exact hs
  · rw [Bs h h1]
    intro p hp'
    have key:∀{ts:List (Tm×Int)},(∀p∈ts,Pr p.1)→∀p∈He (Dh e) b ts,Pr p.1:=by
      intro ts
      induction ts with
      | nil=>intro _ p hp';rw [He,List.mem_singleton] at hp';rw [hp'];exact hp _ (by simpa [Dh] using h1)
      | cons q r ihr=>
        intro hts p hp'
        rw [He] at hp'
        split at hp'
        · rcases List.mem_cons.1 hp' with rfl | hp'
          · exact hts q (List.mem_cons_self ..)
          · exact hts p (List.mem_cons_of_mem _ hp')
        · rcases List.mem_cons.1 hp' with rfl | hp'
          · exact hts p (List.mem_cons_self ..)
          · exact ihr (fun p hp'=>hts p (List.mem_cons_of_mem _ hp')) p hp'
    exact key hs p hp'
  · have m0:=Ax (show 0<e.args.length by omega)
    have m1:=Bf hl
    have key:∀c,∀p∈(if !(A5 (Ap e) b s).2 then ((A5 (Ap e) b s).1,false) else A5 (B3 e) c (A5 (Ap e) b s).1).1.ts,Pr p.1:=fun c=>by
      have i0:=ih _ m0 (hz.2 _ m0) (b:=b) hs
      split
      · exact i0
      · exact ih _ m1 (hz.2 _ m1) i0
    rcases h with h | h
    · rw [G6 (c:=b) hl (.inl ⟨h,rfl⟩)];exact key b
    · rw [G6 (c:=0-b) hl (.inr ⟨h,rfl⟩)];exact key _
  · rw [Eb h h1 h2 h3];exact hs
def Jl (t:Tm):Prop:=t.op=1∨t.op=2
theorem eH {a b:Ex}(ha:Ci a=0)(hb:Ci b=0):(∀t∈(Bu a b).1.plus,Jl t)∧∀t∈(Bu a b).1.minus,Jl t:=by
  have h0:(∀t∈oI.plus,Jl t)∧∀t∈oI.minus,Jl t:=⟨fun t h=>(by cases h),fun t h=>(by cases h)⟩
  unfold Bu
  split
  · exact h0
  rename_i h1
  split
  · exact h0
  have he:(A5 b (-1) (A5 a 1 H9).1).1=Cr a b:=by unfold Cr;rw [if_neg h1]
  rw [he]
  have hse:∀p∈(Cr a b).ts,Jl p.1:=by
    have q1:=kF (Pr:=Jl) (fun t h=>h) a ha (b:=1) (s:=H9) (fun p hp=>by cases hp)
    unfold Cr
    split
    · exact q1
    · exact kF (Pr:=Jl) (fun t h=>h) b hb q1
  unfold Mk
  cases hp:C2 (Cr a b).ts [] [] with
  | none=>exact h0
  | some p=>
    obtain ⟨p,m⟩:=p
    exact H4 (P:=Jl) hse (fun t h=>by cases h) (fun t h=>by cases h) hp
theorem eE {l:Lit}(hk:KOK T V l.cond):(∀t∈(Aa T V l).1.plus,Jl t)∧∀t∈(Aa T V l).1.minus,Jl t:=by
  cases h:l.cond.op==1 with
  | true=>
    rw [Ys h]
    exact ⟨fun t ht=>by rw [List.mem_singleton.1 ht];exact .inl (by simpa [Dh] using h),fun t ht=>by cases ht⟩
  | false=>
    cases h2:(!Cc l.cond||C0 T V l.cond) with
    | true=>rw [bS h h2];exact ⟨fun t h=>(by cases h),fun t h=>(by cases h)⟩
    | false=>
      rw [cD h h2]
      have hl:=Jt hk (Qu h2)
      exact eH (An hk (Ax (by omega))).nodes (An hk (Bf hl)).nodes
theorem jZ:∀{l:List Lit},Q9 T V l→∀{s:Sy},(∀t∈s.ts,Jl t)→∀t∈(l.foldl (Cq T V) s).ts,Jl t
  | [],_,s,hs=>hs
  | c::r,hl,s,hs=>by
    rw [List.foldl_cons]
    refine jZ (fun x hx=>hl x (List.mem_cons_of_mem _ hx)) ?_
    cases h : !(Aa T V c).2 with
    | true=>rw [Jh h];exact hs
    | false=>
      rw [Jc h]
      obtain ⟨h1,h2⟩:=eE (hl c (List.mem_cons_self ..)).1
      exact J6 (J6 hs h1) h2
theorem tN {l:List Lit}(hl:Q9 T V l):∀t∈(Bz T V l).ts,tmOK T V t:=fun t ht=>yC ((J7 hl).terms t ht) (jZ hl (s:=⟨[],[]⟩) (fun t h=>by cases h) t ht)
def Wo (T:List Sc)(i:Nat)(v:Va):Ev:=⟨0,(i:Int),v.type,0,(((T[v.type.toNat]?).getD sc0).fields).map fun f=>⟨f.kind,0,[]⟩⟩
def Gs (T:List Sc):Nat→List Va→List Ev
 | _,[]=>[]
 | i,v::r=>Wo T i v::Gs T (i+1) r
def S8 (e:Ev)(k:Nat)(f:Vl→Vl):Ev:={ e with values:=e.values.modify k f }
def Px (evs:List Ev)(t:Tm)(x:Int):List Ev:=if t.op==2 then evs.modify t.v.toNat (fun e=>{ e with time:=x }) else evs.modify t.v.toNat fun e=>S8 e t.field.toNat fun y=>{ y with num:=x }
def wJ (evs:List Ev)(t:Tm)(s:Gk):List Ev:=evs.modify t.v.toNat fun e=>S8 e t.field.toNat fun y=>{ y with text:=s }
def Hk (vals:List Int):Nat→List Tm→List Ev→List Ev
 | _,[],evs=>evs
 | i,t::r,evs=>Hk vals (i+1) r (Px evs t (C5 vals ((i:Int)+1)))
structure evOK (T:List Sc) (V:List Va) (evs:List Ev):Prop where
 len:evs.length=V.length
 vals:∀(j:Nat) (e:Ev),evs[j]? = some e→e.values.length=(E1 T V (j:Int)).length
theorem Tj (e:Ev)(k:Nat)(f:Vl→Vl):(S8 e k f).values.length=e.values.length:=List.length_modify ..
theorem R1 {evs:List Ev}(h:evOK T V evs)(j:Nat)(f:Ev→Ev)(hf:∀e,(f e).values.length=e.values.length):evOK T V (evs.modify j f):=by
  refine ⟨by rw [List.length_modify];exact h.len,fun i e hi=>?_⟩
  rw [List.getElem?_modify] at hi
  cases hq:evs[i]? with
  | none=>rw [hq] at hi;cases hi
  | some x=>
    rw [hq] at hi
    have hi':=(Option.some.inj hi).symm
    rw [←h.vals i x hq,hi']
    split
    · exact hf x
    · rfl
theorem aG {evs:List Ev}(h:evOK T V evs)(t:Tm)(x:Int):evOK T V (Px evs t x):=by
 unfold Px
 split
 · exact R1 h _ _ (fun _=>rfl)
 · exact R1 h _ _ (fun e=>Tj ..)
theorem wR {evs:List Ev}(h:evOK T V evs)(t:Tm)(s:Gk):evOK T V (wJ evs t s):=R1 h _ _ (fun e=>Tj ..)
theorem jF:∀{vs:List Va} {i j:Nat} {e:Ev},(Gs T i vs)[j]? = some e→∃v,vs[j]? = some v∧e=Wo T (i+j) v
  | [],i,j,e,h=>by simp [Gs] at h
  | v::r,i,0,e,h=>by simp [Gs] at h;exact ⟨v,rfl,h.symm⟩
  | v::r,i,j+1,e,h=>by
    have h':(Gs T (i+1) r)[j]? = some e:=by simpa [Gs] using h
    obtain ⟨w,h1,h2⟩:=jF h'
    exact ⟨w,by simpa using h1,by rw [h2,show i+1+j=i+(j+1) by omega]⟩
theorem Q3:∀{vs:List Va} {i:Nat},(Gs T i vs).length=vs.length
 | [],i=>rfl
 | v::r,i=>by simp [Gs,Q3]
theorem bE:∀{vs:List Va} {i:Nat} {v:Va},Gs T i (vs ++ [v])=Gs T i vs ++ [Wo T (i+vs.length) v]
 | [],i,v=>rfl
 | a::r,i,v=>by simp [Gs,bE];rw [show i+1+r.length=i+(r.length+1) by omega]
theorem rN:evOK T V (Gs T 0 V):=by
 refine ⟨Q3,fun j e h=>?_⟩
 obtain ⟨v,h1,h2⟩:=jF h
 rw [h2]
 show (((T[v.type.toNat]?).getD sc0).fields.map _).length=_
 rw [List.length_map]
 unfold E1
 rw [Int.toNat_natCast,h1];rfl
end
abbrev Es:=List (Ev×Value)
def Ck (p:Ev×Value):List AV:=[.int .i64 p.1.source,.int .i64 p.1.seq,.int .i64 p.1.type,.int .i64 p.1.time,.val p.2]
def Fc (p:Ev×Value):HO:=.buf p.2 (p.1.values.map cV) 28 3
abbrev Wn (bo:Nat)(v:Value)(l:Es)(R:List HO):List HO:=.buf v (l.map Ck) 66 5 :: .box bo 39 [.val v]::(l.map Fc++R)
theorem Oz {α β:Type}(f:α→β):∀(l:List α) (j:Nat),(l.map f).eraseIdx j=(l.eraseIdx j).map f
 | [],j=>by simp
 | a::r,0=>rfl
 | a::r,j+1=>by simp [Oz f r j]
theorem Lz {α:Type}{f:α→α}{x:α}:∀{l:List α} {j:Nat},l[j]? = some x→l.modify j f=l.set j (f x)
 | [],j,h=>by simp at h
 | a::r,0,h=>by simp at h;subst h;simp
 | a::r,j+1,h=>by simp [Lz (f:=f) (show r[j]? = some x by simpa using h)]
theorem Si {α:Type}:∀(l:List α) (j:Nat),l.modify j (fun x=>x)=l
 | [],j=>by simp
 | a::r,0=>by simp
 | a::r,j+1=>by simp [Si r j]
theorem iE {l:Es}{j:Nat}{x:Ev×Value}(h:l[j]? = some x):(l.map Fc).Perm (Fc x::(l.eraseIdx j).map Fc):=by
 have h1:(l.map Fc)[j]? = some (Fc x):=by rw [List.getElem?_map,h];rfl
 have:=G3 h1
 rw [Oz] at this
 exact this
theorem iG {bo:Nat}{v:Value}{l:Es}{R:List HO}{j:Nat}{x:Ev×Value}(h:l[j]? = some x):(Wn bo v l R).Perm (Fc x :: .buf v (l.map Ck) 66 5 :: .box bo 39 [.val v]::((l.eraseIdx j).map Fc++R)):=by
 refine (((iE h).append_right R).cons _ |>.cons _).trans ?_
 exact ((List.Perm.swap _ _ _).cons _).trans (List.Perm.swap _ _ _)
theorem ev_in {bo:Nat}{v:Value}{l:Es}{R:List HO}{j:Nat}{y:Ev×Value}(h:j<l.length):(Fc y :: .buf v ((l.set j y).map Ck) 66 5 :: .box bo 39 [.val v]::((l.eraseIdx j).map Fc++R)).Perm (Wn bo v (l.set j y) R):=by
 have h1:(l.set j y)[j]? = some y:=by simp [h]
 have:=iG (bo:=bo) (v:=v) (R:=R) h1
 rw [List.eraseIdx_set_eq] at this
 exact this.symm
theorem Ix (l:Es):∀e∈l.map Ck,e.length=5:=fun e he=>by
 obtain ⟨x,_,rfl⟩:=List.mem_map.1 he;rfl
theorem Nu (l:List Vl):∀e∈l.map cV,e.length=3:=fun e he=>by
 obtain ⟨x,_,rfl⟩:=List.mem_map.1 he;rfl
theorem Ul:∀{es:List (List AV)} {J:List AV} {z j o:Nat} {e:List AV} {x:AV},(∀e∈es,e.length=z)→es[j]? = some e→e[o]? = some x→(es.flatten++J)[j*z+o]? = some x
  | [],J,z,j,o,e,x,hz,hj,ho=>by simp at hj
  | a::r,J,z,0,o,e,x,hz,hj,ho=>by
    simp at hj;subst hj
    have hl:=(List.getElem?_eq_some_iff.1 ho).1
    rw [List.flatten_cons,List.append_assoc,Nat.zero_mul,Nat.zero_add,List.getElem?_append_left hl];exact ho
  | a::r,J,z,j+1,o,e,x,hz,hj,ho=>by
    have ha:=hz a (List.mem_cons_self ..)
    rw [List.flatten_cons,List.append_assoc,List.getElem?_append_right (by rw [ha,Nat.add_mul];omega),ha,show (j+1)*z+o-z=j*z+o by rw [Nat.add_mul];omega]
    exact Ul (fun e he=>hz e (List.mem_cons_of_mem _ he)) (by simpa using hj) ho
theorem dV {a b:List AV}{o:Nat}{x:AV}:E5 (a++b) (a.length+o) [x]=a++E5 b o [x]:=by
 unfold E5
 rw [List.take_append,List.drop_append,List.take_of_length_le (by omega),List.drop_eq_nil_of_le (by simp;omega)]
 simp [show a.length+o-a.length=o by omega,show a.length+o+1-a.length=o+1 by omega]
theorem bW {a b:List AV}{o:Nat}{x:AV}(h:o<a.length):E5 (a++b) o [x]=a.set o x++b:=by
 unfold E5
 rw [List.take_append_of_le_length (by omega),List.drop_append_of_le_length (by simp;omega),List.set_eq_take_append_cons_drop,if_pos h]
 simp
theorem Q1:∀{es:List (List AV)} {J:List AV} {z j o:Nat} {e:List AV} {x:AV},(∀e∈es,e.length=z)→es[j]? = some e→o<z→E5 (es.flatten++J) (j*z+o) [x]=(es.set j (e.set o x)).flatten++J
  | [],J,z,j,o,e,x,hz,hj,ho=>by simp at hj
  | a::r,J,z,0,o,e,x,hz,hj,ho=>by
    simp at hj;subst hj
    have ha:=hz a (List.mem_cons_self ..)
    rw [List.flatten_cons,List.append_assoc,Nat.zero_mul,Nat.zero_add,bW (by omega)]
    simp
  | a::r,J,z,j+1,o,e,x,hz,hj,ho=>by
    have ha:=hz a (List.mem_cons_self ..)
    have ih:=Q1 (J:=J) (x:=x) (fun e he=>hz e (List.mem_cons_of_mem _ he)) (show r[j]? = some e by simpa using hj) ho
    rw [List.flatten_cons,List.append_assoc,show (j+1)*z+o=a.length+(j*z+o) by rw [ha,Nat.add_mul];omega,dV,ih]
    simp
theorem Rb {es:List (List AV)}{J:List AV}{z j o:Nat}{e:List AV}(hz:∀e∈es,e.length=z)(hj:es[j]? = some e)(ho:o<z):Nat.ble (j*z+o+1) (es.flatten++J).length=true:=by
 have hj':=(List.getElem?_eq_some_iff.1 hj).1
 have hl:es.flatten.length=es.length*z:=by
  clear hj hj'
  induction es with
  | nil=>simp
  | cons a r ih=>rw [List.flatten_cons,List.length_append,ih (fun e he=>hz e (List.mem_cons_of_mem _ he)),hz a (List.mem_cons_self ..),List.length_cons,Nat.add_mul];omega
 have h1:(j+1)*z≤es.length*z:=Nat.mul_le_mul_right z hj'
 rw [Nat.add_mul] at h1
 exact Nat.ble_eq_true_of_le (by rw [List.length_append,hl];omega)
theorem vK {l:Es}{j:Nat}{e:Ev}{u:Value}{x:Int}(h:l[j]? = some (e,u)):(l.map Ck).set j ((Ck (e,u)).set 3 (.int .i64 x))=((l.modify j fun p=>({ p.1 with time:=x },p.2)).map Ck):=by
 rw [Lz h,List.map_set];rfl
theorem Aax {l:Es}{j:Nat}{x:Int}:(l.modify j fun p=>({ p.1 with time:=x },p.2)).map Fc=l.map Fc:=by
 exact (Kw Fc (fun p=>({ p.1 with time:=x },p.2)) (fun y=>y) (fun _=>rfl) l j).trans (Si _ _)
theorem Pc {l:Es}{j:Nat}{f:Ev→Ev}:(l.modify j fun p=>(f p.1,p.2)).map Prod.fst=(l.map Prod.fst).modify j f:=Kw Prod.fst _ f (fun _=>rfl) l j
theorem rH {e:Ev}{k:Nat}{y:Vl}(h:e.values[k]? = some y)(o:Nat)(x:AV)(f:Vl→Vl)(hf:(cV y).set o x=cV (f y)):(e.values.map cV).set k ((cV y).set o x)=((S8 e k f).values.map cV):=by
 unfold S8
 simp only
 rw [Lz h,hf,List.map_set]
theorem wI {l:Es}{j:Nat}{e:Ev}{u:Value}{k:Nat}{f:Vl→Vl}(h:l[j]? = some (e,u)):l.set j (S8 e k f,u)=l.modify j fun p=>(S8 p.1 k f,p.2):=by
 rw [Lz h]
theorem wU {l:Es}{j:Nat}{e:Ev}{u:Value}{k:Nat}{f:Vl→Vl}(h:l[j]? = some (e,u)):l.map Ck=(l.set j (S8 e k f,u)).map Ck:=by
 rw [List.map_set]
 refine (List.ext_getElem? fun i=>?_)
 rw [List.getElem?_set]
 split
 ·
  rename_i hi;subst hi
  rw [List.getElem?_map,h]
  have:=(List.getElem?_eq_some_iff.1 h).1
  simp [this,Ck,S8]
 · rfl
theorem fQ {bo:Nat}{v:Value}{l:Es}{pre R:List HO}:(pre++Wn bo v l R).Perm (Wn bo v l (pre++R)):=by
 have:=(List.perm_append_comm (l₁:=pre) (l₂:=[HO.buf v (l.map Ck) 66 5,.box bo 39 [.val v]]++l.map Fc)).append_right R
 simpa only [List.append_assoc,List.cons_append,List.nil_append] using this
abbrev tZ (b n c:Nat):Value:=.slice (some ⟨b,0,none⟩) n c
theorem pI {sl:List (Nat×AV)}{n bo bb bi cap capi j k o:Nat}{J Ji:List AV}{l:Es}{e:Ev}{y:Vl}{x:AV}{f:Vl→Vl}{R:List HO}(hj:l[j]? = some (e,tZ bi (e.values.map cV).length capi))(hy:e.values[k]? = some y)(hf:(cV y).set o x=cV (f y))
  (hcap:(l.map Ck).length≤cap) (hcm:cap≤maxLen) (hJ:J.length=(cap-(l.map Ck).length)*5) (hcapi:(e.values.map cV).length≤capi) (hcmi:capi≤maxLen) (hJi:Ji.length=(capi-(e.values.map cV).length)*3) :
  GS ⟨sl,.box bi 28 (((e.values.map cV).set k ((cV y).set o x)).flatten++Ji) :: .box bb 66 ((l.map Ck).flatten++J) :: .box bo 39 [.val (tZ bb (l.map Ck).length cap)]::((l.eraseIdx j).map Fc++R),n⟩
   ⟨sl,Wn bo (tZ bb (l.map Ck).length cap) (l.modify j fun p=>(S8 p.1 k f,p.2)) R,n⟩:=by
 have hvl:((S8 e k f).values.map cV).length=(e.values.map cV).length:=by rw [List.length_map,List.length_map,Tj]
 refine GS.trans (GS.rebuf 0 ((S8 e k f).values.map cV) Ji (m:=(e.values.map cV).length) (z:=3) (cap:=capi) hvl rfl (congrArg (fun es:List (List AV)=>es.flatten++Ji) (rH hy o x f hf)) (by rw [hvl];exact hcapi) hcmi (by rw [hvl];exact hJi) (Nu _) rfl) ?_
 refine GS.trans (GS.rebuf 1 (l.map Ck) J (m:=(l.map Ck).length) (z:=5) (cap:=cap) rfl rfl rfl hcap hcm hJ (Ix l) rfl) ?_
 have hlt:=(List.getElem?_eq_some_iff.1 hj).1
 have hp:=ev_in (bo:=bo) (v:=tZ bb (l.map Ck).length cap) (l:=l) (R:=R) (j:=j) (y:=(S8 e k f,tZ bi (e.values.map cV).length capi)) hlt
 rw [←wU hj,wI hj] at hp
 exact GS.perm hp
theorem zQ {sl:List (Nat×AV)}{n bo bb cap j:Nat}{J:List AV}{l:Es}{e:Ev}{u:Value}{x:Int}{R:List HO}(hj:l[j]? = some (e,u))
  (hcap:(l.map Ck).length≤cap) (hcm:cap≤maxLen) (hJ:J.length=(cap-(l.map Ck).length)*5) :
  GS ⟨sl,.box bb 66 (((l.map Ck).set j ((Ck (e,u)).set 3 (.int .i64 x))).flatten++J) :: .box bo 39 [.val (tZ bb (l.map Ck).length cap)]::(l.map Fc++R),n⟩
   ⟨sl,Wn bo (tZ bb (l.map Ck).length cap) (l.modify j fun p=>({ p.1 with time:=x },p.2)) R,n⟩:=by
 have hl:((l.modify j fun p=>({ p.1 with time:=x },p.2)).map Ck).length=(l.map Ck).length:=by simp
 refine GS.trans (GS.rebuf 0 ((l.modify j fun p=>({ p.1 with time:=x },p.2)).map Ck) J (m:=(l.map Ck).length) (z:=5) (cap:=cap) hl rfl (congrArg (fun es:List (List AV)=>es.flatten++J) (vK hj)) (by rw [hl];exact hcap) hcm (by rw [hl];exact hJ) (Ix _) rfl) ?_
 exact GS.heapTo (congrArg (fun E:List HO=>HO.buf (tZ bb (l.map Ck).length cap) ((l.modify j fun p=>({ p.1 with time:=x },p.2)).map Ck) 66 5 :: .box bo 39 [.val (tZ bb (l.map Ck).length cap)]::(E++R)) Aax.symm)
theorem wA {l:Es}{e:Ev}{u v':Value}{b c:HO}{K:List HO}{rows:List (List AV)}(hr:rows=e.values.map cV) :
  (HO.buf u rows 28 3::b :: .buf v' (l.map Ck ++ [Ck (e,u)]) 66 5::c::(l.map Fc++K)).Perm (b :: .buf v' ((l ++ [(e,u)]).map Ck) 66 5::c::((l ++ [(e,u)]).map Fc++K)):=by
 subst hr
 rw [List.map_append,List.map_append]
 have:=(List.perm_append_comm (l₁:=[Fc (e,u)]) (l₂:=[b,.buf v' (l.map Ck ++ [Ck (e,u)]) 66 5,c]++l.map Fc)).append_right K
 simp only [List.append_assoc,List.cons_append,List.nil_append] at this
 simp only [List.append_assoc]
 exact this
theorem xJ {g:Gh}{w:World}{v:Value}{l:Es}(hv:Rep g w v (.sl 5 (l.map Ck)))(hu:∀p∈l,Rep g w p.2 (.sl 3 (p.1.values.map cV))):Rep g w v (.sl 5 ((l.map Prod.fst).map aZ)):=by
  obtain ⟨a,n,cap,rfl,hn,hc,hm,h⟩:=hv.inv_sl
  have hlen:((l.map Prod.fst).map aZ).length=(l.map Ck).length:=by simp
  rcases h with h | ⟨b,o,rfl,hz,f,h1,h2⟩
  · have:l = []:=by simpa using h
    subst this
    have hn0:n=0:=by simpa using hn
    subst hn0
    exact .sl0 _ _ _ hm
  · refine .sl b o n cap 5 _ (by rw [hlen];exact hn) hc hm (fun e he=>?_) f (fun i e hi j x hj=>?_) (fun i e hi j x hj=>?_)
    · obtain ⟨q,_,rfl⟩:=List.mem_map.1 he;rfl
    · rw [List.getElem?_map,List.getElem?_map] at hi
      cases hq:l[i]? with
      | none=>rw [hq] at hi;cases hi
      | some p=>
        rw [hq] at hi
        have hi':aZ p.1=e:=by simpa using hi
        have hlt:j<5:=by have:=(List.getElem?_eq_some_iff.1 hj).1;rw [←hi'] at this;exact this
        have hr:(Ck p)[j]? = some ((Ck p)[j]'hlt):=List.getElem?_eq_getElem hlt
        exact h1 i _ (by rw [List.getElem?_map,hq];rfl) j _ hr
    · rw [List.getElem?_map,List.getElem?_map] at hi
      cases hq:l[i]? with
      | none=>rw [hq] at hi;cases hi
      | some p=>
        rw [hq] at hi
        have hi':aZ p.1=e:=by simpa using hi
        subst hi'
        have hrow:(l.map Ck)[i]? = some (Ck p):=by rw [List.getElem?_map,hq];rfl
        match j,hj with
        | 0,hj=>cases hj;exact h2 i _ hrow 0 _ rfl
        | 1,hj=>cases hj;exact h2 i _ hrow 1 _ rfl
        | 2,hj=>cases hj;exact h2 i _ hrow 2 _ rfl
        | 3,hj=>cases hj;exact h2 i _ hrow 3 _ rfl
        | 4,hj=>
          cases hj
          have:=(h2 i _ hrow 4 _ rfl).inv_val
          rw [this];exact hu p (List.mem_of_getElem? hq)
        | j+5,hj=>simp [aZ] at hj
theorem O2:∀{g:Gh} {w:World} {l:Es} {A R:List HO},HOK g w (A++(l.map Fc++R))→∃g',Ext g w g' w∧HOK g' w (A++R)∧∀p∈l,Rep g' w p.2 (.sl 3 (p.1.values.map cV))
  | g,w,[],A,R,h=>⟨g,Ext.refl g w,h,fun p hp=>by cases hp⟩
  | g,w,x::r,A,R,h=>by
    have hk:(A++((x::r).map Fc++R))[A.length]? = some (Fc x):=by rw [List.getElem?_append_right (Nat.le_refl _)];simp
    obtain ⟨g1,hx1,hH1,hr1⟩:=Oy h hk
    have e1:(A++((x::r).map Fc++R)).eraseIdx A.length=A++(r.map Fc++R):=by
      rw [List.eraseIdx_append_of_length_le (Nat.le_refl _)];simp
    rw [e1] at hH1
    obtain ⟨g2,hx2,hH2,hr2⟩:=O2 hH1
    refine ⟨g2,hx1.trans hx2,hH2,fun p hp=>?_⟩
    rcases List.mem_cons.1 hp with rfl | hp
    · exact hr1.mono hx2
    · exact hr2 p hp
theorem GS.freezeEvs {sl:List (Nat×AV)}{n t bo:Nat}{v:Value}{l:Es}{R:List HO}(h:get sl t = .val v):GS ⟨sl,Wn bo v l R,n⟩ ⟨(t,.sl 5 ((l.map Prod.fst).map aZ))::sl,.box bo 39 [.val v]::R,n⟩:=fun g a w hG=>by
 obtain ⟨g1,hx1,hH1,hu⟩:=O2 (A:=[.buf v (l.map Ck) 66 5,.box bo 39 [.val v]]) hG.heap
 obtain ⟨g2,hx2,hH2,hv⟩:=Oy hH1 (k:=0) rfl
 refine ⟨g2,⟨hG.size,hG.defers,fun i=>?_,hH2⟩,hx1.trans hx2⟩
 show Rep g2 w _ (get ((t,_)::sl) i)
 rw [F7]
 by_cases e:t=i
 ·
  subst e
  rw [if_pos rfl]
  have h1:=(h▸hG.sl t:Rep g w _ _).inv_val
  rw [h1]
  exact xJ hv fun p hp=>(hu p hp).mono hx2
 · rw [if_neg e];exact ((hG.sl i).mono hx1).mono hx2
theorem fP {T:List Sc}{V:List Va}{l:Es}(h:evOK T V (l.map Prod.fst)){t:Tm}(ht:tmOK T V t):∃e u,l[t.v.toNat]? = some (e,u)∧e.values.length=(E1 T V t.v).length∧l.length=V.length:=by
 have hl:l.length=V.length:=by have:=h.len;simpa using this
 have hlt:t.v.toNat<l.length:=by have:=ht.v0;have:=ht.v1;omega
 have hg:=List.getElem?_eq_getElem hlt
 refine ⟨(l[t.v.toNat]).1,(l[t.v.toNat]).2,hg,?_,hl⟩
 have:=h.vals t.v.toNat (l[t.v.toNat]).1 (by rw [List.getElem?_map,hg];rfl)
 rw [this,Int.toNat_of_nonneg ht.v0]
theorem jY {T:List Sc}{V:List Va}{e:Ev}{t:Tm}(ht:tmOK T V t)(h1:t.op=1)(he:e.values.length=(E1 T V t.v).length):∃y,e.values[t.field.toNat]? = some y:=by
 have hf:=ht.f h1
 have hlt:t.field.toNat<e.values.length:=by rw [he];omega
 exact ⟨_,List.getElem?_eq_getElem hlt⟩
theorem Vg {α β:Type}{f:α→β}{l:List α}{j:Nat}{x:α}(h:l[j]? = some x):l.map f≠[]:=fun e=>by
 have:l = []:=by simpa using e
 rw [this] at h;simp at h
end Go.Proofs.YtjedflcpjlgokaaGreatDoor
