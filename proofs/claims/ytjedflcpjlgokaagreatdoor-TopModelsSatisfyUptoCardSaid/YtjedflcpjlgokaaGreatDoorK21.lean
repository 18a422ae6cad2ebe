/-
  Several texts in one: S26, S27. No condition.
-/
import Derived.Test.YtjedflcpjlgokaaGreatDoorK20
import Derived.Test.YtjedflcpjlgokaaGreatDoorK19
set_option linter.unusedVariables false
set_option linter.unusedSimpArgs false
namespace Go.Proofs.YtjedflcpjlgokaaGreatDoor
open Go Go.Aw
abbrev Hn:=List UInt8
abbrev Um:=List (Hn×Bool)
def sE (U:Um):List (List UInt8×AV):=U.map fun p=>(p.1,AV.bool p.2)
def Kv:Um→Hn→Bool
 | [],_=>false
 | (k,b)::r,n=>if k=n then b else Kv r n
def pW:Um→Hn→Option Nat
 | [],_=>none
 | (k,_)::r,n=>if k=n then some 0 else (pW r n).map (· + 1)
def X0 (U:Um)(n:Hn)(b:Bool):Um:=match pW U n with | some j=>U.modify j fun _=>(n,b) | none=>U ++ [(n,b)]
theorem tW (n:Hn):∀U:Um,match Mo (sE U) n with | some y=>y = .bool (Kv U n) | none=>[AV.bool false] = [.bool (Kv U n)]
  | []=>rfl
  | (k,b)::r=>by
    have ih:=tW n r
    show match (if k=n then some (AV.bool b) else Mo (sE r) n) with | some y=>y = .bool (if k=n then b else Kv r n) | none=>[AV.bool false] = [.bool (if k=n then b else Kv r n)]
    by_cases h:k=n
    · rw [if_pos h,if_pos h]
    · rw [if_neg h,if_neg h];exact ih
theorem vS (n:Hn):∀U:Um,Un (sE U) n=pW U n
  | []=>rfl
  | (k,b)::r=>by
    show (if k=n then some 0 else (Un (sE r) n).map (· + 1))=if k=n then some 0 else (pW r n).map (· + 1)
    rw [vS n r]
theorem Lv {α β:Type}(f:α→β)(g:α→α)(h:β→β)(hc:∀x,f (g x)=h (f x)):∀(l:List α) (j:Nat),(l.modify j g).map f=(l.map f).modify j h
 | [],j=>by simp
 | a::r,0=>by simp [hc]
 | a::r,j+1=>by simp [Lv f g h hc r j]
theorem sput_u (U:Um)(n:Hn)(b:Bool):wZ (sE U) n (.bool b)=sE (X0 U n b):=by
 unfold wZ X0
 rw [vS]
 cases pW U n with
 | none=>simp [sE]
 | some j=>exact (Lv (fun p:Hn×Bool=>(p.1,AV.bool p.2)) (fun _=>(n,b)) (fun _=>(n,AV.bool b)) (fun _=>rfl) U j).symm
theorem gD {n:Hn}:∀{U:Um},Kv U n=true→n∈U.map Prod.fst
  | [],h=>by cases h
  | (k,b)::r,h=>by
    rw [Kv] at h
    by_cases hk:k=n
    · simp [hk]
    · rw [if_neg hk] at h;simp [gD h]
theorem Zg {a b:Nat}(ha:a<256)(hb:b<256)(h:UInt8.ofNat a=UInt8.ofNat b):a=b:=by
 have:=congrArg UInt8.toNat h
 simp at this
 omega
theorem sT {u:Nat}:Go.Lib.decDigits u≠[]:=by rw [Go.Lib.decDigits];split <;> simp
theorem jC {u:Nat}(h:¬u<10):Go.Lib.decDigits u=Go.Lib.decDigits (u / 10) ++ [UInt8.ofNat (48+u % 10)]:=by rw [Go.Lib.decDigits,dif_neg h]
theorem zJ:∀(u v:Nat),Go.Lib.decDigits u=Go.Lib.decDigits v→u=v:=by
  intro u
  induction u using Nat.strongRecOn with
  | _ u ih=>
    intro v h
    by_cases h1:u<10
    · rw [Go.Lib.decDigits_one h1] at h
      by_cases h2:v<10
      · rw [Go.Lib.decDigits_one h2] at h
        have:=Zg (by omega) (by omega) (List.cons.inj h).1
        omega
      · rw [jC h2] at h
        have:=congrArg List.length h
        simp at this
        exact absurd this sT
    · rw [jC h1] at h
      by_cases h2:v<10
      · rw [Go.Lib.decDigits_one h2] at h
        have:=congrArg List.length h
        simp at this
        exact absurd this sT
      · rw [jC h2] at h
        obtain ⟨e1,e2⟩:=List.append_inj' h rfl
        have h3:=ih (u / 10) (by omega) _ e1
        have h4:=Zg (by omega) (by omega) (List.cons.inj e2).1
        omega
theorem Ss {α:Type}[DecidableEq α]:∀{l m:List α},l.Nodup→l ⊆ m→l.length≤m.length
  | [],m,_,_=>Nat.zero_le _
  | a::r,m,hn,hs=>by
    have h1:=List.nodup_cons.1 hn
    have ha:a∈m:=hs (List.mem_cons_self ..)
    have h2:r ⊆ m.erase a:=fun x hx=>(List.mem_erase_of_ne (fun e:x=a=>h1.1 (by rw [←e];exact hx))).2 (hs (List.mem_cons_of_mem _ hx))
    have h3:=Ss h1.2 h2
    have h4:=List.length_erase_of_mem ha
    have h5:=List.length_pos_of_mem ha
    rw [List.length_cons];omega
def wN (k:Nat):Hn:=119::Go.Lib.itoa (k:Int)
theorem wN_inj {a b:Nat}(h:wN a=wN b):a=b:=by
 have h1:=(List.cons.inj h).2
 unfold Go.Lib.itoa at h1
 rw [if_neg (by omega),if_neg (by omega)] at h1
 have:=zJ _ _ h1
 omega
theorem dN {U:Um}:∀{j:Nat},(∀i,i<j→Kv U (wN i)=true)→j≤U.length:=by
 intro j h
 have hn:((List.range j).map wN).Nodup:=List.Pairwise.map _ (fun a b hab e=>hab (wN_inj e)) List.nodup_range
 have hs:(List.range j).map wN ⊆ U.map Prod.fst:=fun x hx=>by
  obtain ⟨i,hi,rfl⟩:=List.mem_map.1 hx
  exact gD (h i (List.mem_range.1 hi))
 have:=Ss hn hs
 simpa using this
def bS (U:Um):Nat→Nat→Nat
 | 0,k=>k
 | f+1,k=>if Kv U (wN k) then bS U f (k+1) else k
def uD (U:Um):Hn:=wN (bS U U.length 0)
theorem wT {U:Um}{f k:Nat}(h:Kv U (wN k)=false):bS U f k=k:=by
 cases f with
 | zero=>rfl
 | succ f=>rw [bS,if_neg (by rw [h];decide)]
theorem wL {U:Um}{f k:Nat}(h:Kv U (wN k)=true):bS U (f+1) k=bS U f (k+1):=by rw [bS,if_pos h]
def nmI (U:Um)(r:Wd)(n:Nat)(s:Hn):Prop:=(n=0∧s=r.text)∨(r.const=false∧∃j,n=j+1∧s=wN j∧(∀i,i<j→Kv U (wN i)=true)∧bS U U.length 0=bS U (U.length-j) j)
theorem Aab {U:Um}{r:Wd}{n:Nat}{s:Hn}(h:nmI U r n s)(hc:r.const=false)(hu:n=0∨Kv U s=true):nmI U r (n+1) (wN n):=by
 rcases h with ⟨rfl,_⟩ | ⟨_,j,rfl,rfl,h1,h2⟩
 · exact .inr ⟨hc,0,rfl,rfl,fun i hi=>absurd hi (by omega),rfl⟩
 ·
  have hu':Kv U (wN j)=true:=hu.resolve_left (by omega)
  have h3:∀i,i<j+1→Kv U (wN i)=true:=fun i hi=>by
   rcases Nat.lt_or_ge i j with h | h
   · exact h1 i h
   · rw [show i=j by omega];exact hu'
  have h4:=dN h3
  exact .inr ⟨hc,j+1,rfl,rfl,h3,by rw [h2,show U.length-j=(U.length-(j+1))+1 by omega,wL hu']⟩
theorem nm_len {U:Um}{r:Wd}{n:Nat}{s:Hn}(h:nmI U r n s):n≤U.length+1:=by
 rcases h with ⟨rfl,_⟩ | ⟨_,j,rfl,rfl,h1,_⟩
 · omega
 · have:=dN h1;omega
def Qm (U:Um)(r:Wd):Hn:=if r.const then r.text else uD U
theorem yN {U:Um}{r:Wd}{n:Nat}{s:Hn}(h:nmI U r n s)(hx:(!r.const&&(n==0||Kv U s))=false):s=Qm U r:=by
  unfold Qm
  cases hc:r.const with
  | true=>
    rcases h with ⟨_,h⟩ | ⟨h,_⟩
    · rw [if_pos rfl];exact h
    · rw [hc] at h;cases h
  | false=>
    rw [hc] at hx
    rcases h with ⟨rfl,_⟩ | ⟨_,j,rfl,rfl,_,h2⟩
    · simp at hx
    · rw [if_neg (by decide)]
      unfold uD
      rw [h2,wT (by simpa using hx)]
abbrev Nm:=List (Wd×Hn)
def nE (N:Nm):List (List AV×AV):=N.map fun p=>(K8 p.1,.str p.2)
def K3 (N:Nm)(r:Wd):Option Hn:=(N.find? fun p=>decide (p.1=r)).map (·.2)
theorem Zt (x:Wd)(N:Nm):∀p∈nE N,G1 TL [(0,1,true,4),(1,1,true,9),(2,3,true,103)] (K8 x) p.1=some (Jm x p.1):=by
 intro p hp
 obtain ⟨q,_,rfl⟩:=List.mem_map.1 hp
 show G1 TL _ (K8 x) (K8 q.1)=some (Jm x (K8 q.1))
 rw [Mt,M1]
theorem Xf (x:Wd):∀N:Nm,G4 (Jm x) (nE N)=(K3 N x).map fun y=>.str y
  | []=>rfl
  | q::r=>by
    have ih:=Xf x r
    unfold nE K3 at ih ⊢
    rw [List.map_cons,G4,M1,U0,ih,List.find?_cons]
    by_cases h:q.1=x
    · rw [decide_eq_true h.symm,decide_eq_true h];rfl
    · rw [decide_eq_false (fun e=>h e.symm),decide_eq_false h];rfl
theorem look_n (x:Wd)(N:Nm):match G4 (Jm x) (nE N) with | some y=>y = .str ((K3 N x).getD []) | none=>[AV.str []] = [.str ((K3 N x).getD [])]:=by
 rw [Xf];cases K3 N x <;> rfl
theorem has_n (x:Wd)(N:Nm):(G4 (Jm x) (nE N)).isSome=(K3 N x).isSome:=by rw [Xf];cases K3 N x <;> rfl
theorem new_n {x:Wd}{N:Nm}(h:K3 N x=none):G4 (Jm x) (nE N)=none:=by rw [Xf,h];rfl
theorem cN (N:Nm)(r:Wd)(s:Hn):nE N ++ [(K8 r,AV.str s)]=nE (N ++ [(r,s)]):=by unfold nE;rw [List.map_append];rfl
theorem S9 {N:Nm}{r:Wd}{s:Hn}(h:K3 N r=none):K3 (N ++ [(r,s)]) r=some s:=by
 unfold K3 at h ⊢
 rw [Option.map_eq_none_iff] at h
 rw [List.find?_append,h]
 simp
theorem kidx_n {N:Nm}{r:Wd}{s:Hn}(h:K3 N r=none):Lm (Jm r) (nE (N ++ [(r,s)]))=some N.length:=by
  induction N with
  | nil=>
    show (if Jm r (K8 r) then some 0 else none)=_
    rw [M1,U0];simp
  | cons q t ih=>
    unfold K3 at h ih
    rw [Option.map_eq_none_iff,List.find?_cons] at h
    by_cases hq:q.1=r
    · rw [decide_eq_true hq] at h;cases h
    · rw [decide_eq_false hq] at h
      show (if Jm r (K8 q.1) then some 0 else (Lm (Jm r) (nE (t ++ [(r,s)]))).map (· + 1))=_
      rw [M1,U0,decide_eq_false (fun e=>hq e.symm),ih (by rw [Option.map_eq_none_iff];exact h)]
      rfl
theorem kput_n (N:Nm)(r:Wd)(s s':Hn):N9 (nE (N ++ [(r,s)])) N.length (.str s')=nE (N ++ [(r,s')]):=by
 unfold N9
 rw [←cN,←cN]
 have hl:(nE N).length=N.length:=List.length_map ..
 rw [←hl]
 generalize nE N=E
 induction E with
 | nil=>rfl
 | cons a t ih=>simp [ih]
theorem zD (x:Wd)(N:Nm):∀p∈nE N,Jm x p.1=true→p.1=K8 x:=by
 intro p hp h
 obtain ⟨q,_,rfl⟩:=List.mem_map.1 hp
 rw [M1] at h
 simp only
 rw [N0.1 h]
section
variable {T:List Sc} {V:List Va}
structure tmOK (T:List Sc) (V:List Va) (t:Tm):Prop where
 op:t.op=1∨t.op=2
 v0:0≤t.v
 v1:t.v<(V.length:Int)
 f:t.op=1→0≤t.field∧t.field<((Ez T V t.v).length:Int)
theorem tm_ok {t:Tm}(hk:KOK T V (Fx t))(ho:t.op=1∨t.op=2):tmOK T V t:=by
 have hn:=(Bc hk.nodes).1
 have h2:=hk.kind
 unfold B3 at hn
 split at hn
 · cases hn
 split at hn
 · cases hn
 split at hn
 · cases hn
 rename_i h3
 have hk2:(F2 T V (Fx t)).2=0:=by
  have e:Cj T V (Fx t)=F2 T V (Fx t):=by unfold Fx;rw [Cj];rfl
  rw [←e];exact h2
 unfold F2 at hk2
 rw [if_neg (by show ¬(t.op==0)=true;simp;omega)] at hk2
 split at hk2
 · cases hk2
 rename_i h4
 have h4':¬(V.length:Int)≤t.v:=fun h=>h4 (decide_eq_true h)
 have h3':¬((((D2 t.op).1=true∧(t.v<0∨16≤t.v))∨((D2 t.op).2=true∧(t.field<0∨8≤t.field)))):=fun h=>h3 (by
  show ((D2 t.op).1&&(decide (t.v<0)||decide (16≤t.v))||((D2 t.op).2&&(decide (t.field<0)||decide (8≤t.field))))=true
  simp only [Bool.or_eq_true,Bool.and_eq_true,decide_eq_true_eq];exact h)
 have hu1:(D2 t.op).1=true:=by unfold D2;rcases ho with h | h <;> simp [h]
 refine ⟨ho,by have:¬(t.v<0∨16≤t.v):=fun h=>h3' (.inl ⟨hu1,h⟩);omega,by omega,fun h1=>?_⟩
 have hu2:(D2 t.op).2=true:=by unfold D2;simp [h1]
 have hf:¬(t.field<0∨8≤t.field):=fun h=>h3' (.inr ⟨hu2,h⟩)
 rw [if_neg (by show ¬(t.op==2||t.op==3)=true;simp;omega)] at hk2
 split at hk2
 · cases hk2
 rename_i h5
 have h5':¬((Ez T V t.v).length:Int)≤t.field:=fun h=>h5 (decide_eq_true h)
 omega
theorem kX {Pr:Tm→Prop}(hp:∀t:Tm,t.op=1∨t.op=2→Pr t)(e:Ex):Ca e=0→∀{b:Int} {s:Su},(∀p∈s.ts,Pr p.1)→∀p∈(Bg e b s).1.ts,Pr p.1:=by
  refine Ex.Aav (P:=fun e=>Ca e=0→∀{b:Int} {s:Su},(∀p∈s.ts,Pr p.1)→∀p∈(Bg e b s).1.ts,Pr p.1) (fun e ih hk b s hs=>?_) e
  have hz:=Bc hk
  rcases Kb hz.1 with h | ⟨h,h1⟩ | ⟨h,hl⟩ | ⟨h,h1,h2,h3⟩
  · rw [Fa h];exact hs
  · rw [B8 h h1]
    intro p hp'
    have key:∀{ts:List (Tm×Int)},(∀p∈ts,Pr p.1)→∀p∈Fv (Dv e) b ts,Pr p.1:=by
      intro ts
      induction ts with
      | nil=>intro _ p hp';rw [Fv,List.mem_singleton] at hp';rw [hp'];exact hp _ (by simpa [Dv] using h1)
      | cons q r ihr=>
        intro hts p hp'
        rw [Fv] at hp'
        split at hp'
        · rcases List.mem_cons.1 hp' with rfl | hp'
          · exact hts q (List.mem_cons_self ..)
          · exact hts p (List.mem_cons_of_mem _ hp')
        · rcases List.mem_cons.1 hp' with rfl | hp'
          · exact hts p (List.mem_cons_self ..)
          · exact ihr (fun p hp'=>hts p (List.mem_cons_of_mem _ hp')) p hp'
    exact key hs p hp'
  · have m0:=A0 (show 0<e.args.length by omega)
    have m1:=Bk hl
    have key:∀c,∀p∈(if !(Bg (Av e) b s).2 then ((Bg (Av e) b s).1,false) else Bg (Cc e) c (Bg (Av e) b s).1).1.ts,Pr p.1:=fun c=>by
      have i0:=ih _ m0 (hz.2 _ m0) (b:=b) hs
      split
      · exact i0
      · exact ih _ m1 (hz.2 _ m1) i0
    rcases h with h | h
    · rw [Ik (c:=b) hl (.inl ⟨h,rfl⟩)];exact key b
    · rw [Ik (c:=0-b) hl (.inr ⟨h,rfl⟩)];exact key _
  · rw [F4 h h1 h2 h3];exact hs
def Kl (t:Tm):Prop:=t.op=1∨t.op=2
theorem eC {a b:Ex}(ha:Ca a=0)(hb:Ca b=0):(∀t∈(B7 a b).1.plus,Kl t)∧∀t∈(B7 a b).1.minus,Kl t:=by
  have h0:(∀t∈nV.plus,Kl t)∧∀t∈nV.minus,Kl t:=⟨fun t h=>(by cases h),fun t h=>(by cases h)⟩
  unfold B7
  split
  · exact h0
  rename_i h1
  split
  · exact h0
  have he:(Bg b (-1) (Bg a 1 Ir).1).1=C9 a b:=by unfold C9;rw [if_neg h1]
  rw [he]
  have hse:∀p∈(C9 a b).ts,Kl p.1:=by
    have q1:=kX (Pr:=Kl) (fun t h=>h) a ha (b:=1) (s:=Ir) (fun p hp=>by cases hp)
    unfold C9
    split
    · exact q1
    · exact kX (Pr:=Kl) (fun t h=>h) b hb q1
  unfold Or
  cases hp:C5 (C9 a b).ts [] [] with
  | none=>exact h0
  | some p=>
    obtain ⟨p,m⟩:=p
    exact Iy (P:=Kl) hse (fun t h=>by cases h) (fun t h=>by cases h) hp
theorem dR {l:Lit}(hk:KOK T V l.cond):(∀t∈(Aa T V l).1.plus,Kl t)∧∀t∈(Aa T V l).1.minus,Kl t:=by
  cases h:l.cond.op==1 with
  | true=>
    rw [Vt h]
    exact ⟨fun t ht=>by rw [List.mem_singleton.1 ht];exact .inl (by simpa [Dv] using h),fun t ht=>by cases ht⟩
  | false=>
    cases h2:(!Cb l.cond||Dl T V l.cond) with
    | true=>rw [eU h h2];exact ⟨fun t h=>(by cases h),fun t h=>(by cases h)⟩
    | false=>
      rw [Zx h h2]
      have hl:=Je hk (Rt h2)
      exact eC (A2 hk (A0 (by omega))).nodes (A2 hk (Bk hl)).nodes
theorem kV:∀{l:List Lit},Sq T V l→∀{s:Sy},(∀t∈s.ts,Kl t)→∀t∈(l.foldl (C7 T V) s).ts,Kl t
  | [],_,s,hs=>hs
  | c::r,hl,s,hs=>by
    rw [List.foldl_cons]
    refine kV (fun x hx=>hl x (List.mem_cons_of_mem _ hx)) ?_
    cases h : !(Aa T V c).2 with
    | true=>rw [Kf h];exact hs
    | false=>
      rw [J7 h]
      obtain ⟨h1,h2⟩:=dR (hl c (List.mem_cons_self ..)).1
      exact K4 (K4 hs h1) h2
theorem iF {l:List Lit}(hl:Sq T V l):∀t∈(B1 T V l).ts,tmOK T V t:=fun t ht=>tm_ok ((J8 hl).terms t ht) (kV hl (s:=⟨[],[]⟩) (fun t h=>by cases h) t ht)
def Uq (T:List Sc)(i:Nat)(v:Va):Ev:=⟨0,(i:Int),v.type,0,(((T[v.type.toNat]?).getD sc0).fields).map fun f=>⟨f.kind,0,[]⟩⟩
def Fh (T:List Sc):Nat→List Va→List Ev
 | _,[]=>[]
 | i,v::r=>Uq T i v::Fh T (i+1) r
def Uo (e:Ev)(k:Nat)(f:Vl→Vl):Ev:={ e with values:=e.values.modify k f }
def L1 (evs:List Ev)(t:Tm)(x:Int):List Ev:=if t.op==2 then evs.modify t.v.toNat (fun e=>{ e with time:=x }) else evs.modify t.v.toNat fun e=>Uo e t.field.toNat fun y=>{ y with num:=x }
def wG (evs:List Ev)(t:Tm)(s:Hn):List Ev:=evs.modify t.v.toNat fun e=>Uo e t.field.toNat fun y=>{ y with text:=s }
def Gv (vals:List Int):Nat→List Tm→List Ev→List Ev
 | _,[],evs=>evs
 | i,t::r,evs=>Gv vals (i+1) r (L1 evs t (Du vals ((i:Int)+1)))
structure evOK (T:List Sc) (V:List Va) (evs:List Ev):Prop where
 len:evs.length=V.length
 vals:∀(j:Nat) (e:Ev),evs[j]? = some e→e.values.length=(Ez T V (j:Int)).length
theorem Vf (e:Ev)(k:Nat)(f:Vl→Vl):(Uo e k f).values.length=e.values.length:=List.length_modify ..
theorem Tp {evs:List Ev}(h:evOK T V evs)(j:Nat)(f:Ev→Ev)(hf:∀e,(f e).values.length=e.values.length):evOK T V (evs.modify j f):=by
  refine ⟨by rw [List.length_modify];exact h.len,fun i e hi=>?_⟩
  rw [List.getElem?_modify] at hi
  cases hq:evs[i]? with
  | none=>rw [hq] at hi;cases hi
  | some x=>
    rw [hq] at hi
    have hi':=(Option.some.inj hi).symm
    rw [←h.vals i x hq,hi']
    split
    · exact hf x
    · rfl
theorem U1 {evs:List Ev}(h:evOK T V evs)(t:Tm)(x:Int):evOK T V (L1 evs t x):=by
 unfold L1
 split
 · exact Tp h _ _ (fun _=>rfl)
 · exact Tp h _ _ (fun e=>Vf ..)
theorem yA {evs:List Ev}(h:evOK T V evs)(t:Tm)(s:Hn):evOK T V (wG evs t s):=Tp h _ _ (fun e=>Vf ..)
theorem lX:∀{vs:List Va} {i j:Nat} {e:Ev},(Fh T i vs)[j]? = some e→∃v,vs[j]? = some v∧e=Uq T (i+j) v
  | [],i,j,e,h=>by simp [Fh] at h
  | v::r,i,0,e,h=>by simp [Fh] at h;exact ⟨v,rfl,h.symm⟩
  | v::r,i,j+1,e,h=>by
    have h':(Fh T (i+1) r)[j]? = some e:=by simpa [Fh] using h
    obtain ⟨w,h1,h2⟩:=lX h'
    exact ⟨w,by simpa using h1,by rw [h2,show i+1+j=i+(j+1) by omega]⟩
theorem Nq:∀{vs:List Va} {i:Nat},(Fh T i vs).length=vs.length
 | [],i=>rfl
 | v::r,i=>by simp [Fh,Nq]
theorem Vs:∀{vs:List Va} {i:Nat} {v:Va},Fh T i (vs ++ [v])=Fh T i vs ++ [Uq T (i+vs.length) v]
 | [],i,v=>rfl
 | a::r,i,v=>by simp [Fh,Vs];rw [show i+1+r.length=i+(r.length+1) by omega]
theorem iJ:evOK T V (Fh T 0 V):=by
 refine ⟨Nq,fun j e h=>?_⟩
 obtain ⟨v,h1,h2⟩:=lX h
 rw [h2]
 show (((T[v.type.toNat]?).getD sc0).fields.map _).length=_
 rw [List.length_map]
 unfold Ez
 rw [Int.toNat_natCast,h1];rfl
end
abbrev Es:=List (Ev×Value)
def Cy (p:Ev×Value):List AV:=[.int .i64 p.1.source,.int .i64 p.1.seq,.int .i64 p.1.type,.int .i64 p.1.time,.val p.2]
def F8 (p:Ev×Value):HO:=.buf p.2 (p.1.values.map cV) 28 3
abbrev Xv (bo:Nat)(v:Value)(l:Es)(R:List HO):List HO:=.buf v (l.map Cy) 66 5 :: .box bo 39 [.val v]::(l.map F8++R)
theorem P9 {α β:Type}(f:α→β):∀(l:List α) (j:Nat),(l.map f).eraseIdx j=(l.eraseIdx j).map f
 | [],j=>by simp
 | a::r,0=>rfl
 | a::r,j+1=>by simp [P9 f r j]
theorem Iu {α:Type}{f:α→α}{x:α}:∀{l:List α} {j:Nat},l[j]? = some x→l.modify j f=l.set j (f x)
 | [],j,h=>by simp at h
 | a::r,0,h=>by simp at h;subst h;simp
 | a::r,j+1,h=>by simp [Iu (f:=f) (show r[j]? = some x by simpa using h)]
theorem T7 {α:Type}:∀(l:List α) (j:Nat),l.modify j (fun x=>x)=l
 | [],j=>by simp
 | a::r,0=>by simp
 | a::r,j+1=>by simp [T7 r j]
theorem iW {l:Es}{j:Nat}{x:Ev×Value}(h:l[j]? = some x):(l.map F8).Perm (F8 x::(l.eraseIdx j).map F8):=by
 have h1:(l.map F8)[j]? = some (F8 x):=by rw [List.getElem?_map,h];rfl
 have:=Hz h1
 rw [P9] at this
 exact this
theorem iQ {bo:Nat}{v:Value}{l:Es}{R:List HO}{j:Nat}{x:Ev×Value}(h:l[j]? = some x):(Xv bo v l R).Perm (F8 x :: .buf v (l.map Cy) 66 5 :: .box bo 39 [.val v]::((l.eraseIdx j).map F8++R)):=by
 refine (((iW h).append_right R).cons _ |>.cons _).trans ?_
 exact ((List.Perm.swap _ _ _).cons _).trans (List.Perm.swap _ _ _)
theorem ev_in {bo:Nat}{v:Value}{l:Es}{R:List HO}{j:Nat}{y:Ev×Value}(h:j<l.length):(F8 y :: .buf v ((l.set j y).map Cy) 66 5 :: .box bo 39 [.val v]::((l.eraseIdx j).map F8++R)).Perm (Xv bo v (l.set j y) R):=by
 have h1:(l.set j y)[j]? = some y:=by simp [h]
 have:=iQ (bo:=bo) (v:=v) (R:=R) h1
 rw [List.eraseIdx_set_eq] at this
 exact this.symm
theorem Ju (l:Es):∀e∈l.map Cy,e.length=5:=fun e he=>by
 obtain ⟨x,_,rfl⟩:=List.mem_map.1 he;rfl
theorem Kj (l:List Vl):∀e∈l.map cV,e.length=3:=fun e he=>by
 obtain ⟨x,_,rfl⟩:=List.mem_map.1 he;rfl
theorem R3:∀{es:List (List AV)} {J:List AV} {z j o:Nat} {e:List AV} {x:AV},(∀e∈es,e.length=z)→es[j]? = some e→e[o]? = some x→(es.flatten++J)[j*z+o]? = some x
  | [],J,z,j,o,e,x,hz,hj,ho=>by simp at hj
  | a::r,J,z,0,o,e,x,hz,hj,ho=>by
    simp at hj;subst hj
    have hl:=(List.getElem?_eq_some_iff.1 ho).1
    rw [List.flatten_cons,List.append_assoc,Nat.zero_mul,Nat.zero_add,List.getElem?_append_left hl];exact ho
  | a::r,J,z,j+1,o,e,x,hz,hj,ho=>by
    have ha:=hz a (List.mem_cons_self ..)
    rw [List.flatten_cons,List.append_assoc,List.getElem?_append_right (by rw [ha,Nat.add_mul];omega),ha,show (j+1)*z+o-z=j*z+o by rw [Nat.add_mul];omega]
    exact R3 (fun e he=>hz e (List.mem_cons_of_mem _ he)) (by simpa using hj) ho
theorem dG {a b:List AV}{o:Nat}{x:AV}:D7 (a++b) (a.length+o) [x]=a++D7 b o [x]:=by
 unfold D7
 rw [List.take_append,List.drop_append,List.take_of_length_le (by omega),List.drop_eq_nil_of_le (by simp;omega)]
 simp [show a.length+o-a.length=o by omega,show a.length+o+1-a.length=o+1 by omega]
theorem gL {a b:List AV}{o:Nat}{x:AV}(h:o<a.length):D7 (a++b) o [x]=a.set o x++b:=by
 unfold D7
 rw [List.take_append_of_le_length (by omega),List.drop_append_of_le_length (by simp;omega),List.set_eq_take_append_cons_drop,if_pos h]
 simp
theorem Mq:∀{es:List (List AV)} {J:List AV} {z j o:Nat} {e:List AV} {x:AV},(∀e∈es,e.length=z)→es[j]? = some e→o<z→D7 (es.flatten++J) (j*z+o) [x]=(es.set j (e.set o x)).flatten++J
  | [],J,z,j,o,e,x,hz,hj,ho=>by simp at hj
  | a::r,J,z,0,o,e,x,hz,hj,ho=>by
    simp at hj;subst hj
    have ha:=hz a (List.mem_cons_self ..)
    rw [List.flatten_cons,List.append_assoc,Nat.zero_mul,Nat.zero_add,gL (by omega)]
    simp
  | a::r,J,z,j+1,o,e,x,hz,hj,ho=>by
    have ha:=hz a (List.mem_cons_self ..)
    have ih:=Mq (J:=J) (x:=x) (fun e he=>hz e (List.mem_cons_of_mem _ he)) (show r[j]? = some e by simpa using hj) ho
    rw [List.flatten_cons,List.append_assoc,show (j+1)*z+o=a.length+(j*z+o) by rw [ha,Nat.add_mul];omega,dG,ih]
    simp
theorem Mf {es:List (List AV)}{J:List AV}{z j o:Nat}{e:List AV}(hz:∀e∈es,e.length=z)(hj:es[j]? = some e)(ho:o<z):Nat.ble (j*z+o+1) (es.flatten++J).length=true:=by
 have hj':=(List.getElem?_eq_some_iff.1 hj).1
 have hl:es.flatten.length=es.length*z:=by
  clear hj hj'
  induction es with
  | nil=>simp
  | cons a r ih=>rw [List.flatten_cons,List.length_append,ih (fun e he=>hz e (List.mem_cons_of_mem _ he)),hz a (List.mem_cons_self ..),List.length_cons,Nat.add_mul];omega
 have h1:(j+1)*z≤es.length*z:=Nat.mul_le_mul_right z hj'
 rw [Nat.add_mul] at h1
 exact Nat.ble_eq_true_of_le (by rw [List.length_append,hl];omega)
theorem wS {l:Es}{j:Nat}{e:Ev}{u:Value}{x:Int}(h:l[j]? = some (e,u)):(l.map Cy).set j ((Cy (e,u)).set 3 (.int .i64 x))=((l.modify j fun p=>({ p.1 with time:=x },p.2)).map Cy):=by
 rw [Iu h,List.map_set];rfl
theorem ev_timeBuf {l:Es}{j:Nat}{x:Int}:(l.modify j fun p=>({ p.1 with time:=x },p.2)).map F8=l.map F8:=by
 exact (Lv F8 (fun p=>({ p.1 with time:=x },p.2)) (fun y=>y) (fun _=>rfl) l j).trans (T7 _ _)
theorem Q6 {l:Es}{j:Nat}{f:Ev→Ev}:(l.modify j fun p=>(f p.1,p.2)).map Prod.fst=(l.map Prod.fst).modify j f:=Lv Prod.fst _ f (fun _=>rfl) l j
theorem vE {e:Ev}{k:Nat}{y:Vl}(h:e.values[k]? = some y)(o:Nat)(x:AV)(f:Vl→Vl)(hf:(cV y).set o x=cV (f y)):(e.values.map cV).set k ((cV y).set o x)=((Uo e k f).values.map cV):=by
 unfold Uo
 simp only
 rw [Iu h,hf,List.map_set]
theorem xH {l:Es}{j:Nat}{e:Ev}{u:Value}{k:Nat}{f:Vl→Vl}(h:l[j]? = some (e,u)):l.set j (Uo e k f,u)=l.modify j fun p=>(Uo p.1 k f,p.2):=by
 rw [Iu h]
theorem yC {l:Es}{j:Nat}{e:Ev}{u:Value}{k:Nat}{f:Vl→Vl}(h:l[j]? = some (e,u)):l.map Cy=(l.set j (Uo e k f,u)).map Cy:=by
 rw [List.map_set]
 refine (List.ext_getElem? fun i=>?_)
 rw [List.getElem?_set]
 split
 ·
  rename_i hi;subst hi
  rw [List.getElem?_map,h]
  have:=(List.getElem?_eq_some_iff.1 h).1
  simp [this,Cy,Uo]
 · rfl
theorem jG {bo:Nat}{v:Value}{l:Es}{pre R:List HO}:(pre++Xv bo v l R).Perm (Xv bo v l (pre++R)):=by
 have:=(List.perm_append_comm (l₁:=pre) (l₂:=[HO.buf v (l.map Cy) 66 5,.box bo 39 [.val v]]++l.map F8)).append_right R
 simpa only [List.append_assoc,List.cons_append,List.nil_append] using this
abbrev yK (b n c:Nat):Value:=.slice (some ⟨b,0,none⟩) n c
theorem sO {sl:List (Nat×AV)}{n bo bb bi cap capi j k o:Nat}{J Ji:List AV}{l:Es}{e:Ev}{y:Vl}{x:AV}{f:Vl→Vl}{R:List HO}(hj:l[j]? = some (e,yK bi (e.values.map cV).length capi))(hy:e.values[k]? = some y)(hf:(cV y).set o x=cV (f y))
  (hcap:(l.map Cy).length≤cap) (hcm:cap≤maxLen) (hJ:J.length=(cap-(l.map Cy).length)*5) (hcapi:(e.values.map cV).length≤capi) (hcmi:capi≤maxLen) (hJi:Ji.length=(capi-(e.values.map cV).length)*3) :
  GS ⟨sl,.box bi 28 (((e.values.map cV).set k ((cV y).set o x)).flatten++Ji) :: .box bb 66 ((l.map Cy).flatten++J) :: .box bo 39 [.val (yK bb (l.map Cy).length cap)]::((l.eraseIdx j).map F8++R),n⟩
   ⟨sl,Xv bo (yK bb (l.map Cy).length cap) (l.modify j fun p=>(Uo p.1 k f,p.2)) R,n⟩:=by
 have hvl:((Uo e k f).values.map cV).length=(e.values.map cV).length:=by rw [List.length_map,List.length_map,Vf]
 refine GS.trans (GS.rebuf 0 ((Uo e k f).values.map cV) Ji (m:=(e.values.map cV).length) (z:=3) (cap:=capi) hvl rfl (congrArg (fun es:List (List AV)=>es.flatten++Ji) (vE hy o x f hf)) (by rw [hvl];exact hcapi) hcmi (by rw [hvl];exact hJi) (Kj _) rfl) ?_
 refine GS.trans (GS.rebuf 1 (l.map Cy) J (m:=(l.map Cy).length) (z:=5) (cap:=cap) rfl rfl rfl hcap hcm hJ (Ju l) rfl) ?_
 have hlt:=(List.getElem?_eq_some_iff.1 hj).1
 have hp:=ev_in (bo:=bo) (v:=yK bb (l.map Cy).length cap) (l:=l) (R:=R) (j:=j) (y:=(Uo e k f,yK bi (e.values.map cV).length capi)) hlt
 rw [←yC hj,xH hj] at hp
 exact GS.perm hp
theorem evTime {sl:List (Nat×AV)}{n bo bb cap j:Nat}{J:List AV}{l:Es}{e:Ev}{u:Value}{x:Int}{R:List HO}(hj:l[j]? = some (e,u))
  (hcap:(l.map Cy).length≤cap) (hcm:cap≤maxLen) (hJ:J.length=(cap-(l.map Cy).length)*5) :
  GS ⟨sl,.box bb 66 (((l.map Cy).set j ((Cy (e,u)).set 3 (.int .i64 x))).flatten++J) :: .box bo 39 [.val (yK bb (l.map Cy).length cap)]::(l.map F8++R),n⟩
   ⟨sl,Xv bo (yK bb (l.map Cy).length cap) (l.modify j fun p=>({ p.1 with time:=x },p.2)) R,n⟩:=by
 have hl:((l.modify j fun p=>({ p.1 with time:=x },p.2)).map Cy).length=(l.map Cy).length:=by simp
 refine GS.trans (GS.rebuf 0 ((l.modify j fun p=>({ p.1 with time:=x },p.2)).map Cy) J (m:=(l.map Cy).length) (z:=5) (cap:=cap) hl rfl (congrArg (fun es:List (List AV)=>es.flatten++J) (wS hj)) (by rw [hl];exact hcap) hcm (by rw [hl];exact hJ) (Ju _) rfl) ?_
 exact GS.heapTo (congrArg (fun E:List HO=>HO.buf (yK bb (l.map Cy).length cap) ((l.modify j fun p=>({ p.1 with time:=x },p.2)).map Cy) 66 5 :: .box bo 39 [.val (yK bb (l.map Cy).length cap)]::(E++R)) ev_timeBuf.symm)
theorem zL {l:Es}{e:Ev}{u v':Value}{b c:HO}{K:List HO}{rows:List (List AV)}(hr:rows=e.values.map cV) :
  (HO.buf u rows 28 3::b :: .buf v' (l.map Cy ++ [Cy (e,u)]) 66 5::c::(l.map F8++K)).Perm (b :: .buf v' ((l ++ [(e,u)]).map Cy) 66 5::c::((l ++ [(e,u)]).map F8++K)):=by
 subst hr
 rw [List.map_append,List.map_append]
 have:=(List.perm_append_comm (l₁:=[F8 (e,u)]) (l₂:=[b,.buf v' (l.map Cy ++ [Cy (e,u)]) 66 5,c]++l.map F8)).append_right K
 simp only [List.append_assoc,List.cons_append,List.nil_append] at this
 simp only [List.append_assoc]
 exact this
theorem xW {g:Gh}{w:World}{v:Value}{l:Es}(hv:Rep g w v (.sl 5 (l.map Cy)))(hu:∀p∈l,Rep g w p.2 (.sl 3 (p.1.values.map cV))):Rep g w v (.sl 5 ((l.map Prod.fst).map Lo)):=by
  obtain ⟨a,n,cap,rfl,hn,hc,hm,h⟩:=hv.inv_sl
  have hlen:((l.map Prod.fst).map Lo).length=(l.map Cy).length:=by simp
  rcases h with h | ⟨b,o,rfl,hz,f,h1,h2⟩
  · have:l = []:=by simpa using h
    subst this
    have hn0:n=0:=by simpa using hn
    subst hn0
    exact .sl0 _ _ _ hm
  · refine .sl b o n cap 5 _ (by rw [hlen];exact hn) hc hm (fun e he=>?_) f (fun i e hi j x hj=>?_) (fun i e hi j x hj=>?_)
    · obtain ⟨q,_,rfl⟩:=List.mem_map.1 he;rfl
    · rw [List.getElem?_map,List.getElem?_map] at hi
      cases hq:l[i]? with
      | none=>rw [hq] at hi;cases hi
      | some p=>
        rw [hq] at hi
        have hi':Lo p.1=e:=by simpa using hi
        have hlt:j<5:=by have:=(List.getElem?_eq_some_iff.1 hj).1;rw [←hi'] at this;exact this
        have hr:(Cy p)[j]? = some ((Cy p)[j]'hlt):=List.getElem?_eq_getElem hlt
        exact h1 i _ (by rw [List.getElem?_map,hq];rfl) j _ hr
    · rw [List.getElem?_map,List.getElem?_map] at hi
      cases hq:l[i]? with
      | none=>rw [hq] at hi;cases hi
      | some p=>
        rw [hq] at hi
        have hi':Lo p.1=e:=by simpa using hi
        subst hi'
        have hrow:(l.map Cy)[i]? = some (Cy p):=by rw [List.getElem?_map,hq];rfl
        match j,hj with
        | 0,hj=>cases hj;exact h2 i _ hrow 0 _ rfl
        | 1,hj=>cases hj;exact h2 i _ hrow 1 _ rfl
        | 2,hj=>cases hj;exact h2 i _ hrow 2 _ rfl
        | 3,hj=>cases hj;exact h2 i _ hrow 3 _ rfl
        | 4,hj=>
          cases hj
          have:=(h2 i _ hrow 4 _ rfl).inv_val
          rw [this];exact hu p (List.mem_of_getElem? hq)
        | j+5,hj=>simp [Lo] at hj
theorem P6:∀{g:Gh} {w:World} {l:Es} {A R:List HO},HOK g w (A++(l.map F8++R))→∃g',Ext g w g' w∧HOK g' w (A++R)∧∀p∈l,Rep g' w p.2 (.sl 3 (p.1.values.map cV))
  | g,w,[],A,R,h=>⟨g,Ext.refl g w,h,fun p hp=>by cases hp⟩
  | g,w,x::r,A,R,h=>by
    have hk:(A++((x::r).map F8++R))[A.length]? = some (F8 x):=by rw [List.getElem?_append_right (Nat.le_refl _)];simp
    obtain ⟨g1,hx1,hH1,hr1⟩:=L6 h hk
    have e1:(A++((x::r).map F8++R)).eraseIdx A.length=A++(r.map F8++R):=by
      rw [List.eraseIdx_append_of_length_le (Nat.le_refl _)];simp
    rw [e1] at hH1
    obtain ⟨g2,hx2,hH2,hr2⟩:=P6 hH1
    refine ⟨g2,hx1.trans hx2,hH2,fun p hp=>?_⟩
    rcases List.mem_cons.1 hp with rfl | hp
    · exact hr1.mono hx2
    · exact hr2 p hp
theorem GS.freezeEvs {sl:List (Nat×AV)}{n t bo:Nat}{v:Value}{l:Es}{R:List HO}(h:get sl t = .val v):GS ⟨sl,Xv bo v l R,n⟩ ⟨(t,.sl 5 ((l.map Prod.fst).map Lo))::sl,.box bo 39 [.val v]::R,n⟩:=fun g a w hG=>by
 obtain ⟨g1,hx1,hH1,hu⟩:=P6 (A:=[.buf v (l.map Cy) 66 5,.box bo 39 [.val v]]) hG.heap
 obtain ⟨g2,hx2,hH2,hv⟩:=L6 hH1 (k:=0) rfl
 refine ⟨g2,⟨hG.size,hG.defers,fun i=>?_,hH2⟩,hx1.trans hx2⟩
 show Rep g2 w _ (get ((t,_)::sl) i)
 rw [Fg]
 by_cases e:t=i
 ·
  subst e
  rw [if_pos rfl]
  have h1:=(h▸hG.sl t:Rep g w _ _).inv_val
  rw [h1]
  exact xW hv fun p hp=>(hu p hp).mono hx2
 · rw [if_neg e];exact ((hG.sl i).mono hx1).mono hx2
theorem jV {T:List Sc}{V:List Va}{l:Es}(h:evOK T V (l.map Prod.fst)){t:Tm}(ht:tmOK T V t):∃e u,l[t.v.toNat]? = some (e,u)∧e.values.length=(Ez T V t.v).length∧l.length=V.length:=by
 have hl:l.length=V.length:=by have:=h.len;simpa using this
 have hlt:t.v.toNat<l.length:=by have:=ht.v0;have:=ht.v1;omega
 have hg:=List.getElem?_eq_getElem hlt
 refine ⟨(l[t.v.toNat]).1,(l[t.v.toNat]).2,hg,?_,hl⟩
 have:=h.vals t.v.toNat (l[t.v.toNat]).1 (by rw [List.getElem?_map,hg];rfl)
 rw [this,Int.toNat_of_nonneg ht.v0]
theorem lA {T:List Sc}{V:List Va}{e:Ev}{t:Tm}(ht:tmOK T V t)(h1:t.op=1)(he:e.values.length=(Ez T V t.v).length):∃y,e.values[t.field.toNat]? = some y:=by
 have hf:=ht.f h1
 have hlt:t.field.toNat<e.values.length:=by rw [he];omega
 exact ⟨_,List.getElem?_eq_getElem hlt⟩
theorem S7 {α β:Type}{f:α→β}{l:List α}{j:Nat}{x:α}(h:l[j]? = some x):l.map f≠[]:=fun e=>by
 have:l = []:=by simpa using e
 rw [this] at h;simp at h
end Go.Proofs.YtjedflcpjlgokaaGreatDoor
