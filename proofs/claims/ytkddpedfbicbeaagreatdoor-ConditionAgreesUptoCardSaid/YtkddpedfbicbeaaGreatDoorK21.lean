/-
  Several texts in one: S26, S27. No condition.
-/
import Derived.Test.YtkddpedfbicbeaaGreatDoorK20
import Derived.Test.YtkddpedfbicbeaaGreatDoorK19
set_option linter.unusedVariables false
set_option linter.unusedSimpArgs false
namespace Go.Proofs.YtkddpedfbicbeaaGreatDoor
open Go Go.Aw
abbrev Ft:=List UInt8
abbrev Um:=List (Ft×Bool)
def sE (U:Um):List (List UInt8×AV):=U.map fun p=>(p.1,AV.bool p.2)
def E8:Um→Ft→Bool
 | [],_=>false
 | (k,b)::r,n=>if k=n then b else E8 r n
def fA:Um→Ft→Option Nat
 | [],_=>none
 | (k,_)::r,n=>if k=n then some 0 else (fA r n).map (· + 1)
def Tt (U:Um)(n:Ft)(b:Bool):Um:=match fA U n with | some j=>U.modify j fun _=>(n,b) | none=>U ++ [(n,b)]
theorem xI (n:Ft):∀U:Um,match Mo (sE U) n with | some y=>y = .bool (E8 U n) | none=>[AV.bool false] = [.bool (E8 U n)]
  | []=>rfl
  | (k,b)::r=>by
    have ih:=xI n r
    show match (if k=n then some (AV.bool b) else Mo (sE r) n) with | some y=>y = .bool (if k=n then b else E8 r n) | none=>[AV.bool false] = [.bool (if k=n then b else E8 r n)]
    by_cases h:k=n
    · rw [if_pos h,if_pos h]
    · rw [if_neg h,if_neg h];exact ih
theorem tT (n:Ft):∀U:Um,Vv (sE U) n=fA U n
  | []=>rfl
  | (k,b)::r=>by
    show (if k=n then some 0 else (Vv (sE r) n).map (· + 1))=if k=n then some 0 else (fA r n).map (· + 1)
    rw [tT n r]
theorem L2 {α β:Type}(f:α→β)(g:α→α)(h:β→β)(hc:∀x,f (g x)=h (f x)):∀(l:List α) (j:Nat),(l.modify j g).map f=(l.map f).modify j h
 | [],j=>by simp
 | a::r,0=>by simp [hc]
 | a::r,j+1=>by simp [L2 f g h hc r j]
theorem sput_u (U:Um)(n:Ft)(b:Bool):zI (sE U) n (.bool b)=sE (Tt U n b):=by
 unfold zI Tt
 rw [tT]
 cases fA U n with
 | none=>simp [sE]
 | some j=>exact (L2 (fun p:Ft×Bool=>(p.1,AV.bool p.2)) (fun _=>(n,b)) (fun _=>(n,AV.bool b)) (fun _=>rfl) U j).symm
theorem eF {n:Ft}:∀{U:Um},E8 U n=true→n∈U.map Prod.fst
  | [],h=>by cases h
  | (k,b)::r,h=>by
    rw [E8] at h
    by_cases hk:k=n
    · simp [hk]
    · rw [if_neg hk] at h;simp [eF h]
theorem aL {a b:Nat}(ha:a<256)(hb:b<256)(h:UInt8.ofNat a=UInt8.ofNat b):a=b:=by
 have:=congrArg UInt8.toNat h
 simp at this
 omega
theorem xM {u:Nat}:Go.Lib.decDigits u≠[]:=by rw [Go.Lib.decDigits];split <;> simp
theorem mG {u:Nat}(h:¬u<10):Go.Lib.decDigits u=Go.Lib.decDigits (u / 10) ++ [UInt8.ofNat (48+u % 10)]:=by rw [Go.Lib.decDigits,dif_neg h]
theorem dec_inj:∀(u v:Nat),Go.Lib.decDigits u=Go.Lib.decDigits v→u=v:=by
  intro u
  induction u using Nat.strongRecOn with
  | _ u ih=>
    intro v h
    by_cases h1:u<10
    · rw [Go.Lib.decDigits_one h1] at h
      by_cases h2:v<10
      · rw [Go.Lib.decDigits_one h2] at h
        have:=aL (by omega) (by omega) (List.cons.inj h).1
        omega
      · rw [mG h2] at h
        have:=congrArg List.length h
        simp at this
        exact absurd this xM
    · rw [mG h1] at h
      by_cases h2:v<10
      · rw [Go.Lib.decDigits_one h2] at h
        have:=congrArg List.length h
        simp at this
        exact absurd this xM
      · rw [mG h2] at h
        obtain ⟨e1,e2⟩:=List.append_inj' h rfl
        have h3:=ih (u / 10) (by omega) _ e1
        have h4:=aL (by omega) (by omega) (List.cons.inj e2).1
        omega
theorem Mv {α:Type}[DecidableEq α]:∀{l m:List α},l.Nodup→l ⊆ m→l.length≤m.length
  | [],m,_,_=>Nat.zero_le _
  | a::r,m,hn,hs=>by
    have h1:=List.nodup_cons.1 hn
    have ha:a∈m:=hs (List.mem_cons_self ..)
    have h2:r ⊆ m.erase a:=fun x hx=>(List.mem_erase_of_ne (fun e:x=a=>h1.1 (by rw [←e];exact hx))).2 (hs (List.mem_cons_of_mem _ hx))
    have h3:=Mv h1.2 h2
    have h4:=List.length_erase_of_mem ha
    have h5:=List.length_pos_of_mem ha
    rw [List.length_cons];omega
def wN (k:Nat):Ft:=119::Go.Lib.itoa (k:Int)
theorem wN_inj {a b:Nat}(h:wN a=wN b):a=b:=by
 have h1:=(List.cons.inj h).2
 unfold Go.Lib.itoa at h1
 rw [if_neg (by omega),if_neg (by omega)] at h1
 have:=dec_inj _ _ h1
 omega
theorem O3 {U:Um}:∀{j:Nat},(∀i,i<j→E8 U (wN i)=true)→j≤U.length:=by
 intro j h
 have hn:((List.range j).map wN).Nodup:=List.Pairwise.map _ (fun a b hab e=>hab (wN_inj e)) List.nodup_range
 have hs:(List.range j).map wN ⊆ U.map Prod.fst:=fun x hx=>by
  obtain ⟨i,hi,rfl⟩:=List.mem_map.1 hx
  exact eF (h i (List.mem_range.1 hi))
 have:=Mv hn hs
 simpa using this
def Ua (U:Um):Nat→Nat→Nat
 | 0,k=>k
 | f+1,k=>if E8 U (wN k) then Ua U f (k+1) else k
def bP (U:Um):Ft:=wN (Ua U U.length 0)
theorem nX {U:Um}{f k:Nat}(h:E8 U (wN k)=false):Ua U f k=k:=by
 cases f with
 | zero=>rfl
 | succ f=>rw [Ua,if_neg (by rw [h];decide)]
theorem mX {U:Um}{f k:Nat}(h:E8 U (wN k)=true):Ua U (f+1) k=Ua U f (k+1):=by rw [Ua,if_pos h]
def nmI (U:Um)(r:Wd)(n:Nat)(s:Ft):Prop:=(n=0∧s=r.text)∨(r.const=false∧∃j,n=j+1∧s=wN j∧(∀i,i<j→E8 U (wN i)=true)∧Ua U U.length 0=Ua U (U.length-j) j)
theorem zK {U:Um}{r:Wd}{n:Nat}{s:Ft}(h:nmI U r n s)(hc:r.const=false)(hu:n=0∨E8 U s=true):nmI U r (n+1) (wN n):=by
 rcases h with ⟨rfl,_⟩ | ⟨_,j,rfl,rfl,h1,h2⟩
 · exact .inr ⟨hc,0,rfl,rfl,fun i hi=>absurd hi (by omega),rfl⟩
 ·
  have hu':E8 U (wN j)=true:=hu.resolve_left (by omega)
  have h3:∀i,i<j+1→E8 U (wN i)=true:=fun i hi=>by
   rcases Nat.lt_or_ge i j with h | h
   · exact h1 i h
   · rw [show i=j by omega];exact hu'
  have h4:=O3 h3
  exact .inr ⟨hc,j+1,rfl,rfl,h3,by rw [h2,show U.length-j=(U.length-(j+1))+1 by omega,mX hu']⟩
theorem nm_len {U:Um}{r:Wd}{n:Nat}{s:Ft}(h:nmI U r n s):n≤U.length+1:=by
 rcases h with ⟨rfl,_⟩ | ⟨_,j,rfl,rfl,h1,_⟩
 · omega
 · have:=O3 h1;omega
def J1 (U:Um)(r:Wd):Ft:=if r.const then r.text else bP U
theorem nm_done {U:Um}{r:Wd}{n:Nat}{s:Ft}(h:nmI U r n s)(hx:(!r.const&&(n==0||E8 U s))=false):s=J1 U r:=by
  unfold J1
  cases hc:r.const with
  | true=>
    rcases h with ⟨_,h⟩ | ⟨h,_⟩
    · rw [if_pos rfl];exact h
    · rw [hc] at h;cases h
  | false=>
    rw [hc] at hx
    rcases h with ⟨rfl,_⟩ | ⟨_,j,rfl,rfl,_,h2⟩
    · simp at hx
    · rw [if_neg (by decide)]
      unfold bP
      rw [h2,nX (by simpa using hx)]
abbrev Nm:=List (Wd×Ft)
def nE (N:Nm):List (List AV×AV):=N.map fun p=>(Ld p.1,.str p.2)
def Ia (N:Nm)(r:Wd):Option Ft:=(N.find? fun p=>decide (p.1=r)).map (·.2)
theorem bE (x:Wd)(N:Nm):∀p∈nE N,G6 TL [(0,1,true,4),(1,1,true,9),(2,3,true,143)] (Ld x) p.1=some (Jo x p.1):=by
 intro p hp
 obtain ⟨q,_,rfl⟩:=List.mem_map.1 hp
 show G6 TL _ (Ld x) (Ld q.1)=some (Jo x (Ld q.1))
 rw [Nz,Nq]
theorem Xk (x:Wd):∀N:Nm,Hc (Jo x) (nE N)=(Ia N x).map fun y=>.str y
  | []=>rfl
  | q::r=>by
    have ih:=Xk x r
    unfold nE Ia at ih ⊢
    rw [List.map_cons,Hc,Nq,Wl,ih,List.find?_cons]
    by_cases h:q.1=x
    · rw [decide_eq_true h.symm,decide_eq_true h];rfl
    · rw [decide_eq_false (fun e=>h e.symm),decide_eq_false h];rfl
theorem look_n (x:Wd)(N:Nm):match Hc (Jo x) (nE N) with | some y=>y = .str ((Ia N x).getD []) | none=>[AV.str []] = [.str ((Ia N x).getD [])]:=by
 rw [Xk];cases Ia N x <;> rfl
theorem has_n (x:Wd)(N:Nm):(Hc (Jo x) (nE N)).isSome=(Ia N x).isSome:=by rw [Xk];cases Ia N x <;> rfl
theorem new_n {x:Wd}{N:Nm}(h:Ia N x=none):Hc (Jo x) (nE N)=none:=by rw [Xk,h];rfl
theorem cO (N:Nm)(r:Wd)(s:Ft):nE N ++ [(Ld r,AV.str s)]=nE (N ++ [(r,s)]):=by unfold nE;rw [List.map_append];rfl
theorem Uf {N:Nm}{r:Wd}{s:Ft}(h:Ia N r=none):Ia (N ++ [(r,s)]) r=some s:=by
 unfold Ia at h ⊢
 rw [Option.map_eq_none_iff] at h
 rw [List.find?_append,h]
 simp
theorem kidx_n {N:Nm}{r:Wd}{s:Ft}(h:Ia N r=none):Lk (Jo r) (nE (N ++ [(r,s)]))=some N.length:=by
  induction N with
  | nil=>
    show (if Jo r (Ld r) then some 0 else none)=_
    rw [Nq,Wl];simp
  | cons q t ih=>
    unfold Ia at h ih
    rw [Option.map_eq_none_iff,List.find?_cons] at h
    by_cases hq:q.1=r
    · rw [decide_eq_true hq] at h;cases h
    · rw [decide_eq_false hq] at h
      show (if Jo r (Ld q.1) then some 0 else (Lk (Jo r) (nE (t ++ [(r,s)]))).map (· + 1))=_
      rw [Nq,Wl,decide_eq_false (fun e=>hq e.symm),ih (by rw [Option.map_eq_none_iff];exact h)]
      rfl
theorem kput_n (N:Nm)(r:Wd)(s s':Ft):Of (nE (N ++ [(r,s)])) N.length (.str s')=nE (N ++ [(r,s')]):=by
 unfold Of
 rw [←cO,←cO]
 have hl:(nE N).length=N.length:=List.length_map ..
 rw [←hl]
 generalize nE N=E
 induction E with
 | nil=>rfl
 | cons a t ih=>simp [ih]
theorem nE_self (x:Wd)(N:Nm):∀p∈nE N,Jo x p.1=true→p.1=Ld x:=by
 intro p hp h
 obtain ⟨q,_,rfl⟩:=List.mem_map.1 hp
 rw [Nq] at h
 simp only
 rw [Ng.1 h]
section
variable {T:List Sc} {V:List Va}
structure tmOK (T:List Sc) (V:List Va) (t:Tm):Prop where
 op:t.op=1∨t.op=2
 v0:0≤t.v
 v1:t.v<(V.length:Int)
 f:t.op=1→0≤t.field∧t.field<((Fs T V t.v).length:Int)
theorem tm_ok {t:Tm}(hk:KOK T V (Hf t))(ho:t.op=1∨t.op=2):tmOK T V t:=by
 have hn:=(Ba hk.nodes).1
 have h2:=hk.kind
 unfold Bx at hn
 split at hn
 · cases hn
 split at hn
 · cases hn
 split at hn
 · cases hn
 rename_i h3
 have hk2:(F3 T V (Hf t)).2=0:=by
  have e:Ce T V (Hf t)=F3 T V (Hf t):=by unfold Hf;rw [Ce];rfl
  rw [←e];exact h2
 unfold F3 at hk2
 rw [if_neg (by show ¬(t.op==0)=true;simp;omega)] at hk2
 split at hk2
 · cases hk2
 rename_i h4
 have h4':¬(V.length:Int)≤t.v:=fun h=>h4 (decide_eq_true h)
 have h3':¬((((Dt t.op).1=true∧(t.v<0∨16≤t.v))∨((Dt t.op).2=true∧(t.field<0∨8≤t.field)))):=fun h=>h3 (by
  show ((Dt t.op).1&&(decide (t.v<0)||decide (16≤t.v))||((Dt t.op).2&&(decide (t.field<0)||decide (8≤t.field))))=true
  simp only [Bool.or_eq_true,Bool.and_eq_true,decide_eq_true_eq];exact h)
 have hu1:(Dt t.op).1=true:=by unfold Dt;rcases ho with h | h <;> simp [h]
 refine ⟨ho,by have:¬(t.v<0∨16≤t.v):=fun h=>h3' (.inl ⟨hu1,h⟩);omega,by omega,fun h1=>?_⟩
 have hu2:(Dt t.op).2=true:=by unfold Dt;simp [h1]
 have hf:¬(t.field<0∨8≤t.field):=fun h=>h3' (.inr ⟨hu2,h⟩)
 rw [if_neg (by show ¬(t.op==2||t.op==3)=true;simp;omega)] at hk2
 split at hk2
 · cases hk2
 rename_i h5
 have h5':¬((Fs T V t.v).length:Int)≤t.field:=fun h=>h5 (decide_eq_true h)
 omega
theorem nO {Pr:Tm→Prop}(hp:∀t:Tm,t.op=1∨t.op=2→Pr t)(e:Ex):C0 e=0→∀{b:Int} {s:Su},(∀p∈s.ts,Pr p.1)→∀p∈(Bb e b s).1.ts,Pr p.1:=by
  refine Ex.Aa0 (P:=fun e=>C0 e=0→∀{b:Int} {s:Su},(∀p∈s.ts,Pr p.1)→∀p∈(Bb e b s).1.ts,Pr p.1) (fun e ih hk b s hs=>?_) e
  have hz:=Ba hk
  rcases Lt hz.1 with h | ⟨h,h1⟩ | ⟨h,hl⟩ | ⟨h,h1,h2,h3⟩
  · rw [Ei h];exact hs
  · rw [B0 h h1]
    intro p hp'
    have key:∀{ts:List (Tm×Int)},(∀p∈ts,Pr p.1)→∀p∈Ij (Dy e) b ts,Pr p.1:=by
      intro ts
      induction ts with
      | nil=>intro _ p hp';rw [Ij,List.mem_singleton] at hp';rw [hp'];exact hp _ (by simpa [Dy] using h1)
      | cons q r ihr=>
        intro hts p hp'
        rw [Ij] at hp'
        split at hp'
        · rcases List.mem_cons.1 hp' with rfl | hp'
          · exact hts q (List.mem_cons_self ..)
          · exact hts p (List.mem_cons_of_mem _ hp')
        · rcases List.mem_cons.1 hp' with rfl | hp'
          · exact hts p (List.mem_cons_self ..)
          · exact ihr (fun p hp'=>hts p (List.mem_cons_of_mem _ hp')) p hp'
    exact key hs p hp'
  · have m0:=A4 (show 0<e.args.length by omega)
    have m1:=Bn hl
    have key:∀c,∀p∈(if !(Bb (Ao e) b s).2 then ((Bb (Ao e) b s).1,false) else Bb (Bj e) c (Bb (Ao e) b s).1).1.ts,Pr p.1:=fun c=>by
      have i0:=ih _ m0 (hz.2 _ m0) (b:=b) hs
      split
      · exact i0
      · exact ih _ m1 (hz.2 _ m1) i0
    rcases h with h | h
    · rw [H4 (c:=b) hl (.inl ⟨h,rfl⟩)];exact key b
    · rw [H4 (c:=0-b) hl (.inr ⟨h,rfl⟩)];exact key _
  · rw [E2 h h1 h2 h3];exact hs
def Ko (t:Tm):Prop:=t.op=1∨t.op=2
theorem iY {a b:Ex}(ha:C0 a=0)(hb:C0 b=0):(∀t∈(B2 a b).1.plus,Ko t)∧∀t∈(B2 a b).1.minus,Ko t:=by
  have h0:(∀t∈tL.plus,Ko t)∧∀t∈tL.minus,Ko t:=⟨fun t h=>(by cases h),fun t h=>(by cases h)⟩
  unfold B2
  split
  · exact h0
  rename_i h1
  split
  · exact h0
  have he:(Bb b (-1) (Bb a 1 Jc).1).1=C7 a b:=by unfold C7;rw [if_neg h1]
  rw [he]
  have hse:∀p∈(C7 a b).ts,Ko p.1:=by
    have q1:=nO (Pr:=Ko) (fun t h=>h) a ha (b:=1) (s:=Jc) (fun p hp=>by cases hp)
    unfold C7
    split
    · exact q1
    · exact nO (Pr:=Ko) (fun t h=>h) b hb q1
  unfold N7
  cases hp:Dl (C7 a b).ts [] [] with
  | none=>exact h0
  | some p=>
    obtain ⟨p,m⟩:=p
    exact I5 (P:=Ko) hse (fun t h=>by cases h) (fun t h=>by cases h) hp
theorem fD {l:Lit}(hk:KOK T V l.cond):(∀t∈(Aa T V l).1.plus,Ko t)∧∀t∈(Aa T V l).1.minus,Ko t:=by
  cases h:l.cond.op==1 with
  | true=>
    rw [Zv h]
    exact ⟨fun t ht=>by rw [List.mem_singleton.1 ht];exact .inl (by simpa [Dy] using h),fun t ht=>by cases ht⟩
  | false=>
    cases h2:(!Cr l.cond||Cl T V l.cond) with
    | true=>rw [nA h h2];exact ⟨fun t h=>(by cases h),fun t h=>(by cases h)⟩
    | false=>
      rw [aS h h2]
      have hl:=K6 hk (Wh h2)
      exact iY (Ax hk (A4 (by omega))).nodes (Ax hk (Bn hl)).nodes
theorem pO:∀{l:List Lit},Un T V l→∀{s:Sy},(∀t∈s.ts,Ko t)→∀t∈(l.foldl (Dc T V) s).ts,Ko t
  | [],_,s,hs=>hs
  | c::r,hl,s,hs=>by
    rw [List.foldl_cons]
    refine pO (fun x hx=>hl x (List.mem_cons_of_mem _ hx)) ?_
    cases h : !(Aa T V c).2 with
    | true=>rw [Lg h];exact hs
    | false=>
      rw [Lj h]
      obtain ⟨h1,h2⟩:=fD (hl c (List.mem_cons_self ..)).1
      exact Lc (Lc hs h1) h2
theorem mF {l:List Lit}(hl:Un T V l):∀t∈(B6 T V l).ts,tmOK T V t:=fun t ht=>tm_ok ((Kf hl).terms t ht) (pO hl (s:=⟨[],[]⟩) (fun t h=>by cases h) t ht)
def Zi (T:List Sc)(i:Nat)(v:Va):Ev:=⟨0,(i:Int),v.type,0,(((T[v.type.toNat]?).getD sc0).fields).map fun f=>⟨f.kind,0,[]⟩⟩
def Hs (T:List Sc):Nat→List Va→List Ev
 | _,[]=>[]
 | i,v::r=>Zi T i v::Hs T (i+1) r
def Wi (e:Ev)(k:Nat)(f:Vl→Vl):Ev:={ e with values:=e.values.modify k f }
def Se (evs:List Ev)(t:Tm)(x:Int):List Ev:=if t.op==2 then evs.modify t.v.toNat (fun e=>{ e with time:=x }) else evs.modify t.v.toNat fun e=>Wi e t.field.toNat fun y=>{ y with num:=x }
def Vo (evs:List Ev)(t:Tm)(s:Ft):List Ev:=evs.modify t.v.toNat fun e=>Wi e t.field.toNat fun y=>{ y with text:=s }
def Hn (vals:List Int):Nat→List Tm→List Ev→List Ev
 | _,[],evs=>evs
 | i,t::r,evs=>Hn vals (i+1) r (Se evs t (Eu vals ((i:Int)+1)))
structure evOK (T:List Sc) (V:List Va) (evs:List Ev):Prop where
 len:evs.length=V.length
 vals:∀(j:Nat) (e:Ev),evs[j]? = some e→e.values.length=(Fs T V (j:Int)).length
theorem V6 (e:Ev)(k:Nat)(f:Vl→Vl):(Wi e k f).values.length=e.values.length:=List.length_modify ..
theorem Ug {evs:List Ev}(h:evOK T V evs)(j:Nat)(f:Ev→Ev)(hf:∀e,(f e).values.length=e.values.length):evOK T V (evs.modify j f):=by
  refine ⟨by rw [List.length_modify];exact h.len,fun i e hi=>?_⟩
  rw [List.getElem?_modify] at hi
  cases hq:evs[i]? with
  | none=>rw [hq] at hi;cases hi
  | some x=>
    rw [hq] at hi
    have hi':=(Option.some.inj hi).symm
    rw [←h.vals i x hq,hi']
    split
    · exact hf x
    · rfl
theorem Wn {evs:List Ev}(h:evOK T V evs)(t:Tm)(x:Int):evOK T V (Se evs t x):=by
 unfold Se
 split
 · exact Ug h _ _ (fun _=>rfl)
 · exact Ug h _ _ (fun e=>V6 ..)
theorem mV {evs:List Ev}(h:evOK T V evs)(t:Tm)(s:Ft):evOK T V (Vo evs t s):=Ug h _ _ (fun e=>V6 ..)
theorem mQ:∀{vs:List Va} {i j:Nat} {e:Ev},(Hs T i vs)[j]? = some e→∃v,vs[j]? = some v∧e=Zi T (i+j) v
  | [],i,j,e,h=>by simp [Hs] at h
  | v::r,i,0,e,h=>by simp [Hs] at h;exact ⟨v,rfl,h.symm⟩
  | v::r,i,j+1,e,h=>by
    have h':(Hs T (i+1) r)[j]? = some e:=by simpa [Hs] using h
    obtain ⟨w,h1,h2⟩:=mQ h'
    exact ⟨w,by simpa using h1,by rw [h2,show i+1+j=i+(j+1) by omega]⟩
theorem S0:∀{vs:List Va} {i:Nat},(Hs T i vs).length=vs.length
 | [],i=>rfl
 | v::r,i=>by simp [Hs,S0]
theorem fS:∀{vs:List Va} {i:Nat} {v:Va},Hs T i (vs ++ [v])=Hs T i vs ++ [Zi T (i+vs.length) v]
 | [],i,v=>rfl
 | a::r,i,v=>by simp [Hs,fS];rw [show i+1+r.length=i+(r.length+1) by omega]
theorem lC:evOK T V (Hs T 0 V):=by
 refine ⟨S0,fun j e h=>?_⟩
 obtain ⟨v,h1,h2⟩:=mQ h
 rw [h2]
 show (((T[v.type.toNat]?).getD sc0).fields.map _).length=_
 rw [List.length_map]
 unfold Fs
 rw [Int.toNat_natCast,h1];rfl
end
abbrev Es:=List (Ev×Value)
def Cw (p:Ev×Value):List AV:=[.int .i64 p.1.source,.int .i64 p.1.seq,.int .i64 p.1.type,.int .i64 p.1.time,.val p.2]
def F8 (p:Ev×Value):HO:=.buf p.2 (p.1.values.map cV) 28 3
abbrev Zb (bo:Nat)(v:Value)(l:Es)(R:List HO):List HO:=.buf v (l.map Cw) 67 5 :: .box bo 58 [.val v]::(l.map F8++R)
theorem Qu {α β:Type}(f:α→β):∀(l:List α) (j:Nat),(l.map f).eraseIdx j=(l.eraseIdx j).map f
 | [],j=>by simp
 | a::r,0=>rfl
 | a::r,j+1=>by simp [Qu f r j]
theorem Nv {α:Type}{f:α→α}{x:α}:∀{l:List α} {j:Nat},l[j]? = some x→l.modify j f=l.set j (f x)
 | [],j,h=>by simp at h
 | a::r,0,h=>by simp at h;subst h;simp
 | a::r,j+1,h=>by simp [Nv (f:=f) (show r[j]? = some x by simpa using h)]
theorem Up {α:Type}:∀(l:List α) (j:Nat),l.modify j (fun x=>x)=l
 | [],j=>by simp
 | a::r,0=>by simp
 | a::r,j+1=>by simp [Up r j]
theorem lM {l:Es}{j:Nat}{x:Ev×Value}(h:l[j]? = some x):(l.map F8).Perm (F8 x::(l.eraseIdx j).map F8):=by
 have h1:(l.map F8)[j]? = some (F8 x):=by rw [List.getElem?_map,h];rfl
 have:=H1 h1
 rw [Qu] at this
 exact this
theorem mD {bo:Nat}{v:Value}{l:Es}{R:List HO}{j:Nat}{x:Ev×Value}(h:l[j]? = some x):(Zb bo v l R).Perm (F8 x :: .buf v (l.map Cw) 67 5 :: .box bo 58 [.val v]::((l.eraseIdx j).map F8++R)):=by
 refine (((lM h).append_right R).cons _ |>.cons _).trans ?_
 exact ((List.Perm.swap _ _ _).cons _).trans (List.Perm.swap _ _ _)
theorem ev_in {bo:Nat}{v:Value}{l:Es}{R:List HO}{j:Nat}{y:Ev×Value}(h:j<l.length):(F8 y :: .buf v ((l.set j y).map Cw) 67 5 :: .box bo 58 [.val v]::((l.eraseIdx j).map F8++R)).Perm (Zb bo v (l.set j y) R):=by
 have h1:(l.set j y)[j]? = some y:=by simp [h]
 have:=mD (bo:=bo) (v:=v) (R:=R) h1
 rw [List.eraseIdx_set_eq] at this
 exact this.symm
theorem Jy (l:Es):∀e∈l.map Cw,e.length=5:=fun e he=>by
 obtain ⟨x,_,rfl⟩:=List.mem_map.1 he;rfl
theorem O2 (l:List Vl):∀e∈l.map cV,e.length=3:=fun e he=>by
 obtain ⟨x,_,rfl⟩:=List.mem_map.1 he;rfl
theorem Xe:∀{es:List (List AV)} {J:List AV} {z j o:Nat} {e:List AV} {x:AV},(∀e∈es,e.length=z)→es[j]? = some e→e[o]? = some x→(es.flatten++J)[j*z+o]? = some x
  | [],J,z,j,o,e,x,hz,hj,ho=>by simp at hj
  | a::r,J,z,0,o,e,x,hz,hj,ho=>by
    simp at hj;subst hj
    have hl:=(List.getElem?_eq_some_iff.1 ho).1
    rw [List.flatten_cons,List.append_assoc,Nat.zero_mul,Nat.zero_add,List.getElem?_append_left hl];exact ho
  | a::r,J,z,j+1,o,e,x,hz,hj,ho=>by
    have ha:=hz a (List.mem_cons_self ..)
    rw [List.flatten_cons,List.append_assoc,List.getElem?_append_right (by rw [ha,Nat.add_mul];omega),ha,show (j+1)*z+o-z=j*z+o by rw [Nat.add_mul];omega]
    exact Xe (fun e he=>hz e (List.mem_cons_of_mem _ he)) (by simpa using hj) ho
theorem eL {a b:List AV}{o:Nat}{x:AV}:Fv (a++b) (a.length+o) [x]=a++Fv b o [x]:=by
 unfold Fv
 rw [List.take_append,List.drop_append,List.take_of_length_le (by omega),List.drop_eq_nil_of_le (by simp;omega)]
 simp [show a.length+o-a.length=o by omega,show a.length+o+1-a.length=o+1 by omega]
theorem fN {a b:List AV}{o:Nat}{x:AV}(h:o<a.length):Fv (a++b) o [x]=a.set o x++b:=by
 unfold Fv
 rw [List.take_append_of_le_length (by omega),List.drop_append_of_le_length (by simp;omega),List.set_eq_take_append_cons_drop,if_pos h]
 simp
theorem S7:∀{es:List (List AV)} {J:List AV} {z j o:Nat} {e:List AV} {x:AV},(∀e∈es,e.length=z)→es[j]? = some e→o<z→Fv (es.flatten++J) (j*z+o) [x]=(es.set j (e.set o x)).flatten++J
  | [],J,z,j,o,e,x,hz,hj,ho=>by simp at hj
  | a::r,J,z,0,o,e,x,hz,hj,ho=>by
    simp at hj;subst hj
    have ha:=hz a (List.mem_cons_self ..)
    rw [List.flatten_cons,List.append_assoc,Nat.zero_mul,Nat.zero_add,fN (by omega)]
    simp
  | a::r,J,z,j+1,o,e,x,hz,hj,ho=>by
    have ha:=hz a (List.mem_cons_self ..)
    have ih:=S7 (J:=J) (x:=x) (fun e he=>hz e (List.mem_cons_of_mem _ he)) (show r[j]? = some e by simpa using hj) ho
    rw [List.flatten_cons,List.append_assoc,show (j+1)*z+o=a.length+(j*z+o) by rw [ha,Nat.add_mul];omega,eL,ih]
    simp
theorem T8 {es:List (List AV)}{J:List AV}{z j o:Nat}{e:List AV}(hz:∀e∈es,e.length=z)(hj:es[j]? = some e)(ho:o<z):Nat.ble (j*z+o+1) (es.flatten++J).length=true:=by
 have hj':=(List.getElem?_eq_some_iff.1 hj).1
 have hl:es.flatten.length=es.length*z:=by
  clear hj hj'
  induction es with
  | nil=>simp
  | cons a r ih=>rw [List.flatten_cons,List.length_append,ih (fun e he=>hz e (List.mem_cons_of_mem _ he)),hz a (List.mem_cons_self ..),List.length_cons,Nat.add_mul];omega
 have h1:(j+1)*z≤es.length*z:=Nat.mul_le_mul_right z hj'
 rw [Nat.add_mul] at h1
 exact Nat.ble_eq_true_of_le (by rw [List.length_append,hl];omega)
theorem ev_time {l:Es}{j:Nat}{e:Ev}{u:Value}{x:Int}(h:l[j]? = some (e,u)):(l.map Cw).set j ((Cw (e,u)).set 3 (.int .i64 x))=((l.modify j fun p=>({ p.1 with time:=x },p.2)).map Cw):=by
 rw [Nv h,List.map_set];rfl
theorem ev_timeBuf {l:Es}{j:Nat}{x:Int}:(l.modify j fun p=>({ p.1 with time:=x },p.2)).map F8=l.map F8:=by
 exact (L2 F8 (fun p=>({ p.1 with time:=x },p.2)) (fun y=>y) (fun _=>rfl) l j).trans (Up _ _)
theorem Q1 {l:Es}{j:Nat}{f:Ev→Ev}:(l.modify j fun p=>(f p.1,p.2)).map Prod.fst=(l.map Prod.fst).modify j f:=L2 Prod.fst _ f (fun _=>rfl) l j
theorem xQ {e:Ev}{k:Nat}{y:Vl}(h:e.values[k]? = some y)(o:Nat)(x:AV)(f:Vl→Vl)(hf:(cV y).set o x=cV (f y)):(e.values.map cV).set k ((cV y).set o x)=((Wi e k f).values.map cV):=by
 unfold Wi
 simp only
 rw [Nv h,hf,List.map_set]
theorem Aak {l:Es}{j:Nat}{e:Ev}{u:Value}{k:Nat}{f:Vl→Vl}(h:l[j]? = some (e,u)):l.set j (Wi e k f,u)=l.modify j fun p=>(Wi p.1 k f,p.2):=by
 rw [Nv h]
theorem zO {l:Es}{j:Nat}{e:Ev}{u:Value}{k:Nat}{f:Vl→Vl}(h:l[j]? = some (e,u)):l.map Cw=(l.set j (Wi e k f,u)).map Cw:=by
 rw [List.map_set]
 refine (List.ext_getElem? fun i=>?_)
 rw [List.getElem?_set]
 split
 ·
  rename_i hi;subst hi
  rw [List.getElem?_map,h]
  have:=(List.getElem?_eq_some_iff.1 h).1
  simp [this,Cw,Wi]
 · rfl
theorem kF {bo:Nat}{v:Value}{l:Es}{pre R:List HO}:(pre++Zb bo v l R).Perm (Zb bo v l (pre++R)):=by
 have:=(List.perm_append_comm (l₁:=pre) (l₂:=[HO.buf v (l.map Cw) 67 5,.box bo 58 [.val v]]++l.map F8)).append_right R
 simpa only [List.append_assoc,List.cons_append,List.nil_append] using this
abbrev slV (b n c:Nat):Value:=.slice (some ⟨b,0,none⟩) n c
theorem wK {sl:List (Nat×AV)}{n bo bb bi cap capi j k o:Nat}{J Ji:List AV}{l:Es}{e:Ev}{y:Vl}{x:AV}{f:Vl→Vl}{R:List HO}(hj:l[j]? = some (e,slV bi (e.values.map cV).length capi))(hy:e.values[k]? = some y)(hf:(cV y).set o x=cV (f y))
  (hcap:(l.map Cw).length≤cap) (hcm:cap≤maxLen) (hJ:J.length=(cap-(l.map Cw).length)*5) (hcapi:(e.values.map cV).length≤capi) (hcmi:capi≤maxLen) (hJi:Ji.length=(capi-(e.values.map cV).length)*3) :
  GS ⟨sl,.box bi 28 (((e.values.map cV).set k ((cV y).set o x)).flatten++Ji) :: .box bb 67 ((l.map Cw).flatten++J) :: .box bo 58 [.val (slV bb (l.map Cw).length cap)]::((l.eraseIdx j).map F8++R),n⟩
   ⟨sl,Zb bo (slV bb (l.map Cw).length cap) (l.modify j fun p=>(Wi p.1 k f,p.2)) R,n⟩:=by
 have hvl:((Wi e k f).values.map cV).length=(e.values.map cV).length:=by rw [List.length_map,List.length_map,V6]
 refine GS.trans (GS.rebuf 0 ((Wi e k f).values.map cV) Ji (m:=(e.values.map cV).length) (z:=3) (cap:=capi) hvl rfl (congrArg (fun es:List (List AV)=>es.flatten++Ji) (xQ hy o x f hf)) (by rw [hvl];exact hcapi) hcmi (by rw [hvl];exact hJi) (O2 _) rfl) ?_
 refine GS.trans (GS.rebuf 1 (l.map Cw) J (m:=(l.map Cw).length) (z:=5) (cap:=cap) rfl rfl rfl hcap hcm hJ (Jy l) rfl) ?_
 have hlt:=(List.getElem?_eq_some_iff.1 hj).1
 have hp:=ev_in (bo:=bo) (v:=slV bb (l.map Cw).length cap) (l:=l) (R:=R) (j:=j) (y:=(Wi e k f,slV bi (e.values.map cV).length capi)) hlt
 rw [←zO hj,Aak hj] at hp
 exact GS.perm hp
theorem evTime {sl:List (Nat×AV)}{n bo bb cap j:Nat}{J:List AV}{l:Es}{e:Ev}{u:Value}{x:Int}{R:List HO}(hj:l[j]? = some (e,u))
  (hcap:(l.map Cw).length≤cap) (hcm:cap≤maxLen) (hJ:J.length=(cap-(l.map Cw).length)*5) :
  GS ⟨sl,.box bb 67 (((l.map Cw).set j ((Cw (e,u)).set 3 (.int .i64 x))).flatten++J) :: .box bo 58 [.val (slV bb (l.map Cw).length cap)]::(l.map F8++R),n⟩
   ⟨sl,Zb bo (slV bb (l.map Cw).length cap) (l.modify j fun p=>({ p.1 with time:=x },p.2)) R,n⟩:=by
 have hl:((l.modify j fun p=>({ p.1 with time:=x },p.2)).map Cw).length=(l.map Cw).length:=by simp
 refine GS.trans (GS.rebuf 0 ((l.modify j fun p=>({ p.1 with time:=x },p.2)).map Cw) J (m:=(l.map Cw).length) (z:=5) (cap:=cap) hl rfl (congrArg (fun es:List (List AV)=>es.flatten++J) (ev_time hj)) (by rw [hl];exact hcap) hcm (by rw [hl];exact hJ) (Jy _) rfl) ?_
 exact GS.heapTo (congrArg (fun E:List HO=>HO.buf (slV bb (l.map Cw).length cap) ((l.modify j fun p=>({ p.1 with time:=x },p.2)).map Cw) 67 5 :: .box bo 58 [.val (slV bb (l.map Cw).length cap)]::(E++R)) ev_timeBuf.symm)
theorem ev_push {l:Es}{e:Ev}{u v':Value}{b c:HO}{K:List HO}{rows:List (List AV)}(hr:rows=e.values.map cV) :
  (HO.buf u rows 28 3::b :: .buf v' (l.map Cw ++ [Cw (e,u)]) 67 5::c::(l.map F8++K)).Perm (b :: .buf v' ((l ++ [(e,u)]).map Cw) 67 5::c::((l ++ [(e,u)]).map F8++K)):=by
 subst hr
 rw [List.map_append,List.map_append]
 have:=(List.perm_append_comm (l₁:=[F8 (e,u)]) (l₂:=[b,.buf v' (l.map Cw ++ [Cw (e,u)]) 67 5,c]++l.map F8)).append_right K
 simp only [List.append_assoc,List.cons_append,List.nil_append] at this
 simp only [List.append_assoc]
 exact this
theorem rep_evs {g:Gh}{w:World}{v:Value}{l:Es}(hv:Rep g w v (.sl 5 (l.map Cw)))(hu:∀p∈l,Rep g w p.2 (.sl 3 (p.1.values.map cV))):Rep g w v (.sl 5 ((l.map Prod.fst).map Pm)):=by
  obtain ⟨a,n,cap,rfl,hn,hc,hm,h⟩:=hv.inv_sl
  have hlen:((l.map Prod.fst).map Pm).length=(l.map Cw).length:=by simp
  rcases h with h | ⟨b,o,rfl,hz,f,h1,h2⟩
  · have:l = []:=by simpa using h
    subst this
    have hn0:n=0:=by simpa using hn
    subst hn0
    exact .sl0 _ _ _ hm
  · refine .sl b o n cap 5 _ (by rw [hlen];exact hn) hc hm (fun e he=>?_) f (fun i e hi j x hj=>?_) (fun i e hi j x hj=>?_)
    · obtain ⟨q,_,rfl⟩:=List.mem_map.1 he;rfl
    · rw [List.getElem?_map,List.getElem?_map] at hi
      cases hq:l[i]? with
      | none=>rw [hq] at hi;cases hi
      | some p=>
        rw [hq] at hi
        have hi':Pm p.1=e:=by simpa using hi
        have hlt:j<5:=by have:=(List.getElem?_eq_some_iff.1 hj).1;rw [←hi'] at this;exact this
        have hr:(Cw p)[j]? = some ((Cw p)[j]'hlt):=List.getElem?_eq_getElem hlt
        exact h1 i _ (by rw [List.getElem?_map,hq];rfl) j _ hr
    · rw [List.getElem?_map,List.getElem?_map] at hi
      cases hq:l[i]? with
      | none=>rw [hq] at hi;cases hi
      | some p=>
        rw [hq] at hi
        have hi':Pm p.1=e:=by simpa using hi
        subst hi'
        have hrow:(l.map Cw)[i]? = some (Cw p):=by rw [List.getElem?_map,hq];rfl
        match j,hj with
        | 0,hj=>cases hj;exact h2 i _ hrow 0 _ rfl
        | 1,hj=>cases hj;exact h2 i _ hrow 1 _ rfl
        | 2,hj=>cases hj;exact h2 i _ hrow 2 _ rfl
        | 3,hj=>cases hj;exact h2 i _ hrow 3 _ rfl
        | 4,hj=>
          cases hj
          have:=(h2 i _ hrow 4 _ rfl).inv_val
          rw [this];exact hu p (List.mem_of_getElem? hq)
        | j+5,hj=>simp [Pm] at hj
theorem Qi:∀{g:Gh} {w:World} {l:Es} {A R:List HO},HOK g w (A++(l.map F8++R))→∃g',Ext g w g' w∧HOK g' w (A++R)∧∀p∈l,Rep g' w p.2 (.sl 3 (p.1.values.map cV))
  | g,w,[],A,R,h=>⟨g,Ext.refl g w,h,fun p hp=>by cases hp⟩
  | g,w,x::r,A,R,h=>by
    have hk:(A++((x::r).map F8++R))[A.length]? = some (F8 x):=by rw [List.getElem?_append_right (Nat.le_refl _)];simp
    obtain ⟨g1,hx1,hH1,hr1⟩:=Qm h hk
    have e1:(A++((x::r).map F8++R)).eraseIdx A.length=A++(r.map F8++R):=by
      rw [List.eraseIdx_append_of_length_le (Nat.le_refl _)];simp
    rw [e1] at hH1
    obtain ⟨g2,hx2,hH2,hr2⟩:=Qi hH1
    refine ⟨g2,hx1.trans hx2,hH2,fun p hp=>?_⟩
    rcases List.mem_cons.1 hp with rfl | hp
    · exact hr1.mono hx2
    · exact hr2 p hp
theorem GS.freezeEvs {sl:List (Nat×AV)}{n t bo:Nat}{v:Value}{l:Es}{R:List HO}(h:get sl t = .val v):GS ⟨sl,Zb bo v l R,n⟩ ⟨(t,.sl 5 ((l.map Prod.fst).map Pm))::sl,.box bo 58 [.val v]::R,n⟩:=fun g a w hG=>by
 obtain ⟨g1,hx1,hH1,hu⟩:=Qi (A:=[.buf v (l.map Cw) 67 5,.box bo 58 [.val v]]) hG.heap
 obtain ⟨g2,hx2,hH2,hv⟩:=Qm hH1 (k:=0) rfl
 refine ⟨g2,⟨hG.size,hG.defers,fun i=>?_,hH2⟩,hx1.trans hx2⟩
 show Rep g2 w _ (get ((t,_)::sl) i)
 rw [Gn]
 by_cases e:t=i
 ·
  subst e
  rw [if_pos rfl]
  have h1:=(h▸hG.sl t:Rep g w _ _).inv_val
  rw [h1]
  exact rep_evs hv fun p hp=>(hu p hp).mono hx2
 · rw [if_neg e];exact ((hG.sl i).mono hx1).mono hx2
theorem kM {T:List Sc}{V:List Va}{l:Es}(h:evOK T V (l.map Prod.fst)){t:Tm}(ht:tmOK T V t):∃e u,l[t.v.toNat]? = some (e,u)∧e.values.length=(Fs T V t.v).length∧l.length=V.length:=by
 have hl:l.length=V.length:=by have:=h.len;simpa using this
 have hlt:t.v.toNat<l.length:=by have:=ht.v0;have:=ht.v1;omega
 have hg:=List.getElem?_eq_getElem hlt
 refine ⟨(l[t.v.toNat]).1,(l[t.v.toNat]).2,hg,?_,hl⟩
 have:=h.vals t.v.toNat (l[t.v.toNat]).1 (by rw [List.getElem?_map,hg];rfl)
 rw [this,Int.toNat_of_nonneg ht.v0]
theorem oF {T:List Sc}{V:List Va}{e:Ev}{t:Tm}(ht:tmOK T V t)(h1:t.op=1)(he:e.values.length=(Fs T V t.v).length):∃y,e.values[t.field.toNat]? = some y:=by
 have hf:=ht.f h1
 have hlt:t.field.toNat<e.values.length:=by rw [he];omega
 exact ⟨_,List.getElem?_eq_getElem hlt⟩
theorem Yn {α β:Type}{f:α→β}{l:List α}{j:Nat}{x:α}(h:l[j]? = some x):l.map f≠[]:=fun e=>by
 have:l = []:=by simpa using e
 rw [this] at h;simp at h
end Go.Proofs.YtkddpedfbicbeaaGreatDoor
