/-
  Several texts in one: S26, S27. No condition.
-/
import Derived.Test.YtjedflcpjlgokaaGreatDoorK19
import Derived.Test.YtjedflcpjlgokaaGreatDoorK18
set_option linter.unusedVariables false
set_option linter.unusedSimpArgs false
namespace Go.Proofs.YtjedflcpjlgokaaGreatDoor
open Go Go.Aw
abbrev E9:=List UInt8
abbrev Um:=List (E9×Bool)
def sE (U:Um):List (List UInt8×AV):=U.map fun p=>(p.1,AV.bool p.2)
def E1:Um→E9→Bool
 | [],_=>false
 | (k,b)::r,n=>if k=n then b else E1 r n
def dM:Um→E9→Option Nat
 | [],_=>none
 | (k,_)::r,n=>if k=n then some 0 else (dM r n).map (· + 1)
def Sr (U:Um)(n:E9)(b:Bool):Um:=match dM U n with | some j=>U.modify j fun _=>(n,b) | none=>U ++ [(n,b)]
theorem tH (n:E9):∀U:Um,match Ma (sE U) n with | some y=>y = .bool (E1 U n) | none=>[AV.bool false] = [.bool (E1 U n)]
  | []=>rfl
  | (k,b)::r=>by
    have ih:=tH n r
    show match (if k=n then some (AV.bool b) else Ma (sE r) n) with | some y=>y = .bool (if k=n then b else E1 r n) | none=>[AV.bool false] = [.bool (if k=n then b else E1 r n)]
    by_cases h:k=n
    · rw [if_pos h,if_pos h]
    · rw [if_neg h,if_neg h];exact ih
theorem sI (n:E9):∀U:Um,Ul (sE U) n=dM U n
  | []=>rfl
  | (k,b)::r=>by
    show (if k=n then some 0 else (Ul (sE r) n).map (· + 1))=if k=n then some 0 else (dM r n).map (· + 1)
    rw [sI n r]
theorem La {α β:Type}(f:α→β)(g:α→α)(h:β→β)(hc:∀x,f (g x)=h (f x)):∀(l:List α) (j:Nat),(l.modify j g).map f=(l.map f).modify j h
 | [],j=>by simp
 | a::r,0=>by simp [hc]
 | a::r,j+1=>by simp [La f g h hc r j]
theorem sput_u (U:Um)(n:E9)(b:Bool):yJ (sE U) n (.bool b)=sE (Sr U n b):=by
 unfold yJ Sr
 rw [sI]
 cases dM U n with
 | none=>simp [sE]
 | some j=>exact (La (fun p:E9×Bool=>(p.1,AV.bool p.2)) (fun _=>(n,b)) (fun _=>(n,AV.bool b)) (fun _=>rfl) U j).symm
theorem gI {n:E9}:∀{U:Um},E1 U n=true→n∈U.map Prod.fst
  | [],h=>by cases h
  | (k,b)::r,h=>by
    rw [E1] at h
    by_cases hk:k=n
    · simp [hk]
    · rw [if_neg hk] at h;simp [gI h]
theorem Y0 {a b:Nat}(ha:a<256)(hb:b<256)(h:UInt8.ofNat a=UInt8.ofNat b):a=b:=by
 have:=congrArg UInt8.toNat h
 simp at this
 omega
theorem tR {u:Nat}:Go.Lib.decDigits u≠[]:=by rw [Go.Lib.decDigits];split <;> simp
theorem iY {u:Nat}(h:¬u<10):Go.Lib.decDigits u=Go.Lib.decDigits (u / 10) ++ [UInt8.ofNat (48+u % 10)]:=by rw [Go.Lib.decDigits,dif_neg h]
theorem yR:∀(u v:Nat),Go.Lib.decDigits u=Go.Lib.decDigits v→u=v:=by
  intro u
  induction u using Nat.strongRecOn with
  | _ u ih=>
    intro v h
    by_cases h1:u<10
    · rw [Go.Lib.decDigits_one h1] at h
      by_cases h2:v<10
      · rw [Go.Lib.decDigits_one h2] at h
        have:=Y0 (by omega) (by omega) (List.cons.inj h).1
        omega
      · rw [iY h2] at h
        have:=congrArg List.length h
        simp at this
        exact absurd this tR
    · rw [iY h1] at h
      by_cases h2:v<10
      · rw [Go.Lib.decDigits_one h2] at h
        have:=congrArg List.length h
        simp at this
        exact absurd this tR
      · rw [iY h2] at h
        obtain ⟨e1,e2⟩:=List.append_inj' h rfl
        have h3:=ih (u / 10) (by omega) _ e1
        have h4:=Y0 (by omega) (by omega) (List.cons.inj e2).1
        omega
theorem Sv {α:Type}[DecidableEq α]:∀{l m:List α},l.Nodup→l ⊆ m→l.length≤m.length
  | [],m,_,_=>Nat.zero_le _
  | a::r,m,hn,hs=>by
    have h1:=List.nodup_cons.1 hn
    have ha:a∈m:=hs (List.mem_cons_self ..)
    have h2:r ⊆ m.erase a:=fun x hx=>(List.mem_erase_of_ne (fun e:x=a=>h1.1 (by rw [←e];exact hx))).2 (hs (List.mem_cons_of_mem _ hx))
    have h3:=Sv h1.2 h2
    have h4:=List.length_erase_of_mem ha
    have h5:=List.length_pos_of_mem ha
    rw [List.length_cons];omega
def wN (k:Nat):E9:=119::Go.Lib.itoa (k:Int)
theorem wN_inj {a b:Nat}(h:wN a=wN b):a=b:=by
 have h1:=(List.cons.inj h).2
 unfold Go.Lib.itoa at h1
 rw [if_neg (by omega),if_neg (by omega)] at h1
 have:=yR _ _ h1
 omega
theorem Oh {U:Um}:∀{j:Nat},(∀i,i<j→E1 U (wN i)=true)→j≤U.length:=by
 intro j h
 have hn:((List.range j).map wN).Nodup:=List.Pairwise.map _ (fun a b hab e=>hab (wN_inj e)) List.nodup_range
 have hs:(List.range j).map wN ⊆ U.map Prod.fst:=fun x hx=>by
  obtain ⟨i,hi,rfl⟩:=List.mem_map.1 hx
  exact gI (h i (List.mem_range.1 hi))
 have:=Sv hn hs
 simpa using this
def Te (U:Um):Nat→Nat→Nat
 | 0,k=>k
 | f+1,k=>if E1 U (wN k) then Te U f (k+1) else k
def cC (U:Um):E9:=wN (Te U U.length 0)
theorem mC {U:Um}{f k:Nat}(h:E1 U (wN k)=false):Te U f k=k:=by
 cases f with
 | zero=>rfl
 | succ f=>rw [Te,if_neg (by rw [h];decide)]
theorem mZ {U:Um}{f k:Nat}(h:E1 U (wN k)=true):Te U (f+1) k=Te U f (k+1):=by rw [Te,if_pos h]
def nmI (U:Um)(r:Wd)(n:Nat)(s:E9):Prop:=(n=0∧s=r.text)∨(r.const=false∧∃j,n=j+1∧s=wN j∧(∀i,i<j→E1 U (wN i)=true)∧Te U U.length 0=Te U (U.length-j) j)
theorem wQ {U:Um}{r:Wd}{n:Nat}{s:E9}(h:nmI U r n s)(hc:r.const=false)(hu:n=0∨E1 U s=true):nmI U r (n+1) (wN n):=by
 rcases h with ⟨rfl,_⟩ | ⟨_,j,rfl,rfl,h1,h2⟩
 · exact .inr ⟨hc,0,rfl,rfl,fun i hi=>absurd hi (by omega),rfl⟩
 ·
  have hu':E1 U (wN j)=true:=hu.resolve_left (by omega)
  have h3:∀i,i<j+1→E1 U (wN i)=true:=fun i hi=>by
   rcases Nat.lt_or_ge i j with h | h
   · exact h1 i h
   · rw [show i=j by omega];exact hu'
  have h4:=Oh h3
  exact .inr ⟨hc,j+1,rfl,rfl,h3,by rw [h2,show U.length-j=(U.length-(j+1))+1 by omega,mZ hu']⟩
theorem nm_len {U:Um}{r:Wd}{n:Nat}{s:E9}(h:nmI U r n s):n≤U.length+1:=by
 rcases h with ⟨rfl,_⟩ | ⟨_,j,rfl,rfl,h1,_⟩
 · omega
 · have:=Oh h1;omega
def Je (U:Um)(r:Wd):E9:=if r.const then r.text else cC U
theorem wW {U:Um}{r:Wd}{n:Nat}{s:E9}(h:nmI U r n s)(hx:(!r.const&&(n==0||E1 U s))=false):s=Je U r:=by
  unfold Je
  cases hc:r.const with
  | true=>
    rcases h with ⟨_,h⟩ | ⟨h,_⟩
    · rw [if_pos rfl];exact h
    · rw [hc] at h;cases h
  | false=>
    rw [hc] at hx
    rcases h with ⟨rfl,_⟩ | ⟨_,j,rfl,rfl,_,h2⟩
    · simp at hx
    · rw [if_neg (by decide)]
      unfold cC
      rw [h2,mC (by simpa using hx)]
abbrev Nm:=List (Wd×E9)
def nE (N:Nm):List (List AV×AV):=N.map fun p=>(Kr p.1,.str p.2)
def H0 (N:Nm)(r:Wd):Option E9:=(N.find? fun p=>decide (p.1=r)).map (·.2)
theorem Zg (x:Wd)(N:Nm):∀p∈nE N,Gq TL [(0,1,true,4),(1,1,true,9),(2,3,true,103)] (Kr x) p.1=some (I5 x p.1):=by
 intro p hp
 obtain ⟨q,_,rfl⟩:=List.mem_map.1 hp
 show Gq TL _ (Kr x) (Kr q.1)=some (I5 x (Kr q.1))
 rw [Mm,Me]
theorem Wj (x:Wd):∀N:Nm,Gy (I5 x) (nE N)=(H0 N x).map fun y=>.str y
  | []=>rfl
  | q::r=>by
    have ih:=Wj x r
    unfold nE H0 at ih ⊢
    rw [List.map_cons,Gy,Me,Ux,ih,List.find?_cons]
    by_cases h:q.1=x
    · rw [decide_eq_true h.symm,decide_eq_true h];rfl
    · rw [decide_eq_false (fun e=>h e.symm),decide_eq_false h];rfl
theorem look_n (x:Wd)(N:Nm):match Gy (I5 x) (nE N) with | some y=>y = .str ((H0 N x).getD []) | none=>[AV.str []] = [.str ((H0 N x).getD [])]:=by
 rw [Wj];cases H0 N x <;> rfl
theorem has_n (x:Wd)(N:Nm):(Gy (I5 x) (nE N)).isSome=(H0 N x).isSome:=by rw [Wj];cases H0 N x <;> rfl
theorem new_n {x:Wd}{N:Nm}(h:H0 N x=none):Gy (I5 x) (nE N)=none:=by rw [Wj,h];rfl
theorem aC (N:Nm)(r:Wd)(s:E9):nE N ++ [(Kr r,AV.str s)]=nE (N ++ [(r,s)]):=by unfold nE;rw [List.map_append];rfl
theorem S4 {N:Nm}{r:Wd}{s:E9}(h:H0 N r=none):H0 (N ++ [(r,s)]) r=some s:=by
 unfold H0 at h ⊢
 rw [Option.map_eq_none_iff] at h
 rw [List.find?_append,h]
 simp
theorem kidx_n {N:Nm}{r:Wd}{s:E9}(h:H0 N r=none):Kv (I5 r) (nE (N ++ [(r,s)]))=some N.length:=by
  induction N with
  | nil=>
    show (if I5 r (Kr r) then some 0 else none)=_
    rw [Me,Ux];simp
  | cons q t ih=>
    unfold H0 at h ih
    rw [Option.map_eq_none_iff,List.find?_cons] at h
    by_cases hq:q.1=r
    · rw [decide_eq_true hq] at h;cases h
    · rw [decide_eq_false hq] at h
      show (if I5 r (Kr q.1) then some 0 else (Kv (I5 r) (nE (t ++ [(r,s)]))).map (· + 1))=_
      rw [Me,Ux,decide_eq_false (fun e=>hq e.symm),ih (by rw [Option.map_eq_none_iff];exact h)]
      rfl
theorem kput_n (N:Nm)(r:Wd)(s s':E9):Nd (nE (N ++ [(r,s)])) N.length (.str s')=nE (N ++ [(r,s')]):=by
 unfold Nd
 rw [←aC,←aC]
 have hl:(nE N).length=N.length:=List.length_map ..
 rw [←hl]
 generalize nE N=E
 induction E with
 | nil=>rfl
 | cons a t ih=>simp [ih]
theorem xX (x:Wd)(N:Nm):∀p∈nE N,I5 x p.1=true→p.1=Kr x:=by
 intro p hp h
 obtain ⟨q,_,rfl⟩:=List.mem_map.1 hp
 rw [Me] at h
 simp only
 rw [Mz.1 h]
section
variable {T:List Sc} {V:List Va}
structure tmOK (T:List Sc) (V:List Va) (t:Tm):Prop where
 op:t.op=1∨t.op=2
 v0:0≤t.v
 v1:t.v<(V.length:Int)
 f:t.op=1→0≤t.field∧t.field<((Fa T V t.v).length:Int)
theorem tm_ok {t:Tm}(hk:KOK T V (Hr t))(ho:t.op=1∨t.op=2):tmOK T V t:=by
 have hn:=(A8 hk.nodes).1
 have h2:=hk.kind
 unfold Bt at hn
 split at hn
 · cases hn
 split at hn
 · cases hn
 split at hn
 · cases hn
 rename_i h3
 have hk2:(Fm T V (Hr t)).2=0:=by
  have e:Ce T V (Hr t)=Fm T V (Hr t):=by unfold Hr;rw [Ce];rfl
  rw [←e];exact h2
 unfold Fm at hk2
 rw [if_neg (by show ¬(t.op==0)=true;simp;omega)] at hk2
 split at hk2
 · cases hk2
 rename_i h4
 have h4':¬(V.length:Int)≤t.v:=fun h=>h4 (decide_eq_true h)
 have h3':¬((((Dq t.op).1=true∧(t.v<0∨16≤t.v))∨((Dq t.op).2=true∧(t.field<0∨8≤t.field)))):=fun h=>h3 (by
  show ((Dq t.op).1&&(decide (t.v<0)||decide (16≤t.v))||((Dq t.op).2&&(decide (t.field<0)||decide (8≤t.field))))=true
  simp only [Bool.or_eq_true,Bool.and_eq_true,decide_eq_true_eq];exact h)
 have hu1:(Dq t.op).1=true:=by unfold Dq;rcases ho with h | h <;> simp [h]
 refine ⟨ho,by have:¬(t.v<0∨16≤t.v):=fun h=>h3' (.inl ⟨hu1,h⟩);omega,by omega,fun h1=>?_⟩
 have hu2:(Dq t.op).2=true:=by unfold Dq;simp [h1]
 have hf:¬(t.field<0∨8≤t.field):=fun h=>h3' (.inr ⟨hu2,h⟩)
 rw [if_neg (by show ¬(t.op==2||t.op==3)=true;simp;omega)] at hk2
 split at hk2
 · cases hk2
 rename_i h5
 have h5':¬((Fa T V t.v).length:Int)≤t.field:=fun h=>h5 (decide_eq_true h)
 omega
theorem kK {Pr:Tm→Prop}(hp:∀t:Tm,t.op=1∨t.op=2→Pr t)(e:Ex):Dc e=0→∀{b:Int} {s:Su},(∀p∈s.ts,Pr p.1)→∀p∈(Bh e b s).1.ts,Pr p.1:=by
  refine Ex.Aaj (P:=fun e=>Dc e=0→∀{b:Int} {s:Su},(∀p∈s.ts,Pr p.1)→∀p∈(Bh e b s).1.ts,Pr p.1) (fun e ih hk b s hs=>?_) e
  have hz:=A8 hk
  rcases Np hz.1 with h | ⟨h,h1⟩ | ⟨h,hl⟩ | ⟨h,h1,h2,h3⟩
  · rw [Fe h];exact hs
  · rw [B2 h h1]
    intro p hp'
    have key:∀{ts:List (Tm×Int)},(∀p∈ts,Pr p.1)→∀p∈H5 (Dp e) b ts,Pr p.1:=by
      intro ts
      induction ts with
      | nil=>intro _ p hp';rw [H5,List.mem_singleton] at hp';rw [hp'];exact hp _ (by simpa [Dp] using h1)
      | cons q r ihr=>
        intro hts p hp'
        rw [H5] at hp'
        split at hp'
        · rcases List.mem_cons.1 hp' with rfl | hp'
          · exact hts q (List.mem_cons_self ..)
          · exact hts p (List.mem_cons_of_mem _ hp')
        · rcases List.mem_cons.1 hp' with rfl | hp'
          · exact hts p (List.mem_cons_self ..)
          · exact ihr (fun p hp'=>hts p (List.mem_cons_of_mem _ hp')) p hp'
    exact key hs p hp'
  · have m0:=Ba (show 0<e.args.length by omega)
    have m1:=Bw hl
    have key:∀c,∀p∈(if !(Bh (Ap e) b s).2 then ((Bh (Ap e) b s).1,false) else Bh (Bj e) c (Bh (Ap e) b s).1).1.ts,Pr p.1:=fun c=>by
      have i0:=ih _ m0 (hz.2 _ m0) (b:=b) hs
      split
      · exact i0
      · exact ih _ m1 (hz.2 _ m1) i0
    rcases h with h | h
    · rw [Jp (c:=b) hl (.inl ⟨h,rfl⟩)];exact key b
    · rw [Jp (c:=0-b) hl (.inr ⟨h,rfl⟩)];exact key _
  · rw [Ge h h1 h2 h3];exact hs
def J5 (t:Tm):Prop:=t.op=1∨t.op=2
theorem fM {a b:Ex}(ha:Dc a=0)(hb:Dc b=0):(∀t∈(Cd a b).1.plus,J5 t)∧∀t∈(Cd a b).1.minus,J5 t:=by
  have h0:(∀t∈qN.plus,J5 t)∧∀t∈qN.minus,J5 t:=⟨fun t h=>(by cases h),fun t h=>(by cases h)⟩
  unfold Cd
  split
  · exact h0
  rename_i h1
  split
  · exact h0
  have he:(Bh b (-1) (Bh a 1 Kb).1).1=Cx a b:=by unfold Cx;rw [if_neg h1]
  rw [he]
  have hse:∀p∈(Cx a b).ts,J5 p.1:=by
    have q1:=kK (Pr:=J5) (fun t h=>h) a ha (b:=1) (s:=Kb) (fun p hp=>by cases hp)
    unfold Cx
    split
    · exact q1
    · exact kK (Pr:=J5) (fun t h=>h) b hb q1
  unfold Q5
  cases hp:Di (Cx a b).ts [] [] with
  | none=>exact h0
  | some p=>
    obtain ⟨p,m⟩:=p
    exact In (P:=J5) hse (fun t h=>by cases h) (fun t h=>by cases h) hp
theorem dT {l:Lit}(hk:KOK T V l.cond):(∀t∈(Aa T V l).1.plus,J5 t)∧∀t∈(Aa T V l).1.minus,J5 t:=by
  cases h:l.cond.op==1 with
  | true=>
    rw [Yw h]
    exact ⟨fun t ht=>by rw [List.mem_singleton.1 ht];exact .inl (by simpa [Dp] using h),fun t ht=>by cases ht⟩
  | false=>
    cases h2:(!Cm l.cond||Ch T V l.cond) with
    | true=>rw [nD h h2];exact ⟨fun t h=>(by cases h),fun t h=>(by cases h)⟩
    | false=>
      rw [Zq h h2]
      have hl:=Kd hk (Uu h2)
      exact fM (Az hk (Ba (by omega))).nodes (Az hk (Bw hl)).nodes
theorem nA:∀{l:List Lit},Up T V l→∀{s:Sy},(∀t∈s.ts,J5 t)→∀t∈(l.foldl (C1 T V) s).ts,J5 t
  | [],_,s,hs=>hs
  | c::r,hl,s,hs=>by
    rw [List.foldl_cons]
    refine nA (fun x hx=>hl x (List.mem_cons_of_mem _ hx)) ?_
    cases h : !(Aa T V c).2 with
    | true=>rw [Kt h];exact hs
    | false=>
      rw [Ky h]
      obtain ⟨h1,h2⟩:=dT (hl c (List.mem_cons_self ..)).1
      exact Kp (Kp hs h1) h2
theorem iZ {l:List Lit}(hl:Up T V l):∀t∈(Cp T V l).ts,tmOK T V t:=fun t ht=>tm_ok ((Lt hl).terms t ht) (nA hl (s:=⟨[],[]⟩) (fun t h=>by cases h) t ht)
def Xv (T:List Sc)(i:Nat)(v:Va):Ev:=⟨0,(i:Int),v.type,0,(((T[v.type.toNat]?).getD sc0).fields).map fun f=>⟨f.kind,0,[]⟩⟩
def Ha (T:List Sc):Nat→List Va→List Ev
 | _,[]=>[]
 | i,v::r=>Xv T i v::Ha T (i+1) r
def Uh (e:Ev)(k:Nat)(f:Vl→Vl):Ev:={ e with values:=e.values.modify k f }
def Pi (evs:List Ev)(t:Tm)(x:Int):List Ev:=if t.op==2 then evs.modify t.v.toNat (fun e=>{ e with time:=x }) else evs.modify t.v.toNat fun e=>Uh e t.field.toNat fun y=>{ y with num:=x }
def S1 (evs:List Ev)(t:Tm)(s:E9):List Ev:=evs.modify t.v.toNat fun e=>Uh e t.field.toNat fun y=>{ y with text:=s }
def Gf (vals:List Int):Nat→List Tm→List Ev→List Ev
 | _,[],evs=>evs
 | i,t::r,evs=>Gf vals (i+1) r (Pi evs t (D7 vals ((i:Int)+1)))
structure evOK (T:List Sc) (V:List Va) (evs:List Ev):Prop where
 len:evs.length=V.length
 vals:∀(j:Nat) (e:Ev),evs[j]? = some e→e.values.length=(Fa T V (j:Int)).length
theorem Uy (e:Ev)(k:Nat)(f:Vl→Vl):(Uh e k f).values.length=e.values.length:=List.length_modify ..
theorem S8 {evs:List Ev}(h:evOK T V evs)(j:Nat)(f:Ev→Ev)(hf:∀e,(f e).values.length=e.values.length):evOK T V (evs.modify j f):=by
  refine ⟨by rw [List.length_modify];exact h.len,fun i e hi=>?_⟩
  rw [List.getElem?_modify] at hi
  cases hq:evs[i]? with
  | none=>rw [hq] at hi;cases hi
  | some x=>
    rw [hq] at hi
    have hi':=(Option.some.inj hi).symm
    rw [←h.vals i x hq,hi']
    split
    · exact hf x
    · rfl
theorem Ur {evs:List Ev}(h:evOK T V evs)(t:Tm)(x:Int):evOK T V (Pi evs t x):=by
 unfold Pi
 split
 · exact S8 h _ _ (fun _=>rfl)
 · exact S8 h _ _ (fun e=>Uy ..)
theorem lQ {evs:List Ev}(h:evOK T V evs)(t:Tm)(s:E9):evOK T V (S1 evs t s):=S8 h _ _ (fun e=>Uy ..)
theorem kP:∀{vs:List Va} {i j:Nat} {e:Ev},(Ha T i vs)[j]? = some e→∃v,vs[j]? = some v∧e=Xv T (i+j) v
  | [],i,j,e,h=>by simp [Ha] at h
  | v::r,i,0,e,h=>by simp [Ha] at h;exact ⟨v,rfl,h.symm⟩
  | v::r,i,j+1,e,h=>by
    have h':(Ha T (i+1) r)[j]? = some e:=by simpa [Ha] using h
    obtain ⟨w,h1,h2⟩:=kP h'
    exact ⟨w,by simpa using h1,by rw [h2,show i+1+j=i+(j+1) by omega]⟩
theorem Oo:∀{vs:List Va} {i:Nat},(Ha T i vs).length=vs.length
 | [],i=>rfl
 | v::r,i=>by simp [Ha,Oo]
theorem eP:∀{vs:List Va} {i:Nat} {v:Va},Ha T i (vs ++ [v])=Ha T i vs ++ [Xv T (i+vs.length) v]
 | [],i,v=>rfl
 | a::r,i,v=>by simp [Ha,eP];rw [show i+1+r.length=i+(r.length+1) by omega]
theorem iI:evOK T V (Ha T 0 V):=by
 refine ⟨Oo,fun j e h=>?_⟩
 obtain ⟨v,h1,h2⟩:=kP h
 rw [h2]
 show (((T[v.type.toNat]?).getD sc0).fields.map _).length=_
 rw [List.length_map]
 unfold Fa
 rw [Int.toNat_natCast,h1];rfl
end
abbrev Es:=List (Ev×Value)
def Cn (p:Ev×Value):List AV:=[.int .i64 p.1.source,.int .i64 p.1.seq,.int .i64 p.1.type,.int .i64 p.1.time,.val p.2]
def Fp (p:Ev×Value):HO:=.buf p.2 (p.1.values.map cV) 28 3
abbrev Xt (bo:Nat)(v:Value)(l:Es)(R:List HO):List HO:=.buf v (l.map Cn) 66 5 :: .box bo 39 [.val v]::(l.map Fp++R)
theorem Pu {α β:Type}(f:α→β):∀(l:List α) (j:Nat),(l.map f).eraseIdx j=(l.eraseIdx j).map f
 | [],j=>by simp
 | a::r,0=>rfl
 | a::r,j+1=>by simp [Pu f r j]
theorem Ms {α:Type}{f:α→α}{x:α}:∀{l:List α} {j:Nat},l[j]? = some x→l.modify j f=l.set j (f x)
 | [],j,h=>by simp at h
 | a::r,0,h=>by simp at h;subst h;simp
 | a::r,j+1,h=>by simp [Ms (f:=f) (show r[j]? = some x by simpa using h)]
theorem T7 {α:Type}:∀(l:List α) (j:Nat),l.modify j (fun x=>x)=l
 | [],j=>by simp
 | a::r,0=>by simp
 | a::r,j+1=>by simp [T7 r j]
theorem jY {l:Es}{j:Nat}{x:Ev×Value}(h:l[j]? = some x):(l.map Fp).Perm (Fp x::(l.eraseIdx j).map Fp):=by
 have h1:(l.map Fp)[j]? = some (Fp x):=by rw [List.getElem?_map,h];rfl
 have:=Hv h1
 rw [Pu] at this
 exact this
theorem kA {bo:Nat}{v:Value}{l:Es}{R:List HO}{j:Nat}{x:Ev×Value}(h:l[j]? = some x):(Xt bo v l R).Perm (Fp x :: .buf v (l.map Cn) 66 5 :: .box bo 39 [.val v]::((l.eraseIdx j).map Fp++R)):=by
 refine (((jY h).append_right R).cons _ |>.cons _).trans ?_
 exact ((List.Perm.swap _ _ _).cons _).trans (List.Perm.swap _ _ _)
theorem ev_in {bo:Nat}{v:Value}{l:Es}{R:List HO}{j:Nat}{y:Ev×Value}(h:j<l.length):(Fp y :: .buf v ((l.set j y).map Cn) 66 5 :: .box bo 39 [.val v]::((l.eraseIdx j).map Fp++R)).Perm (Xt bo v (l.set j y) R):=by
 have h1:(l.set j y)[j]? = some y:=by simp [h]
 have:=kA (bo:=bo) (v:=v) (R:=R) h1
 rw [List.eraseIdx_set_eq] at this
 exact this.symm
theorem Jf (l:Es):∀e∈l.map Cn,e.length=5:=fun e he=>by
 obtain ⟨x,_,rfl⟩:=List.mem_map.1 he;rfl
theorem Nu (l:List Vl):∀e∈l.map cV,e.length=3:=fun e he=>by
 obtain ⟨x,_,rfl⟩:=List.mem_map.1 he;rfl
theorem Vw:∀{es:List (List AV)} {J:List AV} {z j o:Nat} {e:List AV} {x:AV},(∀e∈es,e.length=z)→es[j]? = some e→e[o]? = some x→(es.flatten++J)[j*z+o]? = some x
  | [],J,z,j,o,e,x,hz,hj,ho=>by simp at hj
  | a::r,J,z,0,o,e,x,hz,hj,ho=>by
    simp at hj;subst hj
    have hl:=(List.getElem?_eq_some_iff.1 ho).1
    rw [List.flatten_cons,List.append_assoc,Nat.zero_mul,Nat.zero_add,List.getElem?_append_left hl];exact ho
  | a::r,J,z,j+1,o,e,x,hz,hj,ho=>by
    have ha:=hz a (List.mem_cons_self ..)
    rw [List.flatten_cons,List.append_assoc,List.getElem?_append_right (by rw [ha,Nat.add_mul];omega),ha,show (j+1)*z+o-z=j*z+o by rw [Nat.add_mul];omega]
    exact Vw (fun e he=>hz e (List.mem_cons_of_mem _ he)) (by simpa using hj) ho
theorem eS {a b:List AV}{o:Nat}{x:AV}:Fb (a++b) (a.length+o) [x]=a++Fb b o [x]:=by
 unfold Fb
 rw [List.take_append,List.drop_append,List.take_of_length_le (by omega),List.drop_eq_nil_of_le (by simp;omega)]
 simp [show a.length+o-a.length=o by omega,show a.length+o+1-a.length=o+1 by omega]
theorem eT {a b:List AV}{o:Nat}{x:AV}(h:o<a.length):Fb (a++b) o [x]=a.set o x++b:=by
 unfold Fb
 rw [List.take_append_of_le_length (by omega),List.drop_append_of_le_length (by simp;omega),List.set_eq_take_append_cons_drop,if_pos h]
 simp
theorem Rl:∀{es:List (List AV)} {J:List AV} {z j o:Nat} {e:List AV} {x:AV},(∀e∈es,e.length=z)→es[j]? = some e→o<z→Fb (es.flatten++J) (j*z+o) [x]=(es.set j (e.set o x)).flatten++J
  | [],J,z,j,o,e,x,hz,hj,ho=>by simp at hj
  | a::r,J,z,0,o,e,x,hz,hj,ho=>by
    simp at hj;subst hj
    have ha:=hz a (List.mem_cons_self ..)
    rw [List.flatten_cons,List.append_assoc,Nat.zero_mul,Nat.zero_add,eT (by omega)]
    simp
  | a::r,J,z,j+1,o,e,x,hz,hj,ho=>by
    have ha:=hz a (List.mem_cons_self ..)
    have ih:=Rl (J:=J) (x:=x) (fun e he=>hz e (List.mem_cons_of_mem _ he)) (show r[j]? = some e by simpa using hj) ho
    rw [List.flatten_cons,List.append_assoc,show (j+1)*z+o=a.length+(j*z+o) by rw [ha,Nat.add_mul];omega,eS,ih]
    simp
theorem S7 {es:List (List AV)}{J:List AV}{z j o:Nat}{e:List AV}(hz:∀e∈es,e.length=z)(hj:es[j]? = some e)(ho:o<z):Nat.ble (j*z+o+1) (es.flatten++J).length=true:=by
 have hj':=(List.getElem?_eq_some_iff.1 hj).1
 have hl:es.flatten.length=es.length*z:=by
  clear hj hj'
  induction es with
  | nil=>simp
  | cons a r ih=>rw [List.flatten_cons,List.length_append,ih (fun e he=>hz e (List.mem_cons_of_mem _ he)),hz a (List.mem_cons_self ..),List.length_cons,Nat.add_mul];omega
 have h1:(j+1)*z≤es.length*z:=Nat.mul_le_mul_right z hj'
 rw [Nat.add_mul] at h1
 exact Nat.ble_eq_true_of_le (by rw [List.length_append,hl];omega)
theorem xV {l:Es}{j:Nat}{e:Ev}{u:Value}{x:Int}(h:l[j]? = some (e,u)):(l.map Cn).set j ((Cn (e,u)).set 3 (.int .i64 x))=((l.modify j fun p=>({ p.1 with time:=x },p.2)).map Cn):=by
 rw [Ms h,List.map_set];rfl
theorem ev_timeBuf {l:Es}{j:Nat}{x:Int}:(l.modify j fun p=>({ p.1 with time:=x },p.2)).map Fp=l.map Fp:=by
 exact (La Fp (fun p=>({ p.1 with time:=x },p.2)) (fun y=>y) (fun _=>rfl) l j).trans (T7 _ _)
theorem P8 {l:Es}{j:Nat}{f:Ev→Ev}:(l.modify j fun p=>(f p.1,p.2)).map Prod.fst=(l.map Prod.fst).modify j f:=La Prod.fst _ f (fun _=>rfl) l j
theorem vB {e:Ev}{k:Nat}{y:Vl}(h:e.values[k]? = some y)(o:Nat)(x:AV)(f:Vl→Vl)(hf:(cV y).set o x=cV (f y)):(e.values.map cV).set k ((cV y).set o x)=((Uh e k f).values.map cV):=by
 unfold Uh
 simp only
 rw [Ms h,hf,List.map_set]
theorem xA {l:Es}{j:Nat}{e:Ev}{u:Value}{k:Nat}{f:Vl→Vl}(h:l[j]? = some (e,u)):l.set j (Uh e k f,u)=l.modify j fun p=>(Uh p.1 k f,p.2):=by
 rw [Ms h]
theorem xD {l:Es}{j:Nat}{e:Ev}{u:Value}{k:Nat}{f:Vl→Vl}(h:l[j]? = some (e,u)):l.map Cn=(l.set j (Uh e k f,u)).map Cn:=by
 rw [List.map_set]
 refine (List.ext_getElem? fun i=>?_)
 rw [List.getElem?_set]
 split
 ·
  rename_i hi;subst hi
  rw [List.getElem?_map,h]
  have:=(List.getElem?_eq_some_iff.1 h).1
  simp [this,Cn,Uh]
 · rfl
theorem jZ {bo:Nat}{v:Value}{l:Es}{pre R:List HO}:(pre++Xt bo v l R).Perm (Xt bo v l (pre++R)):=by
 have:=(List.perm_append_comm (l₁:=pre) (l₂:=[HO.buf v (l.map Cn) 66 5,.box bo 39 [.val v]]++l.map Fp)).append_right R
 simpa only [List.append_assoc,List.cons_append,List.nil_append] using this
abbrev zG (b n c:Nat):Value:=.slice (some ⟨b,0,none⟩) n c
theorem vD {sl:List (Nat×AV)}{n bo bb bi cap capi j k o:Nat}{J Ji:List AV}{l:Es}{e:Ev}{y:Vl}{x:AV}{f:Vl→Vl}{R:List HO}(hj:l[j]? = some (e,zG bi (e.values.map cV).length capi))(hy:e.values[k]? = some y)(hf:(cV y).set o x=cV (f y))
  (hcap:(l.map Cn).length≤cap) (hcm:cap≤maxLen) (hJ:J.length=(cap-(l.map Cn).length)*5) (hcapi:(e.values.map cV).length≤capi) (hcmi:capi≤maxLen) (hJi:Ji.length=(capi-(e.values.map cV).length)*3) :
  GS ⟨sl,.box bi 28 (((e.values.map cV).set k ((cV y).set o x)).flatten++Ji) :: .box bb 66 ((l.map Cn).flatten++J) :: .box bo 39 [.val (zG bb (l.map Cn).length cap)]::((l.eraseIdx j).map Fp++R),n⟩
   ⟨sl,Xt bo (zG bb (l.map Cn).length cap) (l.modify j fun p=>(Uh p.1 k f,p.2)) R,n⟩:=by
 have hvl:((Uh e k f).values.map cV).length=(e.values.map cV).length:=by rw [List.length_map,List.length_map,Uy]
 refine GS.trans (GS.rebuf 0 ((Uh e k f).values.map cV) Ji (m:=(e.values.map cV).length) (z:=3) (cap:=capi) hvl rfl (congrArg (fun es:List (List AV)=>es.flatten++Ji) (vB hy o x f hf)) (by rw [hvl];exact hcapi) hcmi (by rw [hvl];exact hJi) (Nu _) rfl) ?_
 refine GS.trans (GS.rebuf 1 (l.map Cn) J (m:=(l.map Cn).length) (z:=5) (cap:=cap) rfl rfl rfl hcap hcm hJ (Jf l) rfl) ?_
 have hlt:=(List.getElem?_eq_some_iff.1 hj).1
 have hp:=ev_in (bo:=bo) (v:=zG bb (l.map Cn).length cap) (l:=l) (R:=R) (j:=j) (y:=(Uh e k f,zG bi (e.values.map cV).length capi)) hlt
 rw [←xD hj,xA hj] at hp
 exact GS.perm hp
theorem evTime {sl:List (Nat×AV)}{n bo bb cap j:Nat}{J:List AV}{l:Es}{e:Ev}{u:Value}{x:Int}{R:List HO}(hj:l[j]? = some (e,u))
  (hcap:(l.map Cn).length≤cap) (hcm:cap≤maxLen) (hJ:J.length=(cap-(l.map Cn).length)*5) :
  GS ⟨sl,.box bb 66 (((l.map Cn).set j ((Cn (e,u)).set 3 (.int .i64 x))).flatten++J) :: .box bo 39 [.val (zG bb (l.map Cn).length cap)]::(l.map Fp++R),n⟩
   ⟨sl,Xt bo (zG bb (l.map Cn).length cap) (l.modify j fun p=>({ p.1 with time:=x },p.2)) R,n⟩:=by
 have hl:((l.modify j fun p=>({ p.1 with time:=x },p.2)).map Cn).length=(l.map Cn).length:=by simp
 refine GS.trans (GS.rebuf 0 ((l.modify j fun p=>({ p.1 with time:=x },p.2)).map Cn) J (m:=(l.map Cn).length) (z:=5) (cap:=cap) hl rfl (congrArg (fun es:List (List AV)=>es.flatten++J) (xV hj)) (by rw [hl];exact hcap) hcm (by rw [hl];exact hJ) (Jf _) rfl) ?_
 exact GS.heapTo (congrArg (fun E:List HO=>HO.buf (zG bb (l.map Cn).length cap) ((l.modify j fun p=>({ p.1 with time:=x },p.2)).map Cn) 66 5 :: .box bo 39 [.val (zG bb (l.map Cn).length cap)]::(E++R)) ev_timeBuf.symm)
theorem wG {l:Es}{e:Ev}{u v':Value}{b c:HO}{K:List HO}{rows:List (List AV)}(hr:rows=e.values.map cV) :
  (HO.buf u rows 28 3::b :: .buf v' (l.map Cn ++ [Cn (e,u)]) 66 5::c::(l.map Fp++K)).Perm (b :: .buf v' ((l ++ [(e,u)]).map Cn) 66 5::c::((l ++ [(e,u)]).map Fp++K)):=by
 subst hr
 rw [List.map_append,List.map_append]
 have:=(List.perm_append_comm (l₁:=[Fp (e,u)]) (l₂:=[b,.buf v' (l.map Cn ++ [Cn (e,u)]) 66 5,c]++l.map Fp)).append_right K
 simp only [List.append_assoc,List.cons_append,List.nil_append] at this
 simp only [List.append_assoc]
 exact this
theorem yN {g:Gh}{w:World}{v:Value}{l:Es}(hv:Rep g w v (.sl 5 (l.map Cn)))(hu:∀p∈l,Rep g w p.2 (.sl 3 (p.1.values.map cV))):Rep g w v (.sl 5 ((l.map Prod.fst).map Rz)):=by
  obtain ⟨a,n,cap,rfl,hn,hc,hm,h⟩:=hv.inv_sl
  have hlen:((l.map Prod.fst).map Rz).length=(l.map Cn).length:=by simp
  rcases h with h | ⟨b,o,rfl,hz,f,h1,h2⟩
  · have:l = []:=by simpa using h
    subst this
    have hn0:n=0:=by simpa using hn
    subst hn0
    exact .sl0 _ _ _ hm
  · refine .sl b o n cap 5 _ (by rw [hlen];exact hn) hc hm (fun e he=>?_) f (fun i e hi j x hj=>?_) (fun i e hi j x hj=>?_)
    · obtain ⟨q,_,rfl⟩:=List.mem_map.1 he;rfl
    · rw [List.getElem?_map,List.getElem?_map] at hi
      cases hq:l[i]? with
      | none=>rw [hq] at hi;cases hi
      | some p=>
        rw [hq] at hi
        have hi':Rz p.1=e:=by simpa using hi
        have hlt:j<5:=by have:=(List.getElem?_eq_some_iff.1 hj).1;rw [←hi'] at this;exact this
        have hr:(Cn p)[j]? = some ((Cn p)[j]'hlt):=List.getElem?_eq_getElem hlt
        exact h1 i _ (by rw [List.getElem?_map,hq];rfl) j _ hr
    · rw [List.getElem?_map,List.getElem?_map] at hi
      cases hq:l[i]? with
      | none=>rw [hq] at hi;cases hi
      | some p=>
        rw [hq] at hi
        have hi':Rz p.1=e:=by simpa using hi
        subst hi'
        have hrow:(l.map Cn)[i]? = some (Cn p):=by rw [List.getElem?_map,hq];rfl
        match j,hj with
        | 0,hj=>cases hj;exact h2 i _ hrow 0 _ rfl
        | 1,hj=>cases hj;exact h2 i _ hrow 1 _ rfl
        | 2,hj=>cases hj;exact h2 i _ hrow 2 _ rfl
        | 3,hj=>cases hj;exact h2 i _ hrow 3 _ rfl
        | 4,hj=>
          cases hj
          have:=(h2 i _ hrow 4 _ rfl).inv_val
          rw [this];exact hu p (List.mem_of_getElem? hq)
        | j+5,hj=>simp [Rz] at hj
theorem Pq:∀{g:Gh} {w:World} {l:Es} {A R:List HO},HOK g w (A++(l.map Fp++R))→∃g',Ext g w g' w∧HOK g' w (A++R)∧∀p∈l,Rep g' w p.2 (.sl 3 (p.1.values.map cV))
  | g,w,[],A,R,h=>⟨g,Ext.refl g w,h,fun p hp=>by cases hp⟩
  | g,w,x::r,A,R,h=>by
    have hk:(A++((x::r).map Fp++R))[A.length]? = some (Fp x):=by rw [List.getElem?_append_right (Nat.le_refl _)];simp
    obtain ⟨g1,hx1,hH1,hr1⟩:=Pk h hk
    have e1:(A++((x::r).map Fp++R)).eraseIdx A.length=A++(r.map Fp++R):=by
      rw [List.eraseIdx_append_of_length_le (Nat.le_refl _)];simp
    rw [e1] at hH1
    obtain ⟨g2,hx2,hH2,hr2⟩:=Pq hH1
    refine ⟨g2,hx1.trans hx2,hH2,fun p hp=>?_⟩
    rcases List.mem_cons.1 hp with rfl | hp
    · exact hr1.mono hx2
    · exact hr2 p hp
theorem GS.freezeEvs {sl:List (Nat×AV)}{n t bo:Nat}{v:Value}{l:Es}{R:List HO}(h:get sl t = .val v):GS ⟨sl,Xt bo v l R,n⟩ ⟨(t,.sl 5 ((l.map Prod.fst).map Rz))::sl,.box bo 39 [.val v]::R,n⟩:=fun g a w hG=>by
 obtain ⟨g1,hx1,hH1,hu⟩:=Pq (A:=[.buf v (l.map Cn) 66 5,.box bo 39 [.val v]]) hG.heap
 obtain ⟨g2,hx2,hH2,hv⟩:=Pk hH1 (k:=0) rfl
 refine ⟨g2,⟨hG.size,hG.defers,fun i=>?_,hH2⟩,hx1.trans hx2⟩
 show Rep g2 w _ (get ((t,_)::sl) i)
 rw [F9]
 by_cases e:t=i
 ·
  subst e
  rw [if_pos rfl]
  have h1:=(h▸hG.sl t:Rep g w _ _).inv_val
  rw [h1]
  exact yN hv fun p hp=>(hu p hp).mono hx2
 · rw [if_neg e];exact ((hG.sl i).mono hx1).mono hx2
theorem iQ {T:List Sc}{V:List Va}{l:Es}(h:evOK T V (l.map Prod.fst)){t:Tm}(ht:tmOK T V t):∃e u,l[t.v.toNat]? = some (e,u)∧e.values.length=(Fa T V t.v).length∧l.length=V.length:=by
 have hl:l.length=V.length:=by have:=h.len;simpa using this
 have hlt:t.v.toNat<l.length:=by have:=ht.v0;have:=ht.v1;omega
 have hg:=List.getElem?_eq_getElem hlt
 refine ⟨(l[t.v.toNat]).1,(l[t.v.toNat]).2,hg,?_,hl⟩
 have:=h.vals t.v.toNat (l[t.v.toNat]).1 (by rw [List.getElem?_map,hg];rfl)
 rw [this,Int.toNat_of_nonneg ht.v0]
theorem mD {T:List Sc}{V:List Va}{e:Ev}{t:Tm}(ht:tmOK T V t)(h1:t.op=1)(he:e.values.length=(Fa T V t.v).length):∃y,e.values[t.field.toNat]? = some y:=by
 have hf:=ht.f h1
 have hlt:t.field.toNat<e.values.length:=by rw [he];omega
 exact ⟨_,List.getElem?_eq_getElem hlt⟩
theorem Wl {α β:Type}{f:α→β}{l:List α}{j:Nat}{x:α}(h:l[j]? = some x):l.map f≠[]:=fun e=>by
 have:l = []:=by simpa using e
 rw [this] at h;simp at h
end Go.Proofs.YtjedflcpjlgokaaGreatDoor
