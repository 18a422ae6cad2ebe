/-
  Several texts in one: S25, As, S26, S27, S28, S29, S31. No condition.
-/
import Derived.Test.YtkddpedfbicbeaaGreatDoorK09
set_option linter.unusedVariables false
set_option linter.unusedSimpArgs false
namespace Go.Proofs.YtkddpedfbicbeaaGreatDoor
open Go Go.Aw
section
variable {T:List Sc} {V:List Va}
theorem jJ {c:Lit}{x z r:Int}(hr : -140737488355328≤r∧r≤140737488355328):∀b∈D9 c x z r,-Jq≤b.most∧b.most≤Jq:=by
 have hb:Jq=140737488355329:=rfl
 unfold D9
 repeat' split
 all_goals
  intro b hb'
  simp only [List.mem_cons,List.not_mem_nil,or_false] at hb'
  rcases hb' with rfl | rfl <;> first | omega | skip
 all_goals (try (simp only;omega))
theorem X6:∀{l:List Lit},U4 T V l→∀{s:Sy},(∀b∈s.bs,-Jq≤b.most∧b.most≤Jq)→∀b∈(l.foldl (Df T V) s).bs,-Jq≤b.most∧b.most≤Jq
  | [],_,s,hs=>hs
  | c::r,hl,s,hs=>by
    rw [List.foldl_cons]
    refine X6 (fun x hx=>hl x (List.mem_cons_of_mem _ hx)) ?_
    cases h : !(Aa T V c).2 with
    | true=>rw [Lv h];exact hs
    | false=>
      rw [Lg h]
      intro b hb
      rcases List.mem_append.1 hb with hb | hb
      · exact hs b hb
      · exact jJ (Rp (hl c (List.mem_cons_self ..)).1 (hl c (List.mem_cons_self ..)).2).rest b hb
theorem Wt:∀(ts:List Tm) (i:Nat),∀b∈Hn T V i ts,-Jq≤b.most∧b.most≤Jq
  | [],i,b,h=>by cases h
  | t::r,i,b,h=>by
    have hb:Jq=140737488355329:=rfl
    have hl:=Si (T:=T) (V:=V) t
    rw [Hn] at h
    rcases List.mem_cons.1 h with rfl | h
    · simp only;omega
    · rcases List.mem_cons.1 h with rfl | h
      · simp only;omega
      · exact Wt r (i+1) b h
def zN (T:List Sc)(V:List Va)(l:List Lit):Nat:=(Cj T V l).ts.length+1
theorem pB (l:List Lit):C8 T V l=zn (zN T V l) (C8 T V l).bs:=rfl
theorem P8 {l:List Lit}(hl:U4 T V l):∀b∈(C8 T V l).bs,-Jq≤b.most∧b.most≤Jq:=by
 intro b hb
 rcases List.mem_append.1 hb with hb | hb
 · exact Wt _ _ b hb
 · exact X6 hl (s:=⟨[],[]⟩) (fun b h=>by cases h) b hb
/-- the walk back along the last bounds of the zone of a clause comes round, where there is no model -/
def SOLV (T:List Sc)(V:List Va)(l:List Lit):Prop:=(I4 (C8 T V l) != 0)=false→decide ((Em (C8 T V l)).2<0)=false→Nb (zN T V l) (C8 T V l).bs=true
/-- solve: the values, and whether there is something -/
def Ls (T:List Sc)(V:List Va)(l:List Lit):List Int:=if !I9 (C8 T V l) then [] else (Ey (C8 T V l)).values
def Qk (T:List Sc)(V:List Va)(l:List Lit):Bool:=if !I9 (C8 T V l) then true else (Eh T V l).2&&(Ey (C8 T V l)).ok
theorem solV_1 {l:List Lit}(h:(!I9 (C8 T V l))=true):Ls T V l = []:=if_pos h
theorem kH {l:List Lit}(h:(!I9 (C8 T V l))=false):Ls T V l=(Ey (C8 T V l)).values:=Ck h
theorem xO {l:List Lit}(h:(!I9 (C8 T V l))=true):Qk T V l=true:=if_pos h
theorem bY {l:List Lit}(h:(!I9 (C8 T V l))=false):Qk T V l=((Eh T V l).2&&(Ey (C8 T V l)).ok):=Ck h
theorem kX (l:List Lit):Rv (Eh T V l).1:=dQ l [] V7
def Lj (T:List Sc)(V:List Va)(l:List Lit):Bool:=l.all (fun c=>B7 T V c.cond)&&(I9 (C8 T V l)&&decide ((l.length:Int)≤256))
theorem yT {l:List Lit}(h:l.all (fun c=>B7 T V c.cond)=true):Lj T V l=(I9 (C8 T V l)&&decide ((l.length:Int)≤256)):=by unfold Lj;rw [h,Bool.true_and]
theorem cert_no {l:List Lit}{k:Nat}{c:Lit}(hc:l[k]? = some c)(h:B7 T V c.cond=false):Lj T V l=false:=by
 unfold Lj
 have:l.all (fun c=>B7 T V c.cond)=false:=by
  rw [List.all_eq_false]
  exact ⟨c,List.mem_of_getElem? hc,by rw [h];decide⟩
 rw [this,Bool.false_and]
end
end Go.Proofs.YtkddpedfbicbeaaGreatDoor

namespace Go.Aw
open Go
theorem AW.ghostPost {P:Program}{c:Code}{Q:Exit→St→Prop}{s:St}(h:AW P c (fun e s=>∃s',GS s s'∧Q e s') s):AW P c Q s:=by
 intro Q' g a w hG hQ
 refine h Q' g a w hG fun e g' s' a' w' h1 h2 ⟨s2,h3,h4⟩=>?_
 obtain ⟨g2,k1,k2⟩:=h3 g' a' w' h1
 exact hQ e g2 s2 a' w' k1 (h2.trans k2) h4
def Vt:List (List UInt8×AV)→List UInt8→Option Nat
 | [],_=>none
 | (k,_)::r,n=>if k=n then some 0 else (Vt r n).map (· + 1)
def sput (es:List (List UInt8×AV))(n:List UInt8)(x:AV):List (List UInt8×AV):=match Vt es n with | some j=>es.modify j fun _=>(n,x) | none=>es ++ [(n,x)]
theorem Zw {n:List UInt8}:∀{es:List (List UInt8×AV)},Vt es n=none→Md es n=none
  | [],_=>rfl
  | (k,x)::r,h=>by
    rw [Vt] at h
    split at h
    · cases h
    · rename_i hk
      rw [Md,if_neg hk]
      exact Zw (Option.map_eq_none_iff.1 h)
theorem pE {n:List UInt8}:∀{es:List (List UInt8×AV)} {j:Nat},Vt es n=some j→∃x,es[j]? = some (n,x)∧Md es n=some x
  | [],j,h=>by cases h
  | (k,x)::r,j,h=>by
    rw [Vt] at h
    split at h
    · rename_i hk
      cases h;subst hk
      exact ⟨x,rfl,by rw [Md,if_pos rfl]⟩
    · rename_i hk
      obtain ⟨j',h1,h2⟩:=Option.map_eq_some_iff.1 h
      subst h2
      obtain ⟨y,h3,h4⟩:=pE h1
      exact ⟨y,h3,by rw [Md,if_neg hk];exact h4⟩
theorem jK {n:List UInt8}:∀(l:List MapEntry) (es:List (List UInt8×AV)) (i j:Nat),l.length=es.length→(∀(j:Nat) m x,es[j]? = some (m,x)→(l.getD j default).key = .string ⟨m.toArray⟩)→Vt es n=some j→
    Instr.findNow .string (.string ⟨n.toArray⟩) l i=some (some (i+j,(l.getD j default).val))
  | [],[],_,_,_,_,hg=>by cases hg
  | [],_::_,_,_,h,_,_=>by simp at h
  | e::l,[],_,_,h,_,_=>by simp at h
  | e::l,(m,y)::es,i,j,h,hk,hg=>by
    have h1:e.key = .string ⟨m.toArray⟩:=by simpa using hk 0 m y rfl
    rw [Vt] at hg
    by_cases hm:m=n
    · subst hm
      rw [if_pos rfl] at hg
      cases hg
      unfold Instr.findNow
      simp [h1,Instr.sameNow,tF]
    · rw [if_neg hm] at hg
      obtain ⟨j',h3,rfl⟩:=Option.map_eq_some_iff.1 hg
      have:((⟨n.toArray⟩:ByteArray)==⟨m.toArray⟩)=false:=by rw [tF];simp;exact fun e=>hm e.symm
      unfold Instr.findNow
      simp only [h1,Instr.sameNow,this]
      have ih:=jK l es (i+1) j' (by simpa using h) (fun j m x hj=>by simpa using hk (j+1) m x hj) h3
      rw [show i+(j'+1)=i+1+j' by omega]
      simpa using ih
section
variable {P:Program} {T:List (Nat×TD)} {d:Option Nat} {ty:TypeId} {pos:String} {aft:Array Edge} {gd:Option (Nat×Bool)} {ρ:Operand→AV}
theorem qY {t:TypeId}{m k v:Operand}{kt et b i j:Nat}{td tk:TD}{n:List UInt8}{es:List (List UInt8×AV)}{x:AV}{H H2:List HO}(hT:Hu P T)(ht:Bu T t=some td)(hk:td.kind = .map kt et)(htk:Bu T kt=some tk)(hkk:tk.kind = .str)
  (hm:ρ m = .val (.map (some b))) (hkey:ρ k = .str n) (hv:ρ v=x) (hH:H[i]? = some (.smap b es)) (hold:Vt es n=some j) (hH2:H.set i (.smap b (es.modify j fun _=>(n,x)))=H2) :
  Lc P ⟨d,.mapUpdate t m k v,ty,pos,aft,gd⟩ ρ H (fun y H'=>y = .junk∧H'=H2):=by
 subst hH2
 intro g w a next Q hr hHK hn
 have h1:=(hm▸hr m (by simp [Op.operands]):Rep g w _ _).inv_val
 have h2:=(hkey▸hr k (by simp [Op.operands]):Rep g w _ _).inv_str.1
 have h3:Rep g w (a.eval v) x:=hv▸hr v (by simp [Op.operands])
 obtain ⟨hg,ms,clock,hheap,hl,hks,hvs⟩:=hHK.ok _ (List.mem_of_getElem? hH)
 have hu:=Iv (hT t td ht) hk
 have huk:=K4 (hT kt tk htk) hkk
 have hl':ms.toList.length=es.length:=by simpa using hl
 have hfind:=jK (n:=n) ms.toList es 0 j hl' (fun j m x hj=>by simpa using hks j m x hj) hold
 rw [Nat.zero_add] at hfind
 have hget:(getObj b).run P w = .ok (.map ms clock) w:=by simp [getObj,Sem.run,hheap]
 obtain ⟨y,hj,_⟩:=pE hold
 have hlt:j<ms.size:=by rw [hl];exact (List.getElem?_eq_some_iff.1 hj).1
 have e1:ms[j]? = some (ms.getD j default):=by simp [Array.getD_eq_getD_getElem?,hlt]
 have hkey0:=hks j n y hj
 have hkj:(((ms[j]?).map (·.key)).getD (.string ⟨n.toArray⟩)) = .string ⟨n.toArray⟩:=by
  rw [e1];simp only [Option.map_some,Option.getD_some,hkey0]
 have hkt:(Instr.keyThatStays (.string ⟨n.toArray⟩) (.string ⟨n.toArray⟩)).run P w = .ok (.string ⟨n.toArray⟩) w:=by
  unfold Instr.keyThatStays
  rw [if_pos (by
   have e:((⟨n.toArray⟩:ByteArray)==⟨n.toArray⟩)=true:=by rw [tF];simp
   simp [Instr.sameBits,e])];rfl
 obtain ⟨hset,hx,hnew,hoth⟩:=Ln (P:=P) (.map (ms.modify j fun e=>{ e with key:=.string ⟨n.toArray⟩,val:=a.eval v }) clock) hg hheap
 have hrun:(Instr.mapUpdate t (a.eval m) (a.eval k) (a.eval v)).run P w = .ok () { w with heap:=w.heap.setIfInBounds b (.map (ms.modify j fun e=>{ e with key:=.string ⟨n.toArray⟩,val:=a.eval v }) clock) }:=by
  have hfk:(Instr.findKey kt (.string ⟨n.toArray⟩) ms.toList).run P w = .ok (some (j,(ms.toList.getD j default).val)) w:=by
   unfold Instr.findKey
   rw [Sem.run_bind,A9 huk]
   simp only [Result.andThen_ok,hfind,Sem.run_pure]
  unfold Instr.mapUpdate
  rw [Sem.run_bind,A9 hu]
  simp only [Result.andThen_ok,h1,Sem.run_bind,hget,h2,K6 (n:=9999) huk,hfk,hkj,hkt,hset]
 unfold Oper.wp
 simp only [execOp,Sem.run_bind,hrun,Result.andThen_ok,Sem.run_pure]
 have hgetm:∀i,i<ms.size→(ms.modify j fun e=>{ e with key:=.string ⟨n.toArray⟩,val:=a.eval v }).getD i default=if j=i then { ms.getD i default with key:=.string ⟨n.toArray⟩,val:=a.eval v } else ms.getD i default:=fun i hi=>by
  simp only [Array.getD_eq_getD_getElem?,Array.getElem?_modify]
  by_cases h:j=i
  · subst h;simp [hi]
  · simp [h]
 have hkp:∀i k z,(es.modify j fun _=>(n,x))[i]? = some (k,z)→i<ms.size∧if j=i then k=n∧z=x else es[i]? = some (k,z):=fun i k z hi=>by
  have h1:=(List.getElem?_eq_some_iff.1 hi).1
  rw [List.length_modify,←hl] at h1
  refine ⟨h1,?_⟩
  simp only [List.getElem?_modify] at hi
  by_cases h:j=i
  · subst h;rw [hj] at hi;simp at hi;simp [hi.1.symm,hi.2.symm]
  · simpa [h] using hi
 refine hn g _ undef .junk _ ⟨rfl,rfl⟩ (.junk _) (hHK.set hx hH (fun c hc=>.inl hc) ⟨hg,_,_,hnew,by simp [hl],fun i k z hi=>?_,fun i k z hi=>?_⟩ (fun c hc hne _=>⟨rfl,hoth c fun e=>hne (by rw [e];rfl)⟩)) hx
 ·
  obtain ⟨q1,q2⟩:=hkp i k z hi
  rw [hgetm i q1]
  by_cases h:j=i
  · rw [if_pos h];rw [if_pos h] at q2;rw [q2.1]
  · rw [if_neg h];rw [if_neg h] at q2;exact hks i k z q2
 ·
  obtain ⟨q1,q2⟩:=hkp i k z hi
  rw [hgetm i q1]
  by_cases h:j=i
  · rw [if_pos h];rw [if_pos h] at q2;rw [q2.2];exact h3.mono hx
  · rw [if_neg h];rw [if_neg h] at q2;exact (hvs i k z q2).mono hx

/-- A key gets a value, whether it was there or not. -/
theorem rT {t:TypeId}{m k v:Operand}{kt et b i:Nat}{td tk:TD}{n:List UInt8}{es:List (List UInt8×AV)}{x:AV}{H H2:List HO}(hT:Hu P T)(ht:Bu T t=some td)(hk:td.kind = .map kt et)(htk:Bu T kt=some tk)(hkk:tk.kind = .str)
  (hm:ρ m = .val (.map (some b))) (hkey:ρ k = .str n) (hv:ρ v=x) (hH:H[i]? = some (.smap b es)) (hH2:H.set i (.smap b (sput es n x))=H2) :
  Lc P ⟨d,.mapUpdate t m k v,ty,pos,aft,gd⟩ ρ H (fun y H'=>y = .junk∧H'=H2):=by
 unfold sput at hH2
 cases hs:Vt es n with
 | none=>rw [hs] at hH2;exact U8 hT ht hk htk hkk hm hkey hv hH (Zw hs) hH2
 | some j=>rw [hs] at hH2;exact qY hT ht hk htk hkk hm hkey hv hH hs hH2
end
end Go.Aw

namespace Go.Proofs.YtkddpedfbicbeaaGreatDoor
open Go Go.Aw
abbrev Fs:=List UInt8
/-! ### what is used -/
abbrev Um:=List (Fs×Bool)
def sE (U:Um):List (List UInt8×AV):=U.map fun p=>(p.1,AV.bool p.2)
def Fj:Um→Fs→Bool
 | [],_=>false
 | (k,b)::r,n=>if k=n then b else Fj r n
def iJ:Um→Fs→Option Nat
 | [],_=>none
 | (k,_)::r,n=>if k=n then some 0 else (iJ r n).map (· + 1)
def Uj (U:Um)(n:Fs)(b:Bool):Um:=match iJ U n with | some j=>U.modify j fun _=>(n,b) | none=>U ++ [(n,b)]
theorem xD (n:Fs):∀U:Um,match Md (sE U) n with | some y=>y = .bool (Fj U n) | none=>[AV.bool false] = [.bool (Fj U n)]
  | []=>rfl
  | (k,b)::r=>by
    have ih:=xD n r
    show match (if k=n then some (AV.bool b) else Md (sE r) n) with | some y=>y = .bool (if k=n then b else Fj r n) | none=>[AV.bool false] = [.bool (if k=n then b else Fj r n)]
    by_cases h:k=n
    · rw [if_pos h,if_pos h]
    · rw [if_neg h,if_neg h];exact ih
theorem vB (n:Fs):∀U:Um,Vt (sE U) n=iJ U n
  | []=>rfl
  | (k,b)::r=>by
    show (if k=n then some 0 else (Vt (sE r) n).map (· + 1))=if k=n then some 0 else (iJ r n).map (· + 1)
    rw [vB n r]
theorem L3 {α β:Type}(f:α→β)(g:α→α)(h:β→β)(hc:∀x,f (g x)=h (f x)):∀(l:List α) (j:Nat),(l.modify j g).map f=(l.map f).modify j h
 | [],j=>by simp
 | a::r,0=>by simp [hc]
 | a::r,j+1=>by simp [L3 f g h hc r j]
theorem sput_u (U:Um)(n:Fs)(b:Bool):sput (sE U) n (.bool b)=sE (Uj U n b):=by
 unfold sput Uj
 rw [vB]
 cases iJ U n with
 | none=>simp [sE]
 | some j=>exact (L3 (fun p:Fs×Bool=>(p.1,AV.bool p.2)) (fun _=>(n,b)) (fun _=>(n,AV.bool b)) (fun _=>rfl) U j).symm
theorem fW {n:Fs}:∀{U:Um},Fj U n=true→n∈U.map Prod.fst
  | [],h=>by cases h
  | (k,b)::r,h=>by
    rw [Fj] at h
    by_cases hk:k=n
    · simp [hk]
    · rw [if_neg hk] at h;simp [fW h]
/-! ### fresh names -/
theorem Zs {a b:Nat}(ha:a<256)(hb:b<256)(h:UInt8.ofNat a=UInt8.ofNat b):a=b:=by
 have:=congrArg UInt8.toNat h
 simp at this
 omega
theorem uP {u:Nat}:Go.Lib.decDigits u≠[]:=by rw [Go.Lib.decDigits];split <;> simp
theorem lD {u:Nat}(h:¬u<10):Go.Lib.decDigits u=Go.Lib.decDigits (u / 10) ++ [UInt8.ofNat (48+u % 10)]:=by rw [Go.Lib.decDigits,dif_neg h]
theorem dec_inj:∀(u v:Nat),Go.Lib.decDigits u=Go.Lib.decDigits v→u=v:=by
  intro u
  induction u using Nat.strongRecOn with
  | _ u ih=>
    intro v h
    by_cases h1:u<10
    · rw [Go.Lib.decDigits_one h1] at h
      by_cases h2:v<10
      · rw [Go.Lib.decDigits_one h2] at h
        have:=Zs (by omega) (by omega) (List.cons.inj h).1
        omega
      · rw [lD h2] at h
        have:=congrArg List.length h
        simp at this
        exact absurd this uP
    · rw [lD h1] at h
      by_cases h2:v<10
      · rw [Go.Lib.decDigits_one h2] at h
        have:=congrArg List.length h
        simp at this
        exact absurd this uP
      · rw [lD h2] at h
        obtain ⟨e1,e2⟩:=List.append_inj' h rfl
        have h3:=ih (u / 10) (by omega) _ e1
        have h4:=Zs (by omega) (by omega) (List.cons.inj e2).1
        omega
theorem T5 {α:Type}[DecidableEq α]:∀{l m:List α},l.Nodup→l ⊆ m→l.length≤m.length
  | [],m,_,_=>Nat.zero_le _
  | a::r,m,hn,hs=>by
    have h1:=List.nodup_cons.1 hn
    have ha:a∈m:=hs (List.mem_cons_self ..)
    have h2:r ⊆ m.erase a:=fun x hx=>(List.mem_erase_of_ne (fun e:x=a=>h1.1 (by rw [←e];exact hx))).2 (hs (List.mem_cons_of_mem _ hx))
    have h3:=T5 h1.2 h2
    have h4:=List.length_erase_of_mem ha
    have h5:=List.length_pos_of_mem ha
    rw [List.length_cons];omega
def wN (k:Nat):Fs:=119::Go.Lib.itoa (k:Int)
theorem wN_inj {a b:Nat}(h:wN a=wN b):a=b:=by
 have h1:=(List.cons.inj h).2
 unfold Go.Lib.itoa at h1
 rw [if_neg (by omega),if_neg (by omega)] at h1
 have:=dec_inj _ _ h1
 omega
theorem Pc {U:Um}:∀{j:Nat},(∀i,i<j→Fj U (wN i)=true)→j≤U.length:=by
 intro j h
 have hn:((List.range j).map wN).Nodup:=List.Pairwise.map _ (fun a b hab e=>hab (wN_inj e)) List.nodup_range
 have hs:(List.range j).map wN ⊆ U.map Prod.fst:=fun x hx=>by
  obtain ⟨i,hi,rfl⟩:=List.mem_map.1 hx
  exact fW (h i (List.mem_range.1 hi))
 have:=T5 hn hs
 simpa using this
def Tu (U:Um):Nat→Nat→Nat
 | 0,k=>k
 | f+1,k=>if Fj U (wN k) then Tu U f (k+1) else k
def bP (U:Um):Fs:=wN (Tu U U.length 0)
theorem pX {U:Um}{f k:Nat}(h:Fj U (wN k)=false):Tu U f k=k:=by
 cases f with
 | zero=>rfl
 | succ f=>rw [Tu,if_neg (by rw [h];decide)]
theorem pO {U:Um}{f k:Nat}(h:Fj U (wN k)=true):Tu U (f+1) k=Tu U f (k+1):=by rw [Tu,if_pos h]
/-- how far the naming has come: the next number and the text so far -/
def nmI (U:Um)(r:Wd)(n:Nat)(s:Fs):Prop:=(n=0∧s=r.text)∨(r.const=false∧∃j,n=j+1∧s=wN j∧(∀i,i<j→Fj U (wN i)=true)∧Tu U U.length 0=Tu U (U.length-j) j)
theorem nm_next {U:Um}{r:Wd}{n:Nat}{s:Fs}(h:nmI U r n s)(hc:r.const=false)(hu:n=0∨Fj U s=true):nmI U r (n+1) (wN n):=by
 rcases h with ⟨rfl,_⟩ | ⟨_,j,rfl,rfl,h1,h2⟩
 · exact .inr ⟨hc,0,rfl,rfl,fun i hi=>absurd hi (by omega),rfl⟩
 ·
  have hu':Fj U (wN j)=true:=hu.resolve_left (by omega)
  have h3:∀i,i<j+1→Fj U (wN i)=true:=fun i hi=>by
   rcases Nat.lt_or_ge i j with h | h
   · exact h1 i h
   · rw [show i=j by omega];exact hu'
  have h4:=Pc h3
  exact .inr ⟨hc,j+1,rfl,rfl,h3,by rw [h2,show U.length-j=(U.length-(j+1))+1 by omega,pO hu']⟩
theorem nm_len {U:Um}{r:Wd}{n:Nat}{s:Fs}(h:nmI U r n s):n≤U.length+1:=by
 rcases h with ⟨rfl,_⟩ | ⟨_,j,rfl,rfl,h1,_⟩
 · omega
 · have:=Pc h1;omega
def J4 (U:Um)(r:Wd):Fs:=if r.const then r.text else bP U
theorem zX {U:Um}{r:Wd}{n:Nat}{s:Fs}(h:nmI U r n s)(hx:(!r.const&&(n==0||Fj U s))=false):s=J4 U r:=by
  unfold J4
  cases hc:r.const with
  | true=>
    rcases h with ⟨_,h⟩ | ⟨h,_⟩
    · rw [if_pos rfl];exact h
    · rw [hc] at h;cases h
  | false=>
    rw [hc] at hx
    rcases h with ⟨rfl,_⟩ | ⟨_,j,rfl,rfl,_,h2⟩
    · simp at hx
    · rw [if_neg (by decide)]
      unfold bP
      rw [h2,pX (by simpa using hx)]
/-! ### names of classes -/
abbrev Nm:=List (Wd×Fs)
def nE (N:Nm):List (List AV×AV):=N.map fun p=>(Le p.1,.str p.2)
def Ik (N:Nm)(r:Wd):Option Fs:=(N.find? fun p=>decide (p.1=r)).map (·.2)
theorem bD (x:Wd)(N:Nm):∀p∈nE N,Hb TL [(0,1,true,4),(1,1,true,9),(2,3,true,143)] (Le x) p.1=some (Js x p.1):=by
 intro p hp
 obtain ⟨q,_,rfl⟩:=List.mem_map.1 hp
 show Hb TL _ (Le x) (Le q.1)=some (Js x (Le q.1))
 rw [Nl,Nx]
theorem Yw (x:Wd):∀N:Nm,Hk (Js x) (nE N)=(Ik N x).map fun y=>.str y
  | []=>rfl
  | q::r=>by
    have ih:=Yw x r
    unfold nE Ik at ih ⊢
    rw [List.map_cons,Hk,Nx,Wj,ih,List.find?_cons]
    by_cases h:q.1=x
    · rw [decide_eq_true h.symm,decide_eq_true h];rfl
    · rw [decide_eq_false (fun e=>h e.symm),decide_eq_false h];rfl
theorem look_n (x:Wd)(N:Nm):match Hk (Js x) (nE N) with | some y=>y = .str ((Ik N x).getD []) | none=>[AV.str []] = [.str ((Ik N x).getD [])]:=by
 rw [Yw];cases Ik N x <;> rfl
theorem has_n (x:Wd)(N:Nm):(Hk (Js x) (nE N)).isSome=(Ik N x).isSome:=by rw [Yw];cases Ik N x <;> rfl
theorem new_n {x:Wd}{N:Nm}(h:Ik N x=none):Hk (Js x) (nE N)=none:=by rw [Yw,h];rfl
theorem cM (N:Nm)(r:Wd)(s:Fs):nE N ++ [(Le r,AV.str s)]=nE (N ++ [(r,s)]):=by unfold nE;rw [List.map_append];rfl
theorem Tx {N:Nm}{r:Wd}{s:Fs}(h:Ik N r=none):Ik (N ++ [(r,s)]) r=some s:=by
 unfold Ik at h ⊢
 rw [Option.map_eq_none_iff] at h
 rw [List.find?_append,h]
 simp
theorem kidx_n {N:Nm}{r:Wd}{s:Fs}(h:Ik N r=none):Lo (Js r) (nE (N ++ [(r,s)]))=some N.length:=by
  induction N with
  | nil=>
    show (if Js r (Le r) then some 0 else none)=_
    rw [Nx,Wj];simp
  | cons q t ih=>
    unfold Ik at h ih
    rw [Option.map_eq_none_iff,List.find?_cons] at h
    by_cases hq:q.1=r
    · rw [decide_eq_true hq] at h;cases h
    · rw [decide_eq_false hq] at h
      show (if Js r (Le q.1) then some 0 else (Lo (Js r) (nE (t ++ [(r,s)]))).map (· + 1))=_
      rw [Nx,Wj,decide_eq_false (fun e=>hq e.symm),ih (by rw [Option.map_eq_none_iff];exact h)]
      rfl
theorem kput_n (N:Nm)(r:Wd)(s s':Fs):Ob (nE (N ++ [(r,s)])) N.length (.str s')=nE (N ++ [(r,s')]):=by
 unfold Ob
 rw [←cM,←cM]
 have hl:(nE N).length=N.length:=List.length_map ..
 rw [←hl]
 generalize nE N=E
 induction E with
 | nil=>rfl
 | cons a t ih=>simp [ih]
theorem nE_self (x:Wd)(N:Nm):∀p∈nE N,Js x p.1=true→p.1=Le x:=by
 intro p hp h
 obtain ⟨q,_,rfl⟩:=List.mem_map.1 hp
 rw [Nx] at h
 simp only
 rw [Na.1 h]
/-! ### terms that are read -/
section
variable {T:List Sc} {V:List Va}
structure tmOK (T:List Sc) (V:List Va) (t:Tm):Prop where
 op:t.op=1∨t.op=2
 v0:0≤t.v
 v1:t.v<(V.length:Int)
 f:t.op=1→0≤t.field∧t.field<((Fu T V t.v).length:Int)
theorem tm_ok {t:Tm}(hk:KOK T V (Hp t))(ho:t.op=1∨t.op=2):tmOK T V t:=by
 have hn:=(Be hk.nodes).1
 have h2:=hk.kind
 unfold By at hn
 split at hn
 · cases hn
 split at hn
 · cases hn
 split at hn
 · cases hn
 rename_i h3
 have hk2:(F7 T V (Hp t)).2=0:=by
  have e:Cc T V (Hp t)=F7 T V (Hp t):=by unfold Hp;rw [Cc];rfl
  rw [←e];exact h2
 unfold F7 at hk2
 rw [if_neg (by show ¬(t.op==0)=true;simp;omega)] at hk2
 split at hk2
 · cases hk2
 rename_i h4
 have h4':¬(V.length:Int)≤t.v:=fun h=>h4 (decide_eq_true h)
 have h3':¬((((Dp t.op).1=true∧(t.v<0∨16≤t.v))∨((Dp t.op).2=true∧(t.field<0∨8≤t.field)))):=fun h=>h3 (by
  show ((Dp t.op).1&&(decide (t.v<0)||decide (16≤t.v))||((Dp t.op).2&&(decide (t.field<0)||decide (8≤t.field))))=true
  simp only [Bool.or_eq_true,Bool.and_eq_true,decide_eq_true_eq];exact h)
 have hu1:(Dp t.op).1=true:=by unfold Dp;rcases ho with h | h <;> simp [h]
 refine ⟨ho,by have:¬(t.v<0∨16≤t.v):=fun h=>h3' (.inl ⟨hu1,h⟩);omega,by omega,fun h1=>?_⟩
 have hu2:(Dp t.op).2=true:=by unfold Dp;simp [h1]
 have hf:¬(t.field<0∨8≤t.field):=fun h=>h3' (.inr ⟨hu2,h⟩)
 rw [if_neg (by show ¬(t.op==2||t.op==3)=true;simp;omega)] at hk2
 split at hk2
 · cases hk2
 rename_i h5
 have h5':¬((Fu T V t.v).length:Int)≤t.field:=fun h=>h5 (decide_eq_true h)
 omega
theorem nZ {Pr:Tm→Prop}(hp:∀t:Tm,t.op=1∨t.op=2→Pr t)(e:Ex):C5 e=0→∀{b:Int} {s:Su},(∀p∈s.ts,Pr p.1)→∀p∈(Bp e b s).1.ts,Pr p.1:=by
  refine Ex.Aao (P:=fun e=>C5 e=0→∀{b:Int} {s:Su},(∀p∈s.ts,Pr p.1)→∀p∈(Bp e b s).1.ts,Pr p.1) (fun e ih hk b s hs=>?_) e
  have hz:=Be hk
  rcases O7 hz.1 with h | ⟨h,h1⟩ | ⟨h,hl⟩ | ⟨h,h1,h2,h3⟩
  · rw [Fx h];exact hs
  · rw [B8 h h1]
    intro p hp'
    have key:∀{ts:List (Tm×Int)},(∀p∈ts,Pr p.1)→∀p∈Io (D4 e) b ts,Pr p.1:=by
      intro ts
      induction ts with
      | nil=>intro _ p hp';rw [Io,List.mem_singleton] at hp';rw [hp'];exact hp _ (by simpa [D4] using h1)
      | cons q r ihr=>
        intro hts p hp'
        rw [Io] at hp'
        split at hp'
        · rcases List.mem_cons.1 hp' with rfl | hp'
          · exact hts q (List.mem_cons_self ..)
          · exact hts p (List.mem_cons_of_mem _ hp')
        · rcases List.mem_cons.1 hp' with rfl | hp'
          · exact hts p (List.mem_cons_self ..)
          · exact ihr (fun p hp'=>hts p (List.mem_cons_of_mem _ hp')) p hp'
    exact key hs p hp'
  · have m0:=A6 (show 0<e.args.length by omega)
    have m1:=Bk hl
    have key:∀c,∀p∈(if !(Bp (Ao e) b s).2 then ((Bp (Ao e) b s).1,false) else Bp (Bi e) c (Bp (Ao e) b s).1).1.ts,Pr p.1:=fun c=>by
      have i0:=ih _ m0 (hz.2 _ m0) (b:=b) hs
      split
      · exact i0
      · exact ih _ m1 (hz.2 _ m1) i0
    rcases h with h | h
    · rw [Ka (c:=b) hl (.inl ⟨h,rfl⟩)];exact key b
    · rw [Ka (c:=0-b) hl (.inr ⟨h,rfl⟩)];exact key _
  · rw [G3 h h1 h2 h3];exact hs
def Ks (t:Tm):Prop:=t.op=1∨t.op=2
theorem gR {a b:Ex}(ha:C5 a=0)(hb:C5 b=0):(∀t∈(Ci a b).1.plus,Ks t)∧∀t∈(Ci a b).1.minus,Ks t:=by
  have h0:(∀t∈tY.plus,Ks t)∧∀t∈tY.minus,Ks t:=⟨fun t h=>(by cases h),fun t h=>(by cases h)⟩
  unfold Ci
  split
  · exact h0
  rename_i h1
  split
  · exact h0
  have he:(Bp b (-1) (Bp a 1 Kx).1).1=Da a b:=by unfold Da;rw [if_neg h1]
  rw [he]
  have hse:∀p∈(Da a b).ts,Ks p.1:=by
    have q1:=nZ (Pr:=Ks) (fun t h=>h) a ha (b:=1) (s:=Kx) (fun p hp=>by cases hp)
    unfold Da
    split
    · exact q1
    · exact nZ (Pr:=Ks) (fun t h=>h) b hb q1
  unfold Sj
  cases hp:Dv (Da a b).ts [] [] with
  | none=>exact h0
  | some p=>
    obtain ⟨p,m⟩:=p
    exact I7 (P:=Ks) hse (fun t h=>by cases h) (fun t h=>by cases h) hp
theorem fU {l:Lit}(hk:KOK T V l.cond):(∀t∈(Aa T V l).1.plus,Ks t)∧∀t∈(Aa T V l).1.minus,Ks t:=by
  cases h:l.cond.op==1 with
  | true=>
    rw [bA h]
    exact ⟨fun t ht=>by rw [List.mem_singleton.1 ht];exact .inl (by simpa [D4] using h),fun t ht=>by cases ht⟩
  | false=>
    cases h2:(!Cw l.cond||Cq T V l.cond) with
    | true=>rw [pT h h2];exact ⟨fun t h=>(by cases h),fun t h=>(by cases h)⟩
    | false=>
      rw [Zt h h2]
      have hl:=K1 hk (Wc h2)
      exact gR (A3 hk (A6 (by omega))).nodes (A3 hk (Bk hl)).nodes
theorem oS:∀{l:List Lit},U4 T V l→∀{s:Sy},(∀t∈s.ts,Ks t)→∀t∈(l.foldl (Df T V) s).ts,Ks t
  | [],_,s,hs=>hs
  | c::r,hl,s,hs=>by
    rw [List.foldl_cons]
    refine oS (fun x hx=>hl x (List.mem_cons_of_mem _ hx)) ?_
    cases h : !(Aa T V c).2 with
    | true=>rw [Lv h];exact hs
    | false=>
      rw [Lg h]
      obtain ⟨h1,h2⟩:=fU (hl c (List.mem_cons_self ..)).1
      exact Lb (Lb hs h1) h2
theorem lC {l:List Lit}(hl:U4 T V l):∀t∈(Cj T V l).ts,tmOK T V t:=fun t ht=>tm_ok ((Lx hl).terms t ht) (oS hl (s:=⟨[],[]⟩) (fun t h=>by cases h) t ht)
/-! ### events -/
def Zf (T:List Sc)(i:Nat)(v:Va):Ev:=⟨0,(i:Int),v.type,0,(((T[v.type.toNat]?).getD sc0).fields).map fun f=>⟨f.kind,0,[]⟩⟩
def Hx (T:List Sc):Nat→List Va→List Ev
 | _,[]=>[]
 | i,v::r=>Zf T i v::Hx T (i+1) r
def Vy (e:Ev)(k:Nat)(f:Vl→Vl):Ev:={ e with values:=e.values.modify k f }
def Qm (evs:List Ev)(t:Tm)(x:Int):List Ev:=if t.op==2 then evs.modify t.v.toNat (fun e=>{ e with time:=x }) else evs.modify t.v.toNat fun e=>Vy e t.field.toNat fun y=>{ y with num:=x }
def T4 (evs:List Ev)(t:Tm)(s:Fs):List Ev:=evs.modify t.v.toNat fun e=>Vy e t.field.toNat fun y=>{ y with text:=s }
def Gw (vals:List Int):Nat→List Tm→List Ev→List Ev
 | _,[],evs=>evs
 | i,t::r,evs=>Gw vals (i+1) r (Qm evs t (E3 vals ((i:Int)+1)))
/-- events that fit the variables -/
structure evOK (T:List Sc) (V:List Va) (evs:List Ev):Prop where
 len:evs.length=V.length
 vals:∀(j:Nat) (e:Ev),evs[j]? = some e→e.values.length=(Fu T V (j:Int)).length
theorem V2 (e:Ev)(k:Nat)(f:Vl→Vl):(Vy e k f).values.length=e.values.length:=List.length_modify ..
theorem Uh {evs:List Ev}(h:evOK T V evs)(j:Nat)(f:Ev→Ev)(hf:∀e,(f e).values.length=e.values.length):evOK T V (evs.modify j f):=by
  refine ⟨by rw [List.length_modify];exact h.len,fun i e hi=>?_⟩
  rw [List.getElem?_modify] at hi
  cases hq:evs[i]? with
  | none=>rw [hq] at hi;cases hi
  | some x=>
    rw [hq] at hi
    have hi':=(Option.some.inj hi).symm
    rw [←h.vals i x hq,hi']
    split
    · exact hf x
    · rfl
theorem V3 {evs:List Ev}(h:evOK T V evs)(t:Tm)(x:Int):evOK T V (Qm evs t x):=by
 unfold Qm
 split
 · exact Uh h _ _ (fun _=>rfl)
 · exact Uh h _ _ (fun e=>V2 ..)
theorem nQ {evs:List Ev}(h:evOK T V evs)(t:Tm)(s:Fs):evOK T V (T4 evs t s):=Uh h _ _ (fun e=>V2 ..)
theorem oV:∀{vs:List Va} {i j:Nat} {e:Ev},(Hx T i vs)[j]? = some e→∃v,vs[j]? = some v∧e=Zf T (i+j) v
  | [],i,j,e,h=>by simp [Hx] at h
  | v::r,i,0,e,h=>by simp [Hx] at h;exact ⟨v,rfl,h.symm⟩
  | v::r,i,j+1,e,h=>by
    have h':(Hx T (i+1) r)[j]? = some e:=by simpa [Hx] using h
    obtain ⟨w,h1,h2⟩:=oV h'
    exact ⟨w,by simpa using h1,by rw [h2,show i+1+j=i+(j+1) by omega]⟩
theorem Py:∀{vs:List Va} {i:Nat},(Hx T i vs).length=vs.length
 | [],i=>rfl
 | v::r,i=>by simp [Hx,Py]
theorem iM:∀{vs:List Va} {i:Nat} {v:Va},Hx T i (vs ++ [v])=Hx T i vs ++ [Zf T (i+vs.length) v]
 | [],i,v=>rfl
 | a::r,i,v=>by simp [Hx,iM];rw [show i+1+r.length=i+(r.length+1) by omega]
theorem lZ:evOK T V (Hx T 0 V):=by
 refine ⟨Py,fun j e h=>?_⟩
 obtain ⟨v,h1,h2⟩:=oV h
 rw [h2]
 show (((T[v.type.toNat]?).getD sc0).fields.map _).length=_
 rw [List.length_map]
 unfold Fu
 rw [Int.toNat_natCast,h1];rfl
end
/-! ### in the heap -/
abbrev Es:=List (Ev×Value)
def Cx (p:Ev×Value):List AV:=[.int .i64 p.1.source,.int .i64 p.1.seq,.int .i64 p.1.type,.int .i64 p.1.time,.val p.2]
def F9 (p:Ev×Value):HO:=.buf p.2 (p.1.values.map cV) 28 3
abbrev Zc (bo:Nat)(v:Value)(l:Es)(R:List HO):List HO:=.buf v (l.map Cx) 67 5 :: .box bo 58 [.val v]::(l.map F9++R)
theorem Qt {α β:Type}(f:α→β):∀(l:List α) (j:Nat),(l.map f).eraseIdx j=(l.eraseIdx j).map f
 | [],j=>by simp
 | a::r,0=>rfl
 | a::r,j+1=>by simp [Qt f r j]
theorem Np {α:Type}{f:α→α}{x:α}:∀{l:List α} {j:Nat},l[j]? = some x→l.modify j f=l.set j (f x)
 | [],j,h=>by simp at h
 | a::r,0,h=>by simp at h;subst h;simp
 | a::r,j+1,h=>by simp [Np (f:=f) (show r[j]? = some x by simpa using h)]
theorem Uv {α:Type}:∀(l:List α) (j:Nat),l.modify j (fun x=>x)=l
 | [],j=>by simp
 | a::r,0=>by simp
 | a::r,j+1=>by simp [Uv r j]
theorem mR {l:Es}{j:Nat}{x:Ev×Value}(h:l[j]? = some x):(l.map F9).Perm (F9 x::(l.eraseIdx j).map F9):=by
 have h1:(l.map F9)[j]? = some (F9 x):=by rw [List.getElem?_map,h];rfl
 have:=Ie h1
 rw [Qt] at this
 exact this
theorem mF {bo:Nat}{v:Value}{l:Es}{R:List HO}{j:Nat}{x:Ev×Value}(h:l[j]? = some x):(Zc bo v l R).Perm (F9 x :: .buf v (l.map Cx) 67 5 :: .box bo 58 [.val v]::((l.eraseIdx j).map F9++R)):=by
 refine (((mR h).append_right R).cons _ |>.cons _).trans ?_
 exact ((List.Perm.swap _ _ _).cons _).trans (List.Perm.swap _ _ _)
theorem ev_in {bo:Nat}{v:Value}{l:Es}{R:List HO}{j:Nat}{y:Ev×Value}(h:j<l.length):(F9 y :: .buf v ((l.set j y).map Cx) 67 5 :: .box bo 58 [.val v]::((l.eraseIdx j).map F9++R)).Perm (Zc bo v (l.set j y) R):=by
 have h1:(l.set j y)[j]? = some y:=by simp [h]
 have:=mF (bo:=bo) (v:=v) (R:=R) h1
 rw [List.eraseIdx_set_eq] at this
 exact this.symm
theorem Jy (l:Es):∀e∈l.map Cx,e.length=5:=fun e he=>by
 obtain ⟨x,_,rfl⟩:=List.mem_map.1 he;rfl
theorem Ok (l:List Vl):∀e∈l.map cV,e.length=3:=fun e he=>by
 obtain ⟨x,_,rfl⟩:=List.mem_map.1 he;rfl
theorem Xy:∀{es:List (List AV)} {J:List AV} {z j o:Nat} {e:List AV} {x:AV},(∀e∈es,e.length=z)→es[j]? = some e→e[o]? = some x→(es.flatten++J)[j*z+o]? = some x
  | [],J,z,j,o,e,x,hz,hj,ho=>by simp at hj
  | a::r,J,z,0,o,e,x,hz,hj,ho=>by
    simp at hj;subst hj
    have hl:=(List.getElem?_eq_some_iff.1 ho).1
    rw [List.flatten_cons,List.append_assoc,Nat.zero_mul,Nat.zero_add,List.getElem?_append_left hl];exact ho
  | a::r,J,z,j+1,o,e,x,hz,hj,ho=>by
    have ha:=hz a (List.mem_cons_self ..)
    rw [List.flatten_cons,List.append_assoc,List.getElem?_append_right (by rw [ha,Nat.add_mul];omega),ha,show (j+1)*z+o-z=j*z+o by rw [Nat.add_mul];omega]
    exact Xy (fun e he=>hz e (List.mem_cons_of_mem _ he)) (by simpa using hj) ho
theorem eV {a b:List AV}{o:Nat}{x:AV}:Fw (a++b) (a.length+o) [x]=a++Fw b o [x]:=by
 unfold Fw
 rw [List.take_append,List.drop_append,List.take_of_length_le (by omega),List.drop_eq_nil_of_le (by simp;omega)]
 simp [show a.length+o-a.length=o by omega,show a.length+o+1-a.length=o+1 by omega]
theorem jO {a b:List AV}{o:Nat}{x:AV}(h:o<a.length):Fw (a++b) o [x]=a.set o x++b:=by
 unfold Fw
 rw [List.take_append_of_le_length (by omega),List.drop_append_of_le_length (by simp;omega),List.set_eq_take_append_cons_drop,if_pos h]
 simp
theorem S5:∀{es:List (List AV)} {J:List AV} {z j o:Nat} {e:List AV} {x:AV},(∀e∈es,e.length=z)→es[j]? = some e→o<z→Fw (es.flatten++J) (j*z+o) [x]=(es.set j (e.set o x)).flatten++J
  | [],J,z,j,o,e,x,hz,hj,ho=>by simp at hj
  | a::r,J,z,0,o,e,x,hz,hj,ho=>by
    simp at hj;subst hj
    have ha:=hz a (List.mem_cons_self ..)
    rw [List.flatten_cons,List.append_assoc,Nat.zero_mul,Nat.zero_add,jO (by omega)]
    simp
  | a::r,J,z,j+1,o,e,x,hz,hj,ho=>by
    have ha:=hz a (List.mem_cons_self ..)
    have ih:=S5 (J:=J) (x:=x) (fun e he=>hz e (List.mem_cons_of_mem _ he)) (show r[j]? = some e by simpa using hj) ho
    rw [List.flatten_cons,List.append_assoc,show (j+1)*z+o=a.length+(j*z+o) by rw [ha,Nat.add_mul];omega,eV,ih]
    simp
theorem T7 {es:List (List AV)}{J:List AV}{z j o:Nat}{e:List AV}(hz:∀e∈es,e.length=z)(hj:es[j]? = some e)(ho:o<z):Nat.ble (j*z+o+1) (es.flatten++J).length=true:=by
 have hj':=(List.getElem?_eq_some_iff.1 hj).1
 have hl:es.flatten.length=es.length*z:=by
  clear hj hj'
  induction es with
  | nil=>simp
  | cons a r ih=>rw [List.flatten_cons,List.length_append,ih (fun e he=>hz e (List.mem_cons_of_mem _ he)),hz a (List.mem_cons_self ..),List.length_cons,Nat.add_mul];omega
 have h1:(j+1)*z≤es.length*z:=Nat.mul_le_mul_right z hj'
 rw [Nat.add_mul] at h1
 exact Nat.ble_eq_true_of_le (by rw [List.length_append,hl];omega)
/-- one event changed, in the rows and among the buffers -/
theorem ev_time {l:Es}{j:Nat}{e:Ev}{u:Value}{x:Int}(h:l[j]? = some (e,u)):(l.map Cx).set j ((Cx (e,u)).set 3 (.int .i64 x))=((l.modify j fun p=>({ p.1 with time:=x },p.2)).map Cx):=by
 rw [Np h,List.map_set];rfl
theorem ev_timeBuf {l:Es}{j:Nat}{x:Int}:(l.modify j fun p=>({ p.1 with time:=x },p.2)).map F9=l.map F9:=by
 exact (L3 F9 (fun p=>({ p.1 with time:=x },p.2)) (fun y=>y) (fun _=>rfl) l j).trans (Uv _ _)
theorem Rj {l:Es}{j:Nat}{f:Ev→Ev}:(l.modify j fun p=>(f p.1,p.2)).map Prod.fst=(l.map Prod.fst).modify j f:=L3 Prod.fst _ f (fun _=>rfl) l j
theorem yX {e:Ev}{k:Nat}{y:Vl}(h:e.values[k]? = some y)(o:Nat)(x:AV)(f:Vl→Vl)(hf:(cV y).set o x=cV (f y)):(e.values.map cV).set k ((cV y).set o x)=((Vy e k f).values.map cV):=by
 unfold Vy
 simp only
 rw [Np h,hf,List.map_set]
theorem ev_vals {l:Es}{j:Nat}{e:Ev}{u:Value}{k:Nat}{f:Vl→Vl}(h:l[j]? = some (e,u)):l.set j (Vy e k f,u)=l.modify j fun p=>(Vy p.1 k f,p.2):=by
 rw [Np h]
theorem ev_rows {l:Es}{j:Nat}{e:Ev}{u:Value}{k:Nat}{f:Vl→Vl}(h:l[j]? = some (e,u)):l.map Cx=(l.set j (Vy e k f,u)).map Cx:=by
 rw [List.map_set]
 refine (List.ext_getElem? fun i=>?_)
 rw [List.getElem?_set]
 split
 ·
  rename_i hi;subst hi
  rw [List.getElem?_map,h]
  have:=(List.getElem?_eq_some_iff.1 h).1
  simp [this,Cx,Vy]
 · rfl
theorem kV {bo:Nat}{v:Value}{l:Es}{pre R:List HO}:(pre++Zc bo v l R).Perm (Zc bo v l (pre++R)):=by
 have:=(List.perm_append_comm (l₁:=pre) (l₂:=[HO.buf v (l.map Cx) 67 5,.box bo 58 [.val v]]++l.map F9)).append_right R
 simpa only [List.append_assoc,List.cons_append,List.nil_append] using this
/-! ### steps in thought -/
abbrev slV (b n c:Nat):Value:=.slice (some ⟨b,0,none⟩) n c
theorem zJ {sl:List (Nat×AV)}{n bo bb bi cap capi j k o:Nat}{J Ji:List AV}{l:Es}{e:Ev}{y:Vl}{x:AV}{f:Vl→Vl}{R:List HO}(hj:l[j]? = some (e,slV bi (e.values.map cV).length capi))(hy:e.values[k]? = some y)(hf:(cV y).set o x=cV (f y))
  (hcap:(l.map Cx).length≤cap) (hcm:cap≤maxLen) (hJ:J.length=(cap-(l.map Cx).length)*5) (hcapi:(e.values.map cV).length≤capi) (hcmi:capi≤maxLen) (hJi:Ji.length=(capi-(e.values.map cV).length)*3) :
  GS ⟨sl,.box bi 28 (((e.values.map cV).set k ((cV y).set o x)).flatten++Ji) :: .box bb 67 ((l.map Cx).flatten++J) :: .box bo 58 [.val (slV bb (l.map Cx).length cap)]::((l.eraseIdx j).map F9++R),n⟩
   ⟨sl,Zc bo (slV bb (l.map Cx).length cap) (l.modify j fun p=>(Vy p.1 k f,p.2)) R,n⟩:=by
 have hvl:((Vy e k f).values.map cV).length=(e.values.map cV).length:=by rw [List.length_map,List.length_map,V2]
 refine GS.trans (GS.rebuf 0 ((Vy e k f).values.map cV) Ji (m:=(e.values.map cV).length) (z:=3) (cap:=capi) hvl rfl (congrArg (fun es:List (List AV)=>es.flatten++Ji) (yX hy o x f hf)) (by rw [hvl];exact hcapi) hcmi (by rw [hvl];exact hJi) (Ok _) rfl) ?_
 refine GS.trans (GS.rebuf 1 (l.map Cx) J (m:=(l.map Cx).length) (z:=5) (cap:=cap) rfl rfl rfl hcap hcm hJ (Jy l) rfl) ?_
 have hlt:=(List.getElem?_eq_some_iff.1 hj).1
 have hp:=ev_in (bo:=bo) (v:=slV bb (l.map Cx).length cap) (l:=l) (R:=R) (j:=j) (y:=(Vy e k f,slV bi (e.values.map cV).length capi)) hlt
 rw [←ev_rows hj,ev_vals hj] at hp
 exact GS.perm hp
theorem evTime {sl:List (Nat×AV)}{n bo bb cap j:Nat}{J:List AV}{l:Es}{e:Ev}{u:Value}{x:Int}{R:List HO}(hj:l[j]? = some (e,u))
  (hcap:(l.map Cx).length≤cap) (hcm:cap≤maxLen) (hJ:J.length=(cap-(l.map Cx).length)*5) :
  GS ⟨sl,.box bb 67 (((l.map Cx).set j ((Cx (e,u)).set 3 (.int .i64 x))).flatten++J) :: .box bo 58 [.val (slV bb (l.map Cx).length cap)]::(l.map F9++R),n⟩
   ⟨sl,Zc bo (slV bb (l.map Cx).length cap) (l.modify j fun p=>({ p.1 with time:=x },p.2)) R,n⟩:=by
 have hl:((l.modify j fun p=>({ p.1 with time:=x },p.2)).map Cx).length=(l.map Cx).length:=by simp
 refine GS.trans (GS.rebuf 0 ((l.modify j fun p=>({ p.1 with time:=x },p.2)).map Cx) J (m:=(l.map Cx).length) (z:=5) (cap:=cap) hl rfl (congrArg (fun es:List (List AV)=>es.flatten++J) (ev_time hj)) (by rw [hl];exact hcap) hcm (by rw [hl];exact hJ) (Jy _) rfl) ?_
 exact GS.heapTo (congrArg (fun E:List HO=>HO.buf (slV bb (l.map Cx).length cap) ((l.modify j fun p=>({ p.1 with time:=x },p.2)).map Cx) 67 5 :: .box bo 58 [.val (slV bb (l.map Cx).length cap)]::(E++R)) ev_timeBuf.symm)
theorem Aac {l:Es}{e:Ev}{u v':Value}{b c:HO}{K:List HO}{rows:List (List AV)}(hr:rows=e.values.map cV) :
  (HO.buf u rows 28 3::b :: .buf v' (l.map Cx ++ [Cx (e,u)]) 67 5::c::(l.map F9++K)).Perm (b :: .buf v' ((l ++ [(e,u)]).map Cx) 67 5::c::((l ++ [(e,u)]).map F9++K)):=by
 subst hr
 rw [List.map_append,List.map_append]
 have:=(List.perm_append_comm (l₁:=[F9 (e,u)]) (l₂:=[b,.buf v' (l.map Cx ++ [Cx (e,u)]) 67 5,c]++l.map F9)).append_right K
 simp only [List.append_assoc,List.cons_append,List.nil_append] at this
 simp only [List.append_assoc]
 exact this
/-- all is written: the events are values -/
theorem rep_evs {g:Gh}{w:World}{v:Value}{l:Es}(hv:Rep g w v (.sl 5 (l.map Cx)))(hu:∀p∈l,Rep g w p.2 (.sl 3 (p.1.values.map cV))):Rep g w v (.sl 5 ((l.map Prod.fst).map O9)):=by
  obtain ⟨a,n,cap,rfl,hn,hc,hm,h⟩:=hv.inv_sl
  have hlen:((l.map Prod.fst).map O9).length=(l.map Cx).length:=by simp
  rcases h with h | ⟨b,o,rfl,hz,f,h1,h2⟩
  · have:l = []:=by simpa using h
    subst this
    have hn0:n=0:=by simpa using hn
    subst hn0
    exact .sl0 _ _ _ hm
  · refine .sl b o n cap 5 _ (by rw [hlen];exact hn) hc hm (fun e he=>?_) f (fun i e hi j x hj=>?_) (fun i e hi j x hj=>?_)
    · obtain ⟨q,_,rfl⟩:=List.mem_map.1 he;rfl
    · rw [List.getElem?_map,List.getElem?_map] at hi
      cases hq:l[i]? with
      | none=>rw [hq] at hi;cases hi
      | some p=>
        rw [hq] at hi
        have hi':O9 p.1=e:=by simpa using hi
        have hlt:j<5:=by have:=(List.getElem?_eq_some_iff.1 hj).1;rw [←hi'] at this;exact this
        have hr:(Cx p)[j]? = some ((Cx p)[j]'hlt):=List.getElem?_eq_getElem hlt
        exact h1 i _ (by rw [List.getElem?_map,hq];rfl) j _ hr
    · rw [List.getElem?_map,List.getElem?_map] at hi
      cases hq:l[i]? with
      | none=>rw [hq] at hi;cases hi
      | some p=>
        rw [hq] at hi
        have hi':O9 p.1=e:=by simpa using hi
        subst hi'
        have hrow:(l.map Cx)[i]? = some (Cx p):=by rw [List.getElem?_map,hq];rfl
        match j,hj with
        | 0,hj=>cases hj;exact h2 i _ hrow 0 _ rfl
        | 1,hj=>cases hj;exact h2 i _ hrow 1 _ rfl
        | 2,hj=>cases hj;exact h2 i _ hrow 2 _ rfl
        | 3,hj=>cases hj;exact h2 i _ hrow 3 _ rfl
        | 4,hj=>
          cases hj
          have:=(h2 i _ hrow 4 _ rfl).inv_val
          rw [this];exact hu p (List.mem_of_getElem? hq)
        | j+5,hj=>simp [O9] at hj
theorem Q2:∀{g:Gh} {w:World} {l:Es} {A R:List HO},HOK g w (A++(l.map F9++R))→∃g',Ext g w g' w∧HOK g' w (A++R)∧∀p∈l,Rep g' w p.2 (.sl 3 (p.1.values.map cV))
  | g,w,[],A,R,h=>⟨g,Ext.refl g w,h,fun p hp=>by cases hp⟩
  | g,w,x::r,A,R,h=>by
    have hk:(A++((x::r).map F9++R))[A.length]? = some (F9 x):=by rw [List.getElem?_append_right (Nat.le_refl _)];simp
    obtain ⟨g1,hx1,hH1,hr1⟩:=Q4 h hk
    have e1:(A++((x::r).map F9++R)).eraseIdx A.length=A++(r.map F9++R):=by
      rw [List.eraseIdx_append_of_length_le (Nat.le_refl _)];simp
    rw [e1] at hH1
    obtain ⟨g2,hx2,hH2,hr2⟩:=Q2 hH1
    refine ⟨g2,hx1.trans hx2,hH2,fun p hp=>?_⟩
    rcases List.mem_cons.1 hp with rfl | hp
    · exact hr1.mono hx2
    · exact hr2 p hp
theorem GS.freezeEvs {sl:List (Nat×AV)}{n t bo:Nat}{v:Value}{l:Es}{R:List HO}(h:get sl t = .val v):GS ⟨sl,Zc bo v l R,n⟩ ⟨(t,.sl 5 ((l.map Prod.fst).map O9))::sl,.box bo 58 [.val v]::R,n⟩:=fun g a w hG=>by
 obtain ⟨g1,hx1,hH1,hu⟩:=Q2 (A:=[.buf v (l.map Cx) 67 5,.box bo 58 [.val v]]) hG.heap
 obtain ⟨g2,hx2,hH2,hv⟩:=Q4 hH1 (k:=0) rfl
 refine ⟨g2,⟨hG.size,hG.defers,fun i=>?_,hH2⟩,hx1.trans hx2⟩
 show Rep g2 w _ (get ((t,_)::sl) i)
 rw [G2]
 by_cases e:t=i
 ·
  subst e
  rw [if_pos rfl]
  have h1:=(h▸hG.sl t:Rep g w _ _).inv_val
  rw [h1]
  exact rep_evs hv fun p hp=>(hu p hp).mono hx2
 · rw [if_neg e];exact ((hG.sl i).mono hx1).mono hx2
theorem lR {T:List Sc}{V:List Va}{l:Es}(h:evOK T V (l.map Prod.fst)){t:Tm}(ht:tmOK T V t):∃e u,l[t.v.toNat]? = some (e,u)∧e.values.length=(Fu T V t.v).length∧l.length=V.length:=by
 have hl:l.length=V.length:=by have:=h.len;simpa using this
 have hlt:t.v.toNat<l.length:=by have:=ht.v0;have:=ht.v1;omega
 have hg:=List.getElem?_eq_getElem hlt
 refine ⟨(l[t.v.toNat]).1,(l[t.v.toNat]).2,hg,?_,hl⟩
 have:=h.vals t.v.toNat (l[t.v.toNat]).1 (by rw [List.getElem?_map,hg];rfl)
 rw [this,Int.toNat_of_nonneg ht.v0]
theorem nK {T:List Sc}{V:List Va}{e:Ev}{t:Tm}(ht:tmOK T V t)(h1:t.op=1)(he:e.values.length=(Fu T V t.v).length):∃y,e.values[t.field.toNat]? = some y:=by
 have hf:=ht.f h1
 have hlt:t.field.toNat<e.values.length:=by rw [he];omega
 exact ⟨_,List.getElem?_eq_getElem hlt⟩
theorem Yo {α β:Type}{f:α→β}{l:List α}{j:Nat}{x:α}(h:l[j]? = some x):l.map f≠[]:=fun e=>by
 have:l = []:=by simpa using e
 rw [this] at h;simp at h
set_option maxRecDepth 20000
section
variable {P:Program} {d:Option Nat} {ty:TypeId} {pos:String} {aft:Array Edge} {gd:Option (Nat×Bool)} {ρ:Operand→AV}
theorem pF {t:TypeId}{m k:Operand}{kt et b i:Nat}{td tk te:TD}{n:List UInt8}{U:Um}(hT:Hu P TL)(ht:Bu TL t=some td)(hk:td.kind = .map kt et)(htk:Bu TL kt=some tk)(hkk:tk.kind = .str)
  (hte:Bu TL et=some te) (hz:te.zero = [.bool false]) (hzs:Qu P et=true) (hm:ρ m = .val (.map (some b))) (hkey:ρ k = .str n) :
  Dk P ⟨d,.lookup t m k false,ty,pos,aft,gd⟩ ρ (fun H=>H[i]? = some (.smap b (sE U))) (.bool (Fj U n)):=
 oU hT ht hk htk hkk hte hzs hm hkey (by rw [hz];exact xD n U)
theorem yS {t:TypeId}{m k v:Operand}{kt et b i:Nat}{td tk:TD}{n:List UInt8}{U:Um}{x:Bool}{H H2:List HO}(hT:Hu P TL)(ht:Bu TL t=some td)(hk:td.kind = .map kt et)(htk:Bu TL kt=some tk)(hkk:tk.kind = .str)
  (hm:ρ m = .val (.map (some b))) (hkey:ρ k = .str n) (hv:ρ v = .bool x) (hH:H[i]? = some (.smap b (sE U))) (hH2:H.set i (.smap b (sE (Uj U n x)))=H2) :
  Lc P ⟨d,.mapUpdate t m k v,ty,pos,aft,gd⟩ ρ H (fun y H'=>y = .junk∧H'=H2):=
 rT hT ht hk htk hkk hm hkey hv hH (by rw [sput_u];exact hH2)
theorem E_nmAdd {t:TypeId}{m k v:Operand}{kt et b i:Nat}{td tk:TD}{r:Wd}{N:Nm}{s:Fs}{H H2:List HO}(hT:Hu P TL)(ht:Bu TL t=some td)(hk:td.kind = .map kt et)(htk:Bu TL kt=some tk)(hkk:tk.kind = .struct [(0,1,true,4),(1,1,true,9),(2,3,true,143)])
  (hm:ρ m = .val (.map (some b))) (hkey:ρ k = .agg (Le r)) (hv:ρ v = .str s) (hH:H[i]? = some (.kmap b (nE N))) (hnew:Ik N r=none) (hH2:H.set i (.kmap b (nE (N ++ [(r,s)])))=H2) :
  Lc P ⟨d,.mapUpdate t m k v,ty,pos,aft,gd⟩ ρ H (fun y H'=>y = .junk∧H'=H2):=
 Ts (eq:=Js r) hT ht hk htk hkk hm hkey hv (Nl r r) (bD r N) hH (new_n hnew) (by rw [cM];exact hH2)
theorem E_nmSet {t:TypeId}{m k v:Operand}{kt et b i:Nat}{td tk:TD}{r:Wd}{N:Nm}{s s':Fs}{H H2:List HO}(hT:Hu P TL)(ht:Bu TL t=some td)(hk:td.kind = .map kt et)(htk:Bu TL kt=some tk)(hkk:tk.kind = .struct [(0,1,true,4),(1,1,true,9),(2,3,true,143)])
  (hm:ρ m = .val (.map (some b))) (hkey:ρ k = .agg (Le r)) (hv:ρ v = .str s') (hH:H[i]? = some (.kmap b (nE (N ++ [(r,s)])))) (hnew:Ik N r=none) (hH2:H.set i (.kmap b (nE (N ++ [(r,s')])))=H2) :
  Lc P ⟨d,.mapUpdate t m k v,ty,pos,aft,gd⟩ ρ H (fun y H'=>y = .junk∧H'=H2):=
 sJ (eq:=Js r) hT ht hk htk hkk hm hkey hv (Nl r r) (bD r _) hH (kidx_n hnew) rfl (nE_self r _) (by rw [kput_n];exact hH2)
end
theorem dI {r:Wd}{N:Nm}{s:Fs}(h:Ik N r=some s):match Hk (Js r) (nE N) with | some y=>y = .str s | none=>[AV.str []] = [.str s]:=by rw [Yw,h];rfl
theorem wL {P:Program}{f:FuncId}{args:List AV}{r0:AV}{bo:Nat}{v:Value}{l l':Es}{pre R:List HO}(h:Dw P f (Zc bo v l (pre++R)) args fun r H'=>r=r0∧H'=Zc bo v l' (pre++R)) :
  Dw P f (pre++Zc bo v l R) args fun r H'=>r=r0∧H'=pre++Zc bo v l' R:=
 (h.perm kV).post fun r K ⟨h1,h2⟩=>⟨_,h2▸kV.symm,h1,rfl⟩
/-! ### what is named -/
def Xt (p:Um×List Wd)(a:Ex):Um×List Wd:=(Uj p.1 (Ca a).text (Fj p.1 (Ca a).text||(Ca a).const),p.2 ++ [Ca a])
section
variable (T:List Sc) (V:List Va)
def Tn (p:Um×List Wd)(c:Lit):Um×List Wd:=if !Cq T V c.cond || !B7 T V c.cond then p else c.cond.args.foldl Xt p
def Hh (l:List Lit):Um×List Wd:=l.foldl (Tn T V) ([],[])
end
abbrev Ns:=Um×Nm×List Ev
def aN (U:Um)(N:Nm)(r:Wd):Um×Nm:=if (Ik N r).isSome then (U,N) else (Uj U (J4 U r) true,N ++ [(r,J4 U r)])
def nmT (U:Um)(N:Nm)(r:Wd):Fs:=(Ik N r).getD (J4 U r)
def Ia (w:Wm)(s:Ns)(x:Wd):Ns:=
 ((aN s.1 s.2.1 (Cf w x)).1,(aN s.1 s.2.1 (Cf w x)).2,if x.const then s.2.2 else T4 s.2.2 x.field (nmT s.1 s.2.1 (Cf w x)))
def bX (T:List Sc)(V:List Va)(w:Wm)(l:List Lit)(evs:List Ev):List Ev:=((Hh T V l).2.foldl (Ia w) ((Hh T V l).1,[],evs)).2.2
theorem dY (U:Um)(N:Nm)(r:Wd):Ik (aN U N r).2 r=some (nmT U N r):=by
 unfold aN nmT
 cases h:Ik N r with
 | some s=>exact h
 | none=>exact Tx h
theorem bS {U:Um}{N:Nm}{r:Wd}(h:Ik N r=none):aN U N r=(Uj U (J4 U r) true,N ++ [(r,J4 U r)]):=by unfold aN;rw [h];rfl
theorem dE {U:Um}{N:Nm}{r:Wd}(h:(!(Ik N r).isSome)=false):aN U N r=(U,N):=if_pos (by simpa using h)
theorem Ys (U:Um)(n:Fs)(b:Bool):(Uj U n b).length≤U.length+1:=by
 unfold Uj;cases iJ U n <;> simp
theorem cJ (U:Um)(N:Nm)(r:Wd):(aN U N r).1.length≤U.length+1:=by
 unfold aN;split
 · simp
 · exact Ys ..
section
variable {T:List Sc} {V:List Va}
theorem Td {p:Um×List Wd}{c:Lit}(h:(!Cq T V c.cond || !B7 T V c.cond)=true):Tn T V p c=p:=if_pos h
theorem Mj {p:Um×List Wd}{c:Lit}(h:(!Cq T V c.cond || !B7 T V c.cond)=false):Tn T V p c=c.cond.args.foldl Xt p:=Ck h
def wdOK (T:List Sc)(V:List Va)(x:Wd):Prop:=x.const=false→tmOK T V x.field∧x.field.op=1
theorem R5 {c:Lit}(hk:KOK T V c.cond)(h:(!Cq T V c.cond || !B7 T V c.cond)=false):c.cond.args.length=2∧∀a∈c.cond.args,(a.op==0||a.op==1)=true:=by
 rw [Bool.or_eq_false_iff,Bool.not_eq_false',Bool.not_eq_false'] at h
 have hc:=Mh h.1
 have hn:=(Be hk.nodes).1
 have ho:c.cond.op=9:=by
  have:=h.1
  unfold Cq at this
  rw [Bool.and_eq_true] at this
  simpa using this.1
 have hl:c.cond.args.length=2:=by
  unfold By at hn
  split at hn
  · cases hn
  split at hn
  · cases hn
  rename_i h2
  have h2':(c.cond.args.length:Int)=D6 c.cond.op:=by simpa using h2
  rw [ho] at h2'
  have:D6 9=2:=by decide
  omega
 have hs:=h.2
 unfold B7 at hs
 rw [if_neg (by rw [ho];decide),if_neg (by rw [hc];decide),if_pos h.1,Bool.and_eq_true] at hs
 refine ⟨hl,fun a ha=>?_⟩
 obtain ⟨a0,a1,he⟩:∃a0 a1,c.cond.args = [a0,a1]:=by
  match hq:c.cond.args,hl with
  | [x,y],_=>exact ⟨x,y,rfl⟩
 have e0:Ao c.cond=a0:=by unfold Ao;rw [he];rfl
 have e1:Bi c.cond=a1:=by unfold Bi;rw [he];rfl
 rw [e0,e1] at hs
 rw [he] at ha
 rcases List.mem_cons.1 ha with rfl | ha
 · exact hs.1
 · rw [List.mem_singleton.1 ha];exact hs.2
theorem oI {a:Ex}(hk:KOK T V a)(h:(a.op==0||a.op==1)=true):wdOK T V (Ca a):=by
 intro hc
 unfold Ca at hc ⊢
 split at hc
 · cases hc
 rename_i h0
 rw [if_neg h0]
 have h1:a.op=1:=by simp at h h0;omega
 have hl:=K7 (Be hk.nodes).1 (by rw [h1];rfl)
 exact ⟨tm_ok (by rw [hl];exact hk) (.inl h1),h1⟩
end
theorem fJ {l:Es}{t:Tm}{s:Fs}:(l.modify t.v.toNat fun p=>(Vy p.1 t.field.toNat (fun y=>{ y with text:=s }),p.2)).map Prod.fst=T4 (l.map Prod.fst) t s:=
 Rj (f:=fun e=>Vy e t.field.toNat fun y=>{ y with text:=s })
theorem S7 {w:Wm}{s:Ns}{x:Wd}(h:x.const=true):Ia w s x=((aN s.1 s.2.1 (Cf w x)).1,(aN s.1 s.2.1 (Cf w x)).2,s.2.2):=by unfold Ia;rw [if_pos h]
theorem S1 {w:Wm}{s:Ns}{x:Wd}(h:x.const=false):Ia w s x=((aN s.1 s.2.1 (Cf w x)).1,(aN s.1 s.2.1 (Cf w x)).2,T4 s.2.2 x.field (nmT s.1 s.2.1 (Cf w x))):=by unfold Ia;rw [if_neg (by rw [h];decide)]
theorem nm_f {w:Wm}{U:Um}{N:Nm}{l:Es}{x:Wd}{t:Um×Nm}(hT:t=aN U N (Cf w x))(h:x.const=false) :
  Ia w (U,N,l.map Prod.fst) x=(t.1,t.2,(l.modify x.field.v.toNat fun p=>(Vy p.1 x.field.field.toNat (fun y=>{ y with text:=nmT U N (Cf w x) }),p.2)).map Prod.fst):=by
 subst hT;rw [S1 h,fJ]
theorem nm_c {w:Wm}{U:Um}{N:Nm}{l:Es}{x:Wd}{t:Um×Nm}(hT:t=aN U N (Cf w x))(h:x.const=true):Ia w (U,N,l.map Prod.fst) x=(t.1,t.2,l.map Prod.fst):=by
 subst hT;rw [S7 h]
theorem aA {α β:Type}{f:β→α→β}{l:List α}{k:Nat}{a:α}{b:β}(h:l[k]? = some a):(l.drop k).foldl f b=(l.drop (k+1)).foldl f (f b a):=by rw [Ba h];rfl
theorem cWd_sc (l:List Wd):∀c∈l.map Le,Bh c=true:=Fm fun _=>rfl
end Go.Proofs.YtkddpedfbicbeaaGreatDoor

namespace Go.Aw
open Go
theorem lit1 {z:Nat}{ρ:Operand→AV}{y:Operand}{cs:List AV}(h:ρ y = .agg cs)(hl:Nat.beq cs.length z=true)(hs:Bh cs=true):Oj z ρ 0 [(0,y)]=true:=by
 unfold Oj Oj
 rw [h]
 show (true&&Nat.beq cs.length z&&Bh cs&&true)=true
 rw [hl,hs];rfl
end Go.Aw
namespace Go.Proofs.YtkddpedfbicbeaaGreatDoor
open Go Go.Aw
def zV (f:Fi):Vl:=⟨f.kind,0,[]⟩
def yJ (T:List Sc)(V:List Va)(w:Wm)(l:List Lit)(vals:List Int):List Ev:=bX T V w l (Gw vals 0 (Cj T V l).ts (Hx T 0 V))
theorem fN {T:List Sc}{i:Nat}{v:Va}{s:Sc}(h:T[v.type.toNat]? = some s):(Zf T i v).values=s.fields.map zV:=by
 unfold Zf;rw [h];rfl
theorem oG {vals:List Int}{k:Nat}(h:k+1<vals.length):(vals.map cI)[((k:Int)+1).toNat]? = some [.int .i64 (E3 vals ((k:Int)+1))]:=by
 have:=mX (l:=vals) (k:=(k:Int)+1) (by omega) (by omega)
 rw [List.getElem?_map,this];rfl
theorem aT {l:Es}{t:Tm}{x:Int}(h:(t.op==2)=true):(l.modify t.v.toNat fun p=>({ p.1 with time:=x },p.2)).map Prod.fst=Qm (l.map Prod.fst) t x:=by
 unfold Qm;rw [if_pos h];exact Rj (f:=fun e=>{ e with time:=x })
theorem jX {l:Es}{t:Tm}{x:Int}(h:(t.op==2)=false):(l.modify t.v.toNat fun p=>(Vy p.1 t.field.toNat (fun y=>{ y with num:=x }),p.2)).map Prod.fst=Qm (l.map Prod.fst) t x:=by
 unfold Qm;rw [if_neg (by rw [h];decide)];exact Rj (f:=fun e=>Vy e t.field.toNat fun y=>{ y with num:=x })
theorem Wy {vals:List Int}{ts:List Tm}{k:Nat}{t:Tm}{evs:List Ev}(h:ts[k]? = some t):Gw vals k (ts.drop k) evs=Gw vals (k+1) (ts.drop (k+1)) (Qm evs t (E3 vals ((k:Int)+1))):=by
 rw [Ba h,Gw]
theorem nG {T:List Sc}{V:List Va}(h:Jx T V){v:Va}(hv:v∈V):∃s,T[v.type.toNat]? = some s:=by
 have:=h v hv
 have hlt:v.type.toNat<T.length:=by omega
 exact ⟨_,List.getElem?_eq_getElem hlt⟩
theorem Sn {l:List Int}{k x v:Int}(h0:0≤k)(hk:k<(l.length:Int))(hx:0≤x):E3 (l.set k.toNat v) x=if x=k then v else E3 l x:=by
 unfold E3
 rw [List.getElem?_set]
 by_cases h:x=k
 ·
  subst h
  rw [if_pos rfl,if_pos (by omega),if_pos rfl];rfl
 · rw [if_neg (by omega),if_neg h]
/-- before bound i of round r: tm tells in which round an unknown was improved last -/
structure RInv (n:Nat) (bs:List Bd) (r i:Nat) (d:Ds) (tm:Int→Nat):Prop where
 s:d.sums.length=n
 l:d.last.length=n
 le:∀x,tm x≤r
 old:∀(j:Nat) (b:Bd),bs[j]? = some b→i≤j→1<r→tm b.y<r-1→E3 d.sums b.x≤E3 d.sums b.y+b.most
 new:∀(j:Nat) (b:Bd),bs[j]? = some b→j<i→tm b.y<r→E3 d.sums b.x≤E3 d.sums b.y+b.most
 pt:∀x:Int,0≤x→x<(n:Int)→1≤tm x→∃b,0≤E3 d.last x∧bs[(E3 d.last x).toNat]? = some b∧tm x≤tm b.y+1
abbrev inR (n:Nat)(b:Bd):Prop:=0≤b.x∧b.x<(n:Int)∧0≤b.y∧b.y<(n:Int)
theorem qD {n r i:Nat}{bs:List Bd}{d:Ds}{a:Int}{tm:Int→Nat}{b:Bd}(hr:1≤r)(h:RInv n bs r i d tm)(hb:bs[i]? = some b)(hbs:∀b∈bs,inR n b)(ha:a = -1∨(tm a=r∧0≤a∧a<(n:Int))) :
    ∃tm',RInv n bs r (i+1) (N9 i b (d,a)).1 tm'∧((N9 i b (d,a)).2 = -1∨(tm' (N9 i b (d,a)).2=r∧0≤(N9 i b (d,a)).2∧(N9 i b (d,a)).2<(n:Int))):=by
  have hbr:=hbs b (List.mem_of_getElem? hb)
  have hs:=h.s
  have hl:=h.l
  cases hq:decide (E3 d.sums b.y+b.most<E3 d.sums b.x) with
  | false=>
    rw [Yg (s:=(d,a)) hq]
    have hq':¬(E3 d.sums b.y+b.most<E3 d.sums b.x):=of_decide_eq_false hq
    refine ⟨tm,⟨h.s,h.l,h.le,fun j c hj hle h1 h2=>h.old j c hj (by omega) h1 h2,fun j c hj hlt h1=>?_,h.pt⟩,ha⟩
    rcases Nat.lt_or_ge j i with h3 | h3
    · exact h.new j c hj h3 h1
    · have:j=i:=by omega
      subst this
      rw [hb] at hj;cases hj
      show E3 d.sums b.x≤E3 d.sums b.y+b.most
      omega
  | true=>
    rw [Pu (s:=(d,a)) hq]
    have hq':E3 d.sums b.y+b.most<E3 d.sums b.x:=of_decide_eq_true hq
    have hty:r≤tm b.y+1:=by
      refine Nat.le_of_not_lt fun hlt=>?_
      rcases Nat.lt_or_ge 1 r with h1 | h1
      · have:=h.old i b hb (Nat.le_refl _) h1 (by omega);omega
      · omega
    refine ⟨fun x=>if x=b.x then r else tm x,⟨by simp only [List.length_set];exact hs,by simp only [List.length_set];exact hl,fun x=>?_,fun j c hj hle h1 h2=>?_,fun j c hj hlt h1=>?_,fun x hx0 hxn ht=>?_⟩,.inr ⟨if_pos rfl,hbr.1,hbr.2.1⟩⟩
    · show (if x=b.x then r else tm x)≤r
      split
      · exact Nat.le_refl _
      · exact h.le x
    · have hcr:=hbs c (List.mem_of_getElem? hj)
      simp only at h2 ⊢
      split at h2
      · omega
      · rename_i hne
        rw [Sn hbr.1 (by rw [hs];exact hbr.2.1) hcr.1,Sn hbr.1 (by rw [hs];exact hbr.2.1) hcr.2.2.1,if_neg hne]
        have h3:=h.old j c hj (by omega) h1 h2
        split
        · rename_i hcx;rw [hcx] at h3;omega
        · exact h3
    · have hcr:=hbs c (List.mem_of_getElem? hj)
      simp only at h1 ⊢
      split at h1
      · omega
      · rename_i hne
        rw [Sn hbr.1 (by rw [hs];exact hbr.2.1) hcr.1,Sn hbr.1 (by rw [hs];exact hbr.2.1) hcr.2.2.1,if_neg hne]
        rcases Nat.lt_or_ge j i with h3 | h3
        · have h4:=h.new j c hj h3 h1
          split
          · rename_i hcx;rw [hcx] at h4;omega
          · exact h4
        · have:j=i:=by omega
          subst this
          rw [hb] at hj;cases hj
          rw [if_pos rfl];omega
    · simp only at ht ⊢
      rw [Sn hbr.1 (by rw [hl];exact hbr.2.1) hx0]
      by_cases hxb:x=b.x
      · rw [if_pos hxb,if_pos hxb]
        refine ⟨b,by omega,by simpa using hb,?_⟩
        split
        · omega
        · exact hty
      · rw [if_neg hxb] at ht ⊢
        rw [if_neg hxb]
        obtain ⟨c,h1,h2,h3⟩:=h.pt x hx0 hxn ht
        refine ⟨c,h1,h2,?_⟩
        split
        · have:=h.le x;omega
        · exact h3
theorem oH {n r:Nat}{bs:List Bd}(hr:1≤r)(hbs:∀b∈bs,inR n b):∀(m i:Nat) {d:Ds} {a:Int} {tm:Int→Nat},i+m=bs.length→RInv n bs r i d tm→(a = -1∨(tm a=r∧0≤a∧a<(n:Int)))→
    ∃tm',RInv n bs r bs.length (Ga i (bs.drop i) (d,a)).1 tm'∧((Ga i (bs.drop i) (d,a)).2 = -1∨(tm' (Ga i (bs.drop i) (d,a)).2=r∧0≤(Ga i (bs.drop i) (d,a)).2∧(Ga i (bs.drop i) (d,a)).2<(n:Int)))
  | 0,i,d,a,tm,hm,h,ha=>by
    have hi:i=bs.length:=by omega
    rw [Z8 (List.drop_eq_nil_of_le (by omega))]
    exact ⟨tm,hi▸h,ha⟩
  | m+1,i,d,a,tm,hm,h,ha=>by
    have hlt:i<bs.length:=by omega
    have hb:=List.getElem?_eq_getElem hlt
    rw [Q5 hb]
    obtain ⟨tm',h1,h2⟩:=qD hr h hb hbs ha
    exact oH hr hbs m (i+1) (d:=(N9 i bs[i] (d,a)).1) (a:=(N9 i bs[i] (d,a)).2) (by omega) h1 h2
theorem kZ {n r:Nat}{bs:List Bd}{d:Ds}{tm:Int→Nat}(h:RInv n bs r bs.length d tm):RInv n bs (r+1) 0 d tm:=
 ⟨h.s,h.l,fun x=>Nat.le_succ_of_le (h.le x),fun j b hj _ _ h2=>h.new j b hj (List.getElem?_eq_some_iff.1 hj).1 (by omega),fun j b _ hlt=>absurd hlt (by omega),h.pt⟩
theorem Vc {n:Nat}{bs:List Bd}(hbs:∀b∈bs,inR n b):∀(m r:Nat) {d:Ds} {a:Int} {tm:Int→Nat},1≤r→RInv n bs r 0 d tm→(1≤m∨(tm a=r-1∧0≤a∧a<(n:Int)))→¬(D8 bs m (d,a)).2<0→
    ∃tm',RInv n bs (r+m) 0 (D8 bs m (d,a)).1 tm'∧tm' (D8 bs m (d,a)).2=r+m-1∧0≤(D8 bs m (d,a)).2∧(D8 bs m (d,a)).2<(n:Int)
  | 0,r,d,a,tm,hr,h,ha,_=>by
    rcases ha with ha | ha
    · omega
    · exact ⟨tm,h,by show tm a=r+0-1;rw [ha.1];rfl,ha.2⟩
  | m+1,r,d,a,tm,hr,h,_,hne=>by
    obtain ⟨tm',h1,h2⟩:=oH hr hbs bs.length 0 (a:=-1) (by omega) h (.inl rfl)
    rw [List.drop_zero] at h1 h2
    cases hq:decide ((Jr bs d).2<0) with
    | true=>rw [Ki (s:=(d,a)) hq] at hne;exact absurd (of_decide_eq_true hq) hne
    | false=>
      rw [Ma (s:=(d,a)) hq] at hne ⊢
      have hq':=of_decide_eq_false hq
      have h3:=h2.resolve_left (fun e=>hq' (by show (Ga 0 bs (d,-1)).2<0;rw [e];decide))
      have:=Vc hbs m (r+1) (d:=(Jr bs d).1) (a:=(Jr bs d).2) (by omega) (kZ h1) (.inr ⟨by show tm' (Ga 0 bs (d,-1)).2=_;rw [h3.1];omega,h3.2⟩) hne
      rw [show r+1+m=r+(m+1) by omega] at this
      exact this
def Hv (bs:List Bd)(d:Ds)(a:Int):Nat→Int
 | 0=>a
 | k+1=>Jj bs d (Hv bs d a k)
theorem Vh {bs:List Bd}{d:Ds}{a:Int}:∀(k j:Nat),Kw bs d k (Hv bs d a j)=Hv bs d a (j+k)
  | 0,j=>rfl
  | k+1,j=>by
    rw [Xx]
    have:=Vh (bs:=bs) (d:=d) (a:=a) k (j+1)
    rw [show j+(k+1)=j+1+k by omega,←this];rfl
theorem vY {n:Nat}{bs:List Bd}(hn:1≤n)(hbs:∀b∈bs,inR n b)(hge:decide ((Em (zn n bs)).2<0)=false):Nb n bs=true:=by
  have hst:RInv n bs 1 0 ⟨List.replicate n 0,N1 n⟩ (fun _=>0):=⟨by simp,by simp [N1],fun _=>by omega,fun j b _ _ h=>absurd h (by omega),fun j b _ h=>absurd h (by omega),fun x _ _ h=>absurd h (by simp)⟩
  have hge':=of_decide_eq_false hge
  rw [Nc] at hge'
  obtain ⟨tm,h1,h2,h3,h4⟩:=Vc hbs (n+1) 1 (a:=-1) (Nat.le_refl _) hst (.inl (by omega)) hge'
  rw [←Nc] at h1 h2 h3 h4
  unfold Nb
  generalize Em (zn n bs)=e at h1 h2 h3 h4
  have key:∀k,k≤n→0≤Hv bs e.1 e.2 k∧Hv bs e.1 e.2 k<(n:Int)∧n+1≤tm (Hv bs e.1 e.2 k)+k:=by
    intro k
    induction k with
    | zero=>intro _;exact ⟨h3,h4,by show n+1≤tm e.2+0;omega⟩
    | succ k ih=>
      intro hk
      obtain ⟨q1,q2,q3⟩:=ih (by omega)
      obtain ⟨b,p1,p2,p3⟩:=h1.pt _ q1 q2 (by omega)
      have hb:=hbs b (List.mem_of_getElem? p2)
      have he:Hv bs e.1 e.2 (k+1)=b.y:=by
        show Jj bs e.1 (Hv bs e.1 e.2 k)=b.y
        unfold Jj;rw [p2];rfl
      rw [he]
      exact ⟨hb.2.2.1,hb.2.2.2,by omega⟩
  have hok:∀k,k≤n→Xl bs e.1 (Hv bs e.1 e.2 k)=true:=by
    intro k hk
    obtain ⟨q1,q2,q3⟩:=key k hk
    obtain ⟨b,p1,p2,_⟩:=h1.pt _ q1 q2 (by omega)
    have:=(List.getElem?_eq_some_iff.1 p2).1
    unfold Xl
    rw [h1.l]
    simp only [Bool.and_eq_true,decide_eq_true_eq]
    exact ⟨⟨⟨q1,q2⟩,p1⟩,by omega⟩
  -- two of the first n + 1 are the same
  have hrep:∃i j,i<j∧j≤n∧Hv bs e.1 e.2 i=Hv bs e.1 e.2 j:=by
    refine Classical.byContradiction fun hno=>?_
    have hn1:((List.range (n+1)).map (Hv bs e.1 e.2)).Nodup:=by
      refine List.pairwise_map.2 (List.Pairwise.imp_of_mem ?_ List.pairwise_lt_range)
      intro a b ha hb hlt heq
      exact hno ⟨a,b,hlt,by have:=List.mem_range.1 hb;omega,heq⟩
    have hs:(List.range (n+1)).map (Hv bs e.1 e.2) ⊆ (List.range n).map (fun k:Nat=>(k:Int)):=fun x hx=>by
      obtain ⟨k,hk,rfl⟩:=List.mem_map.1 hx
      obtain ⟨q1,q2,_⟩:=key k (by have:=List.mem_range.1 hk;omega)
      exact List.mem_map.2 ⟨(Hv bs e.1 e.2 k).toNat,List.mem_range.2 (by omega),by omega⟩
    have:=T5 hn1 hs
    simp at this
    omega
  obtain ⟨i,j,hij,hjn,heq⟩:=hrep
  have hper:∀k,Hv bs e.1 e.2 (i+k)=Hv bs e.1 e.2 (j+k):=by
    intro k
    induction k with
    | zero=>exact heq
    | succ k ih=>show Jj bs e.1 (Hv bs e.1 e.2 (i+k))=Jj bs e.1 (Hv bs e.1 e.2 (j+k));rw [ih]
  have hall:∀k,Xl bs e.1 (Hv bs e.1 e.2 k)=true:=by
    intro k
    induction k using Nat.strongRecOn with
    | _ k ih=>
      rcases Nat.lt_or_ge n k with h | h
      · have:=hper (k-j)
        rw [show j+(k-j)=k by omega] at this
        rw [←this]
        exact ih _ (by omega)
      · exact hok k h
  have hback:∀m k,Ly bs e.1 m (Hv bs e.1 e.2 k)=true:=by
    intro m
    induction m with
    | zero=>intro k;rfl
    | succ m ih=>intro k;rw [Ly,hall k];exact ih (k+1)
  have hcyc:∀m k,n≤k→k<n+(j-i)→n+(j-i)≤k+m→Ms bs e.1 (Hv bs e.1 e.2 n) m (Hv bs e.1 e.2 k)=true:=by
    intro m
    induction m with
    | zero=>intro k h5 h6 h7;omega
    | succ m ih=>
      intro k h5 h6 h7
      rw [Ms,hall k,Bool.true_and,Bool.or_eq_true]
      rcases Nat.lt_or_ge (k+1) (n+(j-i)) with h8 | h8
      · exact .inr (ih (k+1) (by omega) h8 (by omega))
      · left
        have:=hper (n-i)
        rw [show i+(n-i)=n by omega,show j+(n-i)=k+1 by omega] at this
        rw [this]
        exact beq_self_eq_true (Jj bs e.1 (Hv bs e.1 e.2 k))
  rw [Bool.and_eq_true]
  have hbn:Kw bs e.1 n e.2=Hv bs e.1 e.2 n:=by have:=Vh (bs:=bs) (d:=e.1) (a:=e.2) n 0;rwa [Nat.zero_add] at this
  rw [hbn]
  exact ⟨hback n 0,hcyc (n+1) n (Nat.le_refl _) (by omega) (by omega)⟩
theorem vQ (T:List Sc)(V:List Va)(l:List Lit):SOLV T V l:=fun h1 h2=>by
 have hz:=eD (n:=((zN T V l:Nat):Int)) (bs:=(C8 T V l).bs) h1
 exact vY (n:=zN T V l) (by omega) hz.2.2.2 h2
end Go.Proofs.YtkddpedfbicbeaaGreatDoor
