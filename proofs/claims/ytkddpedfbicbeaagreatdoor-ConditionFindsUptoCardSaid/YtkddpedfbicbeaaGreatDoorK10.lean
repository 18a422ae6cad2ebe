/-
  Several texts in one: S25, As, S26, S27, S28, S29, S31. No condition.
-/
import Derived.Test.YtkddpedfbicbeaaGreatDoorK09
set_option linter.unusedVariables false
set_option linter.unusedSimpArgs false
namespace Go.Proofs.YtkddpedfbicbeaaGreatDoor
open Go Go.Aw
section
variable {T:List Sc} {V:List Va}
theorem fJ {c:Lit}{x z r:Int}(hr : -140737488355328≤r∧r≤140737488355328):∀b∈D6 c x z r,-Jp≤b.most∧b.most≤Jp:=by
 have hb:Jp=140737488355329:=rfl
 unfold D6
 repeat' split
 all_goals
  intro b hb'
  simp only [List.mem_cons,List.not_mem_nil,or_false] at hb'
  rcases hb' with rfl | rfl <;> first | omega | skip
 all_goals (try (simp only;omega))
theorem Xg:∀{l:List Lit},U6 T V l→∀{s:Sy},(∀b∈s.bs,-Jp≤b.most∧b.most≤Jp)→∀b∈(l.foldl (Dd T V) s).bs,-Jp≤b.most∧b.most≤Jp
  | [],_,s,hs=>hs
  | c::r,hl,s,hs=>by
    rw [List.foldl_cons]
    refine Xg (fun x hx=>hl x (List.mem_cons_of_mem _ hx)) ?_
    cases h : !(Aa T V c).2 with
    | true=>rw [Lo h];exact hs
    | false=>
      rw [Lr h]
      intro b hb
      rcases List.mem_append.1 hb with hb | hb
      · exact hs b hb
      · exact fJ (Q1 (hl c (List.mem_cons_self ..)).1 (hl c (List.mem_cons_self ..)).2).rest b hb
theorem X2:∀(ts:List Tm) (i:Nat),∀b∈Hj T V i ts,-Jp≤b.most∧b.most≤Jp
  | [],i,b,h=>by cases h
  | t::r,i,b,h=>by
    have hb:Jp=140737488355329:=rfl
    have hl:=Rv (T:=T) (V:=V) t
    rw [Hj] at h
    rcases List.mem_cons.1 h with rfl | h
    · simp only;omega
    · rcases List.mem_cons.1 h with rfl | h
      · simp only;omega
      · exact X2 r (i+1) b h
def zN (T:List Sc)(V:List Va)(l:List Lit):Nat:=(Cg T V l).ts.length+1
theorem oO (l:List Lit):C7 T V l=zn (zN T V l) (C7 T V l).bs:=rfl
theorem Pz {l:List Lit}(hl:U6 T V l):∀b∈(C7 T V l).bs,-Jp≤b.most∧b.most≤Jp:=by
 intro b hb
 rcases List.mem_append.1 hb with hb | hb
 · exact X2 _ _ b hb
 · exact Xg hl (s:=⟨[],[]⟩) (fun b h=>by cases h) b hb
/-- the walk back along the last bounds of the zone of a clause comes round, where there is no model -/
def SOLV (T:List Sc)(V:List Va)(l:List Lit):Prop:=(I6 (C7 T V l) != 0)=false→decide ((El (C7 T V l)).2<0)=false→Nd (zN T V l) (C7 T V l).bs=true
/-- solve: the values, and whether there is something -/
def Lv (T:List Sc)(V:List Va)(l:List Lit):List Int:=if !fitsS (C7 T V l) then [] else (Ew (C7 T V l)).values
def Ze (T:List Sc)(V:List Va)(l:List Lit):Bool:=if !fitsS (C7 T V l) then true else (Eh T V l).2&&(Ew (C7 T V l)).ok
theorem solV_1 {l:List Lit}(h:(!fitsS (C7 T V l))=true):Lv T V l = []:=if_pos h
theorem mP {l:List Lit}(h:(!fitsS (C7 T V l))=false):Lv T V l=(Ew (C7 T V l)).values:=Ci h
theorem vQ {l:List Lit}(h:(!fitsS (C7 T V l))=true):Ze T V l=true:=if_pos h
theorem eH {l:List Lit}(h:(!fitsS (C7 T V l))=false):Ze T V l=((Eh T V l).2&&(Ew (C7 T V l)).ok):=Ci h
theorem lE (l:List Lit):Rp (Eh T V l).1:=dF l [] Vx
def Ln (T:List Sc)(V:List Va)(l:List Lit):Bool:=l.all (fun c=>Cz T V c.cond)&&(Rt (C7 T V l)&&decide ((l.length:Int)≤256))
theorem xO {l:List Lit}(h:l.all (fun c=>Cz T V c.cond)=true):Ln T V l=(Rt (C7 T V l)&&decide ((l.length:Int)≤256)):=by unfold Ln;rw [h,Bool.true_and]
theorem Aag {l:List Lit}{k:Nat}{c:Lit}(hc:l[k]? = some c)(h:Cz T V c.cond=false):Ln T V l=false:=by
 unfold Ln
 have:l.all (fun c=>Cz T V c.cond)=false:=by
  rw [List.all_eq_false]
  exact ⟨c,List.mem_of_getElem? hc,by rw [h];decide⟩
 rw [this,Bool.false_and]
end
end Go.Proofs.YtkddpedfbicbeaaGreatDoor

namespace Go.Aw
open Go
theorem AW.ghostPost {P:Program}{c:Code}{Q:Exit→St→Prop}{s:St}(h:AW P c (fun e s=>∃s',GS s s'∧Q e s') s):AW P c Q s:=by
 intro Q' g a w hG hQ
 refine h Q' g a w hG fun e g' s' a' w' h1 h2 ⟨s2,h3,h4⟩=>?_
 obtain ⟨g2,k1,k2⟩:=h3 g' a' w' h1
 exact hQ e g2 s2 a' w' k1 (h2.trans k2) h4
def Vv:List (List UInt8×AV)→List UInt8→Option Nat
 | [],_=>none
 | (k,_)::r,n=>if k=n then some 0 else (Vv r n).map (· + 1)
def Abg (es:List (List UInt8×AV))(n:List UInt8)(x:AV):List (List UInt8×AV):=match Vv es n with | some j=>es.modify j fun _=>(n,x) | none=>es ++ [(n,x)]
theorem bH {n:List UInt8}:∀{es:List (List UInt8×AV)},Vv es n=none→Ma es n=none
  | [],_=>rfl
  | (k,x)::r,h=>by
    rw [Vv] at h
    split at h
    · cases h
    · rename_i hk
      rw [Ma,if_neg hk]
      exact bH (Option.map_eq_none_iff.1 h)
theorem pP {n:List UInt8}:∀{es:List (List UInt8×AV)} {j:Nat},Vv es n=some j→∃x,es[j]? = some (n,x)∧Ma es n=some x
  | [],j,h=>by cases h
  | (k,x)::r,j,h=>by
    rw [Vv] at h
    split at h
    · rename_i hk
      cases h;subst hk
      exact ⟨x,rfl,by rw [Ma,if_pos rfl]⟩
    · rename_i hk
      obtain ⟨j',h1,h2⟩:=Option.map_eq_some_iff.1 h
      subst h2
      obtain ⟨y,h3,h4⟩:=pP h1
      exact ⟨y,h3,by rw [Ma,if_neg hk];exact h4⟩
theorem fZ {n:List UInt8}:∀(l:List MapEntry) (es:List (List UInt8×AV)) (i j:Nat),l.length=es.length→(∀(j:Nat) m x,es[j]? = some (m,x)→(l.getD j default).key = .string ⟨m.toArray⟩)→Vv es n=some j→
    Instr.findNow .string (.string ⟨n.toArray⟩) l i=some (some (i+j,(l.getD j default).val))
  | [],[],_,_,_,_,hg=>by cases hg
  | [],_::_,_,_,h,_,_=>by simp at h
  | e::l,[],_,_,h,_,_=>by simp at h
  | e::l,(m,y)::es,i,j,h,hk,hg=>by
    have h1:e.key = .string ⟨m.toArray⟩:=by simpa using hk 0 m y rfl
    rw [Vv] at hg
    by_cases hm:m=n
    · subst hm
      rw [if_pos rfl] at hg
      cases hg
      unfold Instr.findNow
      simp [h1,Instr.sameNow,sY]
    · rw [if_neg hm] at hg
      obtain ⟨j',h3,rfl⟩:=Option.map_eq_some_iff.1 hg
      have:((⟨n.toArray⟩:ByteArray)==⟨m.toArray⟩)=false:=by rw [sY];simp;exact fun e=>hm e.symm
      unfold Instr.findNow
      simp only [h1,Instr.sameNow,this]
      have ih:=fZ l es (i+1) j' (by simpa using h) (fun j m x hj=>by simpa using hk (j+1) m x hj) h3
      rw [show i+(j'+1)=i+1+j' by omega]
      simpa using ih
section
variable {P:Program} {T:List (Nat×TD)} {d:Option Nat} {ty:TypeId} {pos:String} {aft:Array Edge} {gd:Option (Nat×Bool)} {ρ:Operand→AV}
theorem rG {t:TypeId}{m k v:Operand}{kt et b i j:Nat}{td tk:TD}{n:List UInt8}{es:List (List UInt8×AV)}{x:AV}{H H2:List HO}(hT:Hq P T)(ht:Bu T t=some td)(hk:td.kind = .map kt et)(htk:Bu T kt=some tk)(hkk:tk.kind = .str)
  (hm:ρ m = .val (.map (some b))) (hkey:ρ k = .str n) (hv:ρ v=x) (hH:H[i]? = some (.smap b es)) (hold:Vv es n=some j) (hH2:H.set i (.smap b (es.modify j fun _=>(n,x)))=H2) :
  La P ⟨d,.mapUpdate t m k v,ty,pos,aft,gd⟩ ρ H (fun y H'=>y = .junk∧H'=H2):=by
 subst hH2
 intro g w a next Q hr hHK hn
 have h1:=(hm▸hr m (by simp [Op.operands]):Rep g w _ _).inv_val
 have h2:=(hkey▸hr k (by simp [Op.operands]):Rep g w _ _).inv_str.1
 have h3:Rep g w (a.eval v) x:=hv▸hr v (by simp [Op.operands])
 obtain ⟨hg,ms,clock,hheap,hl,hks,hvs⟩:=hHK.ok _ (List.mem_of_getElem? hH)
 have hu:=Is (hT t td ht) hk
 have huk:=K5 (hT kt tk htk) hkk
 have hl':ms.toList.length=es.length:=by simpa using hl
 have hfind:=fZ (n:=n) ms.toList es 0 j hl' (fun j m x hj=>by simpa using hks j m x hj) hold
 rw [Nat.zero_add] at hfind
 have hget:(getObj b).run P w = .ok (.map ms clock) w:=by simp [getObj,Sem.run,hheap]
 obtain ⟨y,hj,_⟩:=pP hold
 have hlt:j<ms.size:=by rw [hl];exact (List.getElem?_eq_some_iff.1 hj).1
 have e1:ms[j]? = some (ms.getD j default):=by simp [Array.getD_eq_getD_getElem?,hlt]
 have hkey0:=hks j n y hj
 have hkj:(((ms[j]?).map (·.key)).getD (.string ⟨n.toArray⟩)) = .string ⟨n.toArray⟩:=by
  rw [e1];simp only [Option.map_some,Option.getD_some,hkey0]
 have hkt:(Instr.keyThatStays (.string ⟨n.toArray⟩) (.string ⟨n.toArray⟩)).run P w = .ok (.string ⟨n.toArray⟩) w:=by
  unfold Instr.keyThatStays
  rw [if_pos (by
   have e:((⟨n.toArray⟩:ByteArray)==⟨n.toArray⟩)=true:=by rw [sY];simp
   simp [Instr.sameBits,e])];rfl
 obtain ⟨hset,hx,hnew,hoth⟩:=Lf (P:=P) (.map (ms.modify j fun e=>{ e with key:=.string ⟨n.toArray⟩,val:=a.eval v }) clock) hg hheap
 have hrun:(Instr.mapUpdate t (a.eval m) (a.eval k) (a.eval v)).run P w = .ok () { w with heap:=w.heap.setIfInBounds b (.map (ms.modify j fun e=>{ e with key:=.string ⟨n.toArray⟩,val:=a.eval v }) clock) }:=by
  have hfk:(Instr.findKey kt (.string ⟨n.toArray⟩) ms.toList).run P w = .ok (some (j,(ms.toList.getD j default).val)) w:=by
   unfold Instr.findKey
   rw [Sem.run_bind,Ba huk]
   simp only [Result.andThen_ok,hfind,Sem.run_pure]
  unfold Instr.mapUpdate
  rw [Sem.run_bind,Ba hu]
  simp only [Result.andThen_ok,h1,Sem.run_bind,hget,h2,K1 (n:=9999) huk,hfk,hkj,hkt,hset]
 unfold Oper.wp
 simp only [execOp,Sem.run_bind,hrun,Result.andThen_ok,Sem.run_pure]
 have hgetm:∀i,i<ms.size→(ms.modify j fun e=>{ e with key:=.string ⟨n.toArray⟩,val:=a.eval v }).getD i default=if j=i then { ms.getD i default with key:=.string ⟨n.toArray⟩,val:=a.eval v } else ms.getD i default:=fun i hi=>by
  simp only [Array.getD_eq_getD_getElem?,Array.getElem?_modify]
  by_cases h:j=i
  · subst h;simp [hi]
  · simp [h]
 have hkp:∀i k z,(es.modify j fun _=>(n,x))[i]? = some (k,z)→i<ms.size∧if j=i then k=n∧z=x else es[i]? = some (k,z):=fun i k z hi=>by
  have h1:=(List.getElem?_eq_some_iff.1 hi).1
  rw [List.length_modify,←hl] at h1
  refine ⟨h1,?_⟩
  simp only [List.getElem?_modify] at hi
  by_cases h:j=i
  · subst h;rw [hj] at hi;simp at hi;simp [hi.1.symm,hi.2.symm]
  · simpa [h] using hi
 refine hn g _ undef .junk _ ⟨rfl,rfl⟩ (.junk _) (hHK.set hx hH (fun c hc=>.inl hc) ⟨hg,_,_,hnew,by simp [hl],fun i k z hi=>?_,fun i k z hi=>?_⟩ (fun c hc hne _=>⟨rfl,hoth c fun e=>hne (by rw [e];rfl)⟩)) hx
 ·
  obtain ⟨q1,q2⟩:=hkp i k z hi
  rw [hgetm i q1]
  by_cases h:j=i
  · rw [if_pos h];rw [if_pos h] at q2;rw [q2.1]
  · rw [if_neg h];rw [if_neg h] at q2;exact hks i k z q2
 ·
  obtain ⟨q1,q2⟩:=hkp i k z hi
  rw [hgetm i q1]
  by_cases h:j=i
  · rw [if_pos h];rw [if_pos h] at q2;rw [q2.2];exact h3.mono hx
  · rw [if_neg h];rw [if_neg h] at q2;exact (hvs i k z q2).mono hx

/-- A key gets a value, whether it was there or not. -/
theorem sB {t:TypeId}{m k v:Operand}{kt et b i:Nat}{td tk:TD}{n:List UInt8}{es:List (List UInt8×AV)}{x:AV}{H H2:List HO}(hT:Hq P T)(ht:Bu T t=some td)(hk:td.kind = .map kt et)(htk:Bu T kt=some tk)(hkk:tk.kind = .str)
  (hm:ρ m = .val (.map (some b))) (hkey:ρ k = .str n) (hv:ρ v=x) (hH:H[i]? = some (.smap b es)) (hH2:H.set i (.smap b (Abg es n x))=H2) :
  La P ⟨d,.mapUpdate t m k v,ty,pos,aft,gd⟩ ρ H (fun y H'=>y = .junk∧H'=H2):=by
 unfold Abg at hH2
 cases hs:Vv es n with
 | none=>rw [hs] at hH2;exact Ur hT ht hk htk hkk hm hkey hv hH (bH hs) hH2
 | some j=>rw [hs] at hH2;exact rG hT ht hk htk hkk hm hkey hv hH hs hH2
end
end Go.Aw

namespace Go.Proofs.YtkddpedfbicbeaaGreatDoor
open Go Go.Aw
abbrev Fq:=List UInt8
/-! ### what is used -/
abbrev Um:=List (Fq×Bool)
def sE (U:Um):List (List UInt8×AV):=U.map fun p=>(p.1,AV.bool p.2)
def Fe:Um→Fq→Bool
 | [],_=>false
 | (k,b)::r,n=>if k=n then b else Fe r n
def eY:Um→Fq→Option Nat
 | [],_=>none
 | (k,_)::r,n=>if k=n then some 0 else (eY r n).map (· + 1)
def Tn (U:Um)(n:Fq)(b:Bool):Um:=match eY U n with | some j=>U.modify j fun _=>(n,b) | none=>U ++ [(n,b)]
theorem zI (n:Fq):∀U:Um,match Ma (sE U) n with | some y=>y = .bool (Fe U n) | none=>[AV.bool false] = [.bool (Fe U n)]
  | []=>rfl
  | (k,b)::r=>by
    have ih:=zI n r
    show match (if k=n then some (AV.bool b) else Ma (sE r) n) with | some y=>y = .bool (if k=n then b else Fe r n) | none=>[AV.bool false] = [.bool (if k=n then b else Fe r n)]
    by_cases h:k=n
    · rw [if_pos h,if_pos h]
    · rw [if_neg h,if_neg h];exact ih
theorem vM (n:Fq):∀U:Um,Vv (sE U) n=eY U n
  | []=>rfl
  | (k,b)::r=>by
    show (if k=n then some 0 else (Vv (sE r) n).map (· + 1))=if k=n then some 0 else (eY r n).map (· + 1)
    rw [vM n r]
theorem Ly {α β:Type}(f:α→β)(g:α→α)(h:β→β)(hc:∀x,f (g x)=h (f x)):∀(l:List α) (j:Nat),(l.modify j g).map f=(l.map f).modify j h
 | [],j=>by simp
 | a::r,0=>by simp [hc]
 | a::r,j+1=>by simp [Ly f g h hc r j]
theorem sput_u (U:Um)(n:Fq)(b:Bool):Abg (sE U) n (.bool b)=sE (Tn U n b):=by
 unfold Abg Tn
 rw [vM]
 cases eY U n with
 | none=>simp [sE]
 | some j=>exact (Ly (fun p:Fq×Bool=>(p.1,AV.bool p.2)) (fun _=>(n,b)) (fun _=>(n,AV.bool b)) (fun _=>rfl) U j).symm
theorem fA {n:Fq}:∀{U:Um},Fe U n=true→n∈U.map Prod.fst
  | [],h=>by cases h
  | (k,b)::r,h=>by
    rw [Fe] at h
    by_cases hk:k=n
    · simp [hk]
    · rw [if_neg hk] at h;simp [fA h]
/-! ### fresh names -/
theorem aQ {a b:Nat}(ha:a<256)(hb:b<256)(h:UInt8.ofNat a=UInt8.ofNat b):a=b:=by
 have:=congrArg UInt8.toNat h
 simp at this
 omega
theorem uT {u:Nat}:Go.Lib.decDigits u≠[]:=by rw [Go.Lib.decDigits];split <;> simp
theorem lX {u:Nat}(h:¬u<10):Go.Lib.decDigits u=Go.Lib.decDigits (u / 10) ++ [UInt8.ofNat (48+u % 10)]:=by rw [Go.Lib.decDigits,dif_neg h]
theorem Aba:∀(u v:Nat),Go.Lib.decDigits u=Go.Lib.decDigits v→u=v:=by
  intro u
  induction u using Nat.strongRecOn with
  | _ u ih=>
    intro v h
    by_cases h1:u<10
    · rw [Go.Lib.decDigits_one h1] at h
      by_cases h2:v<10
      · rw [Go.Lib.decDigits_one h2] at h
        have:=aQ (by omega) (by omega) (List.cons.inj h).1
        omega
      · rw [lX h2] at h
        have:=congrArg List.length h
        simp at this
        exact absurd this uT
    · rw [lX h1] at h
      by_cases h2:v<10
      · rw [Go.Lib.decDigits_one h2] at h
        have:=congrArg List.length h
        simp at this
        exact absurd this uT
      · rw [lX h2] at h
        obtain ⟨e1,e2⟩:=List.append_inj' h rfl
        have h3:=ih (u / 10) (by omega) _ e1
        have h4:=aQ (by omega) (by omega) (List.cons.inj e2).1
        omega
theorem T2 {α:Type}[DecidableEq α]:∀{l m:List α},l.Nodup→l ⊆ m→l.length≤m.length
  | [],m,_,_=>Nat.zero_le _
  | a::r,m,hn,hs=>by
    have h1:=List.nodup_cons.1 hn
    have ha:a∈m:=hs (List.mem_cons_self ..)
    have h2:r ⊆ m.erase a:=fun x hx=>(List.mem_erase_of_ne (fun e:x=a=>h1.1 (by rw [←e];exact hx))).2 (hs (List.mem_cons_of_mem _ hx))
    have h3:=T2 h1.2 h2
    have h4:=List.length_erase_of_mem ha
    have h5:=List.length_pos_of_mem ha
    rw [List.length_cons];omega
def wN (k:Nat):Fq:=119::Go.Lib.itoa (k:Int)
theorem wN_inj {a b:Nat}(h:wN a=wN b):a=b:=by
 have h1:=(List.cons.inj h).2
 unfold Go.Lib.itoa at h1
 rw [if_neg (by omega),if_neg (by omega)] at h1
 have:=Aba _ _ h1
 omega
theorem O9 {U:Um}:∀{j:Nat},(∀i,i<j→Fe U (wN i)=true)→j≤U.length:=by
 intro j h
 have hn:((List.range j).map wN).Nodup:=List.Pairwise.map _ (fun a b hab e=>hab (wN_inj e)) List.nodup_range
 have hs:(List.range j).map wN ⊆ U.map Prod.fst:=fun x hx=>by
  obtain ⟨i,hi,rfl⟩:=List.mem_map.1 hx
  exact fA (h i (List.mem_range.1 hi))
 have:=T2 hn hs
 simpa using this
def Ui (U:Um):Nat→Nat→Nat
 | 0,k=>k
 | f+1,k=>if Fe U (wN k) then Ui U f (k+1) else k
def dD (U:Um):Fq:=wN (Ui U U.length 0)
theorem nY {U:Um}{f k:Nat}(h:Fe U (wN k)=false):Ui U f k=k:=by
 cases f with
 | zero=>rfl
 | succ f=>rw [Ui,if_neg (by rw [h];decide)]
theorem nQ {U:Um}{f k:Nat}(h:Fe U (wN k)=true):Ui U (f+1) k=Ui U f (k+1):=by rw [Ui,if_pos h]
/-- how far the naming has come: the next number and the text so far -/
def nmI (U:Um)(r:Wd)(n:Nat)(s:Fq):Prop:=(n=0∧s=r.text)∨(r.const=false∧∃j,n=j+1∧s=wN j∧(∀i,i<j→Fe U (wN i)=true)∧Ui U U.length 0=Ui U (U.length-j) j)
theorem Aar {U:Um}{r:Wd}{n:Nat}{s:Fq}(h:nmI U r n s)(hc:r.const=false)(hu:n=0∨Fe U s=true):nmI U r (n+1) (wN n):=by
 rcases h with ⟨rfl,_⟩ | ⟨_,j,rfl,rfl,h1,h2⟩
 · exact .inr ⟨hc,0,rfl,rfl,fun i hi=>absurd hi (by omega),rfl⟩
 ·
  have hu':Fe U (wN j)=true:=hu.resolve_left (by omega)
  have h3:∀i,i<j+1→Fe U (wN i)=true:=fun i hi=>by
   rcases Nat.lt_or_ge i j with h | h
   · exact h1 i h
   · rw [show i=j by omega];exact hu'
  have h4:=O9 h3
  exact .inr ⟨hc,j+1,rfl,rfl,h3,by rw [h2,show U.length-j=(U.length-(j+1))+1 by omega,nQ hu']⟩
theorem nm_len {U:Um}{r:Wd}{n:Nat}{s:Fq}(h:nmI U r n s):n≤U.length+1:=by
 rcases h with ⟨rfl,_⟩ | ⟨_,j,rfl,rfl,h1,_⟩
 · omega
 · have:=O9 h1;omega
def J3 (U:Um)(r:Wd):Fq:=if r.const then r.text else dD U
theorem Abd {U:Um}{r:Wd}{n:Nat}{s:Fq}(h:nmI U r n s)(hx:(!r.const&&(n==0||Fe U s))=false):s=J3 U r:=by
  unfold J3
  cases hc:r.const with
  | true=>
    rcases h with ⟨_,h⟩ | ⟨h,_⟩
    · rw [if_pos rfl];exact h
    · rw [hc] at h;cases h
  | false=>
    rw [hc] at hx
    rcases h with ⟨rfl,_⟩ | ⟨_,j,rfl,rfl,_,h2⟩
    · simp at hx
    · rw [if_neg (by decide)]
      unfold dD
      rw [h2,nY (by simpa using hx)]
/-! ### names of classes -/
abbrev Nm:=List (Wd×Fq)
def nE (N:Nm):List (List AV×AV):=N.map fun p=>(Ld p.1,.str p.2)
def Ii (N:Nm)(r:Wd):Option Fq:=(N.find? fun p=>decide (p.1=r)).map (·.2)
theorem aM (x:Wd)(N:Nm):∀p∈nE N,G7 TL [(0,1,true,4),(1,1,true,9),(2,3,true,143)] (Ld x) p.1=some (Js x p.1):=by
 intro p hp
 obtain ⟨q,_,rfl⟩:=List.mem_map.1 hp
 show G7 TL _ (Ld x) (Ld q.1)=some (Js x (Ld q.1))
 rw [Np,Nw]
theorem Ws (x:Wd):∀N:Nm,Hf (Js x) (nE N)=(Ii N x).map fun y=>.str y
  | []=>rfl
  | q::r=>by
    have ih:=Ws x r
    unfold nE Ii at ih ⊢
    rw [List.map_cons,Hf,Nw,Wj,ih,List.find?_cons]
    by_cases h:q.1=x
    · rw [decide_eq_true h.symm,decide_eq_true h];rfl
    · rw [decide_eq_false (fun e=>h e.symm),decide_eq_false h];rfl
theorem look_n (x:Wd)(N:Nm):match Hf (Js x) (nE N) with | some y=>y = .str ((Ii N x).getD []) | none=>[AV.str []] = [.str ((Ii N x).getD [])]:=by
 rw [Ws];cases Ii N x <;> rfl
theorem has_n (x:Wd)(N:Nm):(Hf (Js x) (nE N)).isSome=(Ii N x).isSome:=by rw [Ws];cases Ii N x <;> rfl
theorem new_n {x:Wd}{N:Nm}(h:Ii N x=none):Hf (Js x) (nE N)=none:=by rw [Ws,h];rfl
theorem cU (N:Nm)(r:Wd)(s:Fq):nE N ++ [(Ld r,AV.str s)]=nE (N ++ [(r,s)]):=by unfold nE;rw [List.map_append];rfl
theorem Tg {N:Nm}{r:Wd}{s:Fq}(h:Ii N r=none):Ii (N ++ [(r,s)]) r=some s:=by
 unfold Ii at h ⊢
 rw [Option.map_eq_none_iff] at h
 rw [List.find?_append,h]
 simp
theorem kidx_n {N:Nm}{r:Wd}{s:Fq}(h:Ii N r=none):Lh (Js r) (nE (N ++ [(r,s)]))=some N.length:=by
  induction N with
  | nil=>
    show (if Js r (Ld r) then some 0 else none)=_
    rw [Nw,Wj];simp
  | cons q t ih=>
    unfold Ii at h ih
    rw [Option.map_eq_none_iff,List.find?_cons] at h
    by_cases hq:q.1=r
    · rw [decide_eq_true hq] at h;cases h
    · rw [decide_eq_false hq] at h
      show (if Js r (Ld q.1) then some 0 else (Lh (Js r) (nE (t ++ [(r,s)]))).map (· + 1))=_
      rw [Nw,Wj,decide_eq_false (fun e=>hq e.symm),ih (by rw [Option.map_eq_none_iff];exact h)]
      rfl
theorem kput_n (N:Nm)(r:Wd)(s s':Fq):N6 (nE (N ++ [(r,s)])) N.length (.str s')=nE (N ++ [(r,s')]):=by
 unfold N6
 rw [←cU,←cU]
 have hl:(nE N).length=N.length:=List.length_map ..
 rw [←hl]
 generalize nE N=E
 induction E with
 | nil=>rfl
 | cons a t ih=>simp [ih]
theorem Aa4 (x:Wd)(N:Nm):∀p∈nE N,Js x p.1=true→p.1=Ld x:=by
 intro p hp h
 obtain ⟨q,_,rfl⟩:=List.mem_map.1 hp
 rw [Nw] at h
 simp only
 rw [Nj.1 h]
/-! ### terms that are read -/
section
variable {T:List Sc} {V:List Va}
structure tmOK (T:List Sc) (V:List Va) (t:Tm):Prop where
 op:t.op=1∨t.op=2
 v0:0≤t.v
 v1:t.v<(V.length:Int)
 f:t.op=1→0≤t.field∧t.field<((Fs T V t.v).length:Int)
theorem tm_ok {t:Tm}(hk:KOK T V (Ho t))(ho:t.op=1∨t.op=2):tmOK T V t:=by
 have hn:=(Be hk.nodes).1
 have h2:=hk.kind
 unfold By at hn
 split at hn
 · cases hn
 split at hn
 · cases hn
 split at hn
 · cases hn
 rename_i h3
 have hk2:(F1 T V (Ho t)).2=0:=by
  have e:Cb T V (Ho t)=F1 T V (Ho t):=by unfold Ho;rw [Cb];rfl
  rw [←e];exact h2
 unfold F1 at hk2
 rw [if_neg (by show ¬(t.op==0)=true;simp;omega)] at hk2
 split at hk2
 · cases hk2
 rename_i h4
 have h4':¬(V.length:Int)≤t.v:=fun h=>h4 (decide_eq_true h)
 have h3':¬((((Dn t.op).1=true∧(t.v<0∨16≤t.v))∨((Dn t.op).2=true∧(t.field<0∨8≤t.field)))):=fun h=>h3 (by
  show ((Dn t.op).1&&(decide (t.v<0)||decide (16≤t.v))||((Dn t.op).2&&(decide (t.field<0)||decide (8≤t.field))))=true
  simp only [Bool.or_eq_true,Bool.and_eq_true,decide_eq_true_eq];exact h)
 have hu1:(Dn t.op).1=true:=by unfold Dn;rcases ho with h | h <;> simp [h]
 refine ⟨ho,by have:¬(t.v<0∨16≤t.v):=fun h=>h3' (.inl ⟨hu1,h⟩);omega,by omega,fun h1=>?_⟩
 have hu2:(Dn t.op).2=true:=by unfold Dn;simp [h1]
 have hf:¬(t.field<0∨8≤t.field):=fun h=>h3' (.inr ⟨hu2,h⟩)
 rw [if_neg (by show ¬(t.op==2||t.op==3)=true;simp;omega)] at hk2
 split at hk2
 · cases hk2
 rename_i h5
 have h5':¬((Fs T V t.v).length:Int)≤t.field:=fun h=>h5 (decide_eq_true h)
 omega
theorem oP {Pr:Tm→Prop}(hp:∀t:Tm,t.op=1∨t.op=2→Pr t)(e:Ex):C3 e=0→∀{b:Int} {s:Su},(∀p∈s.ts,Pr p.1)→∀p∈(Bp e b s).1.ts,Pr p.1:=by
  refine Ex.Abu (P:=fun e=>C3 e=0→∀{b:Int} {s:Su},(∀p∈s.ts,Pr p.1)→∀p∈(Bp e b s).1.ts,Pr p.1) (fun e ih hk b s hs=>?_) e
  have hz:=Be hk
  rcases Pc hz.1 with h | ⟨h,h1⟩ | ⟨h,hl⟩ | ⟨h,h1,h2,h3⟩
  · rw [Fv h];exact hs
  · rw [B7 h h1]
    intro p hp'
    have key:∀{ts:List (Tm×Int)},(∀p∈ts,Pr p.1)→∀p∈Io (D0 e) b ts,Pr p.1:=by
      intro ts
      induction ts with
      | nil=>intro _ p hp';rw [Io,List.mem_singleton] at hp';rw [hp'];exact hp _ (by simpa [D0] using h1)
      | cons q r ihr=>
        intro hts p hp'
        rw [Io] at hp'
        split at hp'
        · rcases List.mem_cons.1 hp' with rfl | hp'
          · exact hts q (List.mem_cons_self ..)
          · exact hts p (List.mem_cons_of_mem _ hp')
        · rcases List.mem_cons.1 hp' with rfl | hp'
          · exact hts p (List.mem_cons_self ..)
          · exact ihr (fun p hp'=>hts p (List.mem_cons_of_mem _ hp')) p hp'
    exact key hs p hp'
  · have m0:=A6 (show 0<e.args.length by omega)
    have m1:=Bl hl
    have key:∀c,∀p∈(if !(Bp (Ao e) b s).2 then ((Bp (Ao e) b s).1,false) else Bp (Bi e) c (Bp (Ao e) b s).1).1.ts,Pr p.1:=fun c=>by
      have i0:=ih _ m0 (hz.2 _ m0) (b:=b) hs
      split
      · exact i0
      · exact ih _ m1 (hz.2 _ m1) i0
    rcases h with h | h
    · rw [J5 (c:=b) hl (.inl ⟨h,rfl⟩)];exact key b
    · rw [J5 (c:=0-b) hl (.inr ⟨h,rfl⟩)];exact key _
  · rw [Gy h h1 h2 h3];exact hs
def Ko (t:Tm):Prop:=t.op=1∨t.op=2
theorem gI {a b:Ex}(ha:C3 a=0)(hb:C3 b=0):(∀t∈(Ch a b).1.plus,Ko t)∧∀t∈(Ch a b).1.minus,Ko t:=by
  have h0:(∀t∈tV.plus,Ko t)∧∀t∈tV.minus,Ko t:=⟨fun t h=>(by cases h),fun t h=>(by cases h)⟩
  unfold Ch
  split
  · exact h0
  rename_i h1
  split
  · exact h0
  have he:(Bp b (-1) (Bp a 1 Ks).1).1=C8 a b:=by unfold C8;rw [if_neg h1]
  rw [he]
  have hse:∀p∈(C8 a b).ts,Ko p.1:=by
    have q1:=oP (Pr:=Ko) (fun t h=>h) a ha (b:=1) (s:=Ks) (fun p hp=>by cases hp)
    unfold C8
    split
    · exact q1
    · exact oP (Pr:=Ko) (fun t h=>h) b hb q1
  unfold S5
  cases hp:Dt (C8 a b).ts [] [] with
  | none=>exact h0
  | some p=>
    obtain ⟨p,m⟩:=p
    exact I5 (P:=Ko) hse (fun t h=>by cases h) (fun t h=>by cases h) hp
theorem jF {l:Lit}(hk:KOK T V l.cond):(∀t∈(Aa T V l).1.plus,Ko t)∧∀t∈(Aa T V l).1.minus,Ko t:=by
  cases h:l.cond.op==1 with
  | true=>
    rw [aS h]
    exact ⟨fun t ht=>by rw [List.mem_singleton.1 ht];exact .inl (by simpa [D0] using h),fun t ht=>by cases ht⟩
  | false=>
    cases h2:(!comparesS l.cond||Dp T V l.cond) with
    | true=>rw [oK h h2];exact ⟨fun t h=>(by cases h),fun t h=>(by cases h)⟩
    | false=>
      rw [Z6 h h2]
      have hl:=Ky hk (V3 h2)
      exact gI (A3 hk (A6 (by omega))).nodes (A3 hk (Bl hl)).nodes
theorem oJ:∀{l:List Lit},U6 T V l→∀{s:Sy},(∀t∈s.ts,Ko t)→∀t∈(l.foldl (Dd T V) s).ts,Ko t
  | [],_,s,hs=>hs
  | c::r,hl,s,hs=>by
    rw [List.foldl_cons]
    refine oJ (fun x hx=>hl x (List.mem_cons_of_mem _ hx)) ?_
    cases h : !(Aa T V c).2 with
    | true=>rw [Lo h];exact hs
    | false=>
      rw [Lr h]
      obtain ⟨h1,h2⟩:=jF (hl c (List.mem_cons_self ..)).1
      exact Le (Le hs h1) h2
theorem mH {l:List Lit}(hl:U6 T V l):∀t∈(Cg T V l).ts,tmOK T V t:=fun t ht=>tm_ok ((Lw hl).terms t ht) (oJ hl (s:=⟨[],[]⟩) (fun t h=>by cases h) t ht)
/-! ### events -/
def Zb (T:List Sc)(i:Nat)(v:Va):Ev:=⟨0,(i:Int),v.type,0,(((T[v.type.toNat]?).getD sc0).fields).map fun f=>⟨f.kind,0,[]⟩⟩
def H0 (T:List Sc):Nat→List Va→List Ev
 | _,[]=>[]
 | i,v::r=>Zb T i v::H0 T (i+1) r
def Vy (e:Ev)(k:Nat)(f:Vl→Vl):Ev:={ e with values:=e.values.modify k f }
def Qh (evs:List Ev)(t:Tm)(x:Int):List Ev:=if t.op==2 then evs.modify t.v.toNat (fun e=>{ e with time:=x }) else evs.modify t.v.toNat fun e=>Vy e t.field.toNat fun y=>{ y with num:=x }
def Uf (evs:List Ev)(t:Tm)(s:Fq):List Ev:=evs.modify t.v.toNat fun e=>Vy e t.field.toNat fun y=>{ y with text:=s }
def Gs (vals:List Int):Nat→List Tm→List Ev→List Ev
 | _,[],evs=>evs
 | i,t::r,evs=>Gs vals (i+1) r (Qh evs t (Ey vals ((i:Int)+1)))
/-- events that fit the variables -/
structure evOK (T:List Sc) (V:List Va) (evs:List Ev):Prop where
 len:evs.length=V.length
 vals:∀(j:Nat) (e:Ev),evs[j]? = some e→e.values.length=(Fs T V (j:Int)).length
theorem V5 (e:Ev)(k:Nat)(f:Vl→Vl):(Vy e k f).values.length=e.values.length:=List.length_modify ..
theorem Tp {evs:List Ev}(h:evOK T V evs)(j:Nat)(f:Ev→Ev)(hf:∀e,(f e).values.length=e.values.length):evOK T V (evs.modify j f):=by
  refine ⟨by rw [List.length_modify];exact h.len,fun i e hi=>?_⟩
  rw [List.getElem?_modify] at hi
  cases hq:evs[i]? with
  | none=>rw [hq] at hi;cases hi
  | some x=>
    rw [hq] at hi
    have hi':=(Option.some.inj hi).symm
    rw [←h.vals i x hq,hi']
    split
    · exact hf x
    · rfl
theorem Wf {evs:List Ev}(h:evOK T V evs)(t:Tm)(x:Int):evOK T V (Qh evs t x):=by
 unfold Qh
 split
 · exact Tp h _ _ (fun _=>rfl)
 · exact Tp h _ _ (fun e=>V5 ..)
theorem mY {evs:List Ev}(h:evOK T V evs)(t:Tm)(s:Fq):evOK T V (Uf evs t s):=Tp h _ _ (fun e=>V5 ..)
theorem mX:∀{vs:List Va} {i j:Nat} {e:Ev},(H0 T i vs)[j]? = some e→∃v,vs[j]? = some v∧e=Zb T (i+j) v
  | [],i,j,e,h=>by simp [H0] at h
  | v::r,i,0,e,h=>by simp [H0] at h;exact ⟨v,rfl,h.symm⟩
  | v::r,i,j+1,e,h=>by
    have h':(H0 T (i+1) r)[j]? = some e:=by simpa [H0] using h
    obtain ⟨w,h1,h2⟩:=mX h'
    exact ⟨w,by simpa using h1,by rw [h2,show i+1+j=i+(j+1) by omega]⟩
theorem P0:∀{vs:List Va} {i:Nat},(H0 T i vs).length=vs.length
 | [],i=>rfl
 | v::r,i=>by simp [H0,P0]
theorem jK:∀{vs:List Va} {i:Nat} {v:Va},H0 T i (vs ++ [v])=H0 T i vs ++ [Zb T (i+vs.length) v]
 | [],i,v=>rfl
 | a::r,i,v=>by simp [H0,jK];rw [show i+1+r.length=i+(r.length+1) by omega]
theorem mK:evOK T V (H0 T 0 V):=by
 refine ⟨P0,fun j e h=>?_⟩
 obtain ⟨v,h1,h2⟩:=mX h
 rw [h2]
 show (((T[v.type.toNat]?).getD sc0).fields.map _).length=_
 rw [List.length_map]
 unfold Fs
 rw [Int.toNat_natCast,h1];rfl
end
/-! ### in the heap -/
abbrev Es:=List (Ev×Value)
def Cu (p:Ev×Value):List AV:=[.int .i64 p.1.source,.int .i64 p.1.seq,.int .i64 p.1.type,.int .i64 p.1.time,.val p.2]
def F6 (p:Ev×Value):HO:=.buf p.2 (p.1.values.map cV) 28 3
abbrev Zh (bo:Nat)(v:Value)(l:Es)(R:List HO):List HO:=.buf v (l.map Cu) 67 5 :: .box bo 58 [.val v]::(l.map F6++R)
theorem Qu {α β:Type}(f:α→β):∀(l:List α) (j:Nat),(l.map f).eraseIdx j=(l.eraseIdx j).map f
 | [],j=>by simp
 | a::r,0=>rfl
 | a::r,j+1=>by simp [Qu f r j]
theorem Ni {α:Type}{f:α→α}{x:α}:∀{l:List α} {j:Nat},l[j]? = some x→l.modify j f=l.set j (f x)
 | [],j,h=>by simp at h
 | a::r,0,h=>by simp at h;subst h;simp
 | a::r,j+1,h=>by simp [Ni (f:=f) (show r[j]? = some x by simpa using h)]
theorem Vg {α:Type}:∀(l:List α) (j:Nat),l.modify j (fun x=>x)=l
 | [],j=>by simp
 | a::r,0=>by simp
 | a::r,j+1=>by simp [Vg r j]
theorem lB {l:Es}{j:Nat}{x:Ev×Value}(h:l[j]? = some x):(l.map F6).Perm (F6 x::(l.eraseIdx j).map F6):=by
 have h1:(l.map F6)[j]? = some (F6 x):=by rw [List.getElem?_map,h];rfl
 have:=Id h1
 rw [Qu] at this
 exact this
theorem lQ {bo:Nat}{v:Value}{l:Es}{R:List HO}{j:Nat}{x:Ev×Value}(h:l[j]? = some x):(Zh bo v l R).Perm (F6 x :: .buf v (l.map Cu) 67 5 :: .box bo 58 [.val v]::((l.eraseIdx j).map F6++R)):=by
 refine (((lB h).append_right R).cons _ |>.cons _).trans ?_
 exact ((List.Perm.swap _ _ _).cons _).trans (List.Perm.swap _ _ _)
theorem ev_in {bo:Nat}{v:Value}{l:Es}{R:List HO}{j:Nat}{y:Ev×Value}(h:j<l.length):(F6 y :: .buf v ((l.set j y).map Cu) 67 5 :: .box bo 58 [.val v]::((l.eraseIdx j).map F6++R)).Perm (Zh bo v (l.set j y) R):=by
 have h1:(l.set j y)[j]? = some y:=by simp [h]
 have:=lQ (bo:=bo) (v:=v) (R:=R) h1
 rw [List.eraseIdx_set_eq] at this
 exact this.symm
theorem J2 (l:Es):∀e∈l.map Cu,e.length=5:=fun e he=>by
 obtain ⟨x,_,rfl⟩:=List.mem_map.1 he;rfl
theorem Oo (l:List Vl):∀e∈l.map cV,e.length=3:=fun e he=>by
 obtain ⟨x,_,rfl⟩:=List.mem_map.1 he;rfl
theorem Xb:∀{es:List (List AV)} {J:List AV} {z j o:Nat} {e:List AV} {x:AV},(∀e∈es,e.length=z)→es[j]? = some e→e[o]? = some x→(es.flatten++J)[j*z+o]? = some x
  | [],J,z,j,o,e,x,hz,hj,ho=>by simp at hj
  | a::r,J,z,0,o,e,x,hz,hj,ho=>by
    simp at hj;subst hj
    have hl:=(List.getElem?_eq_some_iff.1 ho).1
    rw [List.flatten_cons,List.append_assoc,Nat.zero_mul,Nat.zero_add,List.getElem?_append_left hl];exact ho
  | a::r,J,z,j+1,o,e,x,hz,hj,ho=>by
    have ha:=hz a (List.mem_cons_self ..)
    rw [List.flatten_cons,List.append_assoc,List.getElem?_append_right (by rw [ha,Nat.add_mul];omega),ha,show (j+1)*z+o-z=j*z+o by rw [Nat.add_mul];omega]
    exact Xb (fun e he=>hz e (List.mem_cons_of_mem _ he)) (by simpa using hj) ho
theorem jQ {a b:List AV}{o:Nat}{x:AV}:Ft (a++b) (a.length+o) [x]=a++Ft b o [x]:=by
 unfold Ft
 rw [List.take_append,List.drop_append,List.take_of_length_le (by omega),List.drop_eq_nil_of_le (by simp;omega)]
 simp [show a.length+o-a.length=o by omega,show a.length+o+1-a.length=o+1 by omega]
theorem iW {a b:List AV}{o:Nat}{x:AV}(h:o<a.length):Ft (a++b) o [x]=a.set o x++b:=by
 unfold Ft
 rw [List.take_append_of_le_length (by omega),List.drop_append_of_le_length (by simp;omega),List.set_eq_take_append_cons_drop,if_pos h]
 simp
theorem Ry:∀{es:List (List AV)} {J:List AV} {z j o:Nat} {e:List AV} {x:AV},(∀e∈es,e.length=z)→es[j]? = some e→o<z→Ft (es.flatten++J) (j*z+o) [x]=(es.set j (e.set o x)).flatten++J
  | [],J,z,j,o,e,x,hz,hj,ho=>by simp at hj
  | a::r,J,z,0,o,e,x,hz,hj,ho=>by
    simp at hj;subst hj
    have ha:=hz a (List.mem_cons_self ..)
    rw [List.flatten_cons,List.append_assoc,Nat.zero_mul,Nat.zero_add,iW (by omega)]
    simp
  | a::r,J,z,j+1,o,e,x,hz,hj,ho=>by
    have ha:=hz a (List.mem_cons_self ..)
    have ih:=Ry (J:=J) (x:=x) (fun e he=>hz e (List.mem_cons_of_mem _ he)) (show r[j]? = some e by simpa using hj) ho
    rw [List.flatten_cons,List.append_assoc,show (j+1)*z+o=a.length+(j*z+o) by rw [ha,Nat.add_mul];omega,jQ,ih]
    simp
theorem Ue {es:List (List AV)}{J:List AV}{z j o:Nat}{e:List AV}(hz:∀e∈es,e.length=z)(hj:es[j]? = some e)(ho:o<z):Nat.ble (j*z+o+1) (es.flatten++J).length=true:=by
 have hj':=(List.getElem?_eq_some_iff.1 hj).1
 have hl:es.flatten.length=es.length*z:=by
  clear hj hj'
  induction es with
  | nil=>simp
  | cons a r ih=>rw [List.flatten_cons,List.length_append,ih (fun e he=>hz e (List.mem_cons_of_mem _ he)),hz a (List.mem_cons_self ..),List.length_cons,Nat.add_mul];omega
 have h1:(j+1)*z≤es.length*z:=Nat.mul_le_mul_right z hj'
 rw [Nat.add_mul] at h1
 exact Nat.ble_eq_true_of_le (by rw [List.length_append,hl];omega)
/-- one event changed, in the rows and among the buffers -/
theorem ev_time {l:Es}{j:Nat}{e:Ev}{u:Value}{x:Int}(h:l[j]? = some (e,u)):(l.map Cu).set j ((Cu (e,u)).set 3 (.int .i64 x))=((l.modify j fun p=>({ p.1 with time:=x },p.2)).map Cu):=by
 rw [Ni h,List.map_set];rfl
theorem ev_timeBuf {l:Es}{j:Nat}{x:Int}:(l.modify j fun p=>({ p.1 with time:=x },p.2)).map F6=l.map F6:=by
 exact (Ly F6 (fun p=>({ p.1 with time:=x },p.2)) (fun y=>y) (fun _=>rfl) l j).trans (Vg _ _)
theorem Rl {l:Es}{j:Nat}{f:Ev→Ev}:(l.modify j fun p=>(f p.1,p.2)).map Prod.fst=(l.map Prod.fst).modify j f:=Ly Prod.fst _ f (fun _=>rfl) l j
theorem vB {e:Ev}{k:Nat}{y:Vl}(h:e.values[k]? = some y)(o:Nat)(x:AV)(f:Vl→Vl)(hf:(cV y).set o x=cV (f y)):(e.values.map cV).set k ((cV y).set o x)=((Vy e k f).values.map cV):=by
 unfold Vy
 simp only
 rw [Ni h,hf,List.map_set]
theorem Aa1 {l:Es}{j:Nat}{e:Ev}{u:Value}{k:Nat}{f:Vl→Vl}(h:l[j]? = some (e,u)):l.set j (Vy e k f,u)=l.modify j fun p=>(Vy p.1 k f,p.2):=by
 rw [Ni h]
theorem ev_rows {l:Es}{j:Nat}{e:Ev}{u:Value}{k:Nat}{f:Vl→Vl}(h:l[j]? = some (e,u)):l.map Cu=(l.set j (Vy e k f,u)).map Cu:=by
 rw [List.map_set]
 refine (List.ext_getElem? fun i=>?_)
 rw [List.getElem?_set]
 split
 ·
  rename_i hi;subst hi
  rw [List.getElem?_map,h]
  have:=(List.getElem?_eq_some_iff.1 h).1
  simp [this,Cu,Vy]
 · rfl
theorem mI {bo:Nat}{v:Value}{l:Es}{pre R:List HO}:(pre++Zh bo v l R).Perm (Zh bo v l (pre++R)):=by
 have:=(List.perm_append_comm (l₁:=pre) (l₂:=[HO.buf v (l.map Cu) 67 5,.box bo 58 [.val v]]++l.map F6)).append_right R
 simpa only [List.append_assoc,List.cons_append,List.nil_append] using this
/-! ### steps in thought -/
abbrev slV (b n c:Nat):Value:=.slice (some ⟨b,0,none⟩) n c
theorem uF {sl:List (Nat×AV)}{n bo bb bi cap capi j k o:Nat}{J Ji:List AV}{l:Es}{e:Ev}{y:Vl}{x:AV}{f:Vl→Vl}{R:List HO}(hj:l[j]? = some (e,slV bi (e.values.map cV).length capi))(hy:e.values[k]? = some y)(hf:(cV y).set o x=cV (f y))
  (hcap:(l.map Cu).length≤cap) (hcm:cap≤maxLen) (hJ:J.length=(cap-(l.map Cu).length)*5) (hcapi:(e.values.map cV).length≤capi) (hcmi:capi≤maxLen) (hJi:Ji.length=(capi-(e.values.map cV).length)*3) :
  GS ⟨sl,.box bi 28 (((e.values.map cV).set k ((cV y).set o x)).flatten++Ji) :: .box bb 67 ((l.map Cu).flatten++J) :: .box bo 58 [.val (slV bb (l.map Cu).length cap)]::((l.eraseIdx j).map F6++R),n⟩
   ⟨sl,Zh bo (slV bb (l.map Cu).length cap) (l.modify j fun p=>(Vy p.1 k f,p.2)) R,n⟩:=by
 have hvl:((Vy e k f).values.map cV).length=(e.values.map cV).length:=by rw [List.length_map,List.length_map,V5]
 refine GS.trans (GS.rebuf 0 ((Vy e k f).values.map cV) Ji (m:=(e.values.map cV).length) (z:=3) (cap:=capi) hvl rfl (congrArg (fun es:List (List AV)=>es.flatten++Ji) (vB hy o x f hf)) (by rw [hvl];exact hcapi) hcmi (by rw [hvl];exact hJi) (Oo _) rfl) ?_
 refine GS.trans (GS.rebuf 1 (l.map Cu) J (m:=(l.map Cu).length) (z:=5) (cap:=cap) rfl rfl rfl hcap hcm hJ (J2 l) rfl) ?_
 have hlt:=(List.getElem?_eq_some_iff.1 hj).1
 have hp:=ev_in (bo:=bo) (v:=slV bb (l.map Cu).length cap) (l:=l) (R:=R) (j:=j) (y:=(Vy e k f,slV bi (e.values.map cV).length capi)) hlt
 rw [←ev_rows hj,Aa1 hj] at hp
 exact GS.perm hp
theorem evTime {sl:List (Nat×AV)}{n bo bb cap j:Nat}{J:List AV}{l:Es}{e:Ev}{u:Value}{x:Int}{R:List HO}(hj:l[j]? = some (e,u))
  (hcap:(l.map Cu).length≤cap) (hcm:cap≤maxLen) (hJ:J.length=(cap-(l.map Cu).length)*5) :
  GS ⟨sl,.box bb 67 (((l.map Cu).set j ((Cu (e,u)).set 3 (.int .i64 x))).flatten++J) :: .box bo 58 [.val (slV bb (l.map Cu).length cap)]::(l.map F6++R),n⟩
   ⟨sl,Zh bo (slV bb (l.map Cu).length cap) (l.modify j fun p=>({ p.1 with time:=x },p.2)) R,n⟩:=by
 have hl:((l.modify j fun p=>({ p.1 with time:=x },p.2)).map Cu).length=(l.map Cu).length:=by simp
 refine GS.trans (GS.rebuf 0 ((l.modify j fun p=>({ p.1 with time:=x },p.2)).map Cu) J (m:=(l.map Cu).length) (z:=5) (cap:=cap) hl rfl (congrArg (fun es:List (List AV)=>es.flatten++J) (ev_time hj)) (by rw [hl];exact hcap) hcm (by rw [hl];exact hJ) (J2 _) rfl) ?_
 exact GS.heapTo (congrArg (fun E:List HO=>HO.buf (slV bb (l.map Cu).length cap) ((l.modify j fun p=>({ p.1 with time:=x },p.2)).map Cu) 67 5 :: .box bo 58 [.val (slV bb (l.map Cu).length cap)]::(E++R)) ev_timeBuf.symm)
theorem Aaa {l:Es}{e:Ev}{u v':Value}{b c:HO}{K:List HO}{rows:List (List AV)}(hr:rows=e.values.map cV) :
  (HO.buf u rows 28 3::b :: .buf v' (l.map Cu ++ [Cu (e,u)]) 67 5::c::(l.map F6++K)).Perm (b :: .buf v' ((l ++ [(e,u)]).map Cu) 67 5::c::((l ++ [(e,u)]).map F6++K)):=by
 subst hr
 rw [List.map_append,List.map_append]
 have:=(List.perm_append_comm (l₁:=[F6 (e,u)]) (l₂:=[b,.buf v' (l.map Cu ++ [Cu (e,u)]) 67 5,c]++l.map F6)).append_right K
 simp only [List.append_assoc,List.cons_append,List.nil_append] at this
 simp only [List.append_assoc]
 exact this
/-- all is written: the events are values -/
theorem rep_evs {g:Gh}{w:World}{v:Value}{l:Es}(hv:Rep g w v (.sl 5 (l.map Cu)))(hu:∀p∈l,Rep g w p.2 (.sl 3 (p.1.values.map cV))):Rep g w v (.sl 5 ((l.map Prod.fst).map Ou)):=by
  obtain ⟨a,n,cap,rfl,hn,hc,hm,h⟩:=hv.inv_sl
  have hlen:((l.map Prod.fst).map Ou).length=(l.map Cu).length:=by simp
  rcases h with h | ⟨b,o,rfl,hz,f,h1,h2⟩
  · have:l = []:=by simpa using h
    subst this
    have hn0:n=0:=by simpa using hn
    subst hn0
    exact .sl0 _ _ _ hm
  · refine .sl b o n cap 5 _ (by rw [hlen];exact hn) hc hm (fun e he=>?_) f (fun i e hi j x hj=>?_) (fun i e hi j x hj=>?_)
    · obtain ⟨q,_,rfl⟩:=List.mem_map.1 he;rfl
    · rw [List.getElem?_map,List.getElem?_map] at hi
      cases hq:l[i]? with
      | none=>rw [hq] at hi;cases hi
      | some p=>
        rw [hq] at hi
        have hi':Ou p.1=e:=by simpa using hi
        have hlt:j<5:=by have:=(List.getElem?_eq_some_iff.1 hj).1;rw [←hi'] at this;exact this
        have hr:(Cu p)[j]? = some ((Cu p)[j]'hlt):=List.getElem?_eq_getElem hlt
        exact h1 i _ (by rw [List.getElem?_map,hq];rfl) j _ hr
    · rw [List.getElem?_map,List.getElem?_map] at hi
      cases hq:l[i]? with
      | none=>rw [hq] at hi;cases hi
      | some p=>
        rw [hq] at hi
        have hi':Ou p.1=e:=by simpa using hi
        subst hi'
        have hrow:(l.map Cu)[i]? = some (Cu p):=by rw [List.getElem?_map,hq];rfl
        match j,hj with
        | 0,hj=>cases hj;exact h2 i _ hrow 0 _ rfl
        | 1,hj=>cases hj;exact h2 i _ hrow 1 _ rfl
        | 2,hj=>cases hj;exact h2 i _ hrow 2 _ rfl
        | 3,hj=>cases hj;exact h2 i _ hrow 3 _ rfl
        | 4,hj=>
          cases hj
          have:=(h2 i _ hrow 4 _ rfl).inv_val
          rw [this];exact hu p (List.mem_of_getElem? hq)
        | j+5,hj=>simp [Ou] at hj
theorem Qt:∀{g:Gh} {w:World} {l:Es} {A R:List HO},HOK g w (A++(l.map F6++R))→∃g',Ext g w g' w∧HOK g' w (A++R)∧∀p∈l,Rep g' w p.2 (.sl 3 (p.1.values.map cV))
  | g,w,[],A,R,h=>⟨g,Ext.refl g w,h,fun p hp=>by cases hp⟩
  | g,w,x::r,A,R,h=>by
    have hk:(A++((x::r).map F6++R))[A.length]? = some (F6 x):=by rw [List.getElem?_append_right (Nat.le_refl _)];simp
    obtain ⟨g1,hx1,hH1,hr1⟩:=Qy h hk
    have e1:(A++((x::r).map F6++R)).eraseIdx A.length=A++(r.map F6++R):=by
      rw [List.eraseIdx_append_of_length_le (Nat.le_refl _)];simp
    rw [e1] at hH1
    obtain ⟨g2,hx2,hH2,hr2⟩:=Qt hH1
    refine ⟨g2,hx1.trans hx2,hH2,fun p hp=>?_⟩
    rcases List.mem_cons.1 hp with rfl | hp
    · exact hr1.mono hx2
    · exact hr2 p hp
theorem GS.freezeEvs {sl:List (Nat×AV)}{n t bo:Nat}{v:Value}{l:Es}{R:List HO}(h:get sl t = .val v):GS ⟨sl,Zh bo v l R,n⟩ ⟨(t,.sl 5 ((l.map Prod.fst).map Ou))::sl,.box bo 58 [.val v]::R,n⟩:=fun g a w hG=>by
 obtain ⟨g1,hx1,hH1,hu⟩:=Qt (A:=[.buf v (l.map Cu) 67 5,.box bo 58 [.val v]]) hG.heap
 obtain ⟨g2,hx2,hH2,hv⟩:=Qy hH1 (k:=0) rfl
 refine ⟨g2,⟨hG.size,hG.defers,fun i=>?_,hH2⟩,hx1.trans hx2⟩
 show Rep g2 w _ (get ((t,_)::sl) i)
 rw [Gt]
 by_cases e:t=i
 ·
  subst e
  rw [if_pos rfl]
  have h1:=(h▸hG.sl t:Rep g w _ _).inv_val
  rw [h1]
  exact rep_evs hv fun p hp=>(hu p hp).mono hx2
 · rw [if_neg e];exact ((hG.sl i).mono hx1).mono hx2
theorem mF {T:List Sc}{V:List Va}{l:Es}(h:evOK T V (l.map Prod.fst)){t:Tm}(ht:tmOK T V t):∃e u,l[t.v.toNat]? = some (e,u)∧e.values.length=(Fs T V t.v).length∧l.length=V.length:=by
 have hl:l.length=V.length:=by have:=h.len;simpa using this
 have hlt:t.v.toNat<l.length:=by have:=ht.v0;have:=ht.v1;omega
 have hg:=List.getElem?_eq_getElem hlt
 refine ⟨(l[t.v.toNat]).1,(l[t.v.toNat]).2,hg,?_,hl⟩
 have:=h.vals t.v.toNat (l[t.v.toNat]).1 (by rw [List.getElem?_map,hg];rfl)
 rw [this,Int.toNat_of_nonneg ht.v0]
theorem oR {T:List Sc}{V:List Va}{e:Ev}{t:Tm}(ht:tmOK T V t)(h1:t.op=1)(he:e.values.length=(Fs T V t.v).length):∃y,e.values[t.field.toNat]? = some y:=by
 have hf:=ht.f h1
 have hlt:t.field.toNat<e.values.length:=by rw [he];omega
 exact ⟨_,List.getElem?_eq_getElem hlt⟩
theorem W0 {α β:Type}{f:α→β}{l:List α}{j:Nat}{x:α}(h:l[j]? = some x):l.map f≠[]:=fun e=>by
 have:l = []:=by simpa using e
 rw [this] at h;simp at h
set_option maxRecDepth 20000
section
variable {P:Program} {d:Option Nat} {ty:TypeId} {pos:String} {aft:Array Edge} {gd:Option (Nat×Bool)} {ρ:Operand→AV}
theorem oD {t:TypeId}{m k:Operand}{kt et b i:Nat}{td tk te:TD}{n:List UInt8}{U:Um}(hT:Hq P TL)(ht:Bu TL t=some td)(hk:td.kind = .map kt et)(htk:Bu TL kt=some tk)(hkk:tk.kind = .str)
  (hte:Bu TL et=some te) (hz:te.zero = [.bool false]) (hzs:Qj P et=true) (hm:ρ m = .val (.map (some b))) (hkey:ρ k = .str n) :
  Di P ⟨d,.lookup t m k false,ty,pos,aft,gd⟩ ρ (fun H=>H[i]? = some (.smap b (sE U))) (.bool (Fe U n)):=
 pC hT ht hk htk hkk hte hzs hm hkey (by rw [hz];exact zI n U)
theorem xF {t:TypeId}{m k v:Operand}{kt et b i:Nat}{td tk:TD}{n:List UInt8}{U:Um}{x:Bool}{H H2:List HO}(hT:Hq P TL)(ht:Bu TL t=some td)(hk:td.kind = .map kt et)(htk:Bu TL kt=some tk)(hkk:tk.kind = .str)
  (hm:ρ m = .val (.map (some b))) (hkey:ρ k = .str n) (hv:ρ v = .bool x) (hH:H[i]? = some (.smap b (sE U))) (hH2:H.set i (.smap b (sE (Tn U n x)))=H2) :
  La P ⟨d,.mapUpdate t m k v,ty,pos,aft,gd⟩ ρ H (fun y H'=>y = .junk∧H'=H2):=
 sB hT ht hk htk hkk hm hkey hv hH (by rw [sput_u];exact hH2)
theorem Aav {t:TypeId}{m k v:Operand}{kt et b i:Nat}{td tk:TD}{r:Wd}{N:Nm}{s:Fq}{H H2:List HO}(hT:Hq P TL)(ht:Bu TL t=some td)(hk:td.kind = .map kt et)(htk:Bu TL kt=some tk)(hkk:tk.kind = .struct [(0,1,true,4),(1,1,true,9),(2,3,true,143)])
  (hm:ρ m = .val (.map (some b))) (hkey:ρ k = .agg (Ld r)) (hv:ρ v = .str s) (hH:H[i]? = some (.kmap b (nE N))) (hnew:Ii N r=none) (hH2:H.set i (.kmap b (nE (N ++ [(r,s)])))=H2) :
  La P ⟨d,.mapUpdate t m k v,ty,pos,aft,gd⟩ ρ H (fun y H'=>y = .junk∧H'=H2):=
 Tx (eq:=Js r) hT ht hk htk hkk hm hkey hv (Np r r) (aM r N) hH (new_n hnew) (by rw [cU];exact hH2)
theorem Aab {t:TypeId}{m k v:Operand}{kt et b i:Nat}{td tk:TD}{r:Wd}{N:Nm}{s s':Fq}{H H2:List HO}(hT:Hq P TL)(ht:Bu TL t=some td)(hk:td.kind = .map kt et)(htk:Bu TL kt=some tk)(hkk:tk.kind = .struct [(0,1,true,4),(1,1,true,9),(2,3,true,143)])
  (hm:ρ m = .val (.map (some b))) (hkey:ρ k = .agg (Ld r)) (hv:ρ v = .str s') (hH:H[i]? = some (.kmap b (nE (N ++ [(r,s)])))) (hnew:Ii N r=none) (hH2:H.set i (.kmap b (nE (N ++ [(r,s')])))=H2) :
  La P ⟨d,.mapUpdate t m k v,ty,pos,aft,gd⟩ ρ H (fun y H'=>y = .junk∧H'=H2):=
 tQ (eq:=Js r) hT ht hk htk hkk hm hkey hv (Np r r) (aM r _) hH (kidx_n hnew) rfl (Aa4 r _) (by rw [kput_n];exact hH2)
end
theorem eI {r:Wd}{N:Nm}{s:Fq}(h:Ii N r=some s):match Hf (Js r) (nE N) with | some y=>y = .str s | none=>[AV.str []] = [.str s]:=by rw [Ws,h];rfl
theorem wS {P:Program}{f:FuncId}{args:List AV}{r0:AV}{bo:Nat}{v:Value}{l l':Es}{pre R:List HO}(h:Du P f (Zh bo v l (pre++R)) args fun r H'=>r=r0∧H'=Zh bo v l' (pre++R)) :
  Du P f (pre++Zh bo v l R) args fun r H'=>r=r0∧H'=pre++Zh bo v l' R:=
 (h.perm mI).post fun r K ⟨h1,h2⟩=>⟨_,h2▸mI.symm,h1,rfl⟩
/-! ### what is named -/
def Xj (p:Um×List Wd)(a:Ex):Um×List Wd:=(Tn p.1 (Ca a).text (Fe p.1 (Ca a).text||(Ca a).const),p.2 ++ [Ca a])
section
variable (T:List Sc) (V:List Va)
def T1 (p:Um×List Wd)(c:Lit):Um×List Wd:=if !textsS T V c.cond || !simpleS T V c.cond then p else c.cond.args.foldl Xj p
def Hc (l:List Lit):Um×List Wd:=l.foldl (T1 T V) ([],[])
end
abbrev Ns:=Um×Nm×List Ev
def Z4 (U:Um)(N:Nm)(r:Wd):Um×Nm:=if (Ii N r).isSome then (U,N) else (Tn U (J3 U r) true,N ++ [(r,J3 U r)])
def nmT (U:Um)(N:Nm)(r:Wd):Fq:=(Ii N r).getD (J3 U r)
def H6 (w:Wm)(s:Ns)(x:Wd):Ns:=
 ((Z4 s.1 s.2.1 (Ce w x)).1,(Z4 s.1 s.2.1 (Ce w x)).2,if x.const then s.2.2 else Uf s.2.2 x.field (nmT s.1 s.2.1 (Ce w x)))
def bS (T:List Sc)(V:List Va)(w:Wm)(l:List Lit)(evs:List Ev):List Ev:=((Hc T V l).2.foldl (H6 w) ((Hc T V l).1,[],evs)).2.2
theorem eG (U:Um)(N:Nm)(r:Wd):Ii (Z4 U N r).2 r=some (nmT U N r):=by
 unfold Z4 nmT
 cases h:Ii N r with
 | some s=>exact h
 | none=>exact Tg h
theorem cR {U:Um}{N:Nm}{r:Wd}(h:Ii N r=none):Z4 U N r=(Tn U (J3 U r) true,N ++ [(r,J3 U r)]):=by unfold Z4;rw [h];rfl
theorem cF {U:Um}{N:Nm}{r:Wd}(h:(!(Ii N r).isSome)=false):Z4 U N r=(U,N):=if_pos (by simpa using h)
theorem Xk (U:Um)(n:Fq)(b:Bool):(Tn U n b).length≤U.length+1:=by
 unfold Tn;cases eY U n <;> simp
theorem bX (U:Um)(N:Nm)(r:Wd):(Z4 U N r).1.length≤U.length+1:=by
 unfold Z4;split
 · simp
 · exact Xk ..
section
variable {T:List Sc} {V:List Va}
theorem Rw {p:Um×List Wd}{c:Lit}(h:(!textsS T V c.cond || !simpleS T V c.cond)=true):T1 T V p c=p:=if_pos h
theorem Mh {p:Um×List Wd}{c:Lit}(h:(!textsS T V c.cond || !simpleS T V c.cond)=false):T1 T V p c=c.cond.args.foldl Xj p:=Ci h
def wdOK (T:List Sc)(V:List Va)(x:Wd):Prop:=x.const=false→tmOK T V x.field∧x.field.op=1
theorem Rs {c:Lit}(hk:KOK T V c.cond)(h:(!textsS T V c.cond || !simpleS T V c.cond)=false):c.cond.args.length=2∧∀a∈c.cond.args,(a.op==0||a.op==1)=true:=by
 rw [Bool.or_eq_false_iff,Bool.not_eq_false',Bool.not_eq_false'] at h
 have hc:=Mp h.1
 have hn:=(Be hk.nodes).1
 have ho:c.cond.op=9:=by
  have:=h.1
  unfold Dp at this
  rw [Bool.and_eq_true] at this
  simpa using this.1
 have hl:c.cond.args.length=2:=by
  unfold By at hn
  split at hn
  · cases hn
  split at hn
  · cases hn
  rename_i h2
  have h2':(c.cond.args.length:Int)=D4 c.cond.op:=by simpa using h2
  rw [ho] at h2'
  have:D4 9=2:=by decide
  omega
 have hs:=h.2
 unfold Cz at hs
 rw [if_neg (by rw [ho];decide),if_neg (by rw [hc];decide),if_pos h.1,Bool.and_eq_true] at hs
 refine ⟨hl,fun a ha=>?_⟩
 obtain ⟨a0,a1,he⟩:∃a0 a1,c.cond.args = [a0,a1]:=by
  match hq:c.cond.args,hl with
  | [x,y],_=>exact ⟨x,y,rfl⟩
 have e0:Ao c.cond=a0:=by unfold Ao;rw [he];rfl
 have e1:Bi c.cond=a1:=by unfold Bi;rw [he];rfl
 rw [e0,e1] at hs
 rw [he] at ha
 rcases List.mem_cons.1 ha with rfl | ha
 · exact hs.1
 · rw [List.mem_singleton.1 ha];exact hs.2
theorem pA {a:Ex}(hk:KOK T V a)(h:(a.op==0||a.op==1)=true):wdOK T V (Ca a):=by
 intro hc
 unfold Ca at hc ⊢
 split at hc
 · cases hc
 rename_i h0
 rw [if_neg h0]
 have h1:a.op=1:=by simp at h h0;omega
 have hl:=K6 (Be hk.nodes).1 (by rw [h1];rfl)
 exact ⟨tm_ok (by rw [hl];exact hk) (.inl h1),h1⟩
end
theorem gO {l:Es}{t:Tm}{s:Fq}:(l.modify t.v.toNat fun p=>(Vy p.1 t.field.toNat (fun y=>{ y with text:=s }),p.2)).map Prod.fst=Uf (l.map Prod.fst) t s:=
 Rl (f:=fun e=>Vy e t.field.toNat fun y=>{ y with text:=s })
theorem S6 {w:Wm}{s:Ns}{x:Wd}(h:x.const=true):H6 w s x=((Z4 s.1 s.2.1 (Ce w x)).1,(Z4 s.1 s.2.1 (Ce w x)).2,s.2.2):=by unfold H6;rw [if_pos h]
theorem Sa {w:Wm}{s:Ns}{x:Wd}(h:x.const=false):H6 w s x=((Z4 s.1 s.2.1 (Ce w x)).1,(Z4 s.1 s.2.1 (Ce w x)).2,Uf s.2.2 x.field (nmT s.1 s.2.1 (Ce w x))):=by unfold H6;rw [if_neg (by rw [h];decide)]
theorem nm_f {w:Wm}{U:Um}{N:Nm}{l:Es}{x:Wd}{t:Um×Nm}(hT:t=Z4 U N (Ce w x))(h:x.const=false) :
  H6 w (U,N,l.map Prod.fst) x=(t.1,t.2,(l.modify x.field.v.toNat fun p=>(Vy p.1 x.field.field.toNat (fun y=>{ y with text:=nmT U N (Ce w x) }),p.2)).map Prod.fst):=by
 subst hT;rw [Sa h,gO]
theorem nm_c {w:Wm}{U:Um}{N:Nm}{l:Es}{x:Wd}{t:Um×Nm}(hT:t=Z4 U N (Ce w x))(h:x.const=true):H6 w (U,N,l.map Prod.fst) x=(t.1,t.2,l.map Prod.fst):=by
 subst hT;rw [S6 h]
theorem aH {α β:Type}{f:β→α→β}{l:List α}{k:Nat}{a:α}{b:β}(h:l[k]? = some a):(l.drop k).foldl f b=(l.drop (k+1)).foldl f (f b a):=by rw [A9 h];rfl
theorem cWd_sc (l:List Wd):∀c∈l.map Ld,Bh c=true:=Fl fun _=>rfl
end Go.Proofs.YtkddpedfbicbeaaGreatDoor

namespace Go.Aw
open Go
theorem lit1 {z:Nat}{ρ:Operand→AV}{y:Operand}{cs:List AV}(h:ρ y = .agg cs)(hl:Nat.beq cs.length z=true)(hs:Bh cs=true):Ph z ρ 0 [(0,y)]=true:=by
 unfold Ph Ph
 rw [h]
 show (true&&Nat.beq cs.length z&&Bh cs&&true)=true
 rw [hl,hs];rfl
end Go.Aw
namespace Go.Proofs.YtkddpedfbicbeaaGreatDoor
open Go Go.Aw
def zV (f:Fi):Vl:=⟨f.kind,0,[]⟩
def vS (T:List Sc)(V:List Va)(w:Wm)(l:List Lit)(vals:List Int):List Ev:=bS T V w l (Gs vals 0 (Cg T V l).ts (H0 T 0 V))
theorem iF {T:List Sc}{i:Nat}{v:Va}{s:Sc}(h:T[v.type.toNat]? = some s):(Zb T i v).values=s.fields.map zV:=by
 unfold Zb;rw [h];rfl
theorem nM {vals:List Int}{k:Nat}(h:k+1<vals.length):(vals.map cI)[((k:Int)+1).toNat]? = some [.int .i64 (Ey vals ((k:Int)+1))]:=by
 have:=mC (l:=vals) (k:=(k:Int)+1) (by omega) (by omega)
 rw [List.getElem?_map,this];rfl
theorem aT {l:Es}{t:Tm}{x:Int}(h:(t.op==2)=true):(l.modify t.v.toNat fun p=>({ p.1 with time:=x },p.2)).map Prod.fst=Qh (l.map Prod.fst) t x:=by
 unfold Qh;rw [if_pos h];exact Rl (f:=fun e=>{ e with time:=x })
theorem iJ {l:Es}{t:Tm}{x:Int}(h:(t.op==2)=false):(l.modify t.v.toNat fun p=>(Vy p.1 t.field.toNat (fun y=>{ y with num:=x }),p.2)).map Prod.fst=Qh (l.map Prod.fst) t x:=by
 unfold Qh;rw [if_neg (by rw [h];decide)];exact Rl (f:=fun e=>Vy e t.field.toNat fun y=>{ y with num:=x })
theorem W7 {vals:List Int}{ts:List Tm}{k:Nat}{t:Tm}{evs:List Ev}(h:ts[k]? = some t):Gs vals k (ts.drop k) evs=Gs vals (k+1) (ts.drop (k+1)) (Qh evs t (Ey vals ((k:Int)+1))):=by
 rw [A9 h,Gs]
theorem pM {T:List Sc}{V:List Va}(h:Jv T V){v:Va}(hv:v∈V):∃s,T[v.type.toNat]? = some s:=by
 have:=h v hv
 have hlt:v.type.toNat<T.length:=by omega
 exact ⟨_,List.getElem?_eq_getElem hlt⟩
theorem Si {l:List Int}{k x v:Int}(h0:0≤k)(hk:k<(l.length:Int))(hx:0≤x):Ey (l.set k.toNat v) x=if x=k then v else Ey l x:=by
 unfold Ey
 rw [List.getElem?_set]
 by_cases h:x=k
 ·
  subst h
  rw [if_pos rfl,if_pos (by omega),if_pos rfl];rfl
 · rw [if_neg (by omega),if_neg h]
/-- before bound i of round r: tm tells in which round an unknown was improved last -/
structure RInv (n:Nat) (bs:List Bd) (r i:Nat) (d:Ds) (tm:Int→Nat):Prop where
 s:d.sums.length=n
 l:d.last.length=n
 le:∀x,tm x≤r
 old:∀(j:Nat) (b:Bd),bs[j]? = some b→i≤j→1<r→tm b.y<r-1→Ey d.sums b.x≤Ey d.sums b.y+b.most
 new:∀(j:Nat) (b:Bd),bs[j]? = some b→j<i→tm b.y<r→Ey d.sums b.x≤Ey d.sums b.y+b.most
 pt:∀x:Int,0≤x→x<(n:Int)→1≤tm x→∃b,0≤Ey d.last x∧bs[(Ey d.last x).toNat]? = some b∧tm x≤tm b.y+1
abbrev inR (n:Nat)(b:Bd):Prop:=0≤b.x∧b.x<(n:Int)∧0≤b.y∧b.y<(n:Int)
theorem sI {n r i:Nat}{bs:List Bd}{d:Ds}{a:Int}{tm:Int→Nat}{b:Bd}(hr:1≤r)(h:RInv n bs r i d tm)(hb:bs[i]? = some b)(hbs:∀b∈bs,inR n b)(ha:a = -1∨(tm a=r∧0≤a∧a<(n:Int))) :
    ∃tm',RInv n bs r (i+1) (N8 i b (d,a)).1 tm'∧((N8 i b (d,a)).2 = -1∨(tm' (N8 i b (d,a)).2=r∧0≤(N8 i b (d,a)).2∧(N8 i b (d,a)).2<(n:Int))):=by
  have hbr:=hbs b (List.mem_of_getElem? hb)
  have hs:=h.s
  have hl:=h.l
  cases hq:decide (Ey d.sums b.y+b.most<Ey d.sums b.x) with
  | false=>
    rw [Xv (s:=(d,a)) hq]
    have hq':¬(Ey d.sums b.y+b.most<Ey d.sums b.x):=of_decide_eq_false hq
    refine ⟨tm,⟨h.s,h.l,h.le,fun j c hj hle h1 h2=>h.old j c hj (by omega) h1 h2,fun j c hj hlt h1=>?_,h.pt⟩,ha⟩
    rcases Nat.lt_or_ge j i with h3 | h3
    · exact h.new j c hj h3 h1
    · have:j=i:=by omega
      subst this
      rw [hb] at hj;cases hj
      show Ey d.sums b.x≤Ey d.sums b.y+b.most
      omega
  | true=>
    rw [Pu (s:=(d,a)) hq]
    have hq':Ey d.sums b.y+b.most<Ey d.sums b.x:=of_decide_eq_true hq
    have hty:r≤tm b.y+1:=by
      refine Nat.le_of_not_lt fun hlt=>?_
      rcases Nat.lt_or_ge 1 r with h1 | h1
      · have:=h.old i b hb (Nat.le_refl _) h1 (by omega);omega
      · omega
    refine ⟨fun x=>if x=b.x then r else tm x,⟨by simp only [List.length_set];exact hs,by simp only [List.length_set];exact hl,fun x=>?_,fun j c hj hle h1 h2=>?_,fun j c hj hlt h1=>?_,fun x hx0 hxn ht=>?_⟩,.inr ⟨if_pos rfl,hbr.1,hbr.2.1⟩⟩
    · show (if x=b.x then r else tm x)≤r
      split
      · exact Nat.le_refl _
      · exact h.le x
    · have hcr:=hbs c (List.mem_of_getElem? hj)
      simp only at h2 ⊢
      split at h2
      · omega
      · rename_i hne
        rw [Si hbr.1 (by rw [hs];exact hbr.2.1) hcr.1,Si hbr.1 (by rw [hs];exact hbr.2.1) hcr.2.2.1,if_neg hne]
        have h3:=h.old j c hj (by omega) h1 h2
        split
        · rename_i hcx;rw [hcx] at h3;omega
        · exact h3
    · have hcr:=hbs c (List.mem_of_getElem? hj)
      simp only at h1 ⊢
      split at h1
      · omega
      · rename_i hne
        rw [Si hbr.1 (by rw [hs];exact hbr.2.1) hcr.1,Si hbr.1 (by rw [hs];exact hbr.2.1) hcr.2.2.1,if_neg hne]
        rcases Nat.lt_or_ge j i with h3 | h3
        · have h4:=h.new j c hj h3 h1
          split
          · rename_i hcx;rw [hcx] at h4;omega
          · exact h4
        · have:j=i:=by omega
          subst this
          rw [hb] at hj;cases hj
          rw [if_pos rfl];omega
    · simp only at ht ⊢
      rw [Si hbr.1 (by rw [hl];exact hbr.2.1) hx0]
      by_cases hxb:x=b.x
      · rw [if_pos hxb,if_pos hxb]
        refine ⟨b,by omega,by simpa using hb,?_⟩
        split
        · omega
        · exact hty
      · rw [if_neg hxb] at ht ⊢
        rw [if_neg hxb]
        obtain ⟨c,h1,h2,h3⟩:=h.pt x hx0 hxn ht
        refine ⟨c,h1,h2,?_⟩
        split
        · have:=h.le x;omega
        · exact h3
theorem pX {n r:Nat}{bs:List Bd}(hr:1≤r)(hbs:∀b∈bs,inR n b):∀(m i:Nat) {d:Ds} {a:Int} {tm:Int→Nat},i+m=bs.length→RInv n bs r i d tm→(a = -1∨(tm a=r∧0≤a∧a<(n:Int)))→
    ∃tm',RInv n bs r bs.length (F7 i (bs.drop i) (d,a)).1 tm'∧((F7 i (bs.drop i) (d,a)).2 = -1∨(tm' (F7 i (bs.drop i) (d,a)).2=r∧0≤(F7 i (bs.drop i) (d,a)).2∧(F7 i (bs.drop i) (d,a)).2<(n:Int)))
  | 0,i,d,a,tm,hm,h,ha=>by
    have hi:i=bs.length:=by omega
    rw [Zv (List.drop_eq_nil_of_le (by omega))]
    exact ⟨tm,hi▸h,ha⟩
  | m+1,i,d,a,tm,hm,h,ha=>by
    have hlt:i<bs.length:=by omega
    have hb:=List.getElem?_eq_getElem hlt
    rw [Rj hb]
    obtain ⟨tm',h1,h2⟩:=sI hr h hb hbs ha
    exact pX hr hbs m (i+1) (d:=(N8 i bs[i] (d,a)).1) (a:=(N8 i bs[i] (d,a)).2) (by omega) h1 h2
theorem lR {n r:Nat}{bs:List Bd}{d:Ds}{tm:Int→Nat}(h:RInv n bs r bs.length d tm):RInv n bs (r+1) 0 d tm:=
 ⟨h.s,h.l,fun x=>Nat.le_succ_of_le (h.le x),fun j b hj _ _ h2=>h.new j b hj (List.getElem?_eq_some_iff.1 hj).1 (by omega),fun j b _ hlt=>absurd hlt (by omega),h.pt⟩
theorem Uz {n:Nat}{bs:List Bd}(hbs:∀b∈bs,inR n b):∀(m r:Nat) {d:Ds} {a:Int} {tm:Int→Nat},1≤r→RInv n bs r 0 d tm→(1≤m∨(tm a=r-1∧0≤a∧a<(n:Int)))→¬(D7 bs m (d,a)).2<0→
    ∃tm',RInv n bs (r+m) 0 (D7 bs m (d,a)).1 tm'∧tm' (D7 bs m (d,a)).2=r+m-1∧0≤(D7 bs m (d,a)).2∧(D7 bs m (d,a)).2<(n:Int)
  | 0,r,d,a,tm,hr,h,ha,_=>by
    rcases ha with ha | ha
    · omega
    · exact ⟨tm,h,by show tm a=r+0-1;rw [ha.1];rfl,ha.2⟩
  | m+1,r,d,a,tm,hr,h,_,hne=>by
    obtain ⟨tm',h1,h2⟩:=pX hr hbs bs.length 0 (a:=-1) (by omega) h (.inl rfl)
    rw [List.drop_zero] at h1 h2
    cases hq:decide ((Jq bs d).2<0) with
    | true=>rw [Kh (s:=(d,a)) hq] at hne;exact absurd (of_decide_eq_true hq) hne
    | false=>
      rw [Ms (s:=(d,a)) hq] at hne ⊢
      have hq':=of_decide_eq_false hq
      have h3:=h2.resolve_left (fun e=>hq' (by show (F7 0 bs (d,-1)).2<0;rw [e];decide))
      have:=Uz hbs m (r+1) (d:=(Jq bs d).1) (a:=(Jq bs d).2) (by omega) (lR h1) (.inr ⟨by show tm' (F7 0 bs (d,-1)).2=_;rw [h3.1];omega,h3.2⟩) hne
      rw [show r+1+m=r+(m+1) by omega] at this
      exact this
def Hy (bs:List Bd)(d:Ds)(a:Int):Nat→Int
 | 0=>a
 | k+1=>I9 bs d (Hy bs d a k)
theorem Uk {bs:List Bd}{d:Ds}{a:Int}:∀(k j:Nat),Kv bs d k (Hy bs d a j)=Hy bs d a (j+k)
  | 0,j=>rfl
  | k+1,j=>by
    rw [Yh]
    have:=Uk (bs:=bs) (d:=d) (a:=a) k (j+1)
    rw [show j+(k+1)=j+1+k by omega,←this];rfl
theorem yU {n:Nat}{bs:List Bd}(hn:1≤n)(hbs:∀b∈bs,inR n b)(hge:decide ((El (zn n bs)).2<0)=false):Nd n bs=true:=by
  have hst:RInv n bs 1 0 ⟨List.replicate n 0,Nz n⟩ (fun _=>0):=⟨by simp,by simp [Nz],fun _=>by omega,fun j b _ _ h=>absurd h (by omega),fun j b _ h=>absurd h (by omega),fun x _ _ h=>absurd h (by simp)⟩
  have hge':=of_decide_eq_false hge
  rw [M0] at hge'
  obtain ⟨tm,h1,h2,h3,h4⟩:=Uz hbs (n+1) 1 (a:=-1) (Nat.le_refl _) hst (.inl (by omega)) hge'
  rw [←M0] at h1 h2 h3 h4
  unfold Nd
  generalize El (zn n bs)=e at h1 h2 h3 h4
  have key:∀k,k≤n→0≤Hy bs e.1 e.2 k∧Hy bs e.1 e.2 k<(n:Int)∧n+1≤tm (Hy bs e.1 e.2 k)+k:=by
    intro k
    induction k with
    | zero=>intro _;exact ⟨h3,h4,by show n+1≤tm e.2+0;omega⟩
    | succ k ih=>
      intro hk
      obtain ⟨q1,q2,q3⟩:=ih (by omega)
      obtain ⟨b,p1,p2,p3⟩:=h1.pt _ q1 q2 (by omega)
      have hb:=hbs b (List.mem_of_getElem? p2)
      have he:Hy bs e.1 e.2 (k+1)=b.y:=by
        show I9 bs e.1 (Hy bs e.1 e.2 k)=b.y
        unfold I9;rw [p2];rfl
      rw [he]
      exact ⟨hb.2.2.1,hb.2.2.2,by omega⟩
  have hok:∀k,k≤n→Xo bs e.1 (Hy bs e.1 e.2 k)=true:=by
    intro k hk
    obtain ⟨q1,q2,q3⟩:=key k hk
    obtain ⟨b,p1,p2,_⟩:=h1.pt _ q1 q2 (by omega)
    have:=(List.getElem?_eq_some_iff.1 p2).1
    unfold Xo
    rw [h1.l]
    simp only [Bool.and_eq_true,decide_eq_true_eq]
    exact ⟨⟨⟨q1,q2⟩,p1⟩,by omega⟩
  -- two of the first n + 1 are the same
  have hrep:∃i j,i<j∧j≤n∧Hy bs e.1 e.2 i=Hy bs e.1 e.2 j:=by
    refine Classical.byContradiction fun hno=>?_
    have hn1:((List.range (n+1)).map (Hy bs e.1 e.2)).Nodup:=by
      refine List.pairwise_map.2 (List.Pairwise.imp_of_mem ?_ List.pairwise_lt_range)
      intro a b ha hb hlt heq
      exact hno ⟨a,b,hlt,by have:=List.mem_range.1 hb;omega,heq⟩
    have hs:(List.range (n+1)).map (Hy bs e.1 e.2) ⊆ (List.range n).map (fun k:Nat=>(k:Int)):=fun x hx=>by
      obtain ⟨k,hk,rfl⟩:=List.mem_map.1 hx
      obtain ⟨q1,q2,_⟩:=key k (by have:=List.mem_range.1 hk;omega)
      exact List.mem_map.2 ⟨(Hy bs e.1 e.2 k).toNat,List.mem_range.2 (by omega),by omega⟩
    have:=T2 hn1 hs
    simp at this
    omega
  obtain ⟨i,j,hij,hjn,heq⟩:=hrep
  have hper:∀k,Hy bs e.1 e.2 (i+k)=Hy bs e.1 e.2 (j+k):=by
    intro k
    induction k with
    | zero=>exact heq
    | succ k ih=>show I9 bs e.1 (Hy bs e.1 e.2 (i+k))=I9 bs e.1 (Hy bs e.1 e.2 (j+k));rw [ih]
  have hall:∀k,Xo bs e.1 (Hy bs e.1 e.2 k)=true:=by
    intro k
    induction k using Nat.strongRecOn with
    | _ k ih=>
      rcases Nat.lt_or_ge n k with h | h
      · have:=hper (k-j)
        rw [show j+(k-j)=k by omega] at this
        rw [←this]
        exact ih _ (by omega)
      · exact hok k h
  have hback:∀m k,Ll bs e.1 m (Hy bs e.1 e.2 k)=true:=by
    intro m
    induction m with
    | zero=>intro k;rfl
    | succ m ih=>intro k;rw [Ll,hall k];exact ih (k+1)
  have hcyc:∀m k,n≤k→k<n+(j-i)→n+(j-i)≤k+m→Mg bs e.1 (Hy bs e.1 e.2 n) m (Hy bs e.1 e.2 k)=true:=by
    intro m
    induction m with
    | zero=>intro k h5 h6 h7;omega
    | succ m ih=>
      intro k h5 h6 h7
      rw [Mg,hall k,Bool.true_and,Bool.or_eq_true]
      rcases Nat.lt_or_ge (k+1) (n+(j-i)) with h8 | h8
      · exact .inr (ih (k+1) (by omega) h8 (by omega))
      · left
        have:=hper (n-i)
        rw [show i+(n-i)=n by omega,show j+(n-i)=k+1 by omega] at this
        rw [this]
        exact beq_self_eq_true (I9 bs e.1 (Hy bs e.1 e.2 k))
  rw [Bool.and_eq_true]
  have hbn:Kv bs e.1 n e.2=Hy bs e.1 e.2 n:=by have:=Uk (bs:=bs) (d:=e.1) (a:=e.2) n 0;rwa [Nat.zero_add] at this
  rw [hbn]
  exact ⟨hback n 0,hcyc (n+1) n (Nat.le_refl _) (by omega) (by omega)⟩
theorem xB (T:List Sc)(V:List Va)(l:List Lit):SOLV T V l:=fun h1 h2=>by
 have hz:=eA (n:=((zN T V l:Nat):Int)) (bs:=(C7 T V l).bs) h1
 exact yU (n:=zN T V l) (by omega) hz.2.2.2 h2
end Go.Proofs.YtkddpedfbicbeaaGreatDoor
