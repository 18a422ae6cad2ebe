/-
  Several texts in one: S25, As, S26, S27, S28, S29, S31. No condition.
-/
import Derived.Test.YtkddpedfbicbeaaGreatDoorK09
set_option linter.unusedVariables false
set_option linter.unusedSimpArgs false
namespace Go.Proofs.YtkddpedfbicbeaaGreatDoor
open Go Go.Aw
section
variable {T:List Sc} {V:List Va}
theorem gL {c:Lit}{x z r:Int}(hr : -140737488355328≤r∧r≤140737488355328):∀b∈D8 c x z r,-Jp≤b.most∧b.most≤Jp:=by
 have hb:Jp=140737488355329:=rfl
 unfold D8
 repeat' split
 all_goals
  intro b hb'
  simp only [List.mem_cons,List.not_mem_nil,or_false] at hb'
  rcases hb' with rfl | rfl <;> first | omega | skip
 all_goals (try (simp only;omega))
theorem Xz:∀{l:List Lit},Vk T V l→∀{s:Sy},(∀b∈s.bs,-Jp≤b.most∧b.most≤Jp)→∀b∈(l.foldl (Df T V) s).bs,-Jp≤b.most∧b.most≤Jp
  | [],_,s,hs=>hs
  | c::r,hl,s,hs=>by
    rw [List.foldl_cons]
    refine Xz (fun x hx=>hl x (List.mem_cons_of_mem _ hx)) ?_
    cases h : !(Aa T V c).2 with
    | true=>rw [Ly h];exact hs
    | false=>
      rw [Lq h]
      intro b hb
      rcases List.mem_append.1 hb with hb | hb
      · exact hs b hb
      · exact gL (Re (hl c (List.mem_cons_self ..)).1 (hl c (List.mem_cons_self ..)).2).rest b hb
theorem Yj:∀(ts:List Tm) (i:Nat),∀b∈Hn T V i ts,-Jp≤b.most∧b.most≤Jp
  | [],i,b,h=>by cases h
  | t::r,i,b,h=>by
    have hb:Jp=140737488355329:=rfl
    have hl:=Sj (T:=T) (V:=V) t
    rw [Hn] at h
    rcases List.mem_cons.1 h with rfl | h
    · simp only;omega
    · rcases List.mem_cons.1 h with rfl | h
      · simp only;omega
      · exact Yj r (i+1) b h
def zN (T:List Sc)(V:List Va)(l:List Lit):Nat:=(Ci T V l).ts.length+1
theorem oC (l:List Lit):C9 T V l=zn (zN T V l) (C9 T V l).bs:=rfl
theorem Px {l:List Lit}(hl:Vk T V l):∀b∈(C9 T V l).bs,-Jp≤b.most∧b.most≤Jp:=by
 intro b hb
 rcases List.mem_append.1 hb with hb | hb
 · exact Yj _ _ b hb
 · exact Xz hl (s:=⟨[],[]⟩) (fun b h=>by cases h) b hb
/-- the walk back along the last bounds of the zone of a clause comes round, where there is no model -/
def SOLV (T:List Sc)(V:List Va)(l:List Lit):Prop:=(I6 (C9 T V l) != 0)=false→decide ((Em (C9 T V l)).2<0)=false→Np (zN T V l) (C9 T V l).bs=true
/-- solve: the values, and whether there is something -/
def Ln (T:List Sc)(V:List Va)(l:List Lit):List Int:=if !Ja (C9 T V l) then [] else (Ew (C9 T V l)).values
def Qq (T:List Sc)(V:List Va)(l:List Lit):Bool:=if !Ja (C9 T V l) then true else (Ej T V l).2&&(Ew (C9 T V l)).ok
theorem solV_1 {l:List Lit}(h:(!Ja (C9 T V l))=true):Ln T V l = []:=if_pos h
theorem lJ {l:List Lit}(h:(!Ja (C9 T V l))=false):Ln T V l=(Ew (C9 T V l)).values:=Ck h
theorem uJ {l:List Lit}(h:(!Ja (C9 T V l))=true):Qq T V l=true:=if_pos h
theorem bR {l:List Lit}(h:(!Ja (C9 T V l))=false):Qq T V l=((Ej T V l).2&&(Ew (C9 T V l)).ok):=Ck h
theorem lU (l:List Lit):Rv (Ej T V l).1:=cL l [] V9
def Lw (T:List Sc)(V:List Va)(l:List Lit):Bool:=l.all (fun c=>B7 T V c.cond)&&(Ja (C9 T V l)&&decide ((l.length:Int)≤256))
theorem xM {l:List Lit}(h:l.all (fun c=>B7 T V c.cond)=true):Lw T V l=(Ja (C9 T V l)&&decide ((l.length:Int)≤256)):=by unfold Lw;rw [h,Bool.true_and]
theorem cert_no {l:List Lit}{k:Nat}{c:Lit}(hc:l[k]? = some c)(h:B7 T V c.cond=false):Lw T V l=false:=by
 unfold Lw
 have:l.all (fun c=>B7 T V c.cond)=false:=by
  rw [List.all_eq_false]
  exact ⟨c,List.mem_of_getElem? hc,by rw [h];decide⟩
 rw [this,Bool.false_and]
end
end Go.Proofs.YtkddpedfbicbeaaGreatDoor

namespace Go.Aw
open Go
theorem AW.ghostPost {P:Program}{c:Code}{Q:Exit→St→Prop}{s:St}(h:AW P c (fun e s=>∃s',GS s s'∧Q e s') s):AW P c Q s:=by
 intro Q' g a w hG hQ
 refine h Q' g a w hG fun e g' s' a' w' h1 h2 ⟨s2,h3,h4⟩=>?_
 obtain ⟨g2,k1,k2⟩:=h3 g' a' w' h1
 exact hQ e g2 s2 a' w' k1 (h2.trans k2) h4
def Vs:List (List UInt8×AV)→List UInt8→Option Nat
 | [],_=>none
 | (k,_)::r,n=>if k=n then some 0 else (Vs r n).map (· + 1)
def Aar (es:List (List UInt8×AV))(n:List UInt8)(x:AV):List (List UInt8×AV):=match Vs es n with | some j=>es.modify j fun _=>(n,x) | none=>es ++ [(n,x)]
theorem aG {n:List UInt8}:∀{es:List (List UInt8×AV)},Vs es n=none→Mb es n=none
  | [],_=>rfl
  | (k,x)::r,h=>by
    rw [Vs] at h
    split at h
    · cases h
    · rename_i hk
      rw [Mb,if_neg hk]
      exact aG (Option.map_eq_none_iff.1 h)
theorem nT {n:List UInt8}:∀{es:List (List UInt8×AV)} {j:Nat},Vs es n=some j→∃x,es[j]? = some (n,x)∧Mb es n=some x
  | [],j,h=>by cases h
  | (k,x)::r,j,h=>by
    rw [Vs] at h
    split at h
    · rename_i hk
      cases h;subst hk
      exact ⟨x,rfl,by rw [Mb,if_pos rfl]⟩
    · rename_i hk
      obtain ⟨j',h1,h2⟩:=Option.map_eq_some_iff.1 h
      subst h2
      obtain ⟨y,h3,h4⟩:=nT h1
      exact ⟨y,h3,by rw [Mb,if_neg hk];exact h4⟩
theorem iG {n:List UInt8}:∀(l:List MapEntry) (es:List (List UInt8×AV)) (i j:Nat),l.length=es.length→(∀(j:Nat) m x,es[j]? = some (m,x)→(l.getD j default).key = .string ⟨m.toArray⟩)→Vs es n=some j→
    Instr.findNow .string (.string ⟨n.toArray⟩) l i=some (some (i+j,(l.getD j default).val))
  | [],[],_,_,_,_,hg=>by cases hg
  | [],_::_,_,_,h,_,_=>by simp at h
  | e::l,[],_,_,h,_,_=>by simp at h
  | e::l,(m,y)::es,i,j,h,hk,hg=>by
    have h1:e.key = .string ⟨m.toArray⟩:=by simpa using hk 0 m y rfl
    rw [Vs] at hg
    by_cases hm:m=n
    · subst hm
      rw [if_pos rfl] at hg
      cases hg
      unfold Instr.findNow
      simp [h1,Instr.sameNow,rT]
    · rw [if_neg hm] at hg
      obtain ⟨j',h3,rfl⟩:=Option.map_eq_some_iff.1 hg
      have:((⟨n.toArray⟩:ByteArray)==⟨m.toArray⟩)=false:=by rw [rT];simp;exact fun e=>hm e.symm
      unfold Instr.findNow
      simp only [h1,Instr.sameNow,this]
      have ih:=iG l es (i+1) j' (by simpa using h) (fun j m x hj=>by simpa using hk (j+1) m x hj) h3
      rw [show i+(j'+1)=i+1+j' by omega]
      simpa using ih
section
variable {P:Program} {T:List (Nat×TD)} {d:Option Nat} {ty:TypeId} {pos:String} {aft:Array Edge} {gd:Option (Nat×Bool)} {ρ:Operand→AV}
theorem rU {t:TypeId}{m k v:Operand}{kt et b i j:Nat}{td tk:TD}{n:List UInt8}{es:List (List UInt8×AV)}{x:AV}{H H2:List HO}(hT:Hr P T)(ht:Bu T t=some td)(hk:td.kind = .map kt et)(htk:Bu T kt=some tk)(hkk:tk.kind = .str)
  (hm:ρ m = .val (.map (some b))) (hkey:ρ k = .str n) (hv:ρ v=x) (hH:H[i]? = some (.smap b es)) (hold:Vs es n=some j) (hH2:H.set i (.smap b (es.modify j fun _=>(n,x)))=H2) :
  Le P ⟨d,.mapUpdate t m k v,ty,pos,aft,gd⟩ ρ H (fun y H'=>y = .junk∧H'=H2):=by
 subst hH2
 intro g w a next Q hr hHK hn
 have h1:=(hm▸hr m (by simp [Op.operands]):Rep g w _ _).inv_val
 have h2:=(hkey▸hr k (by simp [Op.operands]):Rep g w _ _).inv_str.1
 have h3:Rep g w (a.eval v) x:=hv▸hr v (by simp [Op.operands])
 obtain ⟨hg,ms,clock,hheap,hl,hks,hvs⟩:=hHK.ok _ (List.mem_of_getElem? hH)
 have hu:=Iw (hT t td ht) hk
 have huk:=K4 (hT kt tk htk) hkk
 have hl':ms.toList.length=es.length:=by simpa using hl
 have hfind:=iG (n:=n) ms.toList es 0 j hl' (fun j m x hj=>by simpa using hks j m x hj) hold
 rw [Nat.zero_add] at hfind
 have hget:(getObj b).run P w = .ok (.map ms clock) w:=by simp [getObj,Sem.run,hheap]
 obtain ⟨y,hj,_⟩:=nT hold
 have hlt:j<ms.size:=by rw [hl];exact (List.getElem?_eq_some_iff.1 hj).1
 have e1:ms[j]? = some (ms.getD j default):=by simp [Array.getD_eq_getD_getElem?,hlt]
 have hkey0:=hks j n y hj
 have hkj:(((ms[j]?).map (·.key)).getD (.string ⟨n.toArray⟩)) = .string ⟨n.toArray⟩:=by
  rw [e1];simp only [Option.map_some,Option.getD_some,hkey0]
 have hkt:(Instr.keyThatStays (.string ⟨n.toArray⟩) (.string ⟨n.toArray⟩)).run P w = .ok (.string ⟨n.toArray⟩) w:=by
  unfold Instr.keyThatStays
  rw [if_pos (by
   have e:((⟨n.toArray⟩:ByteArray)==⟨n.toArray⟩)=true:=by rw [rT];simp
   simp [Instr.sameBits,e])];rfl
 obtain ⟨hset,hx,hnew,hoth⟩:=Lj (P:=P) (.map (ms.modify j fun e=>{ e with key:=.string ⟨n.toArray⟩,val:=a.eval v }) clock) hg hheap
 have hrun:(Instr.mapUpdate t (a.eval m) (a.eval k) (a.eval v)).run P w = .ok () { w with heap:=w.heap.setIfInBounds b (.map (ms.modify j fun e=>{ e with key:=.string ⟨n.toArray⟩,val:=a.eval v }) clock) }:=by
  have hfk:(Instr.findKey kt (.string ⟨n.toArray⟩) ms.toList).run P w = .ok (some (j,(ms.toList.getD j default).val)) w:=by
   unfold Instr.findKey
   rw [Sem.run_bind,A9 huk]
   simp only [Result.andThen_ok,hfind,Sem.run_pure]
  unfold Instr.mapUpdate
  rw [Sem.run_bind,A9 hu]
  simp only [Result.andThen_ok,h1,Sem.run_bind,hget,h2,K9 (n:=9999) huk,hfk,hkj,hkt,hset]
 unfold Oper.wp
 simp only [execOp,Sem.run_bind,hrun,Result.andThen_ok,Sem.run_pure]
 have hgetm:∀i,i<ms.size→(ms.modify j fun e=>{ e with key:=.string ⟨n.toArray⟩,val:=a.eval v }).getD i default=if j=i then { ms.getD i default with key:=.string ⟨n.toArray⟩,val:=a.eval v } else ms.getD i default:=fun i hi=>by
  simp only [Array.getD_eq_getD_getElem?,Array.getElem?_modify]
  by_cases h:j=i
  · subst h;simp [hi]
  · simp [h]
 have hkp:∀i k z,(es.modify j fun _=>(n,x))[i]? = some (k,z)→i<ms.size∧if j=i then k=n∧z=x else es[i]? = some (k,z):=fun i k z hi=>by
  have h1:=(List.getElem?_eq_some_iff.1 hi).1
  rw [List.length_modify,←hl] at h1
  refine ⟨h1,?_⟩
  simp only [List.getElem?_modify] at hi
  by_cases h:j=i
  · subst h;rw [hj] at hi;simp at hi;simp [hi.1.symm,hi.2.symm]
  · simpa [h] using hi
 refine hn g _ undef .junk _ ⟨rfl,rfl⟩ (.junk _) (hHK.set hx hH (fun c hc=>.inl hc) ⟨hg,_,_,hnew,by simp [hl],fun i k z hi=>?_,fun i k z hi=>?_⟩ (fun c hc hne _=>⟨rfl,hoth c fun e=>hne (by rw [e];rfl)⟩)) hx
 ·
  obtain ⟨q1,q2⟩:=hkp i k z hi
  rw [hgetm i q1]
  by_cases h:j=i
  · rw [if_pos h];rw [if_pos h] at q2;rw [q2.1]
  · rw [if_neg h];rw [if_neg h] at q2;exact hks i k z q2
 ·
  obtain ⟨q1,q2⟩:=hkp i k z hi
  rw [hgetm i q1]
  by_cases h:j=i
  · rw [if_pos h];rw [if_pos h] at q2;rw [q2.2];exact h3.mono hx
  · rw [if_neg h];rw [if_neg h] at q2;exact (hvs i k z q2).mono hx

/-- A key gets a value, whether it was there or not. -/
theorem tN {t:TypeId}{m k v:Operand}{kt et b i:Nat}{td tk:TD}{n:List UInt8}{es:List (List UInt8×AV)}{x:AV}{H H2:List HO}(hT:Hr P T)(ht:Bu T t=some td)(hk:td.kind = .map kt et)(htk:Bu T kt=some tk)(hkk:tk.kind = .str)
  (hm:ρ m = .val (.map (some b))) (hkey:ρ k = .str n) (hv:ρ v=x) (hH:H[i]? = some (.smap b es)) (hH2:H.set i (.smap b (Aar es n x))=H2) :
  Le P ⟨d,.mapUpdate t m k v,ty,pos,aft,gd⟩ ρ H (fun y H'=>y = .junk∧H'=H2):=by
 unfold Aar at hH2
 cases hs:Vs es n with
 | none=>rw [hs] at hH2;exact Ur hT ht hk htk hkk hm hkey hv hH (aG hs) hH2
 | some j=>rw [hs] at hH2;exact rU hT ht hk htk hkk hm hkey hv hH hs hH2
end
end Go.Aw

namespace Go.Proofs.YtkddpedfbicbeaaGreatDoor
open Go Go.Aw
abbrev Ft:=List UInt8
/-! ### what is used -/
abbrev Um:=List (Ft×Bool)
def sE (U:Um):List (List UInt8×AV):=U.map fun p=>(p.1,AV.bool p.2)
def Ff:Um→Ft→Bool
 | [],_=>false
 | (k,b)::r,n=>if k=n then b else Ff r n
def iO:Um→Ft→Option Nat
 | [],_=>none
 | (k,_)::r,n=>if k=n then some 0 else (iO r n).map (· + 1)
def Uc (U:Um)(n:Ft)(b:Bool):Um:=match iO U n with | some j=>U.modify j fun _=>(n,b) | none=>U ++ [(n,b)]
theorem uP (n:Ft):∀U:Um,match Mb (sE U) n with | some y=>y = .bool (Ff U n) | none=>[AV.bool false] = [.bool (Ff U n)]
  | []=>rfl
  | (k,b)::r=>by
    have ih:=uP n r
    show match (if k=n then some (AV.bool b) else Mb (sE r) n) with | some y=>y = .bool (if k=n then b else Ff r n) | none=>[AV.bool false] = [.bool (if k=n then b else Ff r n)]
    by_cases h:k=n
    · rw [if_pos h,if_pos h]
    · rw [if_neg h,if_neg h];exact ih
theorem yO (n:Ft):∀U:Um,Vs (sE U) n=iO U n
  | []=>rfl
  | (k,b)::r=>by
    show (if k=n then some 0 else (Vs (sE r) n).map (· + 1))=if k=n then some 0 else (iO r n).map (· + 1)
    rw [yO n r]
theorem L0 {α β:Type}(f:α→β)(g:α→α)(h:β→β)(hc:∀x,f (g x)=h (f x)):∀(l:List α) (j:Nat),(l.modify j g).map f=(l.map f).modify j h
 | [],j=>by simp
 | a::r,0=>by simp [hc]
 | a::r,j+1=>by simp [L0 f g h hc r j]
theorem sput_u (U:Um)(n:Ft)(b:Bool):Aar (sE U) n (.bool b)=sE (Uc U n b):=by
 unfold Aar Uc
 rw [yO]
 cases iO U n with
 | none=>simp [sE]
 | some j=>exact (L0 (fun p:Ft×Bool=>(p.1,AV.bool p.2)) (fun _=>(n,b)) (fun _=>(n,AV.bool b)) (fun _=>rfl) U j).symm
theorem jR {n:Ft}:∀{U:Um},Ff U n=true→n∈U.map Prod.fst
  | [],h=>by cases h
  | (k,b)::r,h=>by
    rw [Ff] at h
    by_cases hk:k=n
    · simp [hk]
    · rw [if_neg hk] at h;simp [jR h]
/-! ### fresh names -/
theorem bJ {a b:Nat}(ha:a<256)(hb:b<256)(h:UInt8.ofNat a=UInt8.ofNat b):a=b:=by
 have:=congrArg UInt8.toNat h
 simp at this
 omega
theorem wC {u:Nat}:Go.Lib.decDigits u≠[]:=by rw [Go.Lib.decDigits];split <;> simp
theorem lN {u:Nat}(h:¬u<10):Go.Lib.decDigits u=Go.Lib.decDigits (u / 10) ++ [UInt8.ofNat (48+u % 10)]:=by rw [Go.Lib.decDigits,dif_neg h]
theorem dec_inj:∀(u v:Nat),Go.Lib.decDigits u=Go.Lib.decDigits v→u=v:=by
  intro u
  induction u using Nat.strongRecOn with
  | _ u ih=>
    intro v h
    by_cases h1:u<10
    · rw [Go.Lib.decDigits_one h1] at h
      by_cases h2:v<10
      · rw [Go.Lib.decDigits_one h2] at h
        have:=bJ (by omega) (by omega) (List.cons.inj h).1
        omega
      · rw [lN h2] at h
        have:=congrArg List.length h
        simp at this
        exact absurd this wC
    · rw [lN h1] at h
      by_cases h2:v<10
      · rw [Go.Lib.decDigits_one h2] at h
        have:=congrArg List.length h
        simp at this
        exact absurd this wC
      · rw [lN h2] at h
        obtain ⟨e1,e2⟩:=List.append_inj' h rfl
        have h3:=ih (u / 10) (by omega) _ e1
        have h4:=bJ (by omega) (by omega) (List.cons.inj e2).1
        omega
theorem To {α:Type}[DecidableEq α]:∀{l m:List α},l.Nodup→l ⊆ m→l.length≤m.length
  | [],m,_,_=>Nat.zero_le _
  | a::r,m,hn,hs=>by
    have h1:=List.nodup_cons.1 hn
    have ha:a∈m:=hs (List.mem_cons_self ..)
    have h2:r ⊆ m.erase a:=fun x hx=>(List.mem_erase_of_ne (fun e:x=a=>h1.1 (by rw [←e];exact hx))).2 (hs (List.mem_cons_of_mem _ hx))
    have h3:=To h1.2 h2
    have h4:=List.length_erase_of_mem ha
    have h5:=List.length_pos_of_mem ha
    rw [List.length_cons];omega
def wN (k:Nat):Ft:=119::Go.Lib.itoa (k:Int)
theorem wN_inj {a b:Nat}(h:wN a=wN b):a=b:=by
 have h1:=(List.cons.inj h).2
 unfold Go.Lib.itoa at h1
 rw [if_neg (by omega),if_neg (by omega)] at h1
 have:=dec_inj _ _ h1
 omega
theorem Pj {U:Um}:∀{j:Nat},(∀i,i<j→Ff U (wN i)=true)→j≤U.length:=by
 intro j h
 have hn:((List.range j).map wN).Nodup:=List.Pairwise.map _ (fun a b hab e=>hab (wN_inj e)) List.nodup_range
 have hs:(List.range j).map wN ⊆ U.map Prod.fst:=fun x hx=>by
  obtain ⟨i,hi,rfl⟩:=List.mem_map.1 hx
  exact jR (h i (List.mem_range.1 hi))
 have:=To hn hs
 simpa using this
def Uf (U:Um):Nat→Nat→Nat
 | 0,k=>k
 | f+1,k=>if Ff U (wN k) then Uf U f (k+1) else k
def dH (U:Um):Ft:=wN (Uf U U.length 0)
theorem oE {U:Um}{f k:Nat}(h:Ff U (wN k)=false):Uf U f k=k:=by
 cases f with
 | zero=>rfl
 | succ f=>rw [Uf,if_neg (by rw [h];decide)]
theorem oJ {U:Um}{f k:Nat}(h:Ff U (wN k)=true):Uf U (f+1) k=Uf U f (k+1):=by rw [Uf,if_pos h]
/-- how far the naming has come: the next number and the text so far -/
def nmI (U:Um)(r:Wd)(n:Nat)(s:Ft):Prop:=(n=0∧s=r.text)∨(r.const=false∧∃j,n=j+1∧s=wN j∧(∀i,i<j→Ff U (wN i)=true)∧Uf U U.length 0=Uf U (U.length-j) j)
theorem Aax {U:Um}{r:Wd}{n:Nat}{s:Ft}(h:nmI U r n s)(hc:r.const=false)(hu:n=0∨Ff U s=true):nmI U r (n+1) (wN n):=by
 rcases h with ⟨rfl,_⟩ | ⟨_,j,rfl,rfl,h1,h2⟩
 · exact .inr ⟨hc,0,rfl,rfl,fun i hi=>absurd hi (by omega),rfl⟩
 ·
  have hu':Ff U (wN j)=true:=hu.resolve_left (by omega)
  have h3:∀i,i<j+1→Ff U (wN i)=true:=fun i hi=>by
   rcases Nat.lt_or_ge i j with h | h
   · exact h1 i h
   · rw [show i=j by omega];exact hu'
  have h4:=Pj h3
  exact .inr ⟨hc,j+1,rfl,rfl,h3,by rw [h2,show U.length-j=(U.length-(j+1))+1 by omega,oJ hu']⟩
theorem nm_len {U:Um}{r:Wd}{n:Nat}{s:Ft}(h:nmI U r n s):n≤U.length+1:=by
 rcases h with ⟨rfl,_⟩ | ⟨_,j,rfl,rfl,h1,_⟩
 · omega
 · have:=Pj h1;omega
def J2 (U:Um)(r:Wd):Ft:=if r.const then r.text else dH U
theorem nm_done {U:Um}{r:Wd}{n:Nat}{s:Ft}(h:nmI U r n s)(hx:(!r.const&&(n==0||Ff U s))=false):s=J2 U r:=by
  unfold J2
  cases hc:r.const with
  | true=>
    rcases h with ⟨_,h⟩ | ⟨h,_⟩
    · rw [if_pos rfl];exact h
    · rw [hc] at h;cases h
  | false=>
    rw [hc] at hx
    rcases h with ⟨rfl,_⟩ | ⟨_,j,rfl,rfl,_,h2⟩
    · simp at hx
    · rw [if_neg (by decide)]
      unfold dH
      rw [h2,oE (by simpa using hx)]
/-! ### names of classes -/
abbrev Nm:=List (Wd×Ft)
def nE (N:Nm):List (List AV×AV):=N.map fun p=>(Ld p.1,.str p.2)
def Ic (N:Nm)(r:Wd):Option Ft:=(N.find? fun p=>decide (p.1=r)).map (·.2)
theorem aS (x:Wd)(N:Nm):∀p∈nE N,He TL [(0,1,true,4),(1,1,true,9),(2,3,true,143)] (Ld x) p.1=some (Jt x p.1):=by
 intro p hp
 obtain ⟨q,_,rfl⟩:=List.mem_map.1 hp
 show He TL _ (Ld x) (Ld q.1)=some (Jt x (Ld q.1))
 rw [Nt,Nh]
theorem Za (x:Wd):∀N:Nm,Hl (Jt x) (nE N)=(Ic N x).map fun y=>.str y
  | []=>rfl
  | q::r=>by
    have ih:=Za x r
    unfold nE Ic at ih ⊢
    rw [List.map_cons,Hl,Nh,Wa,ih,List.find?_cons]
    by_cases h:q.1=x
    · rw [decide_eq_true h.symm,decide_eq_true h];rfl
    · rw [decide_eq_false (fun e=>h e.symm),decide_eq_false h];rfl
theorem look_n (x:Wd)(N:Nm):match Hl (Jt x) (nE N) with | some y=>y = .str ((Ic N x).getD []) | none=>[AV.str []] = [.str ((Ic N x).getD [])]:=by
 rw [Za];cases Ic N x <;> rfl
theorem has_n (x:Wd)(N:Nm):(Hl (Jt x) (nE N)).isSome=(Ic N x).isSome:=by rw [Za];cases Ic N x <;> rfl
theorem new_n {x:Wd}{N:Nm}(h:Ic N x=none):Hl (Jt x) (nE N)=none:=by rw [Za,h];rfl
theorem dP (N:Nm)(r:Wd)(s:Ft):nE N ++ [(Ld r,AV.str s)]=nE (N ++ [(r,s)]):=by unfold nE;rw [List.map_append];rfl
theorem Ul {N:Nm}{r:Wd}{s:Ft}(h:Ic N r=none):Ic (N ++ [(r,s)]) r=some s:=by
 unfold Ic at h ⊢
 rw [Option.map_eq_none_iff] at h
 rw [List.find?_append,h]
 simp
theorem kidx_n {N:Nm}{r:Wd}{s:Ft}(h:Ic N r=none):Ls (Jt r) (nE (N ++ [(r,s)]))=some N.length:=by
  induction N with
  | nil=>
    show (if Jt r (Ld r) then some 0 else none)=_
    rw [Nh,Wa];simp
  | cons q t ih=>
    unfold Ic at h ih
    rw [Option.map_eq_none_iff,List.find?_cons] at h
    by_cases hq:q.1=r
    · rw [decide_eq_true hq] at h;cases h
    · rw [decide_eq_false hq] at h
      show (if Jt r (Ld q.1) then some 0 else (Ls (Jt r) (nE (t ++ [(r,s)]))).map (· + 1))=_
      rw [Nh,Wa,decide_eq_false (fun e=>hq e.symm),ih (by rw [Option.map_eq_none_iff];exact h)]
      rfl
theorem kput_n (N:Nm)(r:Wd)(s s':Ft):Ob (nE (N ++ [(r,s)])) N.length (.str s')=nE (N ++ [(r,s')]):=by
 unfold Ob
 rw [←dP,←dP]
 have hl:(nE N).length=N.length:=List.length_map ..
 rw [←hl]
 generalize nE N=E
 induction E with
 | nil=>rfl
 | cons a t ih=>simp [ih]
theorem Aaw (x:Wd)(N:Nm):∀p∈nE N,Jt x p.1=true→p.1=Ld x:=by
 intro p hp h
 obtain ⟨q,_,rfl⟩:=List.mem_map.1 hp
 rw [Nh] at h
 simp only
 rw [M1.1 h]
/-! ### terms that are read -/
section
variable {T:List Sc} {V:List Va}
structure tmOK (T:List Sc) (V:List Va) (t:Tm):Prop where
 op:t.op=1∨t.op=2
 v0:0≤t.v
 v1:t.v<(V.length:Int)
 f:t.op=1→0≤t.field∧t.field<((Fu T V t.v).length:Int)
theorem tm_ok {t:Tm}(hk:KOK T V (Hq t))(ho:t.op=1∨t.op=2):tmOK T V t:=by
 have hn:=(Be hk.nodes).1
 have h2:=hk.kind
 unfold By at hn
 split at hn
 · cases hn
 split at hn
 · cases hn
 split at hn
 · cases hn
 rename_i h3
 have hk2:(F0 T V (Hq t)).2=0:=by
  have e:Cc T V (Hq t)=F0 T V (Hq t):=by unfold Hq;rw [Cc];rfl
  rw [←e];exact h2
 unfold F0 at hk2
 rw [if_neg (by show ¬(t.op==0)=true;simp;omega)] at hk2
 split at hk2
 · cases hk2
 rename_i h4
 have h4':¬(V.length:Int)≤t.v:=fun h=>h4 (decide_eq_true h)
 have h3':¬((((Dp t.op).1=true∧(t.v<0∨16≤t.v))∨((Dp t.op).2=true∧(t.field<0∨8≤t.field)))):=fun h=>h3 (by
  show ((Dp t.op).1&&(decide (t.v<0)||decide (16≤t.v))||((Dp t.op).2&&(decide (t.field<0)||decide (8≤t.field))))=true
  simp only [Bool.or_eq_true,Bool.and_eq_true,decide_eq_true_eq];exact h)
 have hu1:(Dp t.op).1=true:=by unfold Dp;rcases ho with h | h <;> simp [h]
 refine ⟨ho,by have:¬(t.v<0∨16≤t.v):=fun h=>h3' (.inl ⟨hu1,h⟩);omega,by omega,fun h1=>?_⟩
 have hu2:(Dp t.op).2=true:=by unfold Dp;simp [h1]
 have hf:¬(t.field<0∨8≤t.field):=fun h=>h3' (.inr ⟨hu2,h⟩)
 rw [if_neg (by show ¬(t.op==2||t.op==3)=true;simp;omega)] at hk2
 split at hk2
 · cases hk2
 rename_i h5
 have h5':¬((Fu T V t.v).length:Int)≤t.field:=fun h=>h5 (decide_eq_true h)
 omega
theorem pJ {Pr:Tm→Prop}(hp:∀t:Tm,t.op=1∨t.op=2→Pr t)(e:Ex):C4 e=0→∀{b:Int} {s:Su},(∀p∈s.ts,Pr p.1)→∀p∈(Bp e b s).1.ts,Pr p.1:=by
  refine Ex.Abb (P:=fun e=>C4 e=0→∀{b:Int} {s:Su},(∀p∈s.ts,Pr p.1)→∀p∈(Bp e b s).1.ts,Pr p.1) (fun e ih hk b s hs=>?_) e
  have hz:=Be hk
  rcases Ox hz.1 with h | ⟨h,h1⟩ | ⟨h,hl⟩ | ⟨h,h1,h2,h3⟩
  · rw [Fy h];exact hs
  · rw [B8 h h1]
    intro p hp'
    have key:∀{ts:List (Tm×Int)},(∀p∈ts,Pr p.1)→∀p∈Io (D3 e) b ts,Pr p.1:=by
      intro ts
      induction ts with
      | nil=>intro _ p hp';rw [Io,List.mem_singleton] at hp';rw [hp'];exact hp _ (by simpa [D3] using h1)
      | cons q r ihr=>
        intro hts p hp'
        rw [Io] at hp'
        split at hp'
        · rcases List.mem_cons.1 hp' with rfl | hp'
          · exact hts q (List.mem_cons_self ..)
          · exact hts p (List.mem_cons_of_mem _ hp')
        · rcases List.mem_cons.1 hp' with rfl | hp'
          · exact hts p (List.mem_cons_self ..)
          · exact ihr (fun p hp'=>hts p (List.mem_cons_of_mem _ hp')) p hp'
    exact key hs p hp'
  · have m0:=A6 (show 0<e.args.length by omega)
    have m1:=Bk hl
    have key:∀c,∀p∈(if !(Bp (Ao e) b s).2 then ((Bp (Ao e) b s).1,false) else Bp (Bi e) c (Bp (Ao e) b s).1).1.ts,Pr p.1:=fun c=>by
      have i0:=ih _ m0 (hz.2 _ m0) (b:=b) hs
      split
      · exact i0
      · exact ih _ m1 (hz.2 _ m1) i0
    rcases h with h | h
    · rw [J9 (c:=b) hl (.inl ⟨h,rfl⟩)];exact key b
    · rw [J9 (c:=0-b) hl (.inr ⟨h,rfl⟩)];exact key _
  · rw [Gx h h1 h2 h3];exact hs
def Kr (t:Tm):Prop:=t.op=1∨t.op=2
theorem gW {a b:Ex}(ha:C4 a=0)(hb:C4 b=0):(∀t∈(Cj a b).1.plus,Kr t)∧∀t∈(Cj a b).1.minus,Kr t:=by
  have h0:(∀t∈tY.plus,Kr t)∧∀t∈tY.minus,Kr t:=⟨fun t h=>(by cases h),fun t h=>(by cases h)⟩
  unfold Cj
  split
  · exact h0
  rename_i h1
  split
  · exact h0
  have he:(Bp b (-1) (Bp a 1 Kx).1).1=Da a b:=by unfold Da;rw [if_neg h1]
  rw [he]
  have hse:∀p∈(Da a b).ts,Kr p.1:=by
    have q1:=pJ (Pr:=Kr) (fun t h=>h) a ha (b:=1) (s:=Kx) (fun p hp=>by cases hp)
    unfold Da
    split
    · exact q1
    · exact pJ (Pr:=Kr) (fun t h=>h) b hb q1
  unfold Rx
  cases hp:Dv (Da a b).ts [] [] with
  | none=>exact h0
  | some p=>
    obtain ⟨p,m⟩:=p
    exact I9 (P:=Kr) hse (fun t h=>by cases h) (fun t h=>by cases h) hp
theorem gM {l:Lit}(hk:KOK T V l.cond):(∀t∈(Aa T V l).1.plus,Kr t)∧∀t∈(Aa T V l).1.minus,Kr t:=by
  cases h:l.cond.op==1 with
  | true=>
    rw [aD h]
    exact ⟨fun t ht=>by rw [List.mem_singleton.1 ht];exact .inl (by simpa [D3] using h),fun t ht=>by cases ht⟩
  | false=>
    cases h2:(!Cv l.cond||Cr T V l.cond) with
    | true=>rw [nA h h2];exact ⟨fun t h=>(by cases h),fun t h=>(by cases h)⟩
    | false=>
      rw [bH h h2]
      have hl:=K3 hk (V0 h2)
      exact gW (A3 hk (A6 (by omega))).nodes (A3 hk (Bk hl)).nodes
theorem oV:∀{l:List Lit},Vk T V l→∀{s:Sy},(∀t∈s.ts,Kr t)→∀t∈(l.foldl (Df T V) s).ts,Kr t
  | [],_,s,hs=>hs
  | c::r,hl,s,hs=>by
    rw [List.foldl_cons]
    refine oV (fun x hx=>hl x (List.mem_cons_of_mem _ hx)) ?_
    cases h : !(Aa T V c).2 with
    | true=>rw [Ly h];exact hs
    | false=>
      rw [Lq h]
      obtain ⟨h1,h2⟩:=gM (hl c (List.mem_cons_self ..)).1
      exact Lb (Lb hs h1) h2
theorem kK {l:List Lit}(hl:Vk T V l):∀t∈(Ci T V l).ts,tmOK T V t:=fun t ht=>tm_ok ((Lp hl).terms t ht) (oV hl (s:=⟨[],[]⟩) (fun t h=>by cases h) t ht)
/-! ### events -/
def Zh (T:List Sc)(i:Nat)(v:Va):Ev:=⟨0,(i:Int),v.type,0,(((T[v.type.toNat]?).getD sc0).fields).map fun f=>⟨f.kind,0,[]⟩⟩
def Hz (T:List Sc):Nat→List Va→List Ev
 | _,[]=>[]
 | i,v::r=>Zh T i v::Hz T (i+1) r
def Wb (e:Ev)(k:Nat)(f:Vl→Vl):Ev:={ e with values:=e.values.modify k f }
def Ql (evs:List Ev)(t:Tm)(x:Int):List Ev:=if t.op==2 then evs.modify t.v.toNat (fun e=>{ e with time:=x }) else evs.modify t.v.toNat fun e=>Wb e t.field.toNat fun y=>{ y with num:=x }
def Tz (evs:List Ev)(t:Tm)(s:Ft):List Ev:=evs.modify t.v.toNat fun e=>Wb e t.field.toNat fun y=>{ y with text:=s }
def G4 (vals:List Int):Nat→List Tm→List Ev→List Ev
 | _,[],evs=>evs
 | i,t::r,evs=>G4 vals (i+1) r (Ql evs t (E2 vals ((i:Int)+1)))
/-- events that fit the variables -/
structure evOK (T:List Sc) (V:List Va) (evs:List Ev):Prop where
 len:evs.length=V.length
 vals:∀(j:Nat) (e:Ev),evs[j]? = some e→e.values.length=(Fu T V (j:Int)).length
theorem V7 (e:Ev)(k:Nat)(f:Vl→Vl):(Wb e k f).values.length=e.values.length:=List.length_modify ..
theorem T3 {evs:List Ev}(h:evOK T V evs)(j:Nat)(f:Ev→Ev)(hf:∀e,(f e).values.length=e.values.length):evOK T V (evs.modify j f):=by
  refine ⟨by rw [List.length_modify];exact h.len,fun i e hi=>?_⟩
  rw [List.getElem?_modify] at hi
  cases hq:evs[i]? with
  | none=>rw [hq] at hi;cases hi
  | some x=>
    rw [hq] at hi
    have hi':=(Option.some.inj hi).symm
    rw [←h.vals i x hq,hi']
    split
    · exact hf x
    · rfl
theorem Wj {evs:List Ev}(h:evOK T V evs)(t:Tm)(x:Int):evOK T V (Ql evs t x):=by
 unfold Ql
 split
 · exact T3 h _ _ (fun _=>rfl)
 · exact T3 h _ _ (fun e=>V7 ..)
theorem nW {evs:List Ev}(h:evOK T V evs)(t:Tm)(s:Ft):evOK T V (Tz evs t s):=T3 h _ _ (fun e=>V7 ..)
theorem pB:∀{vs:List Va} {i j:Nat} {e:Ev},(Hz T i vs)[j]? = some e→∃v,vs[j]? = some v∧e=Zh T (i+j) v
  | [],i,j,e,h=>by simp [Hz] at h
  | v::r,i,0,e,h=>by simp [Hz] at h;exact ⟨v,rfl,h.symm⟩
  | v::r,i,j+1,e,h=>by
    have h':(Hz T (i+1) r)[j]? = some e:=by simpa [Hz] using h
    obtain ⟨w,h1,h2⟩:=pB h'
    exact ⟨w,by simpa using h1,by rw [h2,show i+1+j=i+(j+1) by omega]⟩
theorem Qd:∀{vs:List Va} {i:Nat},(Hz T i vs).length=vs.length
 | [],i=>rfl
 | v::r,i=>by simp [Hz,Qd]
theorem gI:∀{vs:List Va} {i:Nat} {v:Va},Hz T i (vs ++ [v])=Hz T i vs ++ [Zh T (i+vs.length) v]
 | [],i,v=>rfl
 | a::r,i,v=>by simp [Hz,gI];rw [show i+1+r.length=i+(r.length+1) by omega]
theorem mS:evOK T V (Hz T 0 V):=by
 refine ⟨Qd,fun j e h=>?_⟩
 obtain ⟨v,h1,h2⟩:=pB h
 rw [h2]
 show (((T[v.type.toNat]?).getD sc0).fields.map _).length=_
 rw [List.length_map]
 unfold Fu
 rw [Int.toNat_natCast,h1];rfl
end
/-! ### in the heap -/
abbrev Es:=List (Ev×Value)
def Cx (p:Ev×Value):List AV:=[.int .i64 p.1.source,.int .i64 p.1.seq,.int .i64 p.1.type,.int .i64 p.1.time,.val p.2]
def Ga (p:Ev×Value):HO:=.buf p.2 (p.1.values.map cV) 28 3
abbrev Zg (bo:Nat)(v:Value)(l:Es)(R:List HO):List HO:=.buf v (l.map Cx) 67 5 :: .box bo 58 [.val v]::(l.map Ga++R)
theorem Qz {α β:Type}(f:α→β):∀(l:List α) (j:Nat),(l.map f).eraseIdx j=(l.eraseIdx j).map f
 | [],j=>by simp
 | a::r,0=>rfl
 | a::r,j+1=>by simp [Qz f r j]
theorem Nl {α:Type}{f:α→α}{x:α}:∀{l:List α} {j:Nat},l[j]? = some x→l.modify j f=l.set j (f x)
 | [],j,h=>by simp at h
 | a::r,0,h=>by simp at h;subst h;simp
 | a::r,j+1,h=>by simp [Nl (f:=f) (show r[j]? = some x by simpa using h)]
theorem U4 {α:Type}:∀(l:List α) (j:Nat),l.modify j (fun x=>x)=l
 | [],j=>by simp
 | a::r,0=>by simp
 | a::r,j+1=>by simp [U4 r j]
theorem mB {l:Es}{j:Nat}{x:Ev×Value}(h:l[j]? = some x):(l.map Ga).Perm (Ga x::(l.eraseIdx j).map Ga):=by
 have h1:(l.map Ga)[j]? = some (Ga x):=by rw [List.getElem?_map,h];rfl
 have:=Ig h1
 rw [Qz] at this
 exact this
theorem lM {bo:Nat}{v:Value}{l:Es}{R:List HO}{j:Nat}{x:Ev×Value}(h:l[j]? = some x):(Zg bo v l R).Perm (Ga x :: .buf v (l.map Cx) 67 5 :: .box bo 58 [.val v]::((l.eraseIdx j).map Ga++R)):=by
 refine (((mB h).append_right R).cons _ |>.cons _).trans ?_
 exact ((List.Perm.swap _ _ _).cons _).trans (List.Perm.swap _ _ _)
theorem ev_in {bo:Nat}{v:Value}{l:Es}{R:List HO}{j:Nat}{y:Ev×Value}(h:j<l.length):(Ga y :: .buf v ((l.set j y).map Cx) 67 5 :: .box bo 58 [.val v]::((l.eraseIdx j).map Ga++R)).Perm (Zg bo v (l.set j y) R):=by
 have h1:(l.set j y)[j]? = some y:=by simp [h]
 have:=lM (bo:=bo) (v:=v) (R:=R) h1
 rw [List.eraseIdx_set_eq] at this
 exact this.symm
theorem J1 (l:Es):∀e∈l.map Cx,e.length=5:=fun e he=>by
 obtain ⟨x,_,rfl⟩:=List.mem_map.1 he;rfl
theorem Ov (l:List Vl):∀e∈l.map cV,e.length=3:=fun e he=>by
 obtain ⟨x,_,rfl⟩:=List.mem_map.1 he;rfl
theorem Yx:∀{es:List (List AV)} {J:List AV} {z j o:Nat} {e:List AV} {x:AV},(∀e∈es,e.length=z)→es[j]? = some e→e[o]? = some x→(es.flatten++J)[j*z+o]? = some x
  | [],J,z,j,o,e,x,hz,hj,ho=>by simp at hj
  | a::r,J,z,0,o,e,x,hz,hj,ho=>by
    simp at hj;subst hj
    have hl:=(List.getElem?_eq_some_iff.1 ho).1
    rw [List.flatten_cons,List.append_assoc,Nat.zero_mul,Nat.zero_add,List.getElem?_append_left hl];exact ho
  | a::r,J,z,j+1,o,e,x,hz,hj,ho=>by
    have ha:=hz a (List.mem_cons_self ..)
    rw [List.flatten_cons,List.append_assoc,List.getElem?_append_right (by rw [ha,Nat.add_mul];omega),ha,show (j+1)*z+o-z=j*z+o by rw [Nat.add_mul];omega]
    exact Yx (fun e he=>hz e (List.mem_cons_of_mem _ he)) (by simpa using hj) ho
theorem jF {a b:List AV}{o:Nat}{x:AV}:Fw (a++b) (a.length+o) [x]=a++Fw b o [x]:=by
 unfold Fw
 rw [List.take_append,List.drop_append,List.take_of_length_le (by omega),List.drop_eq_nil_of_le (by simp;omega)]
 simp [show a.length+o-a.length=o by omega,show a.length+o+1-a.length=o+1 by omega]
theorem jL {a b:List AV}{o:Nat}{x:AV}(h:o<a.length):Fw (a++b) o [x]=a.set o x++b:=by
 unfold Fw
 rw [List.take_append_of_le_length (by omega),List.drop_append_of_le_length (by simp;omega),List.set_eq_take_append_cons_drop,if_pos h]
 simp
theorem Sa:∀{es:List (List AV)} {J:List AV} {z j o:Nat} {e:List AV} {x:AV},(∀e∈es,e.length=z)→es[j]? = some e→o<z→Fw (es.flatten++J) (j*z+o) [x]=(es.set j (e.set o x)).flatten++J
  | [],J,z,j,o,e,x,hz,hj,ho=>by simp at hj
  | a::r,J,z,0,o,e,x,hz,hj,ho=>by
    simp at hj;subst hj
    have ha:=hz a (List.mem_cons_self ..)
    rw [List.flatten_cons,List.append_assoc,Nat.zero_mul,Nat.zero_add,jL (by omega)]
    simp
  | a::r,J,z,j+1,o,e,x,hz,hj,ho=>by
    have ha:=hz a (List.mem_cons_self ..)
    have ih:=Sa (J:=J) (x:=x) (fun e he=>hz e (List.mem_cons_of_mem _ he)) (show r[j]? = some e by simpa using hj) ho
    rw [List.flatten_cons,List.append_assoc,show (j+1)*z+o=a.length+(j*z+o) by rw [ha,Nat.add_mul];omega,jF,ih]
    simp
theorem Tu {es:List (List AV)}{J:List AV}{z j o:Nat}{e:List AV}(hz:∀e∈es,e.length=z)(hj:es[j]? = some e)(ho:o<z):Nat.ble (j*z+o+1) (es.flatten++J).length=true:=by
 have hj':=(List.getElem?_eq_some_iff.1 hj).1
 have hl:es.flatten.length=es.length*z:=by
  clear hj hj'
  induction es with
  | nil=>simp
  | cons a r ih=>rw [List.flatten_cons,List.length_append,ih (fun e he=>hz e (List.mem_cons_of_mem _ he)),hz a (List.mem_cons_self ..),List.length_cons,Nat.add_mul];omega
 have h1:(j+1)*z≤es.length*z:=Nat.mul_le_mul_right z hj'
 rw [Nat.add_mul] at h1
 exact Nat.ble_eq_true_of_le (by rw [List.length_append,hl];omega)
/-- one event changed, in the rows and among the buffers -/
theorem Aad {l:Es}{j:Nat}{e:Ev}{u:Value}{x:Int}(h:l[j]? = some (e,u)):(l.map Cx).set j ((Cx (e,u)).set 3 (.int .i64 x))=((l.modify j fun p=>({ p.1 with time:=x },p.2)).map Cx):=by
 rw [Nl h,List.map_set];rfl
theorem ev_timeBuf {l:Es}{j:Nat}{x:Int}:(l.modify j fun p=>({ p.1 with time:=x },p.2)).map Ga=l.map Ga:=by
 exact (L0 Ga (fun p=>({ p.1 with time:=x },p.2)) (fun y=>y) (fun _=>rfl) l j).trans (U4 _ _)
theorem Rq {l:Es}{j:Nat}{f:Ev→Ev}:(l.modify j fun p=>(f p.1,p.2)).map Prod.fst=(l.map Prod.fst).modify j f:=L0 Prod.fst _ f (fun _=>rfl) l j
theorem wW {e:Ev}{k:Nat}{y:Vl}(h:e.values[k]? = some y)(o:Nat)(x:AV)(f:Vl→Vl)(hf:(cV y).set o x=cV (f y)):(e.values.map cV).set k ((cV y).set o x)=((Wb e k f).values.map cV):=by
 unfold Wb
 simp only
 rw [Nl h,hf,List.map_set]
theorem ev_vals {l:Es}{j:Nat}{e:Ev}{u:Value}{k:Nat}{f:Vl→Vl}(h:l[j]? = some (e,u)):l.set j (Wb e k f,u)=l.modify j fun p=>(Wb p.1 k f,p.2):=by
 rw [Nl h]
theorem Aak {l:Es}{j:Nat}{e:Ev}{u:Value}{k:Nat}{f:Vl→Vl}(h:l[j]? = some (e,u)):l.map Cx=(l.set j (Wb e k f,u)).map Cx:=by
 rw [List.map_set]
 refine (List.ext_getElem? fun i=>?_)
 rw [List.getElem?_set]
 split
 ·
  rename_i hi;subst hi
  rw [List.getElem?_map,h]
  have:=(List.getElem?_eq_some_iff.1 h).1
  simp [this,Cx,Wb]
 · rfl
theorem kI {bo:Nat}{v:Value}{l:Es}{pre R:List HO}:(pre++Zg bo v l R).Perm (Zg bo v l (pre++R)):=by
 have:=(List.perm_append_comm (l₁:=pre) (l₂:=[HO.buf v (l.map Cx) 67 5,.box bo 58 [.val v]]++l.map Ga)).append_right R
 simpa only [List.append_assoc,List.cons_append,List.nil_append] using this
/-! ### steps in thought -/
abbrev slV (b n c:Nat):Value:=.slice (some ⟨b,0,none⟩) n c
theorem uU {sl:List (Nat×AV)}{n bo bb bi cap capi j k o:Nat}{J Ji:List AV}{l:Es}{e:Ev}{y:Vl}{x:AV}{f:Vl→Vl}{R:List HO}(hj:l[j]? = some (e,slV bi (e.values.map cV).length capi))(hy:e.values[k]? = some y)(hf:(cV y).set o x=cV (f y))
  (hcap:(l.map Cx).length≤cap) (hcm:cap≤maxLen) (hJ:J.length=(cap-(l.map Cx).length)*5) (hcapi:(e.values.map cV).length≤capi) (hcmi:capi≤maxLen) (hJi:Ji.length=(capi-(e.values.map cV).length)*3) :
  GS ⟨sl,.box bi 28 (((e.values.map cV).set k ((cV y).set o x)).flatten++Ji) :: .box bb 67 ((l.map Cx).flatten++J) :: .box bo 58 [.val (slV bb (l.map Cx).length cap)]::((l.eraseIdx j).map Ga++R),n⟩
   ⟨sl,Zg bo (slV bb (l.map Cx).length cap) (l.modify j fun p=>(Wb p.1 k f,p.2)) R,n⟩:=by
 have hvl:((Wb e k f).values.map cV).length=(e.values.map cV).length:=by rw [List.length_map,List.length_map,V7]
 refine GS.trans (GS.rebuf 0 ((Wb e k f).values.map cV) Ji (m:=(e.values.map cV).length) (z:=3) (cap:=capi) hvl rfl (congrArg (fun es:List (List AV)=>es.flatten++Ji) (wW hy o x f hf)) (by rw [hvl];exact hcapi) hcmi (by rw [hvl];exact hJi) (Ov _) rfl) ?_
 refine GS.trans (GS.rebuf 1 (l.map Cx) J (m:=(l.map Cx).length) (z:=5) (cap:=cap) rfl rfl rfl hcap hcm hJ (J1 l) rfl) ?_
 have hlt:=(List.getElem?_eq_some_iff.1 hj).1
 have hp:=ev_in (bo:=bo) (v:=slV bb (l.map Cx).length cap) (l:=l) (R:=R) (j:=j) (y:=(Wb e k f,slV bi (e.values.map cV).length capi)) hlt
 rw [←Aak hj,ev_vals hj] at hp
 exact GS.perm hp
theorem evTime {sl:List (Nat×AV)}{n bo bb cap j:Nat}{J:List AV}{l:Es}{e:Ev}{u:Value}{x:Int}{R:List HO}(hj:l[j]? = some (e,u))
  (hcap:(l.map Cx).length≤cap) (hcm:cap≤maxLen) (hJ:J.length=(cap-(l.map Cx).length)*5) :
  GS ⟨sl,.box bb 67 (((l.map Cx).set j ((Cx (e,u)).set 3 (.int .i64 x))).flatten++J) :: .box bo 58 [.val (slV bb (l.map Cx).length cap)]::(l.map Ga++R),n⟩
   ⟨sl,Zg bo (slV bb (l.map Cx).length cap) (l.modify j fun p=>({ p.1 with time:=x },p.2)) R,n⟩:=by
 have hl:((l.modify j fun p=>({ p.1 with time:=x },p.2)).map Cx).length=(l.map Cx).length:=by simp
 refine GS.trans (GS.rebuf 0 ((l.modify j fun p=>({ p.1 with time:=x },p.2)).map Cx) J (m:=(l.map Cx).length) (z:=5) (cap:=cap) hl rfl (congrArg (fun es:List (List AV)=>es.flatten++J) (Aad hj)) (by rw [hl];exact hcap) hcm (by rw [hl];exact hJ) (J1 _) rfl) ?_
 exact GS.heapTo (congrArg (fun E:List HO=>HO.buf (slV bb (l.map Cx).length cap) ((l.modify j fun p=>({ p.1 with time:=x },p.2)).map Cx) 67 5 :: .box bo 58 [.val (slV bb (l.map Cx).length cap)]::(E++R)) ev_timeBuf.symm)
theorem ev_push {l:Es}{e:Ev}{u v':Value}{b c:HO}{K:List HO}{rows:List (List AV)}(hr:rows=e.values.map cV) :
  (HO.buf u rows 28 3::b :: .buf v' (l.map Cx ++ [Cx (e,u)]) 67 5::c::(l.map Ga++K)).Perm (b :: .buf v' ((l ++ [(e,u)]).map Cx) 67 5::c::((l ++ [(e,u)]).map Ga++K)):=by
 subst hr
 rw [List.map_append,List.map_append]
 have:=(List.perm_append_comm (l₁:=[Ga (e,u)]) (l₂:=[b,.buf v' (l.map Cx ++ [Cx (e,u)]) 67 5,c]++l.map Ga)).append_right K
 simp only [List.append_assoc,List.cons_append,List.nil_append] at this
 simp only [List.append_assoc]
 exact this
/-- all is written: the events are values -/
theorem Aa1 {g:Gh}{w:World}{v:Value}{l:Es}(hv:Rep g w v (.sl 5 (l.map Cx)))(hu:∀p∈l,Rep g w p.2 (.sl 3 (p.1.values.map cV))):Rep g w v (.sl 5 ((l.map Prod.fst).map Oo)):=by
  obtain ⟨a,n,cap,rfl,hn,hc,hm,h⟩:=hv.inv_sl
  have hlen:((l.map Prod.fst).map Oo).length=(l.map Cx).length:=by simp
  rcases h with h | ⟨b,o,rfl,hz,f,h1,h2⟩
  · have:l = []:=by simpa using h
    subst this
    have hn0:n=0:=by simpa using hn
    subst hn0
    exact .sl0 _ _ _ hm
  · refine .sl b o n cap 5 _ (by rw [hlen];exact hn) hc hm (fun e he=>?_) f (fun i e hi j x hj=>?_) (fun i e hi j x hj=>?_)
    · obtain ⟨q,_,rfl⟩:=List.mem_map.1 he;rfl
    · rw [List.getElem?_map,List.getElem?_map] at hi
      cases hq:l[i]? with
      | none=>rw [hq] at hi;cases hi
      | some p=>
        rw [hq] at hi
        have hi':Oo p.1=e:=by simpa using hi
        have hlt:j<5:=by have:=(List.getElem?_eq_some_iff.1 hj).1;rw [←hi'] at this;exact this
        have hr:(Cx p)[j]? = some ((Cx p)[j]'hlt):=List.getElem?_eq_getElem hlt
        exact h1 i _ (by rw [List.getElem?_map,hq];rfl) j _ hr
    · rw [List.getElem?_map,List.getElem?_map] at hi
      cases hq:l[i]? with
      | none=>rw [hq] at hi;cases hi
      | some p=>
        rw [hq] at hi
        have hi':Oo p.1=e:=by simpa using hi
        subst hi'
        have hrow:(l.map Cx)[i]? = some (Cx p):=by rw [List.getElem?_map,hq];rfl
        match j,hj with
        | 0,hj=>cases hj;exact h2 i _ hrow 0 _ rfl
        | 1,hj=>cases hj;exact h2 i _ hrow 1 _ rfl
        | 2,hj=>cases hj;exact h2 i _ hrow 2 _ rfl
        | 3,hj=>cases hj;exact h2 i _ hrow 3 _ rfl
        | 4,hj=>
          cases hj
          have:=(h2 i _ hrow 4 _ rfl).inv_val
          rw [this];exact hu p (List.mem_of_getElem? hq)
        | j+5,hj=>simp [Oo] at hj
theorem Q0:∀{g:Gh} {w:World} {l:Es} {A R:List HO},HOK g w (A++(l.map Ga++R))→∃g',Ext g w g' w∧HOK g' w (A++R)∧∀p∈l,Rep g' w p.2 (.sl 3 (p.1.values.map cV))
  | g,w,[],A,R,h=>⟨g,Ext.refl g w,h,fun p hp=>by cases hp⟩
  | g,w,x::r,A,R,h=>by
    have hk:(A++((x::r).map Ga++R))[A.length]? = some (Ga x):=by rw [List.getElem?_append_right (Nat.le_refl _)];simp
    obtain ⟨g1,hx1,hH1,hr1⟩:=Qx h hk
    have e1:(A++((x::r).map Ga++R)).eraseIdx A.length=A++(r.map Ga++R):=by
      rw [List.eraseIdx_append_of_length_le (Nat.le_refl _)];simp
    rw [e1] at hH1
    obtain ⟨g2,hx2,hH2,hr2⟩:=Q0 hH1
    refine ⟨g2,hx1.trans hx2,hH2,fun p hp=>?_⟩
    rcases List.mem_cons.1 hp with rfl | hp
    · exact hr1.mono hx2
    · exact hr2 p hp
theorem GS.freezeEvs {sl:List (Nat×AV)}{n t bo:Nat}{v:Value}{l:Es}{R:List HO}(h:get sl t = .val v):GS ⟨sl,Zg bo v l R,n⟩ ⟨(t,.sl 5 ((l.map Prod.fst).map Oo))::sl,.box bo 58 [.val v]::R,n⟩:=fun g a w hG=>by
 obtain ⟨g1,hx1,hH1,hu⟩:=Q0 (A:=[.buf v (l.map Cx) 67 5,.box bo 58 [.val v]]) hG.heap
 obtain ⟨g2,hx2,hH2,hv⟩:=Qx hH1 (k:=0) rfl
 refine ⟨g2,⟨hG.size,hG.defers,fun i=>?_,hH2⟩,hx1.trans hx2⟩
 show Rep g2 w _ (get ((t,_)::sl) i)
 rw [G3]
 by_cases e:t=i
 ·
  subst e
  rw [if_pos rfl]
  have h1:=(h▸hG.sl t:Rep g w _ _).inv_val
  rw [h1]
  exact Aa1 hv fun p hp=>(hu p hp).mono hx2
 · rw [if_neg e];exact ((hG.sl i).mono hx1).mono hx2
theorem kG {T:List Sc}{V:List Va}{l:Es}(h:evOK T V (l.map Prod.fst)){t:Tm}(ht:tmOK T V t):∃e u,l[t.v.toNat]? = some (e,u)∧e.values.length=(Fu T V t.v).length∧l.length=V.length:=by
 have hl:l.length=V.length:=by have:=h.len;simpa using this
 have hlt:t.v.toNat<l.length:=by have:=ht.v0;have:=ht.v1;omega
 have hg:=List.getElem?_eq_getElem hlt
 refine ⟨(l[t.v.toNat]).1,(l[t.v.toNat]).2,hg,?_,hl⟩
 have:=h.vals t.v.toNat (l[t.v.toNat]).1 (by rw [List.getElem?_map,hg];rfl)
 rw [this,Int.toNat_of_nonneg ht.v0]
theorem pX {T:List Sc}{V:List Va}{e:Ev}{t:Tm}(ht:tmOK T V t)(h1:t.op=1)(he:e.values.length=(Fu T V t.v).length):∃y,e.values[t.field.toNat]? = some y:=by
 have hf:=ht.f h1
 have hlt:t.field.toNat<e.values.length:=by rw [he];omega
 exact ⟨_,List.getElem?_eq_getElem hlt⟩
theorem X8 {α β:Type}{f:α→β}{l:List α}{j:Nat}{x:α}(h:l[j]? = some x):l.map f≠[]:=fun e=>by
 have:l = []:=by simpa using e
 rw [this] at h;simp at h
set_option maxRecDepth 20000
section
variable {P:Program} {d:Option Nat} {ty:TypeId} {pos:String} {aft:Array Edge} {gd:Option (Nat×Bool)} {ρ:Operand→AV}
theorem oF {t:TypeId}{m k:Operand}{kt et b i:Nat}{td tk te:TD}{n:List UInt8}{U:Um}(hT:Hr P TL)(ht:Bu TL t=some td)(hk:td.kind = .map kt et)(htk:Bu TL kt=some tk)(hkk:tk.kind = .str)
  (hte:Bu TL et=some te) (hz:te.zero = [.bool false]) (hzs:Qv P et=true) (hm:ρ m = .val (.map (some b))) (hkey:ρ k = .str n) :
  Dl P ⟨d,.lookup t m k false,ty,pos,aft,gd⟩ ρ (fun H=>H[i]? = some (.smap b (sE U))) (.bool (Ff U n)):=
 nD hT ht hk htk hkk hte hzs hm hkey (by rw [hz];exact uP n U)
theorem yB {t:TypeId}{m k v:Operand}{kt et b i:Nat}{td tk:TD}{n:List UInt8}{U:Um}{x:Bool}{H H2:List HO}(hT:Hr P TL)(ht:Bu TL t=some td)(hk:td.kind = .map kt et)(htk:Bu TL kt=some tk)(hkk:tk.kind = .str)
  (hm:ρ m = .val (.map (some b))) (hkey:ρ k = .str n) (hv:ρ v = .bool x) (hH:H[i]? = some (.smap b (sE U))) (hH2:H.set i (.smap b (sE (Uc U n x)))=H2) :
  Le P ⟨d,.mapUpdate t m k v,ty,pos,aft,gd⟩ ρ H (fun y H'=>y = .junk∧H'=H2):=
 tN hT ht hk htk hkk hm hkey hv hH (by rw [sput_u];exact hH2)
theorem Aay {t:TypeId}{m k v:Operand}{kt et b i:Nat}{td tk:TD}{r:Wd}{N:Nm}{s:Ft}{H H2:List HO}(hT:Hr P TL)(ht:Bu TL t=some td)(hk:td.kind = .map kt et)(htk:Bu TL kt=some tk)(hkk:tk.kind = .struct [(0,1,true,4),(1,1,true,9),(2,3,true,143)])
  (hm:ρ m = .val (.map (some b))) (hkey:ρ k = .agg (Ld r)) (hv:ρ v = .str s) (hH:H[i]? = some (.kmap b (nE N))) (hnew:Ic N r=none) (hH2:H.set i (.kmap b (nE (N ++ [(r,s)])))=H2) :
  Le P ⟨d,.mapUpdate t m k v,ty,pos,aft,gd⟩ ρ H (fun y H'=>y = .junk∧H'=H2):=
 Tl (eq:=Jt r) hT ht hk htk hkk hm hkey hv (Nt r r) (aS r N) hH (new_n hnew) (by rw [dP];exact hH2)
theorem Aat {t:TypeId}{m k v:Operand}{kt et b i:Nat}{td tk:TD}{r:Wd}{N:Nm}{s s':Ft}{H H2:List HO}(hT:Hr P TL)(ht:Bu TL t=some td)(hk:td.kind = .map kt et)(htk:Bu TL kt=some tk)(hkk:tk.kind = .struct [(0,1,true,4),(1,1,true,9),(2,3,true,143)])
  (hm:ρ m = .val (.map (some b))) (hkey:ρ k = .agg (Ld r)) (hv:ρ v = .str s') (hH:H[i]? = some (.kmap b (nE (N ++ [(r,s)])))) (hnew:Ic N r=none) (hH2:H.set i (.kmap b (nE (N ++ [(r,s')])))=H2) :
  Le P ⟨d,.mapUpdate t m k v,ty,pos,aft,gd⟩ ρ H (fun y H'=>y = .junk∧H'=H2):=
 qN (eq:=Jt r) hT ht hk htk hkk hm hkey hv (Nt r r) (aS r _) hH (kidx_n hnew) rfl (Aaw r _) (by rw [kput_n];exact hH2)
end
theorem dN {r:Wd}{N:Nm}{s:Ft}(h:Ic N r=some s):match Hl (Jt r) (nE N) with | some y=>y = .str s | none=>[AV.str []] = [.str s]:=by rw [Za,h];rfl
theorem xI {P:Program}{f:FuncId}{args:List AV}{r0:AV}{bo:Nat}{v:Value}{l l':Es}{pre R:List HO}(h:Dx P f (Zg bo v l (pre++R)) args fun r H'=>r=r0∧H'=Zg bo v l' (pre++R)) :
  Dx P f (pre++Zg bo v l R) args fun r H'=>r=r0∧H'=pre++Zg bo v l' R:=
 (h.perm kI).post fun r K ⟨h1,h2⟩=>⟨_,h2▸kI.symm,h1,rfl⟩
/-! ### what is named -/
def Yi (p:Um×List Wd)(a:Ex):Um×List Wd:=(Uc p.1 (Cb a).text (Ff p.1 (Cb a).text||(Cb a).const),p.2 ++ [Cb a])
section
variable (T:List Sc) (V:List Va)
def Un (p:Um×List Wd)(c:Lit):Um×List Wd:=if !Cr T V c.cond || !B7 T V c.cond then p else c.cond.args.foldl Yi p
def Hh (l:List Lit):Um×List Wd:=l.foldl (Un T V) ([],[])
end
abbrev Ns:=Um×Nm×List Ev
def aW (U:Um)(N:Nm)(r:Wd):Um×Nm:=if (Ic N r).isSome then (U,N) else (Uc U (J2 U r) true,N ++ [(r,J2 U r)])
def nmT (U:Um)(N:Nm)(r:Wd):Ft:=(Ic N r).getD (J2 U r)
def H7 (w:Wm)(s:Ns)(x:Wd):Ns:=
 ((aW s.1 s.2.1 (Cf w x)).1,(aW s.1 s.2.1 (Cf w x)).2,if x.const then s.2.2 else Tz s.2.2 x.field (nmT s.1 s.2.1 (Cf w x)))
def eI (T:List Sc)(V:List Va)(w:Wm)(l:List Lit)(evs:List Ev):List Ev:=((Hh T V l).2.foldl (H7 w) ((Hh T V l).1,[],evs)).2.2
theorem cG (U:Um)(N:Nm)(r:Wd):Ic (aW U N r).2 r=some (nmT U N r):=by
 unfold aW nmT
 cases h:Ic N r with
 | some s=>exact h
 | none=>exact Ul h
theorem dL {U:Um}{N:Nm}{r:Wd}(h:Ic N r=none):aW U N r=(Uc U (J2 U r) true,N ++ [(r,J2 U r)]):=by unfold aW;rw [h];rfl
theorem bQ {U:Um}{N:Nm}{r:Wd}(h:(!(Ic N r).isSome)=false):aW U N r=(U,N):=if_pos (by simpa using h)
theorem Xq (U:Um)(n:Ft)(b:Bool):(Uc U n b).length≤U.length+1:=by
 unfold Uc;cases iO U n <;> simp
theorem dM (U:Um)(N:Nm)(r:Wd):(aW U N r).1.length≤U.length+1:=by
 unfold aW;split
 · simp
 · exact Xq ..
section
variable {T:List Sc} {V:List Va}
theorem Tc {p:Um×List Wd}{c:Lit}(h:(!Cr T V c.cond || !B7 T V c.cond)=true):Un T V p c=p:=if_pos h
theorem Mh {p:Um×List Wd}{c:Lit}(h:(!Cr T V c.cond || !B7 T V c.cond)=false):Un T V p c=c.cond.args.foldl Yi p:=Ck h
def wdOK (T:List Sc)(V:List Va)(x:Wd):Prop:=x.const=false→tmOK T V x.field∧x.field.op=1
theorem Te {c:Lit}(hk:KOK T V c.cond)(h:(!Cr T V c.cond || !B7 T V c.cond)=false):c.cond.args.length=2∧∀a∈c.cond.args,(a.op==0||a.op==1)=true:=by
 rw [Bool.or_eq_false_iff,Bool.not_eq_false',Bool.not_eq_false'] at h
 have hc:=Mf h.1
 have hn:=(Be hk.nodes).1
 have ho:c.cond.op=9:=by
  have:=h.1
  unfold Cr at this
  rw [Bool.and_eq_true] at this
  simpa using this.1
 have hl:c.cond.args.length=2:=by
  unfold By at hn
  split at hn
  · cases hn
  split at hn
  · cases hn
  rename_i h2
  have h2':(c.cond.args.length:Int)=D6 c.cond.op:=by simpa using h2
  rw [ho] at h2'
  have:D6 9=2:=by decide
  omega
 have hs:=h.2
 unfold B7 at hs
 rw [if_neg (by rw [ho];decide),if_neg (by rw [hc];decide),if_pos h.1,Bool.and_eq_true] at hs
 refine ⟨hl,fun a ha=>?_⟩
 obtain ⟨a0,a1,he⟩:∃a0 a1,c.cond.args = [a0,a1]:=by
  match hq:c.cond.args,hl with
  | [x,y],_=>exact ⟨x,y,rfl⟩
 have e0:Ao c.cond=a0:=by unfold Ao;rw [he];rfl
 have e1:Bi c.cond=a1:=by unfold Bi;rw [he];rfl
 rw [e0,e1] at hs
 rw [he] at ha
 rcases List.mem_cons.1 ha with rfl | ha
 · exact hs.1
 · rw [List.mem_singleton.1 ha];exact hs.2
theorem nK {a:Ex}(hk:KOK T V a)(h:(a.op==0||a.op==1)=true):wdOK T V (Cb a):=by
 intro hc
 unfold Cb at hc ⊢
 split at hc
 · cases hc
 rename_i h0
 rw [if_neg h0]
 have h1:a.op=1:=by simp at h h0;omega
 have hl:=K1 (Be hk.nodes).1 (by rw [h1];rfl)
 exact ⟨tm_ok (by rw [hl];exact hk) (.inl h1),h1⟩
end
theorem gN {l:Es}{t:Tm}{s:Ft}:(l.modify t.v.toNat fun p=>(Wb p.1 t.field.toNat (fun y=>{ y with text:=s }),p.2)).map Prod.fst=Tz (l.map Prod.fst) t s:=
 Rq (f:=fun e=>Wb e t.field.toNat fun y=>{ y with text:=s })
theorem Ta {w:Wm}{s:Ns}{x:Wd}(h:x.const=true):H7 w s x=((aW s.1 s.2.1 (Cf w x)).1,(aW s.1 s.2.1 (Cf w x)).2,s.2.2):=by unfold H7;rw [if_pos h]
theorem Sq {w:Wm}{s:Ns}{x:Wd}(h:x.const=false):H7 w s x=((aW s.1 s.2.1 (Cf w x)).1,(aW s.1 s.2.1 (Cf w x)).2,Tz s.2.2 x.field (nmT s.1 s.2.1 (Cf w x))):=by unfold H7;rw [if_neg (by rw [h];decide)]
theorem nm_f {w:Wm}{U:Um}{N:Nm}{l:Es}{x:Wd}{t:Um×Nm}(hT:t=aW U N (Cf w x))(h:x.const=false) :
  H7 w (U,N,l.map Prod.fst) x=(t.1,t.2,(l.modify x.field.v.toNat fun p=>(Wb p.1 x.field.field.toNat (fun y=>{ y with text:=nmT U N (Cf w x) }),p.2)).map Prod.fst):=by
 subst hT;rw [Sq h,gN]
theorem nm_c {w:Wm}{U:Um}{N:Nm}{l:Es}{x:Wd}{t:Um×Nm}(hT:t=aW U N (Cf w x))(h:x.const=true):H7 w (U,N,l.map Prod.fst) x=(t.1,t.2,l.map Prod.fst):=by
 subst hT;rw [Ta h]
theorem Z6 {α β:Type}{f:β→α→β}{l:List α}{k:Nat}{a:α}{b:β}(h:l[k]? = some a):(l.drop k).foldl f b=(l.drop (k+1)).foldl f (f b a):=by rw [Ba h];rfl
theorem cWd_sc (l:List Wd):∀c∈l.map Ld,Bh c=true:=Fo fun _=>rfl
end Go.Proofs.YtkddpedfbicbeaaGreatDoor

namespace Go.Aw
open Go
theorem lit1 {z:Nat}{ρ:Operand→AV}{y:Operand}{cs:List AV}(h:ρ y = .agg cs)(hl:Nat.beq cs.length z=true)(hs:Bh cs=true):Pc z ρ 0 [(0,y)]=true:=by
 unfold Pc Pc
 rw [h]
 show (true&&Nat.beq cs.length z&&Bh cs&&true)=true
 rw [hl,hs];rfl
end Go.Aw
namespace Go.Proofs.YtkddpedfbicbeaaGreatDoor
open Go Go.Aw
def zV (f:Fi):Vl:=⟨f.kind,0,[]⟩
def yS (T:List Sc)(V:List Va)(w:Wm)(l:List Lit)(vals:List Int):List Ev:=eI T V w l (G4 vals 0 (Ci T V l).ts (Hz T 0 V))
theorem iH {T:List Sc}{i:Nat}{v:Va}{s:Sc}(h:T[v.type.toNat]? = some s):(Zh T i v).values=s.fields.map zV:=by
 unfold Zh;rw [h];rfl
theorem pF {vals:List Int}{k:Nat}(h:k+1<vals.length):(vals.map cI)[((k:Int)+1).toNat]? = some [.int .i64 (E2 vals ((k:Int)+1))]:=by
 have:=lE (l:=vals) (k:=(k:Int)+1) (by omega) (by omega)
 rw [List.getElem?_map,this];rfl
theorem aI {l:Es}{t:Tm}{x:Int}(h:(t.op==2)=true):(l.modify t.v.toNat fun p=>({ p.1 with time:=x },p.2)).map Prod.fst=Ql (l.map Prod.fst) t x:=by
 unfold Ql;rw [if_pos h];exact Rq (f:=fun e=>{ e with time:=x })
theorem gU {l:Es}{t:Tm}{x:Int}(h:(t.op==2)=false):(l.modify t.v.toNat fun p=>(Wb p.1 t.field.toNat (fun y=>{ y with num:=x }),p.2)).map Prod.fst=Ql (l.map Prod.fst) t x:=by
 unfold Ql;rw [if_neg (by rw [h];decide)];exact Rq (f:=fun e=>Wb e t.field.toNat fun y=>{ y with num:=x })
theorem Xm {vals:List Int}{ts:List Tm}{k:Nat}{t:Tm}{evs:List Ev}(h:ts[k]? = some t):G4 vals k (ts.drop k) evs=G4 vals (k+1) (ts.drop (k+1)) (Ql evs t (E2 vals ((k:Int)+1))):=by
 rw [Ba h,G4]
theorem nI {T:List Sc}{V:List Va}(h:Jv T V){v:Va}(hv:v∈V):∃s,T[v.type.toNat]? = some s:=by
 have:=h v hv
 have hlt:v.type.toNat<T.length:=by omega
 exact ⟨_,List.getElem?_eq_getElem hlt⟩
theorem Sv {l:List Int}{k x v:Int}(h0:0≤k)(hk:k<(l.length:Int))(hx:0≤x):E2 (l.set k.toNat v) x=if x=k then v else E2 l x:=by
 unfold E2
 rw [List.getElem?_set]
 by_cases h:x=k
 ·
  subst h
  rw [if_pos rfl,if_pos (by omega),if_pos rfl];rfl
 · rw [if_neg (by omega),if_neg h]
/-- before bound i of round r: tm tells in which round an unknown was improved last -/
structure RInv (n:Nat) (bs:List Bd) (r i:Nat) (d:Ds) (tm:Int→Nat):Prop where
 s:d.sums.length=n
 l:d.last.length=n
 le:∀x,tm x≤r
 old:∀(j:Nat) (b:Bd),bs[j]? = some b→i≤j→1<r→tm b.y<r-1→E2 d.sums b.x≤E2 d.sums b.y+b.most
 new:∀(j:Nat) (b:Bd),bs[j]? = some b→j<i→tm b.y<r→E2 d.sums b.x≤E2 d.sums b.y+b.most
 pt:∀x:Int,0≤x→x<(n:Int)→1≤tm x→∃b,0≤E2 d.last x∧bs[(E2 d.last x).toNat]? = some b∧tm x≤tm b.y+1
abbrev inR (n:Nat)(b:Bd):Prop:=0≤b.x∧b.x<(n:Int)∧0≤b.y∧b.y<(n:Int)
theorem tC {n r i:Nat}{bs:List Bd}{d:Ds}{a:Int}{tm:Int→Nat}{b:Bd}(hr:1≤r)(h:RInv n bs r i d tm)(hb:bs[i]? = some b)(hbs:∀b∈bs,inR n b)(ha:a = -1∨(tm a=r∧0≤a∧a<(n:Int))) :
    ∃tm',RInv n bs r (i+1) (Oc i b (d,a)).1 tm'∧((Oc i b (d,a)).2 = -1∨(tm' (Oc i b (d,a)).2=r∧0≤(Oc i b (d,a)).2∧(Oc i b (d,a)).2<(n:Int))):=by
  have hbr:=hbs b (List.mem_of_getElem? hb)
  have hs:=h.s
  have hl:=h.l
  cases hq:decide (E2 d.sums b.y+b.most<E2 d.sums b.x) with
  | false=>
    rw [Yc (s:=(d,a)) hq]
    have hq':¬(E2 d.sums b.y+b.most<E2 d.sums b.x):=of_decide_eq_false hq
    refine ⟨tm,⟨h.s,h.l,h.le,fun j c hj hle h1 h2=>h.old j c hj (by omega) h1 h2,fun j c hj hlt h1=>?_,h.pt⟩,ha⟩
    rcases Nat.lt_or_ge j i with h3 | h3
    · exact h.new j c hj h3 h1
    · have:j=i:=by omega
      subst this
      rw [hb] at hj;cases hj
      show E2 d.sums b.x≤E2 d.sums b.y+b.most
      omega
  | true=>
    rw [Pu (s:=(d,a)) hq]
    have hq':E2 d.sums b.y+b.most<E2 d.sums b.x:=of_decide_eq_true hq
    have hty:r≤tm b.y+1:=by
      refine Nat.le_of_not_lt fun hlt=>?_
      rcases Nat.lt_or_ge 1 r with h1 | h1
      · have:=h.old i b hb (Nat.le_refl _) h1 (by omega);omega
      · omega
    refine ⟨fun x=>if x=b.x then r else tm x,⟨by simp only [List.length_set];exact hs,by simp only [List.length_set];exact hl,fun x=>?_,fun j c hj hle h1 h2=>?_,fun j c hj hlt h1=>?_,fun x hx0 hxn ht=>?_⟩,.inr ⟨if_pos rfl,hbr.1,hbr.2.1⟩⟩
    · show (if x=b.x then r else tm x)≤r
      split
      · exact Nat.le_refl _
      · exact h.le x
    · have hcr:=hbs c (List.mem_of_getElem? hj)
      simp only at h2 ⊢
      split at h2
      · omega
      · rename_i hne
        rw [Sv hbr.1 (by rw [hs];exact hbr.2.1) hcr.1,Sv hbr.1 (by rw [hs];exact hbr.2.1) hcr.2.2.1,if_neg hne]
        have h3:=h.old j c hj (by omega) h1 h2
        split
        · rename_i hcx;rw [hcx] at h3;omega
        · exact h3
    · have hcr:=hbs c (List.mem_of_getElem? hj)
      simp only at h1 ⊢
      split at h1
      · omega
      · rename_i hne
        rw [Sv hbr.1 (by rw [hs];exact hbr.2.1) hcr.1,Sv hbr.1 (by rw [hs];exact hbr.2.1) hcr.2.2.1,if_neg hne]
        rcases Nat.lt_or_ge j i with h3 | h3
        · have h4:=h.new j c hj h3 h1
          split
          · rename_i hcx;rw [hcx] at h4;omega
          · exact h4
        · have:j=i:=by omega
          subst this
          rw [hb] at hj;cases hj
          rw [if_pos rfl];omega
    · simp only at ht ⊢
      rw [Sv hbr.1 (by rw [hl];exact hbr.2.1) hx0]
      by_cases hxb:x=b.x
      · rw [if_pos hxb,if_pos hxb]
        refine ⟨b,by omega,by simpa using hb,?_⟩
        split
        · omega
        · exact hty
      · rw [if_neg hxb] at ht ⊢
        rw [if_neg hxb]
        obtain ⟨c,h1,h2,h3⟩:=h.pt x hx0 hxn ht
        refine ⟨c,h1,h2,?_⟩
        split
        · have:=h.le x;omega
        · exact h3
theorem oS {n r:Nat}{bs:List Bd}(hr:1≤r)(hbs:∀b∈bs,inR n b):∀(m i:Nat) {d:Ds} {a:Int} {tm:Int→Nat},i+m=bs.length→RInv n bs r i d tm→(a = -1∨(tm a=r∧0≤a∧a<(n:Int)))→
    ∃tm',RInv n bs r bs.length (F8 i (bs.drop i) (d,a)).1 tm'∧((F8 i (bs.drop i) (d,a)).2 = -1∨(tm' (F8 i (bs.drop i) (d,a)).2=r∧0≤(F8 i (bs.drop i) (d,a)).2∧(F8 i (bs.drop i) (d,a)).2<(n:Int)))
  | 0,i,d,a,tm,hm,h,ha=>by
    have hi:i=bs.length:=by omega
    rw [Zw (List.drop_eq_nil_of_le (by omega))]
    exact ⟨tm,hi▸h,ha⟩
  | m+1,i,d,a,tm,hm,h,ha=>by
    have hlt:i<bs.length:=by omega
    have hb:=List.getElem?_eq_getElem hlt
    rw [Ri hb]
    obtain ⟨tm',h1,h2⟩:=tC hr h hb hbs ha
    exact oS hr hbs m (i+1) (d:=(Oc i bs[i] (d,a)).1) (a:=(Oc i bs[i] (d,a)).2) (by omega) h1 h2
theorem mO {n r:Nat}{bs:List Bd}{d:Ds}{tm:Int→Nat}(h:RInv n bs r bs.length d tm):RInv n bs (r+1) 0 d tm:=
 ⟨h.s,h.l,fun x=>Nat.le_succ_of_le (h.le x),fun j b hj _ _ h2=>h.new j b hj (List.getElem?_eq_some_iff.1 hj).1 (by omega),fun j b _ hlt=>absurd hlt (by omega),h.pt⟩
theorem U5 {n:Nat}{bs:List Bd}(hbs:∀b∈bs,inR n b):∀(m r:Nat) {d:Ds} {a:Int} {tm:Int→Nat},1≤r→RInv n bs r 0 d tm→(1≤m∨(tm a=r-1∧0≤a∧a<(n:Int)))→¬(D9 bs m (d,a)).2<0→
    ∃tm',RInv n bs (r+m) 0 (D9 bs m (d,a)).1 tm'∧tm' (D9 bs m (d,a)).2=r+m-1∧0≤(D9 bs m (d,a)).2∧(D9 bs m (d,a)).2<(n:Int)
  | 0,r,d,a,tm,hr,h,ha,_=>by
    rcases ha with ha | ha
    · omega
    · exact ⟨tm,h,by show tm a=r+0-1;rw [ha.1];rfl,ha.2⟩
  | m+1,r,d,a,tm,hr,h,_,hne=>by
    obtain ⟨tm',h1,h2⟩:=oS hr hbs bs.length 0 (a:=-1) (by omega) h (.inl rfl)
    rw [List.drop_zero] at h1 h2
    cases hq:decide ((Js bs d).2<0) with
    | true=>rw [Kk (s:=(d,a)) hq] at hne;exact absurd (of_decide_eq_true hq) hne
    | false=>
      rw [Mg (s:=(d,a)) hq] at hne ⊢
      have hq':=of_decide_eq_false hq
      have h3:=h2.resolve_left (fun e=>hq' (by show (F8 0 bs (d,-1)).2<0;rw [e];decide))
      have:=U5 hbs m (r+1) (d:=(Js bs d).1) (a:=(Js bs d).2) (by omega) (mO h1) (.inr ⟨by show tm' (F8 0 bs (d,-1)).2=_;rw [h3.1];omega,h3.2⟩) hne
      rw [show r+1+m=r+(m+1) by omega] at this
      exact this
def Hx (bs:List Bd)(d:Ds)(a:Int):Nat→Int
 | 0=>a
 | k+1=>Jf bs d (Hx bs d a k)
theorem Uu {bs:List Bd}{d:Ds}{a:Int}:∀(k j:Nat),Kt bs d k (Hx bs d a j)=Hx bs d a (j+k)
  | 0,j=>rfl
  | k+1,j=>by
    rw [X1]
    have:=Uu (bs:=bs) (d:=d) (a:=a) k (j+1)
    rw [show j+(k+1)=j+1+k by omega,←this];rfl
theorem zL {n:Nat}{bs:List Bd}(hn:1≤n)(hbs:∀b∈bs,inR n b)(hge:decide ((Em (zn n bs)).2<0)=false):Np n bs=true:=by
  have hst:RInv n bs 1 0 ⟨List.replicate n 0,N2 n⟩ (fun _=>0):=⟨by simp,by simp [N2],fun _=>by omega,fun j b _ _ h=>absurd h (by omega),fun j b _ h=>absurd h (by omega),fun x _ _ h=>absurd h (by simp)⟩
  have hge':=of_decide_eq_false hge
  rw [My] at hge'
  obtain ⟨tm,h1,h2,h3,h4⟩:=U5 hbs (n+1) 1 (a:=-1) (Nat.le_refl _) hst (.inl (by omega)) hge'
  rw [←My] at h1 h2 h3 h4
  unfold Np
  generalize Em (zn n bs)=e at h1 h2 h3 h4
  have key:∀k,k≤n→0≤Hx bs e.1 e.2 k∧Hx bs e.1 e.2 k<(n:Int)∧n+1≤tm (Hx bs e.1 e.2 k)+k:=by
    intro k
    induction k with
    | zero=>intro _;exact ⟨h3,h4,by show n+1≤tm e.2+0;omega⟩
    | succ k ih=>
      intro hk
      obtain ⟨q1,q2,q3⟩:=ih (by omega)
      obtain ⟨b,p1,p2,p3⟩:=h1.pt _ q1 q2 (by omega)
      have hb:=hbs b (List.mem_of_getElem? p2)
      have he:Hx bs e.1 e.2 (k+1)=b.y:=by
        show Jf bs e.1 (Hx bs e.1 e.2 k)=b.y
        unfold Jf;rw [p2];rfl
      rw [he]
      exact ⟨hb.2.2.1,hb.2.2.2,by omega⟩
  have hok:∀k,k≤n→Xr bs e.1 (Hx bs e.1 e.2 k)=true:=by
    intro k hk
    obtain ⟨q1,q2,q3⟩:=key k hk
    obtain ⟨b,p1,p2,_⟩:=h1.pt _ q1 q2 (by omega)
    have:=(List.getElem?_eq_some_iff.1 p2).1
    unfold Xr
    rw [h1.l]
    simp only [Bool.and_eq_true,decide_eq_true_eq]
    exact ⟨⟨⟨q1,q2⟩,p1⟩,by omega⟩
  -- two of the first n + 1 are the same
  have hrep:∃i j,i<j∧j≤n∧Hx bs e.1 e.2 i=Hx bs e.1 e.2 j:=by
    refine Classical.byContradiction fun hno=>?_
    have hn1:((List.range (n+1)).map (Hx bs e.1 e.2)).Nodup:=by
      refine List.pairwise_map.2 (List.Pairwise.imp_of_mem ?_ List.pairwise_lt_range)
      intro a b ha hb hlt heq
      exact hno ⟨a,b,hlt,by have:=List.mem_range.1 hb;omega,heq⟩
    have hs:(List.range (n+1)).map (Hx bs e.1 e.2) ⊆ (List.range n).map (fun k:Nat=>(k:Int)):=fun x hx=>by
      obtain ⟨k,hk,rfl⟩:=List.mem_map.1 hx
      obtain ⟨q1,q2,_⟩:=key k (by have:=List.mem_range.1 hk;omega)
      exact List.mem_map.2 ⟨(Hx bs e.1 e.2 k).toNat,List.mem_range.2 (by omega),by omega⟩
    have:=To hn1 hs
    simp at this
    omega
  obtain ⟨i,j,hij,hjn,heq⟩:=hrep
  have hper:∀k,Hx bs e.1 e.2 (i+k)=Hx bs e.1 e.2 (j+k):=by
    intro k
    induction k with
    | zero=>exact heq
    | succ k ih=>show Jf bs e.1 (Hx bs e.1 e.2 (i+k))=Jf bs e.1 (Hx bs e.1 e.2 (j+k));rw [ih]
  have hall:∀k,Xr bs e.1 (Hx bs e.1 e.2 k)=true:=by
    intro k
    induction k using Nat.strongRecOn with
    | _ k ih=>
      rcases Nat.lt_or_ge n k with h | h
      · have:=hper (k-j)
        rw [show j+(k-j)=k by omega] at this
        rw [←this]
        exact ih _ (by omega)
      · exact hok k h
  have hback:∀m k,Lr bs e.1 m (Hx bs e.1 e.2 k)=true:=by
    intro m
    induction m with
    | zero=>intro k;rfl
    | succ m ih=>intro k;rw [Lr,hall k];exact ih (k+1)
  have hcyc:∀m k,n≤k→k<n+(j-i)→n+(j-i)≤k+m→Mn bs e.1 (Hx bs e.1 e.2 n) m (Hx bs e.1 e.2 k)=true:=by
    intro m
    induction m with
    | zero=>intro k h5 h6 h7;omega
    | succ m ih=>
      intro k h5 h6 h7
      rw [Mn,hall k,Bool.true_and,Bool.or_eq_true]
      rcases Nat.lt_or_ge (k+1) (n+(j-i)) with h8 | h8
      · exact .inr (ih (k+1) (by omega) h8 (by omega))
      · left
        have:=hper (n-i)
        rw [show i+(n-i)=n by omega,show j+(n-i)=k+1 by omega] at this
        rw [this]
        exact beq_self_eq_true (Jf bs e.1 (Hx bs e.1 e.2 k))
  rw [Bool.and_eq_true]
  have hbn:Kt bs e.1 n e.2=Hx bs e.1 e.2 n:=by have:=Uu (bs:=bs) (d:=e.1) (a:=e.2) n 0;rwa [Nat.zero_add] at this
  rw [hbn]
  exact ⟨hback n 0,hcyc (n+1) n (Nat.le_refl _) (by omega) (by omega)⟩
theorem uO (T:List Sc)(V:List Va)(l:List Lit):SOLV T V l:=fun h1 h2=>by
 have hz:=cR (n:=((zN T V l:Nat):Int)) (bs:=(C9 T V l).bs) h1
 exact zL (n:=zN T V l) (by omega) hz.2.2.2 h2
end Go.Proofs.YtkddpedfbicbeaaGreatDoor
