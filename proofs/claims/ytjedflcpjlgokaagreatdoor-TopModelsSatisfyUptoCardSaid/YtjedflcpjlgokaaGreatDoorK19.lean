/-
  Several texts in one: S24, Shelf, C11. No condition.
-/
import Derived.Test.YtjedflcpjlgokaaGreatDoorK17
import Derived.Test.YtjedflcpjlgokaaGreatDoorAr
import Derived.Shelf.Strconv.Itoa0
import Derived.Shelf.Strconv.Itoa1
import Derived.Shelf.LaysM
import Derived.Shelf.Strconv.Itoa2
import Derived.Shelf.Strconv.Itoa3
import Derived.Shelf.Bits.Mul64
import Derived.Test.YtjedflcpjlgokaaGreatDoorProg
import Derived.Test.YtjedflcpjlgokaaGreatDoorK02
import Derived.Test.YtjedflcpjlgokaaGreatDoorTab
import Derived.Test.YtjedflcpjlgokaaGreatDoorAx
import Derived.Lib.ItoaLen
set_option linter.unusedVariables false
set_option linter.unusedSimpArgs false
namespace Go.Aw
open Go
section
variable {P:Program} {T:List (Nat×TD)} {d:Option Nat} {ty:TypeId} {pos:String} {aft:Array Edge} {gd:Option (Nat×Bool)} {ρ:Operand→AV}
theorem Rm {f:FuncId}{args:Array Operand}{ats:Array TypeId}{l:List AV}{r:AV}{ho:HO}{KK:List HO→Prop}(hf:vH P f=true)(hcal:ρ (.func f) = .fn (.func f) [] [])(ha:args.toList.map ρ=l)
  (hc:∀(H:List HO) (k:Nat),H[k]? = some ho→Dk P f H l fun r' H'=>r'=r∧H'=H) (hK:∀H,KK H→ho∈H):Dn P ⟨d,.call ⟨.value (.func f),args,ats⟩,ty,pos,aft,gd⟩ ρ KK r:=by
 intro g w a H next Q hr hH hk hn
 obtain ⟨k,hk⟩:=List.getElem?_of_mem (hK H hk)
 refine Dj hf hcal ha (hc H k hk) g w a next Q hr hH fun g' w' v x H' ⟨hx,hH'⟩ k1 k2 k3=>?_
 subst hx;subst hH'
 exact hn g' w' v k1 k2 k3
theorem Dk.atFront {f:FuncId}{l:List AV}{r:AV}{ho:HO}(h:∀R,Dk P f (ho::R) l fun r' H'=>r'=r∧H'=ho::R)(H:List HO)(k:Nat)(hk:H[k]? = some ho):Dk P f H l fun r' H'=>r'=r∧H'=H:=
 ((h (H.eraseIdx k)).perm (Hz hk)).post fun r' K ⟨h1,h2⟩=>⟨H,h2▸(Hz hk).symm,h1,rfl⟩
end
end Go.Aw
namespace Go.Proofs.YtjedflcpjlgokaaGreatDoor
open Go Go.Aw

def wd0:Wd:=⟨false,[],tm0⟩
def cS (a b:Wd):Bool:=a.const==b.const&&(a.text==b.text&&Pq a.field b.field)
theorem N0 {a b:Wd}:cS a b=true↔a=b:=by
 unfold cS
 cases a;cases b
 simp [Ft]
theorem U0 (a b:Wd):cS a b=decide (a=b):=by
 cases h:cS a b with
 | true=>exact (decide_eq_true (N0.1 h)).symm
 | false=>exact (decide_eq_false (fun e=>by rw [N0.2 e] at h;cases h)).symm
def Jm (x:Wd)(k:List AV):Bool:=(G1 TL [(0,1,true,4),(1,1,true,9),(2,3,true,103)] (K8 x) k).getD false
theorem Mt (x y:Wd):G1 TL [(0,1,true,4),(1,1,true,9),(2,3,true,103)] (K8 x) (K8 y)=some (cS x y):=by
 show some ((x.const==y.const)&&((x.text==y.text)&&(((x.field.op==y.field.op)&&((x.field.v==y.field.v)&&((x.field.field==y.field.field)&&true)))&&true)))=_
 rw [Bool.and_true,Bool.and_true];rfl
theorem M1 (x y:Wd):Jm x (K8 y)=cS x y:=by unfold Jm;rw [Mt];rfl
def wE (w:Wm):List (List AV×AV):=w.map fun p=>(K8 p.1,.agg (K8 p.2))
theorem wE_eq (x:Wd)(w:Wm):∀p∈wE w,G1 TL [(0,1,true,4),(1,1,true,9),(2,3,true,103)] (K8 x) p.1=some (Jm x p.1):=by
 intro p hp
 obtain ⟨q,_,rfl⟩:=List.mem_map.1 hp
 show G1 TL _ (K8 x) (K8 q.1)=some (Jm x (K8 q.1))
 rw [Mt,M1]
theorem cL (x:Wd):∀w:Wm,G4 (Jm x) (wE w)=(Jf w x).map fun y=>.agg (K8 y)
  | []=>rfl
  | q::r=>by
    have ih:=cL x r
    unfold wE Jf at ih ⊢
    rw [List.map_cons,G4,M1,U0,ih,List.find?_cons]
    by_cases h:q.1=x
    · rw [decide_eq_true h.symm,decide_eq_true h];rfl
    · rw [decide_eq_false (fun e=>h e.symm),decide_eq_false h];rfl
theorem look_w (x:Wd)(w:Wm):(G4 (Jm x) (wE w)).getD (.agg [.bool false,.str [],.int .i64 0,.int .i64 0,.int .i64 0]) = .agg (K8 ((Jf w x).getD wd0)):=by
 rw [cL]
 cases Jf w x <;> rfl
theorem has_w (x:Wd)(w:Wm):(G4 (Jm x) (wE w)).isSome=(Jf w x).isSome:=by rw [cL];cases Jf w x <;> rfl
theorem new_w {x:Wd}{w:Wm}(h:Jf w x=none):G4 (Jm x) (wE w)=none:=by rw [cL,h];rfl
theorem yG (w:Wm)(p:Wd×Wd):wE (w ++ [p])=wE w ++ [(K8 p.1,.agg (K8 p.2))]:=List.map_append ..

def X4 (w:Wm):Prop:=∀(i j:Nat) (p q:Wd×Wd),w[i]? = some p→w[j]? = some q→j≤i→q.1≠p.2
def vO (w:Wm)(n:Nat)(x:Wd):Prop:=∀(j:Nat) (q:Wd×Wd),w[j]? = some q→q.1=x→w.length≤j+n
theorem oT {w:Wm}{x y:Wd}(h:Jf w x=some y):∃(i:Nat) (p:Wd×Wd),w[i]? = some p∧p.1=x∧p.2=y:=by
  unfold Jf at h
  cases hf:w.find? fun p=>decide (p.1=x) with
  | none=>rw [hf] at h;cases h
  | some p=>
    rw [hf] at h
    have h1:=List.find?_some hf
    obtain ⟨i,hi⟩:=List.getElem?_of_mem (List.mem_of_find?_eq_some hf)
    exact ⟨i,p,hi,by simpa using h1,by simpa using h⟩
theorem pH {w:Wm}{x:Wd}(h:Jf w x=none):∀p∈w,p.1≠x:=by
 intro p hp e
 unfold Jf at h
 rw [Option.map_eq_none_iff,List.find?_eq_none] at h
 exact h p hp (by simpa using e)
theorem kD {w:Wm}{x:Wd}(h:∀p∈w,p.1≠x):Jf w x=none:=by
 unfold Jf
 rw [Option.map_eq_none_iff,List.find?_eq_none]
 intro p hp
 simpa using h p hp
theorem Wf (w:Wm)(x:Wd):vO w w.length x:=fun j q _ _=>by omega
theorem Yz {w:Wm}(hw:X4 w){n:Nat}{x y:Wd}(hi:vO w n x)(h:Jf w x=some y):1≤n∧vO w (n-1) y:=by
 obtain ⟨i,p,h1,h2,h3⟩:=oT h
 have h4:=hi i p h1 h2
 have h5:=(List.getElem?_eq_some_iff.1 h1).1
 refine ⟨by omega,fun j q hj hq=>?_⟩
 have:¬j≤i:=fun hle=>hw i j p q h1 hj hle (by rw [hq,h3])
 omega
theorem mL {w:Wm}{n:Nat}{x:Wd}(h:Jf w x=none):bK w n x=x:=by
 cases n with
 | zero=>rfl
 | succ n=>rw [bK,h]
theorem mF {w:Wm}{n:Nat}{x y:Wd}(hn:1≤n)(h:Jf w x=some y):bK w n x=bK w (n-1) y:=by
 obtain ⟨m,rfl⟩:∃m,n=m+1:=⟨n-1,by omega⟩
 rw [bK,h];rfl
theorem eY {α:Type}{o:Option α}(h:(!o.isSome)=true):o=none:=by cases o <;> simp_all
theorem xZ {α:Type}{o:Option α}{d:α}(h:(!o.isSome)=false):o=some (o.getD d):=by cases o <;> simp_all
theorem fB {w:Wm}(hw:X4 w):∀(n:Nat) (x:Wd),vO w n x→Jf w (bK w n x)=none
  | 0,x,h=>kD fun p hp e=>by
    obtain ⟨j,hj⟩:=List.getElem?_of_mem hp
    have:=h j p hj e
    have:=(List.getElem?_eq_some_iff.1 hj).1
    omega
  | n+1,x,h=>by
    cases hq:Jf w x with
    | none=>rw [mL hq];exact hq
    | some y=>
      obtain ⟨h1,h2⟩:=Yz hw h hq
      rw [mF h1 hq]
      exact fB hw n y h2
theorem Py {w:Wm}(hw:X4 w)(x:Wd):Jf w (D4 w x)=none:=fB hw _ _ (Wf w x)
theorem bJ:X4 []:=fun i j p q h=>by simp at h
theorem dF {w:Wm}(hw:X4 w){a b:Wd}(hb:Jf w b=none)(hab:a≠b):X4 (w ++ [(a,b)]):=by
 intro i j p q hi hj hle
 rw [List.getElem?_append] at hi hj
 split at hi
 ·
  rename_i h1
  rw [if_pos (by omega)] at hj
  exact hw i j p q hi hj hle
 ·
  rename_i h1
  have h2:(i-w.length)=0:=by
   have:=(List.getElem?_eq_some_iff.1 hi).1
   simp at this;omega
  rw [h2] at hi
  simp at hi;subst hi
  split at hj
  · exact pH hb q (List.mem_of_getElem? hj)
  ·
   rename_i h3
   have h4:(j-w.length)=0:=by
    have:=(List.getElem?_eq_some_iff.1 hj).1
    simp at this;omega
   rw [h4] at hj
   simp at hj;subst hj
   exact hab
def Uh (w:Wm)(a b:Wd):Wm×Bool:=if a=b then (w,true) else if a.const&&b.const then (w,false) else if a.const then (w ++ [(b,a)],true) else (w ++ [(a,b)],true)
theorem X9 (w:Wm)(c:Lit):Jc w c=Uh w (D4 w (Ga (Av c.cond))) (D4 w (Ga (Cc c.cond))):=rfl
theorem Aac {w:Wm}(hw:X4 w){a b:Wd}(ha:Jf w a=none)(hb:Jf w b=none):X4 (Uh w a b).1:=by
 unfold Uh
 by_cases h:a=b
 · rw [if_pos h];exact hw
 ·
  rw [if_neg h]
  split
  · exact hw
  ·
   split
   · exact dF hw ha (fun e=>h e.symm)
   · exact dF hw hb h
theorem aB {w:Wm}(hw:X4 w)(c:Lit):X4 (Jc w c).1:=by rw [X9];exact Aac hw (Py hw _) (Py hw _)
theorem uP {w:Wm}{a b:Wd}(h:cS a b=true):Uh w a b=(w,true):=if_pos (N0.1 h)
theorem jJ {w:Wm}{a b:Wd}(h:cS a b=false):Uh w a b=if a.const&&b.const then (w,false) else if a.const then (w ++ [(b,a)],true) else (w ++ [(a,b)],true):=if_neg (fun e=>by rw [N0.2 e] at h;cases h)
theorem sU {w:Wm}{a b:Wd}(h:cS a b=false)(h2:(a.const&&b.const)=true):Uh w a b=(w,false):=(jJ h).trans (if_pos h2)
theorem eqAB_3 {w:Wm}{a b:Wd}(h:cS a b=false)(h2:(a.const&&b.const)=false)(h3:a.const=true):Uh w a b=(w ++ [(b,a)],true):=((jJ h).trans (C8 h2)).trans (if_pos h3)
theorem eqAB_4 {w:Wm}{a b:Wd}(h:cS a b=false)(h2:(a.const&&b.const)=false)(h3:a.const=false):Uh w a b=(w ++ [(a,b)],true):=((jJ h).trans (C8 h2)).trans (C8 h3)
theorem asWd_1 {e:Ex}(h:(e.op==0)=true):Ga e=⟨true,e.val.text,tm0⟩:=if_pos h
theorem asWd_2 {e:Ex}(h:(e.op==0)=false):Ga e=⟨false,[],Dv e⟩:=C8 h
section
variable {T:List Sc} {V:List Va}
theorem Zv {s:Bool}{c:Lit}(h:((c.neg != s&&Dl T V c.cond)&&Ck T V c.cond)=true):En T V s c=true:=by
 unfold En;rw [Bool.and_assoc] at h;exact h
theorem pJ {s:Bool}{c:Lit}(h:((c.neg != s&&Dl T V c.cond)&&Ck T V c.cond)=false):En T V s c=false:=by
 unfold En;rw [Bool.and_assoc] at h;exact h
theorem J2 {s:Bool}{c:Lit}(h:((c.neg != s&&Dl T V c.cond)&&Ck T V c.cond)=true):Dl T V c.cond=true:=by
 rw [Bool.and_eq_true,Bool.and_eq_true] at h;exact h.1.2
theorem L9 {e:Ex}(h:Dl T V e=true):Cb e=true:=by
 unfold Dl at h
 rw [Bool.and_eq_true] at h
 unfold Cb
 rw [h.1,Bool.or_true]
theorem g1' {b:Bool}(h:Ij [(b,true)]):b=true:=h (b,true) (List.mem_cons_self ..)
theorem g1n {b:Bool}(h:¬Ij [(b,true)]):b=false:=by
 cases b with
 | false=>rfl
 | true=>exact absurd (fun p hp=>by rw [List.mem_singleton.1 hp]) h
def T5 (T:List Sc)(V:List Va)(w:Wm)(c:Lit):Wm:=if En T V true c then (Jc w c).1 else w
theorem mZ {w:Wm}{c:Lit}{r:List Lit}(h:En T V true c=false):Kw T V (c::r) w=Kw T V r w:=by rw [Kw,if_pos (by rw [h];rfl)]
theorem Yr {w:Wm}{c:Lit}{r:List Lit}(h:En T V true c=true)(h2:(Jc w c).2=false):Kw T V (c::r) w=((Jc w c).1,false):=by
 rw [Kw,if_neg (by rw [h];decide),if_pos (by rw [h2];rfl)]
theorem nM {w:Wm}{c:Lit}{r:List Lit}(h:En T V true c=true)(h2:(Jc w c).2=true):Kw T V (c::r) w=Kw T V r (Jc w c).1:=by
 rw [Kw,if_neg (by rw [h];decide),if_neg (by rw [h2];decide)]
theorem kH {w:Wm}{c:Lit}{r:List Lit}(h:(En T V true c && !(Jc w c).2)=false):Kw T V (c::r) w=Kw T V r (T5 T V w c):=by
  unfold T5
  cases h1:En T V true c with
  | false=>rw [mZ h1,if_neg (by decide)]
  | true=>
    rw [h1] at h
    rw [nM h1 (by simpa using h),if_pos rfl]
theorem Yg {w:Wm}{c:Lit}(h:En T V true c=true):(Jc w c).1=T5 T V w c:=(if_pos h).symm
theorem rH {w:Wm}{c:Lit}(h:En T V true c=false):T5 T V w c=w:=if_neg (by rw [h];decide)
theorem uS {w:Wm}{c:Lit}{r:List Lit}(h:((((c.neg != true)&&Dl T V c.cond)&&Ck T V c.cond) && !(Uh w (D4 w (Ga (Av c.cond))) (D4 w (Ga (Cc c.cond)))).2)=false):Kw T V (c::r) w=Kw T V r (T5 T V w c):=
 kH (by unfold En;rw [X9,←Bool.and_assoc];exact h)
theorem dI {w:Wm}(hw:X4 w)(c:Lit):X4 (T5 T V w c):=by
 unfold T5;split
 · exact aB hw c
 · exact hw
theorem aM:∀(l:List Lit) (w:Wm),X4 w→X4 (Kw T V l w).1
  | [],w,h=>h
  | c::r,w,h=>by
    cases h1:(En T V true c && !(Jc w c).2) with
    | false=>rw [kH h1];exact aM r _ (dI h c)
    | true=>
      rw [Bool.and_eq_true,Bool.not_eq_true'] at h1
      rw [Yr h1.1 h1.2];exact aB h c
theorem oR {w:Wm}{c:Lit}{r:List Lit}(h:(En T V false c && !(!(cS (D4 w (Ga (Av c.cond))) (D4 w (Ga (Cc c.cond))))))=false):Sl T V w (c::r)=Sl T V w r:=by
  rw [Sl]
  cases h1:En T V false c with
  | false=>rfl
  | true=>
    rw [h1,Bool.true_and,Bool.not_not] at h
    rw [if_neg (by decide),if_neg (fun e=>by rw [N0.2 e] at h;cases h)]
theorem oK {w:Wm}{c:Lit}{r:List Lit}(h:(En T V false c && !(!(cS (D4 w (Ga (Av c.cond))) (D4 w (Ga (Cc c.cond))))))=true):Sl T V w (c::r)=false:=by
 rw [Bool.and_eq_true,Bool.not_not] at h
 rw [Sl,if_neg (by rw [h.1];decide),if_pos (N0.1 h.2)]
theorem gX {w:Wm}{c:Lit}{r:List Lit}(h:((((c.neg != false)&&Dl T V c.cond)&&Ck T V c.cond) && !(!(cS (D4 w (Ga (Av c.cond))) (D4 w (Ga (Cc c.cond))))))=false):Sl T V w (c::r)=Sl T V w r:=
 oR (by unfold En;rw [←Bool.and_assoc];exact h)
theorem gW {w:Wm}{c:Lit}{r:List Lit}(h:((((c.neg != false)&&Dl T V c.cond)&&Ck T V c.cond) && !(!(cS (D4 w (Ga (Av c.cond))) (D4 w (Ga (Cc c.cond))))))=true):Sl T V w (c::r)=false:=
 oK (by unfold En;rw [←Bool.and_assoc];exact h)
end
end Go.Proofs.YtjedflcpjlgokaaGreatDoor

namespace Go.Proofs
open Go.Shelf
def Tryz.lays129_ren:Go.Shelf.Ren:=⟨fun | 129=>170 | n=>n,fun | 53=>216 | 3=>3 | 4=>4 | 46=>185 | 5=>5 | 9=>9 | n=>n,fun | n=>n⟩
def Tryz.lays317_ren:Go.Shelf.Ren:=⟨fun | 317=>169 | n=>n,fun | 3=>3 | 46=>185 | n=>n,fun | n=>n⟩
def Tryz.lays318_ren:Go.Shelf.Ren:=⟨fun | 318=>171 | n=>n,fun | 3=>3 | 4=>4 | n=>n,fun | n=>n⟩
def Tryz.lays283_ren:Go.Shelf.Ren:=⟨fun | 283=>162 | n=>n,fun | 3=>3 | 9=>9 | 4=>4 | n=>n,fun | n=>n⟩
def Tryz.laysM284_ren:Go.Shelf.Ren:=⟨fun | 284=>163 | 129=>170 | 317=>169 | 318=>171 | n=>n,fun | 53=>216 | 3=>3 | 212=>245 | 0=>0 | 4=>4 | 46=>185 | 5=>5 | 9=>9 | n=>n,fun | 17=>0 | n=>n⟩
def Tryz.lays285_ren:Go.Shelf.Ren:=⟨fun | 285=>164 | n=>n,fun | 37=>239 | 53=>216 | 3=>3 | 4=>4 | 51=>213 | 9=>9 | 5=>5 | 0=>0 | n=>n,fun | n=>n⟩
def Tryz.laysM246_ren:Go.Shelf.Ren:=⟨fun | 246=>154 | 283=>162 | 284=>163 | 285=>164 | 286=>165 | 129=>170 | 317=>169 | 318=>171 | 319=>172 | 320=>173 | 337=>180 | 338=>181 | n=>n,fun | 2=>2 | 3=>3 | 9=>9 | 4=>4 | 171=>236 | 0=>0 | 53=>216 | 37=>239 | 5=>5 | 173=>240 | 212=>245 | 51=>213 | 20=>20 | 213=>246 | 46=>185 | 232=>251 | 233=>252 | n=>n,fun | 17=>0 | 18=>1 | 19=>2 | n=>n⟩
def Tryz.lays246_ren:Go.Shelf.Ren:=⟨fun | 246=>154 | 283=>162 | 284=>163 | 285=>164 | 286=>165 | 129=>170 | 317=>169 | 318=>171 | 319=>172 | 320=>173 | 337=>180 | 338=>181 | n=>n,fun | 2=>2 | 3=>3 | 9=>9 | 4=>4 | 171=>236 | 0=>0 | 53=>216 | 37=>239 | 5=>5 | 173=>240 | 212=>245 | 51=>213 | 20=>20 | 213=>246 | 46=>185 | 232=>251 | 233=>252 | n=>n,fun | 17=>0 | 18=>1 | 19=>2 | n=>n⟩
def Tryz.laysM243_ren:Go.Shelf.Ren:=⟨fun | 243=>146 | 246=>154 | 283=>162 | 284=>163 | 285=>164 | 286=>165 | 129=>170 | 317=>169 | 318=>171 | 319=>172 | 320=>173 | 337=>180 | 338=>181 | n=>n,fun | 3=>3 | 9=>9 | 2=>2 | 4=>4 | 171=>236 | 0=>0 | 53=>216 | 37=>239 | 5=>5 | 173=>240 | 212=>245 | 51=>213 | 20=>20 | 213=>246 | 46=>185 | 232=>251 | 233=>252 | n=>n,fun | 17=>0 | 18=>1 | 19=>2 | n=>n⟩
def Tryz.lays243_ren:Go.Shelf.Ren:=⟨fun | 243=>146 | 246=>154 | 283=>162 | 284=>163 | 285=>164 | 286=>165 | 129=>170 | 317=>169 | 318=>171 | 319=>172 | 320=>173 | 337=>180 | 338=>181 | n=>n,fun | 3=>3 | 9=>9 | 2=>2 | 4=>4 | 171=>236 | 0=>0 | 53=>216 | 37=>239 | 5=>5 | 173=>240 | 212=>245 | 51=>213 | 20=>20 | 213=>246 | 46=>185 | 232=>251 | 233=>252 | n=>n,fun | 17=>0 | 18=>1 | 19=>2 | n=>n⟩
def Tryz.laysM171_ren:Go.Shelf.Ren:=⟨fun | 171=>127 | 243=>146 | 246=>154 | 283=>162 | 284=>163 | 285=>164 | 286=>165 | 129=>170 | 317=>169 | 318=>171 | 319=>172 | 320=>173 | 337=>180 | 338=>181 | n=>n,fun | 3=>3 | 9=>9 | 2=>2 | 4=>4 | 171=>236 | 0=>0 | 53=>216 | 37=>239 | 5=>5 | 173=>240 | 212=>245 | 51=>213 | 20=>20 | 213=>246 | 46=>185 | 232=>251 | 233=>252 | n=>n,fun | 17=>0 | 18=>1 | 19=>2 | n=>n⟩
theorem Tryz.laysM171:Go.Proofs.LaysM.n171 Tryz.prog Tryz.laysM171_ren:={
 mixed:=by kernel_rfl
 f129:=Tryz.func170.trans (congrArg some (by kernel_rfl))
 f171:=Tryz.func127.trans (congrArg some (by kernel_rfl))
 f243:=Tryz.func146.trans (congrArg some (by kernel_rfl))
 f246:=Tryz.func154.trans (congrArg some (by kernel_rfl))
 f283:=Tryz.func162.trans (congrArg some (by kernel_rfl))
 f284:=Tryz.func163.trans (congrArg some (by kernel_rfl))
 f285:=Tryz.func164.trans (congrArg some (by kernel_rfl))
 f286:=Tryz.func165.trans (congrArg some (by kernel_rfl))
 f317:=Tryz.func169.trans (congrArg some (by kernel_rfl))
 f318:=Tryz.func171.trans (congrArg some (by kernel_rfl))
 f319:=Tryz.func172.trans (congrArg some (by kernel_rfl))
 f320:=Tryz.func173.trans (congrArg some (by kernel_rfl))
 f337:=Tryz.func180.trans (congrArg some (by kernel_rfl))
 f338:=Tryz.func181.trans (congrArg some (by kernel_rfl))
 t0:=Tryz.underlying0
 a0:=Tryz.isAgg0
 z0:=Tryz.sizeOf0
 v0:=Tryz.zeroValue0
 t2:=Tryz.underlying2
 a2:=Tryz.isAgg2
 z2:=Tryz.sizeOf2
 v2:=Tryz.zeroValue2
 t3:=Tryz.underlying3
 a3:=Tryz.isAgg3
 z3:=Tryz.sizeOf3
 v3:=Tryz.zeroValue3
 t4:=Tryz.underlying4
 a4:=Tryz.isAgg4
 z4:=Tryz.sizeOf4
 v4:=Tryz.zeroValue4
 t5:=Tryz.underlying5
 a5:=Tryz.isAgg5
 z5:=Tryz.sizeOf5
 v5:=Tryz.zeroValue5
 t9:=Tryz.underlying9
 a9:=Tryz.isAgg9
 z9:=Tryz.sizeOf9
 v9:=Tryz.zeroValue9
 t20:=Tryz.underlying20
 a20:=Tryz.isAgg20
 z20:=Tryz.sizeOf20
 v20:=Tryz.zeroValue20
 t37:=Tryz.underlying239
 a37:=Tryz.isAgg239
 z37:=Tryz.sizeOf239
 v37:=Tryz.zeroValue239
 t46:=Tryz.underlying185
 a46:=Tryz.isAgg185
 z46:=Tryz.sizeOf185
 v46:=Tryz.zeroValue185
 t51:=Tryz.underlying213
 a51:=Tryz.isAgg213
 z51:=Tryz.sizeOf213
 v51:=Tryz.zeroValue213
 t53:=Tryz.underlying216
 a53:=Tryz.isAgg216
 z53:=Tryz.sizeOf216
 v53:=Tryz.zeroValue216
 t171:=Tryz.underlying236
 a171:=Tryz.isAgg236
 z171:=Tryz.sizeOf236
 v171:=Tryz.zeroValue236
 t173:=Tryz.underlying240
 a173:=Tryz.isAgg240
 z173:=Tryz.sizeOf240
 v173:=Tryz.zeroValue240
 t212:=Tryz.underlying245
 a212:=Tryz.isAgg245
 z212:=Tryz.sizeOf245
 v212:=Tryz.zeroValue245
 t213:=Tryz.underlying246
 a213:=Tryz.isAgg246
 z213:=Tryz.sizeOf246
 t232:=Tryz.underlying251
 a232:=Tryz.isAgg251
 z232:=Tryz.sizeOf251
 v232:=Tryz.zeroValue251
 t233:=Tryz.underlying252
 a233:=Tryz.isAgg252
 z233:=Tryz.sizeOf252
 v233:=Tryz.zeroValue252
 g17:=by kernel_rfl
 g18:=by kernel_rfl
 g19:=by kernel_rfl
 i0:=by kernel_rfl
 i2:=by kernel_rfl
 i3:=by kernel_rfl
 i4:=by kernel_rfl
 i5:=by kernel_rfl
 i9:=by kernel_rfl
 i20:=by kernel_rfl
 i37:=by kernel_rfl
 i46:=by kernel_rfl
 i51:=by kernel_rfl
 i53:=by kernel_rfl
 i171:=by kernel_rfl
 i173:=by kernel_rfl
 i212:=by kernel_rfl
 i232:=by kernel_rfl
 i233:=by kernel_rfl
 m17:=by kernel_rfl
 m18:=by kernel_rfl
 m19:=by kernel_rfl }
open Go.RowKit Go.Sort Go.Lib in
theorem Tryz.strconv_Itoa (n : Int) (h0 : -9223372036854775808 ≤ n) (h1 : n ≤ 9223372036854775807) (w : World) (htab : Lib.TabIs Tryz.prog w "internal/strconv.uint64pow10" .u64 Lib.pow10Tab) :
 Calls Tryz.prog 127 #[.int .i64 n] w fun e w'=>e = .returned (.string ⟨(Lib.itoa n).toArray⟩)∧∃k os,w'=grow (w.drewN k) os:=Any.strconv_Itoa Tryz.laysM171 n h0 h1 w htab
def Tryz.lays171_ren:Go.Shelf.Ren:=⟨fun | 171=>127 | 243=>146 | 246=>154 | 283=>162 | 284=>163 | 285=>164 | 286=>165 | 129=>170 | 317=>169 | 318=>171 | 319=>172 | 320=>173 | 337=>180 | 338=>181 | n=>n,fun | 3=>3 | 9=>9 | 2=>2 | 4=>4 | 171=>236 | 0=>0 | 53=>216 | 37=>239 | 5=>5 | 173=>240 | 212=>245 | 51=>213 | 20=>20 | 213=>246 | 46=>185 | 232=>251 | 233=>252 | n=>n,fun | 17=>0 | 18=>1 | 19=>2 | n=>n⟩
def Tryz.lays264_ren:Go.Shelf.Ren:=⟨fun | 264=>135 | n=>n,fun | 53=>216 | 46=>185 | n=>n,fun | n=>n⟩
def Tryz.lays212_ren:Go.Shelf.Ren:=⟨fun | 212=>103 | 263=>134 | 264=>135 | n=>n,fun | 46=>185 | 51=>213 | 146=>214 | 53=>216 | 148=>217 | n=>n,fun | n=>n⟩
theorem Tryz.lays212:Go.Proofs.Lays.n212 Tryz.prog Tryz.lays212_ren:={
 mixed:=by kernel_rfl
 f212:=Tryz.func103.trans (congrArg some (by kernel_rfl))
 f263:=Tryz.func134.trans (congrArg some (by kernel_rfl))
 f264:=Tryz.func135.trans (congrArg some (by kernel_rfl))
 t46:=Tryz.underlying185
 a46:=Tryz.isAgg185
 z46:=Tryz.sizeOf185
 v46:=Tryz.zeroValue185
 t51:=Tryz.underlying213
 a51:=Tryz.isAgg213
 z51:=Tryz.sizeOf213
 v51:=Tryz.zeroValue213
 t53:=Tryz.underlying216
 a53:=Tryz.isAgg216
 z53:=Tryz.sizeOf216
 v53:=Tryz.zeroValue216
 t146:=Tryz.underlying214
 a146:=Tryz.isAgg214
 z146:=Tryz.sizeOf214
 v146:=Tryz.zeroValue214
 t148:=Tryz.underlying217
 a148:=Tryz.isAgg217
 z148:=Tryz.sizeOf217
 v148:=Tryz.zeroValue217 }
open Go.RowKit Go.Lib in
theorem Tryz.bits_Mul (x y:Nat)(hx:x<18446744073709551616)(hy:y<18446744073709551616)(w:World) :
 Calls Tryz.prog 103 #[.int .u64 x,.int .u64 y] w fun e w'=>e = .returned (.tuple #[.int .u64 ((x*y / 18446744073709551616:Nat):Int),.int .u64 ((x*y % 18446744073709551616:Nat):Int)])∧w'=w:=Any.bits_Mul Tryz.lays212 x y hx hy w
end Go.Proofs

namespace Go.Proofs.YtjedflcpjlgokaaGreatDoor
open Go Go.Aw Go.Sort Go.Lib

theorem kA (w:World)(k:Nat)(os:Array Obj):Go.RowKit.Below w.heap.size w (grow (w.drewN k) os):=
 ⟨rfl,rfl,rfl,by first | (simp [grow];done) | (simp [grow];omega),fun i hi=>by
  show ((w.drewN k).heap++os)[i]? = _
  rw [Array.getElem?_append_left (by show i<w.heap.size;omega)]
  rfl⟩
theorem rG {g : Gh} {w : World} (h : GlobOK g w) : Lib.TabIs Tryz.prog w "internal/strconv.uint64pow10" .u64 Lib.pow10Tab := by
 obtain ⟨_,T,fr,h2⟩:=h.tabs _ (List.mem_singleton.2 rfl)
 have e : Tryz.prog.globalNamed "internal/strconv.uint64pow10" = some 0 := by kernel_rfl
 unfold Lib.TabIs World.var?
 rw [e]
 show (match w.heap[0]? with | some (.cells cs _ _)=>some cs | _=>none)=_
 rw [h2]
 rfl
theorem kItoa (n:Int)(h0 : -9223372036854775808≤n)(h1:n≤9223372036854775807):Ax Tryz.prog 127 [.int .i64 n] (.str (Go.Lib.itoa n)):=
 .of_calls fun g w vs hg ha=>by
  obtain ⟨v,rfl,h2⟩:=ha.inv1
  have e1:=h2.inv_int
  subst e1
  have hl:=Go.Lib.itoa_length_le n h0 h1
  refine ⟨.string ⟨(Go.Lib.itoa n).toArray⟩,fun _ _ _=>kG (by unfold maxLen;omega),(Tryz.strconv_Itoa n h0 h1 w (rG hg)).mono ?_⟩
  rintro e w' ⟨rfl,k,os,rfl⟩
  exact ⟨rfl,kA w k os⟩
theorem kMul (x y:Nat)(hx:x<18446744073709551616)(hy:y<18446744073709551616):Ax Tryz.prog 103 [.int .u64 (x:Int),.int .u64 (y:Int)] (.tuple [.int .u64 ((x*y / 18446744073709551616:Nat):Int),.int .u64 ((x*y % 18446744073709551616:Nat):Int)]):=
 .of_same fun g w vs hg ha=>by
  obtain ⟨u,v,rfl,h1,h2⟩:=ha.inv2
  have e1:=h1.inv_int
  have e2:=h2.inv_int
  subst e1 e2
  exact ⟨_,fun g' w'=>.tuple _ _ rfl (fun i c hc=>by
   match i,hc with
   | 0,hc=>cases hc;exact .int _ _
   | 1,hc=>cases hc;exact .int _ _
   | i+2,hc=>simp at hc),Tryz.bits_Mul x y hx hy w⟩
end Go.Proofs.YtjedflcpjlgokaaGreatDoor
