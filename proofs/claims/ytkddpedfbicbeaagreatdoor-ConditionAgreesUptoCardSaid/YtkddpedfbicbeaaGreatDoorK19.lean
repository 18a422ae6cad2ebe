/-
  Several texts in one: S24, Shelf, C11. No condition.
-/
import Derived.Test.YtkddpedfbicbeaaGreatDoorS22
import Derived.Test.YtkddpedfbicbeaaGreatDoorAr
import Derived.Shelf.Strconv.Itoa0
import Derived.Shelf.Strconv.Itoa1
import Derived.Shelf.LaysM
import Derived.Shelf.Strconv.Itoa2
import Derived.Shelf.Strconv.Itoa3
import Derived.Shelf.Bits.Mul64
import Derived.Test.YtkddpedfbicbeaaGreatDoorProg
import Derived.Test.YtkddpedfbicbeaaGreatDoorK02
import Derived.Test.YtkddpedfbicbeaaGreatDoorTab
import Derived.Test.YtkddpedfbicbeaaGreatDoorAx
import Derived.Lib.ItoaLen
set_option linter.unusedVariables false
set_option linter.unusedSimpArgs false
namespace Go.Aw
open Go
section
variable {P:Program} {T:List (Nat×TD)} {d:Option Nat} {ty:TypeId} {pos:String} {aft:Array Edge} {gd:Option (Nat×Bool)} {ρ:Operand→AV}
theorem Sk {f:FuncId}{args:Array Operand}{ats:Array TypeId}{l:List AV}{r:AV}{ho:HO}{KK:List HO→Prop}(hf:vJ P f=true)(hcal:ρ (.func f) = .fn (.func f) [] [])(ha:args.toList.map ρ=l)
  (hc:∀(H:List HO) (k:Nat),H[k]? = some ho→Dr P f H l fun r' H'=>r'=r∧H'=H) (hK:∀H,KK H→ho∈H):Di P ⟨d,.call ⟨.value (.func f),args,ats⟩,ty,pos,aft,gd⟩ ρ KK r:=by
 intro g w a H next Q hr hH hk hn
 obtain ⟨k,hk⟩:=List.getElem?_of_mem (hK H hk)
 refine Fp hf hcal ha (hc H k hk) g w a next Q hr hH fun g' w' v x H' ⟨hx,hH'⟩ k1 k2 k3=>?_
 subst hx;subst hH'
 exact hn g' w' v k1 k2 k3
theorem Dr.atFront {f:FuncId}{l:List AV}{r:AV}{ho:HO}(h:∀R,Dr P f (ho::R) l fun r' H'=>r'=r∧H'=ho::R)(H:List HO)(k:Nat)(hk:H[k]? = some ho):Dr P f H l fun r' H'=>r'=r∧H'=H:=
 ((h (H.eraseIdx k)).perm (H1 hk)).post fun r' K ⟨h1,h2⟩=>⟨H,h2▸(H1 hk).symm,h1,rfl⟩
end
end Go.Aw
namespace Go.Proofs.YtkddpedfbicbeaaGreatDoor
open Go Go.Aw

def wd0:Wd:=⟨false,[],tm0⟩
def eE (a b:Wd):Bool:=a.const==b.const&&(a.text==b.text&&dZ a.field b.field)
theorem Ng {a b:Wd}:eE a b=true↔a=b:=by
 unfold eE
 cases a;cases b
 simp [Kz]
theorem Wl (a b:Wd):eE a b=decide (a=b):=by
 cases h:eE a b with
 | true=>exact (decide_eq_true (Ng.1 h)).symm
 | false=>exact (decide_eq_false (fun e=>by rw [Ng.2 e] at h;cases h)).symm
def Jo (x:Wd)(k:List AV):Bool:=(G6 TL [(0,1,true,4),(1,1,true,9),(2,3,true,143)] (Ld x) k).getD false
theorem Nz (x y:Wd):G6 TL [(0,1,true,4),(1,1,true,9),(2,3,true,143)] (Ld x) (Ld y)=some (eE x y):=by
 show some ((x.const==y.const)&&((x.text==y.text)&&(((x.field.op==y.field.op)&&((x.field.v==y.field.v)&&((x.field.field==y.field.field)&&true)))&&true)))=_
 rw [Bool.and_true,Bool.and_true];rfl
theorem Nq (x y:Wd):Jo x (Ld y)=eE x y:=by unfold Jo;rw [Nz];rfl
def wE (w:Wm):List (List AV×AV):=w.map fun p=>(Ld p.1,.agg (Ld p.2))
theorem wE_eq (x:Wd)(w:Wm):∀p∈wE w,G6 TL [(0,1,true,4),(1,1,true,9),(2,3,true,143)] (Ld x) p.1=some (Jo x p.1):=by
 intro p hp
 obtain ⟨q,_,rfl⟩:=List.mem_map.1 hp
 show G6 TL _ (Ld x) (Ld q.1)=some (Jo x (Ld q.1))
 rw [Nz,Nq]
theorem dX (x:Wd):∀w:Wm,Hc (Jo x) (wE w)=(Ga w x).map fun y=>.agg (Ld y)
  | []=>rfl
  | q::r=>by
    have ih:=dX x r
    unfold wE Ga at ih ⊢
    rw [List.map_cons,Hc,Nq,Wl,ih,List.find?_cons]
    by_cases h:q.1=x
    · rw [decide_eq_true h.symm,decide_eq_true h];rfl
    · rw [decide_eq_false (fun e=>h e.symm),decide_eq_false h];rfl
theorem look_w (x:Wd)(w:Wm):(Hc (Jo x) (wE w)).getD (.agg [.bool false,.str [],.int .i64 0,.int .i64 0,.int .i64 0]) = .agg (Ld ((Ga w x).getD wd0)):=by
 rw [dX]
 cases Ga w x <;> rfl
theorem has_w (x:Wd)(w:Wm):(Hc (Jo x) (wE w)).isSome=(Ga w x).isSome:=by rw [dX];cases Ga w x <;> rfl
theorem new_w {x:Wd}{w:Wm}(h:Ga w x=none):Hc (Jo x) (wE w)=none:=by rw [dX,h];rfl
theorem wE_snoc (w:Wm)(p:Wd×Wd):wE (w ++ [p])=wE w ++ [(Ld p.1,.agg (Ld p.2))]:=List.map_append ..

def Rq (w:Wm):Prop:=∀(i j:Nat) (p q:Wd×Wd),w[i]? = some p→w[j]? = some q→j≤i→q.1≠p.2
def sJ (w:Wm)(n:Nat)(x:Wd):Prop:=∀(j:Nat) (q:Wd×Wd),w[j]? = some q→q.1=x→w.length≤j+n
theorem Zq {w:Wm}{x y:Wd}(h:Ga w x=some y):∃(i:Nat) (p:Wd×Wd),w[i]? = some p∧p.1=x∧p.2=y:=by
  unfold Ga at h
  cases hf:w.find? fun p=>decide (p.1=x) with
  | none=>rw [hf] at h;cases h
  | some p=>
    rw [hf] at h
    have h1:=List.find?_some hf
    obtain ⟨i,hi⟩:=List.getElem?_of_mem (List.mem_of_find?_eq_some hf)
    exact ⟨i,p,hi,by simpa using h1,by simpa using h⟩
theorem sV {w:Wm}{x:Wd}(h:Ga w x=none):∀p∈w,p.1≠x:=by
 intro p hp e
 unfold Ga at h
 rw [Option.map_eq_none_iff,List.find?_eq_none] at h
 exact h p hp (by simpa using e)
theorem Xy {w:Wm}{x:Wd}(h:∀p∈w,p.1≠x):Ga w x=none:=by
 unfold Ga
 rw [Option.map_eq_none_iff,List.find?_eq_none]
 intro p hp
 simpa using h p hp
theorem Q8 (w:Wm)(x:Wd):sJ w w.length x:=fun j q _ _=>by omega
theorem Ts {w:Wm}(hw:Rq w){n:Nat}{x y:Wd}(hi:sJ w n x)(h:Ga w x=some y):1≤n∧sJ w (n-1) y:=by
 obtain ⟨i,p,h1,h2,h3⟩:=Zq h
 have h4:=hi i p h1 h2
 have h5:=(List.getElem?_eq_some_iff.1 h1).1
 refine ⟨by omega,fun j q hj hq=>?_⟩
 have:¬j≤i:=fun hle=>hw i j p q h1 hj hle (by rw [hq,h3])
 omega
theorem V5 {w:Wm}{n:Nat}{x:Wd}(h:Ga w x=none):Qd w n x=x:=by
 cases n with
 | zero=>rfl
 | succ n=>rw [Qd,h]
theorem dL {w:Wm}{n:Nat}{x y:Wd}(hn:1≤n)(h:Ga w x=some y):Qd w n x=Qd w (n-1) y:=by
 obtain ⟨m,rfl⟩:∃m,n=m+1:=⟨n-1,by omega⟩
 rw [Qd,h];rfl
theorem fQ {α:Type}{o:Option α}(h:(!o.isSome)=true):o=none:=by cases o <;> simp_all
theorem zU {α:Type}{o:Option α}{d:α}(h:(!o.isSome)=false):o=some (o.getD d):=by cases o <;> simp_all
theorem Xp {w:Wm}(hw:Rq w):∀(n:Nat) (x:Wd),sJ w n x→Ga w (Qd w n x)=none
  | 0,x,h=>Xy fun p hp e=>by
    obtain ⟨j,hj⟩:=List.getElem?_of_mem hp
    have:=h j p hj e
    have:=(List.getElem?_eq_some_iff.1 hj).1
    omega
  | n+1,x,h=>by
    cases hq:Ga w x with
    | none=>rw [V5 hq];exact hq
    | some y=>
      obtain ⟨h1,h2⟩:=Ts hw h hq
      rw [dL h1 hq]
      exact Xp hw n y h2
theorem I8 {w:Wm}(hw:Rq w)(x:Wd):Ga w (Cb w x)=none:=Xp hw _ _ (Q8 w x)
theorem Vz:Rq []:=fun i j p q h=>by simp at h
theorem Yv {w:Wm}(hw:Rq w){a b:Wd}(hb:Ga w b=none)(hab:a≠b):Rq (w ++ [(a,b)]):=by
 intro i j p q hi hj hle
 rw [List.getElem?_append] at hi hj
 split at hi
 ·
  rename_i h1
  rw [if_pos (by omega)] at hj
  exact hw i j p q hi hj hle
 ·
  rename_i h1
  have h2:(i-w.length)=0:=by
   have:=(List.getElem?_eq_some_iff.1 hi).1
   simp at this;omega
  rw [h2] at hi
  simp at hi;subst hi
  split at hj
  · exact sV hb q (List.mem_of_getElem? hj)
  ·
   rename_i h3
   have h4:(j-w.length)=0:=by
    have:=(List.getElem?_eq_some_iff.1 hj).1
    simp at this;omega
   rw [h4] at hj
   simp at hj;subst hj
   exact hab
def Nu (w:Wm)(a b:Wd):Wm×Bool:=if a=b then (w,true) else if a.const&&b.const then (w,false) else if a.const then (w ++ [(b,a)],true) else (w ++ [(a,b)],true)
theorem Ju (w:Wm)(c:Lit):E3 w c=Nu w (Cb w (B8 (Ao c.cond))) (Cb w (B8 (Bj c.cond))):=rfl
theorem zH {w:Wm}(hw:Rq w){a b:Wd}(ha:Ga w a=none)(hb:Ga w b=none):Rq (Nu w a b).1:=by
 unfold Nu
 by_cases h:a=b
 · rw [if_pos h];exact hw
 ·
  rw [if_neg h]
  split
  · exact hw
  ·
   split
   · exact Yv hw ha (fun e=>h e.symm)
   · exact Yv hw hb h
theorem Me {w:Wm}(hw:Rq w)(c:Lit):Rq (E3 w c).1:=by rw [Ju];exact zH hw (I8 hw _) (I8 hw _)
theorem uQ {w:Wm}{a b:Wd}(h:eE a b=true):Nu w a b=(w,true):=if_pos (Ng.1 h)
theorem kB {w:Wm}{a b:Wd}(h:eE a b=false):Nu w a b=if a.const&&b.const then (w,false) else if a.const then (w ++ [(b,a)],true) else (w ++ [(a,b)],true):=if_neg (fun e=>by rw [Ng.2 e] at h;cases h)
theorem xW {w:Wm}{a b:Wd}(h:eE a b=false)(h2:(a.const&&b.const)=true):Nu w a b=(w,false):=(kB h).trans (if_pos h2)
theorem eqAB_3 {w:Wm}{a b:Wd}(h:eE a b=false)(h2:(a.const&&b.const)=false)(h3:a.const=true):Nu w a b=(w ++ [(b,a)],true):=((kB h).trans (Cz h2)).trans (if_pos h3)
theorem eqAB_4 {w:Wm}{a b:Wd}(h:eE a b=false)(h2:(a.const&&b.const)=false)(h3:a.const=false):Nu w a b=(w ++ [(a,b)],true):=((kB h).trans (Cz h2)).trans (Cz h3)
theorem cL {e:Ex}(h:(e.op==0)=true):B8 e=⟨true,e.val.text,tm0⟩:=if_pos h
theorem dD {e:Ex}(h:(e.op==0)=false):B8 e=⟨false,[],Dy e⟩:=Cz h
section
variable {T:List Sc} {V:List Va}
theorem Z3 {s:Bool}{c:Lit}(h:((c.neg != s&&Cl T V c.cond)&&Bt T V c.cond)=true):B9 T V s c=true:=by
 unfold B9;rw [Bool.and_assoc] at h;exact h
theorem qK {s:Bool}{c:Lit}(h:((c.neg != s&&Cl T V c.cond)&&Bt T V c.cond)=false):B9 T V s c=false:=by
 unfold B9;rw [Bool.and_assoc] at h;exact h
theorem J8 {s:Bool}{c:Lit}(h:((c.neg != s&&Cl T V c.cond)&&Bt T V c.cond)=true):Cl T V c.cond=true:=by
 rw [Bool.and_eq_true,Bool.and_eq_true] at h;exact h.1.2
theorem Mx {e:Ex}(h:Cl T V e=true):Cr e=true:=by
 unfold Cl at h
 rw [Bool.and_eq_true] at h
 unfold Cr
 rw [h.1,Bool.or_true]
theorem g1' {b:Bool}(h:Il [(b,true)]):b=true:=h (b,true) (List.mem_cons_self ..)
theorem g1n {b:Bool}(h:¬Il [(b,true)]):b=false:=by
 cases b with
 | false=>rfl
 | true=>exact absurd (fun p hp=>by rw [List.mem_singleton.1 hp]) h
def Vd (T:List Sc)(V:List Va)(w:Wm)(c:Lit):Wm:=if B9 T V true c then (E3 w c).1 else w
theorem Ms {w:Wm}{c:Lit}{r:List Lit}(h:B9 T V true c=false):Jb T V (c::r) w=Jb T V r w:=by rw [Jb,if_pos (by rw [h];rfl)]
theorem Mg {w:Wm}{c:Lit}{r:List Lit}(h:B9 T V true c=true)(h2:(E3 w c).2=false):Jb T V (c::r) w=((E3 w c).1,false):=by
 rw [Jb,if_neg (by rw [h];decide),if_pos (by rw [h2];rfl)]
theorem Md {w:Wm}{c:Lit}{r:List Lit}(h:B9 T V true c=true)(h2:(E3 w c).2=true):Jb T V (c::r) w=Jb T V r (E3 w c).1:=by
 rw [Jb,if_neg (by rw [h];decide),if_neg (by rw [h2];decide)]
theorem oG {w:Wm}{c:Lit}{r:List Lit}(h:(B9 T V true c && !(E3 w c).2)=false):Jb T V (c::r) w=Jb T V r (Vd T V w c):=by
  unfold Vd
  cases h1:B9 T V true c with
  | false=>rw [Ms h1,if_neg (by decide)]
  | true=>
    rw [h1] at h
    rw [Md h1 (by simpa using h),if_pos rfl]
theorem Zs {w:Wm}{c:Lit}(h:B9 T V true c=true):(E3 w c).1=Vd T V w c:=(if_pos h).symm
theorem uJ {w:Wm}{c:Lit}(h:B9 T V true c=false):Vd T V w c=w:=if_neg (by rw [h];decide)
theorem yC {w:Wm}{c:Lit}{r:List Lit}(h:((((c.neg != true)&&Cl T V c.cond)&&Bt T V c.cond) && !(Nu w (Cb w (B8 (Ao c.cond))) (Cb w (B8 (Bj c.cond)))).2)=false):Jb T V (c::r) w=Jb T V r (Vd T V w c):=
 oG (by unfold B9;rw [Ju,←Bool.and_assoc];exact h)
theorem gX {w:Wm}(hw:Rq w)(c:Lit):Rq (Vd T V w c):=by
 unfold Vd;split
 · exact Me hw c
 · exact hw
theorem dG:∀(l:List Lit) (w:Wm),Rq w→Rq (Jb T V l w).1
  | [],w,h=>h
  | c::r,w,h=>by
    cases h1:(B9 T V true c && !(E3 w c).2) with
    | false=>rw [oG h1];exact dG r _ (gX h c)
    | true=>
      rw [Bool.and_eq_true,Bool.not_eq_true'] at h1
      rw [Mg h1.1 h1.2];exact Me h c
theorem rB {w:Wm}{c:Lit}{r:List Lit}(h:(B9 T V false c && !(!(eE (Cb w (B8 (Ao c.cond))) (Cb w (B8 (Bj c.cond))))))=false):Oe T V w (c::r)=Oe T V w r:=by
  rw [Oe]
  cases h1:B9 T V false c with
  | false=>rfl
  | true=>
    rw [h1,Bool.true_and,Bool.not_not] at h
    rw [if_neg (by decide),if_neg (fun e=>by rw [Ng.2 e] at h;cases h)]
theorem qZ {w:Wm}{c:Lit}{r:List Lit}(h:(B9 T V false c && !(!(eE (Cb w (B8 (Ao c.cond))) (Cb w (B8 (Bj c.cond))))))=true):Oe T V w (c::r)=false:=by
 rw [Bool.and_eq_true,Bool.not_not] at h
 rw [Oe,if_neg (by rw [h.1];decide),if_pos (Ng.1 h.2)]
theorem kS {w:Wm}{c:Lit}{r:List Lit}(h:((((c.neg != false)&&Cl T V c.cond)&&Bt T V c.cond) && !(!(eE (Cb w (B8 (Ao c.cond))) (Cb w (B8 (Bj c.cond))))))=false):Oe T V w (c::r)=Oe T V w r:=
 rB (by unfold B9;rw [←Bool.and_assoc];exact h)
theorem lL {w:Wm}{c:Lit}{r:List Lit}(h:((((c.neg != false)&&Cl T V c.cond)&&Bt T V c.cond) && !(!(eE (Cb w (B8 (Ao c.cond))) (Cb w (B8 (Bj c.cond))))))=true):Oe T V w (c::r)=false:=
 qZ (by unfold B9;rw [←Bool.and_assoc];exact h)
end
end Go.Proofs.YtkddpedfbicbeaaGreatDoor

namespace Go.Proofs
open Go.Shelf
def Tryz.lays129_ren:Go.Shelf.Ren:=⟨fun | 129=>207 | n=>n,fun | 53=>254 | 3=>3 | 4=>4 | 46=>245 | 5=>5 | 9=>9 | n=>n,fun | n=>n⟩
def Tryz.lays317_ren:Go.Shelf.Ren:=⟨fun | 317=>206 | n=>n,fun | 3=>3 | 46=>245 | n=>n,fun | n=>n⟩
def Tryz.lays318_ren:Go.Shelf.Ren:=⟨fun | 318=>208 | n=>n,fun | 3=>3 | 4=>4 | n=>n,fun | n=>n⟩
def Tryz.lays283_ren:Go.Shelf.Ren:=⟨fun | 283=>196 | n=>n,fun | 3=>3 | 9=>9 | 4=>4 | n=>n,fun | n=>n⟩
def Tryz.laysM284_ren:Go.Shelf.Ren:=⟨fun | 284=>197 | 129=>207 | 317=>206 | 318=>208 | n=>n,fun | 53=>254 | 3=>3 | 212=>266 | 0=>0 | 4=>4 | 46=>245 | 5=>5 | 9=>9 | n=>n,fun | 17=>0 | n=>n⟩
def Tryz.lays285_ren:Go.Shelf.Ren:=⟨fun | 285=>198 | n=>n,fun | 37=>260 | 53=>254 | 3=>3 | 4=>4 | 51=>251 | 9=>9 | 5=>5 | 0=>0 | n=>n,fun | n=>n⟩
def Tryz.laysM246_ren:Go.Shelf.Ren:=⟨fun | 246=>190 | 283=>196 | 284=>197 | 285=>198 | 286=>199 | 129=>207 | 317=>206 | 318=>208 | 319=>209 | 320=>210 | 337=>211 | 338=>212 | n=>n,fun | 2=>2 | 3=>3 | 9=>9 | 4=>4 | 171=>257 | 0=>0 | 53=>254 | 37=>260 | 5=>5 | 173=>261 | 212=>266 | 51=>251 | 20=>20 | 213=>267 | 46=>245 | 232=>270 | 233=>271 | n=>n,fun | 17=>0 | 18=>1 | 19=>2 | n=>n⟩
def Tryz.lays246_ren:Go.Shelf.Ren:=⟨fun | 246=>190 | 283=>196 | 284=>197 | 285=>198 | 286=>199 | 129=>207 | 317=>206 | 318=>208 | 319=>209 | 320=>210 | 337=>211 | 338=>212 | n=>n,fun | 2=>2 | 3=>3 | 9=>9 | 4=>4 | 171=>257 | 0=>0 | 53=>254 | 37=>260 | 5=>5 | 173=>261 | 212=>266 | 51=>251 | 20=>20 | 213=>267 | 46=>245 | 232=>270 | 233=>271 | n=>n,fun | 17=>0 | 18=>1 | 19=>2 | n=>n⟩
def Tryz.laysM243_ren:Go.Shelf.Ren:=⟨fun | 243=>178 | 246=>190 | 283=>196 | 284=>197 | 285=>198 | 286=>199 | 129=>207 | 317=>206 | 318=>208 | 319=>209 | 320=>210 | 337=>211 | 338=>212 | n=>n,fun | 3=>3 | 9=>9 | 2=>2 | 4=>4 | 171=>257 | 0=>0 | 53=>254 | 37=>260 | 5=>5 | 173=>261 | 212=>266 | 51=>251 | 20=>20 | 213=>267 | 46=>245 | 232=>270 | 233=>271 | n=>n,fun | 17=>0 | 18=>1 | 19=>2 | n=>n⟩
def Tryz.lays243_ren:Go.Shelf.Ren:=⟨fun | 243=>178 | 246=>190 | 283=>196 | 284=>197 | 285=>198 | 286=>199 | 129=>207 | 317=>206 | 318=>208 | 319=>209 | 320=>210 | 337=>211 | 338=>212 | n=>n,fun | 3=>3 | 9=>9 | 2=>2 | 4=>4 | 171=>257 | 0=>0 | 53=>254 | 37=>260 | 5=>5 | 173=>261 | 212=>266 | 51=>251 | 20=>20 | 213=>267 | 46=>245 | 232=>270 | 233=>271 | n=>n,fun | 17=>0 | 18=>1 | 19=>2 | n=>n⟩
def Tryz.laysM171_ren:Go.Shelf.Ren:=⟨fun | 171=>169 | 243=>178 | 246=>190 | 283=>196 | 284=>197 | 285=>198 | 286=>199 | 129=>207 | 317=>206 | 318=>208 | 319=>209 | 320=>210 | 337=>211 | 338=>212 | n=>n,fun | 3=>3 | 9=>9 | 2=>2 | 4=>4 | 171=>257 | 0=>0 | 53=>254 | 37=>260 | 5=>5 | 173=>261 | 212=>266 | 51=>251 | 20=>20 | 213=>267 | 46=>245 | 232=>270 | 233=>271 | n=>n,fun | 17=>0 | 18=>1 | 19=>2 | n=>n⟩
theorem Tryz.laysM171:Go.Proofs.LaysM.n171 Tryz.prog Tryz.laysM171_ren:={
 mixed:=by kernel_rfl
 f129:=Tryz.func207.trans (congrArg some (by kernel_rfl))
 f171:=Tryz.func169.trans (congrArg some (by kernel_rfl))
 f243:=Tryz.func178.trans (congrArg some (by kernel_rfl))
 f246:=Tryz.func190.trans (congrArg some (by kernel_rfl))
 f283:=Tryz.func196.trans (congrArg some (by kernel_rfl))
 f284:=Tryz.func197.trans (congrArg some (by kernel_rfl))
 f285:=Tryz.func198.trans (congrArg some (by kernel_rfl))
 f286:=Tryz.func199.trans (congrArg some (by kernel_rfl))
 f317:=Tryz.func206.trans (congrArg some (by kernel_rfl))
 f318:=Tryz.func208.trans (congrArg some (by kernel_rfl))
 f319:=Tryz.func209.trans (congrArg some (by kernel_rfl))
 f320:=Tryz.func210.trans (congrArg some (by kernel_rfl))
 f337:=Tryz.func211.trans (congrArg some (by kernel_rfl))
 f338:=Tryz.func212.trans (congrArg some (by kernel_rfl))
 t0:=Tryz.underlying0
 a0:=Tryz.isAgg0
 z0:=Tryz.sizeOf0
 v0:=Tryz.zeroValue0
 t2:=Tryz.underlying2
 a2:=Tryz.isAgg2
 z2:=Tryz.sizeOf2
 v2:=Tryz.zeroValue2
 t3:=Tryz.underlying3
 a3:=Tryz.isAgg3
 z3:=Tryz.sizeOf3
 v3:=Tryz.zeroValue3
 t4:=Tryz.underlying4
 a4:=Tryz.isAgg4
 z4:=Tryz.sizeOf4
 v4:=Tryz.zeroValue4
 t5:=Tryz.underlying5
 a5:=Tryz.isAgg5
 z5:=Tryz.sizeOf5
 v5:=Tryz.zeroValue5
 t9:=Tryz.underlying9
 a9:=Tryz.isAgg9
 z9:=Tryz.sizeOf9
 v9:=Tryz.zeroValue9
 t20:=Tryz.underlying20
 a20:=Tryz.isAgg20
 z20:=Tryz.sizeOf20
 v20:=Tryz.zeroValue20
 t37:=Tryz.underlying260
 a37:=Tryz.isAgg260
 z37:=Tryz.sizeOf260
 v37:=Tryz.zeroValue260
 t46:=Tryz.underlying245
 a46:=Tryz.isAgg245
 z46:=Tryz.sizeOf245
 v46:=Tryz.zeroValue245
 t51:=Tryz.underlying251
 a51:=Tryz.isAgg251
 z51:=Tryz.sizeOf251
 v51:=Tryz.zeroValue251
 t53:=Tryz.underlying254
 a53:=Tryz.isAgg254
 z53:=Tryz.sizeOf254
 v53:=Tryz.zeroValue254
 t171:=Tryz.underlying257
 a171:=Tryz.isAgg257
 z171:=Tryz.sizeOf257
 v171:=Tryz.zeroValue257
 t173:=Tryz.underlying261
 a173:=Tryz.isAgg261
 z173:=Tryz.sizeOf261
 v173:=Tryz.zeroValue261
 t212:=Tryz.underlying266
 a212:=Tryz.isAgg266
 z212:=Tryz.sizeOf266
 v212:=Tryz.zeroValue266
 t213:=Tryz.underlying267
 a213:=Tryz.isAgg267
 z213:=Tryz.sizeOf267
 t232:=Tryz.underlying270
 a232:=Tryz.isAgg270
 z232:=Tryz.sizeOf270
 v232:=Tryz.zeroValue270
 t233:=Tryz.underlying271
 a233:=Tryz.isAgg271
 z233:=Tryz.sizeOf271
 v233:=Tryz.zeroValue271
 g17:=by kernel_rfl
 g18:=by kernel_rfl
 g19:=by kernel_rfl
 i0:=by kernel_rfl
 i2:=by kernel_rfl
 i3:=by kernel_rfl
 i4:=by kernel_rfl
 i5:=by kernel_rfl
 i9:=by kernel_rfl
 i20:=by kernel_rfl
 i37:=by kernel_rfl
 i46:=by kernel_rfl
 i51:=by kernel_rfl
 i53:=by kernel_rfl
 i171:=by kernel_rfl
 i173:=by kernel_rfl
 i212:=by kernel_rfl
 i232:=by kernel_rfl
 i233:=by kernel_rfl
 m17:=by kernel_rfl
 m18:=by kernel_rfl
 m19:=by kernel_rfl }
open Go.RowKit Go.Sort Go.Lib in
theorem Tryz.strconv_Itoa (n : Int) (h0 : -9223372036854775808 ≤ n) (h1 : n ≤ 9223372036854775807) (w : World) (htab : Lib.TabIs Tryz.prog w "internal/strconv.uint64pow10" .u64 Lib.pow10Tab) :
 Calls Tryz.prog 169 #[.int .i64 n] w fun e w'=>e = .returned (.string ⟨(Lib.itoa n).toArray⟩)∧∃k os,w'=grow (w.drewN k) os:=Any.strconv_Itoa Tryz.laysM171 n h0 h1 w htab
def Tryz.lays171_ren:Go.Shelf.Ren:=⟨fun | 171=>169 | 243=>178 | 246=>190 | 283=>196 | 284=>197 | 285=>198 | 286=>199 | 129=>207 | 317=>206 | 318=>208 | 319=>209 | 320=>210 | 337=>211 | 338=>212 | n=>n,fun | 3=>3 | 9=>9 | 2=>2 | 4=>4 | 171=>257 | 0=>0 | 53=>254 | 37=>260 | 5=>5 | 173=>261 | 212=>266 | 51=>251 | 20=>20 | 213=>267 | 46=>245 | 232=>270 | 233=>271 | n=>n,fun | 17=>0 | 18=>1 | 19=>2 | n=>n⟩
def Tryz.lays264_ren:Go.Shelf.Ren:=⟨fun | 264=>195 | n=>n,fun | 53=>254 | 46=>245 | n=>n,fun | n=>n⟩
def Tryz.lays212_ren:Go.Shelf.Ren:=⟨fun | 212=>188 | 263=>194 | 264=>195 | n=>n,fun | 46=>245 | 51=>251 | 146=>252 | 53=>254 | 148=>255 | n=>n,fun | n=>n⟩
theorem Tryz.lays212:Go.Proofs.Lays.n212 Tryz.prog Tryz.lays212_ren:={
 mixed:=by kernel_rfl
 f212:=Tryz.func188.trans (congrArg some (by kernel_rfl))
 f263:=Tryz.func194.trans (congrArg some (by kernel_rfl))
 f264:=Tryz.func195.trans (congrArg some (by kernel_rfl))
 t46:=Tryz.underlying245
 a46:=Tryz.isAgg245
 z46:=Tryz.sizeOf245
 v46:=Tryz.zeroValue245
 t51:=Tryz.underlying251
 a51:=Tryz.isAgg251
 z51:=Tryz.sizeOf251
 v51:=Tryz.zeroValue251
 t53:=Tryz.underlying254
 a53:=Tryz.isAgg254
 z53:=Tryz.sizeOf254
 v53:=Tryz.zeroValue254
 t146:=Tryz.underlying252
 a146:=Tryz.isAgg252
 z146:=Tryz.sizeOf252
 v146:=Tryz.zeroValue252
 t148:=Tryz.underlying255
 a148:=Tryz.isAgg255
 z148:=Tryz.sizeOf255
 v148:=Tryz.zeroValue255 }
open Go.RowKit Go.Lib in
theorem Tryz.bits_Mul (x y:Nat)(hx:x<18446744073709551616)(hy:y<18446744073709551616)(w:World) :
 Calls Tryz.prog 188 #[.int .u64 x,.int .u64 y] w fun e w'=>e = .returned (.tuple #[.int .u64 ((x*y / 18446744073709551616:Nat):Int),.int .u64 ((x*y % 18446744073709551616:Nat):Int)])∧w'=w:=Any.bits_Mul Tryz.lays212 x y hx hy w
end Go.Proofs

namespace Go.Proofs.YtkddpedfbicbeaaGreatDoor
open Go Go.Aw Go.Sort Go.Lib

theorem kJ (w:World)(k:Nat)(os:Array Obj):Go.RowKit.Below w.heap.size w (grow (w.drewN k) os):=
 ⟨rfl,rfl,rfl,by first | (simp [grow];done) | (simp [grow];omega),fun i hi=>by
  show ((w.drewN k).heap++os)[i]? = _
  rw [Array.getElem?_append_left (by show i<w.heap.size;omega)]
  rfl⟩
theorem xC {g : Gh} {w : World} (h : GlobOK g w) : Lib.TabIs Tryz.prog w "internal/strconv.uint64pow10" .u64 Lib.pow10Tab := by
 obtain ⟨_,T,fr,h2⟩:=h.tabs _ (List.mem_singleton.2 rfl)
 have e : Tryz.prog.globalNamed "internal/strconv.uint64pow10" = some 0 := by kernel_rfl
 unfold Lib.TabIs World.var?
 rw [e]
 show (match w.heap[0]? with | some (.cells cs _ _)=>some cs | _=>none)=_
 rw [h2]
 rfl
theorem kItoa (n:Int)(h0 : -9223372036854775808≤n)(h1:n≤9223372036854775807):Ar Tryz.prog 169 [.int .i64 n] (.str (Go.Lib.itoa n)):=
 .of_calls fun g w vs hg ha=>by
  obtain ⟨v,rfl,h2⟩:=ha.inv1
  have e1:=h2.inv_int
  subst e1
  have hl:=Go.Lib.itoa_length_le n h0 h1
  refine ⟨.string ⟨(Go.Lib.itoa n).toArray⟩,fun _ _ _=>jZ (by unfold maxLen;omega),(Tryz.strconv_Itoa n h0 h1 w (xC hg)).mono ?_⟩
  rintro e w' ⟨rfl,k,os,rfl⟩
  exact ⟨rfl,kJ w k os⟩
theorem kMul (x y:Nat)(hx:x<18446744073709551616)(hy:y<18446744073709551616):Ar Tryz.prog 188 [.int .u64 (x:Int),.int .u64 (y:Int)] (.tuple [.int .u64 ((x*y / 18446744073709551616:Nat):Int),.int .u64 ((x*y % 18446744073709551616:Nat):Int)]):=
 .of_same fun g w vs hg ha=>by
  obtain ⟨u,v,rfl,h1,h2⟩:=ha.inv2
  have e1:=h1.inv_int
  have e2:=h2.inv_int
  subst e1 e2
  exact ⟨_,fun g' w'=>.tuple _ _ rfl (fun i c hc=>by
   match i,hc with
   | 0,hc=>cases hc;exact .int _ _
   | 1,hc=>cases hc;exact .int _ _
   | i+2,hc=>simp at hc),Tryz.bits_Mul x y hx hy w⟩
end Go.Proofs.YtkddpedfbicbeaaGreatDoor
