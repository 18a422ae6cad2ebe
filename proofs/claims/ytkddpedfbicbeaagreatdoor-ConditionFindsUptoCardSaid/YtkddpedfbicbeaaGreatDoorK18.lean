/-
  Several texts in one: S24, Shelf, C11. No condition.
-/
import Derived.Test.YtkddpedfbicbeaaGreatDoorK16
import Derived.Test.YtkddpedfbicbeaaGreatDoorAr
import Derived.Shelf.Strconv.Itoa0
import Derived.Shelf.Strconv.Itoa1
import Derived.Shelf.LaysM
import Derived.Shelf.Strconv.Itoa2
import Derived.Shelf.Strconv.Itoa3
import Derived.Shelf.Bits.Mul64
import Derived.Test.YtkddpedfbicbeaaGreatDoorProg
import Derived.Test.YtkddpedfbicbeaaGreatDoorK02
import Derived.Test.YtkddpedfbicbeaaGreatDoorTab
import Derived.Test.YtkddpedfbicbeaaGreatDoorAx
import Derived.Lib.ItoaLen
set_option linter.unusedVariables false
set_option linter.unusedSimpArgs false
namespace Go.Aw
open Go
section
variable {P:Program} {T:List (Nat×TD)} {d:Option Nat} {ty:TypeId} {pos:String} {aft:Array Edge} {gd:Option (Nat×Bool)} {ρ:Operand→AV}
/-- A call that reads one object and leaves every heap as it is. -/
theorem Rz {f:FuncId}{args:Array Operand}{ats:Array TypeId}{l:List AV}{r:AV}{ho:HO}{KK:List HO→Prop}(hf:vU P f=true)(hcal:ρ (.func f) = .fn (.func f) [] [])(ha:args.toList.map ρ=l)
  (hc:∀(H:List HO) (k:Nat),H[k]? = some ho→Dv P f H l fun r' H'=>r'=r∧H'=H) (hK:∀H,KK H→ho∈H):Dj P ⟨d,.call ⟨.value (.func f),args,ats⟩,ty,pos,aft,gd⟩ ρ KK r:=by
 intro g w a H next Q hr hH hk hn
 obtain ⟨k,hk⟩:=List.getElem?_of_mem (hK H hk)
 refine Fo hf hcal ha (hc H k hk) g w a next Q hr hH fun g' w' v x H' ⟨hx,hH'⟩ k1 k2 k3=>?_
 subst hx;subst hH'
 exact hn g' w' v k1 k2 k3
theorem Dv.atFront {f:FuncId}{l:List AV}{r:AV}{ho:HO}(h:∀R,Dv P f (ho::R) l fun r' H'=>r'=r∧H'=ho::R)(H:List HO)(k:Nat)(hk:H[k]? = some ho):Dv P f H l fun r' H'=>r'=r∧H'=H:=
 ((h (H.eraseIdx k)).perm (Ib hk)).post fun r' K ⟨h1,h2⟩=>⟨H,h2▸(Ib hk).symm,h1,rfl⟩
end
end Go.Aw
namespace Go.Proofs.YtkddpedfbicbeaaGreatDoor
open Go Go.Aw

def wd0:Wd:=⟨false,[],tm0⟩
def eF (a b:Wd):Bool:=a.const==b.const&&(a.text==b.text&&eA a.field b.field)
theorem Nw {a b:Wd}:eF a b=true↔a=b:=by
 unfold eF
 cases a;cases b
 simp [K3]
theorem V0 (a b:Wd):eF a b=decide (a=b):=by
 cases h:eF a b with
 | true=>exact (decide_eq_true (Nw.1 h)).symm
 | false=>exact (decide_eq_false (fun e=>by rw [Nw.2 e] at h;cases h)).symm
def Jq (x:Wd)(k:List AV):Bool:=(G9 TL [(0,1,true,4),(1,1,true,9),(2,3,true,143)] (Lb x) k).getD false
theorem Ng (x y:Wd):G9 TL [(0,1,true,4),(1,1,true,9),(2,3,true,143)] (Lb x) (Lb y)=some (eF x y):=by
 show some ((x.const==y.const)&&((x.text==y.text)&&(((x.field.op==y.field.op)&&((x.field.v==y.field.v)&&((x.field.field==y.field.field)&&true)))&&true)))=_
 rw [Bool.and_true,Bool.and_true];rfl
theorem Nn (x y:Wd):Jq x (Lb y)=eF x y:=by unfold Jq;rw [Ng];rfl
def wE (w:Wm):List (List AV×AV):=w.map fun p=>(Lb p.1,.agg (Lb p.2))
theorem wE_eq (x:Wd)(w:Wm):∀p∈wE w,G9 TL [(0,1,true,4),(1,1,true,9),(2,3,true,143)] (Lb x) p.1=some (Jq x p.1):=by
 intro p hp
 obtain ⟨q,_,rfl⟩:=List.mem_map.1 hp
 show G9 TL _ (Lb x) (Lb q.1)=some (Jq x (Lb q.1))
 rw [Ng,Nn]
theorem bL (x:Wd):∀w:Wm,Hj (Jq x) (wE w)=(F9 w x).map fun y=>.agg (Lb y)
  | []=>rfl
  | q::r=>by
    have ih:=bL x r
    unfold wE F9 at ih ⊢
    rw [List.map_cons,Hj,Nn,V0,ih,List.find?_cons]
    by_cases h:q.1=x
    · rw [decide_eq_true h.symm,decide_eq_true h];rfl
    · rw [decide_eq_false (fun e=>h e.symm),decide_eq_false h];rfl
theorem look_w (x:Wd)(w:Wm):(Hj (Jq x) (wE w)).getD (.agg [.bool false,.str [],.int .i64 0,.int .i64 0,.int .i64 0]) = .agg (Lb ((F9 w x).getD wd0)):=by
 rw [bL]
 cases F9 w x <;> rfl
theorem has_w (x:Wd)(w:Wm):(Hj (Jq x) (wE w)).isSome=(F9 w x).isSome:=by rw [bL];cases F9 w x <;> rfl
theorem new_w {x:Wd}{w:Wm}(h:F9 w x=none):Hj (Jq x) (wE w)=none:=by rw [bL,h];rfl
theorem wE_snoc (w:Wm)(p:Wd×Wd):wE (w ++ [p])=wE w ++ [(Lb p.1,.agg (Lb p.2))]:=List.map_append ..

/-- the value of an entry is no key of an entry that is not behind it -/
def Ru (w:Wm):Prop:=∀(i j:Nat) (p q:Wd×Wd),w[i]? = some p→w[j]? = some q→j≤i→q.1≠p.2
def qS (w:Wm)(n:Nat)(x:Wd):Prop:=∀(j:Nat) (q:Wd×Wd),w[j]? = some q→q.1=x→w.length≤j+n
theorem aL {w:Wm}{x y:Wd}(h:F9 w x=some y):∃(i:Nat) (p:Wd×Wd),w[i]? = some p∧p.1=x∧p.2=y:=by
  unfold F9 at h
  cases hf:w.find? fun p=>decide (p.1=x) with
  | none=>rw [hf] at h;cases h
  | some p=>
    rw [hf] at h
    have h1:=List.find?_some hf
    obtain ⟨i,hi⟩:=List.getElem?_of_mem (List.mem_of_find?_eq_some hf)
    exact ⟨i,p,hi,by simpa using h1,by simpa using h⟩
theorem pX {w:Wm}{x:Wd}(h:F9 w x=none):∀p∈w,p.1≠x:=by
 intro p hp e
 unfold F9 at h
 rw [Option.map_eq_none_iff,List.find?_eq_none] at h
 exact h p hp (by simpa using e)
theorem Xm {w:Wm}{x:Wd}(h:∀p∈w,p.1≠x):F9 w x=none:=by
 unfold F9
 rw [Option.map_eq_none_iff,List.find?_eq_none]
 intro p hp
 simpa using h p hp
theorem Rp (w:Wm)(x:Wd):qS w w.length x:=fun j q _ _=>by omega
theorem T8 {w:Wm}(hw:Ru w){n:Nat}{x y:Wd}(hi:qS w n x)(h:F9 w x=some y):1≤n∧qS w (n-1) y:=by
 obtain ⟨i,p,h1,h2,h3⟩:=aL h
 have h4:=hi i p h1 h2
 have h5:=(List.getElem?_eq_some_iff.1 h1).1
 refine ⟨by omega,fun j q hj hq=>?_⟩
 have:¬j≤i:=fun hle=>hw i j p q h1 hj hle (by rw [hq,h3])
 omega
theorem Vx {w:Wm}{n:Nat}{x:Wd}(h:F9 w x=none):Qj w n x=x:=by
 cases n with
 | zero=>rfl
 | succ n=>rw [Qj,h]
theorem dY {w:Wm}{n:Nat}{x y:Wd}(hn:1≤n)(h:F9 w x=some y):Qj w n x=Qj w (n-1) y:=by
 obtain ⟨m,rfl⟩:∃m,n=m+1:=⟨n-1,by omega⟩
 rw [Qj,h];rfl
theorem iF {α:Type}{o:Option α}(h:(!o.isSome)=true):o=none:=by cases o <;> simp_all
theorem is_some {α:Type}{o:Option α}{d:α}(h:(!o.isSome)=false):o=some (o.getD d):=by cases o <;> simp_all
theorem Yc {w:Wm}(hw:Ru w):∀(n:Nat) (x:Wd),qS w n x→F9 w (Qj w n x)=none
  | 0,x,h=>Xm fun p hp e=>by
    obtain ⟨j,hj⟩:=List.getElem?_of_mem hp
    have:=h j p hj e
    have:=(List.getElem?_eq_some_iff.1 hj).1
    omega
  | n+1,x,h=>by
    cases hq:F9 w x with
    | none=>rw [Vx hq];exact hq
    | some y=>
      obtain ⟨h1,h2⟩:=T8 hw h hq
      rw [dY h1 hq]
      exact Yc hw n y h2
theorem I1 {w:Wm}(hw:Ru w)(x:Wd):F9 w (Cc w x)=none:=Yc hw _ _ (Rp w x)
theorem Vw:Ru []:=fun i j p q h=>by simp at h
theorem Yn {w:Wm}(hw:Ru w){a b:Wd}(hb:F9 w b=none)(hab:a≠b):Ru (w ++ [(a,b)]):=by
 intro i j p q hi hj hle
 rw [List.getElem?_append] at hi hj
 split at hi
 ·
  rename_i h1
  rw [if_pos (by omega)] at hj
  exact hw i j p q hi hj hle
 ·
  rename_i h1
  have h2:(i-w.length)=0:=by
   have:=(List.getElem?_eq_some_iff.1 hi).1
   simp at this;omega
  rw [h2] at hi
  simp at hi;subst hi
  split at hj
  · exact pX hb q (List.mem_of_getElem? hj)
  ·
   rename_i h3
   have h4:(j-w.length)=0:=by
    have:=(List.getElem?_eq_some_iff.1 hj).1
    simp at this;omega
   rw [h4] at hj
   simp at hj;subst hj
   exact hab
/-- one equation between representatives -/
def Nr (w:Wm)(a b:Wd):Wm×Bool:=if a=b then (w,true) else if a.const&&b.const then (w,false) else if a.const then (w ++ [(b,a)],true) else (w ++ [(a,b)],true)
theorem Jy (w:Wm)(c:Lit):E8 w c=Nr w (Cc w (B9 (Ao c.cond))) (Cc w (B9 (Bg c.cond))):=rfl
theorem eqAB_ok {w:Wm}(hw:Ru w){a b:Wd}(ha:F9 w a=none)(hb:F9 w b=none):Ru (Nr w a b).1:=by
 unfold Nr
 by_cases h:a=b
 · rw [if_pos h];exact hw
 ·
  rw [if_neg h]
  split
  · exact hw
  ·
   split
   · exact Yn hw ha (fun e=>h e.symm)
   · exact Yn hw hb h
theorem Mu {w:Wm}(hw:Ru w)(c:Lit):Ru (E8 w c).1:=by rw [Jy];exact eqAB_ok hw (I1 hw _) (I1 hw _)
theorem wD {w:Wm}{a b:Wd}(h:eF a b=true):Nr w a b=(w,true):=if_pos (Nw.1 h)
theorem kD {w:Wm}{a b:Wd}(h:eF a b=false):Nr w a b=if a.const&&b.const then (w,false) else if a.const then (w ++ [(b,a)],true) else (w ++ [(a,b)],true):=if_neg (fun e=>by rw [Nw.2 e] at h;cases h)
theorem xI {w:Wm}{a b:Wd}(h:eF a b=false)(h2:(a.const&&b.const)=true):Nr w a b=(w,false):=(kD h).trans (if_pos h2)
theorem eqAB_3 {w:Wm}{a b:Wd}(h:eF a b=false)(h2:(a.const&&b.const)=false)(h3:a.const=true):Nr w a b=(w ++ [(b,a)],true):=((kD h).trans (Ci h2)).trans (if_pos h3)
theorem eqAB_4 {w:Wm}{a b:Wd}(h:eF a b=false)(h2:(a.const&&b.const)=false)(h3:a.const=false):Nr w a b=(w ++ [(a,b)],true):=((kD h).trans (Ci h2)).trans (Ci h3)
theorem cA {e:Ex}(h:(e.op==0)=true):B9 e=⟨true,e.val.text,tm0⟩:=if_pos h
theorem bR {e:Ex}(h:(e.op==0)=false):B9 e=⟨false,[],D1 e⟩:=Ci h
section
variable {T:List Sc} {V:List Va}
theorem Zi {s:Bool}{c:Lit}(h:((c.neg != s&&Cp T V c.cond)&&B5 T V c.cond)=true):Cd T V s c=true:=by
 unfold Cd;rw [Bool.and_assoc] at h;exact h
theorem qU {s:Bool}{c:Lit}(h:((c.neg != s&&Cp T V c.cond)&&B5 T V c.cond)=false):Cd T V s c=false:=by
 unfold Cd;rw [Bool.and_assoc] at h;exact h
theorem J7 {s:Bool}{c:Lit}(h:((c.neg != s&&Cp T V c.cond)&&B5 T V c.cond)=true):Cp T V c.cond=true:=by
 rw [Bool.and_eq_true,Bool.and_eq_true] at h;exact h.1.2
theorem Mg {e:Ex}(h:Cp T V e=true):Cu e=true:=by
 unfold Cp at h
 rw [Bool.and_eq_true] at h
 unfold Cu
 rw [h.1,Bool.or_true]
theorem g1' {b:Bool}(h:Im [(b,true)]):b=true:=h (b,true) (List.mem_cons_self ..)
theorem g1n {b:Bool}(h:¬Im [(b,true)]):b=false:=by
 cases b with
 | false=>rfl
 | true=>exact absurd (fun p hp=>by rw [List.mem_singleton.1 hp]) h
def Vj (T:List Sc)(V:List Va)(w:Wm)(c:Lit):Wm:=if Cd T V true c then (E8 w c).1 else w
theorem Mi {w:Wm}{c:Lit}{r:List Lit}(h:Cd T V true c=false):I9 T V (c::r) w=I9 T V r w:=by rw [I9,if_pos (by rw [h];rfl)]
theorem Mm {w:Wm}{c:Lit}{r:List Lit}(h:Cd T V true c=true)(h2:(E8 w c).2=false):I9 T V (c::r) w=((E8 w c).1,false):=by
 rw [I9,if_neg (by rw [h];decide),if_pos (by rw [h2];rfl)]
theorem Mj {w:Wm}{c:Lit}{r:List Lit}(h:Cd T V true c=true)(h2:(E8 w c).2=true):I9 T V (c::r) w=I9 T V r (E8 w c).1:=by
 rw [I9,if_neg (by rw [h];decide),if_neg (by rw [h2];decide)]
theorem oM {w:Wm}{c:Lit}{r:List Lit}(h:(Cd T V true c && !(E8 w c).2)=false):I9 T V (c::r) w=I9 T V r (Vj T V w c):=by
  unfold Vj
  cases h1:Cd T V true c with
  | false=>rw [Mi h1,if_neg (by decide)]
  | true=>
    rw [h1] at h
    rw [Mj h1 (by simpa using h),if_pos rfl]
theorem Zt {w:Wm}{c:Lit}(h:Cd T V true c=true):(E8 w c).1=Vj T V w c:=(if_pos h).symm
theorem xN {w:Wm}{c:Lit}(h:Cd T V true c=false):Vj T V w c=w:=if_neg (by rw [h];decide)
theorem xW {w:Wm}{c:Lit}{r:List Lit}(h:((((c.neg != true)&&Cp T V c.cond)&&B5 T V c.cond) && !(Nr w (Cc w (B9 (Ao c.cond))) (Cc w (B9 (Bg c.cond)))).2)=false):I9 T V (c::r) w=I9 T V r (Vj T V w c):=
 oM (by unfold Cd;rw [Jy,←Bool.and_assoc];exact h)
theorem fC {w:Wm}(hw:Ru w)(c:Lit):Ru (Vj T V w c):=by
 unfold Vj;split
 · exact Mu hw c
 · exact hw
theorem bO:∀(l:List Lit) (w:Wm),Ru w→Ru (I9 T V l w).1
  | [],w,h=>h
  | c::r,w,h=>by
    cases h1:(Cd T V true c && !(E8 w c).2) with
    | false=>rw [oM h1];exact bO r _ (fC h c)
    | true=>
      rw [Bool.and_eq_true,Bool.not_eq_true'] at h1
      rw [Mm h1.1 h1.2];exact Mu h c
theorem rB {w:Wm}{c:Lit}{r:List Lit}(h:(Cd T V false c && !(!(eF (Cc w (B9 (Ao c.cond))) (Cc w (B9 (Bg c.cond))))))=false):N6 T V w (c::r)=N6 T V w r:=by
  rw [N6]
  cases h1:Cd T V false c with
  | false=>rfl
  | true=>
    rw [h1,Bool.true_and,Bool.not_not] at h
    rw [if_neg (by decide),if_neg (fun e=>by rw [Nw.2 e] at h;cases h)]
theorem rD {w:Wm}{c:Lit}{r:List Lit}(h:(Cd T V false c && !(!(eF (Cc w (B9 (Ao c.cond))) (Cc w (B9 (Bg c.cond))))))=true):N6 T V w (c::r)=false:=by
 rw [Bool.and_eq_true,Bool.not_not] at h
 rw [N6,if_neg (by rw [h.1];decide),if_pos (Nw.1 h.2)]
theorem lB {w:Wm}{c:Lit}{r:List Lit}(h:((((c.neg != false)&&Cp T V c.cond)&&B5 T V c.cond) && !(!(eF (Cc w (B9 (Ao c.cond))) (Cc w (B9 (Bg c.cond))))))=false):N6 T V w (c::r)=N6 T V w r:=
 rB (by unfold Cd;rw [←Bool.and_assoc];exact h)
theorem lL {w:Wm}{c:Lit}{r:List Lit}(h:((((c.neg != false)&&Cp T V c.cond)&&B5 T V c.cond) && !(!(eF (Cc w (B9 (Ao c.cond))) (Cc w (B9 (Bg c.cond))))))=true):N6 T V w (c::r)=false:=
 rD (by unfold Cd;rw [←Bool.and_assoc];exact h)
end
end Go.Proofs.YtkddpedfbicbeaaGreatDoor

namespace Go.Proofs
open Go.Shelf
def Tryz.lays129_ren:Go.Shelf.Ren:=⟨fun | 129=>207 | n=>n,fun | 53=>254 | 3=>3 | 4=>4 | 46=>245 | 5=>5 | 9=>9 | n=>n,fun | n=>n⟩
def Tryz.lays317_ren:Go.Shelf.Ren:=⟨fun | 317=>206 | n=>n,fun | 3=>3 | 46=>245 | n=>n,fun | n=>n⟩
def Tryz.lays318_ren:Go.Shelf.Ren:=⟨fun | 318=>208 | n=>n,fun | 3=>3 | 4=>4 | n=>n,fun | n=>n⟩
def Tryz.lays283_ren:Go.Shelf.Ren:=⟨fun | 283=>196 | n=>n,fun | 3=>3 | 9=>9 | 4=>4 | n=>n,fun | n=>n⟩
def Tryz.laysM284_ren:Go.Shelf.Ren:=⟨fun | 284=>197 | 129=>207 | 317=>206 | 318=>208 | n=>n,fun | 53=>254 | 3=>3 | 212=>266 | 0=>0 | 4=>4 | 46=>245 | 5=>5 | 9=>9 | n=>n,fun | 17=>0 | n=>n⟩
def Tryz.lays285_ren:Go.Shelf.Ren:=⟨fun | 285=>198 | n=>n,fun | 37=>260 | 53=>254 | 3=>3 | 4=>4 | 51=>251 | 9=>9 | 5=>5 | 0=>0 | n=>n,fun | n=>n⟩
def Tryz.laysM246_ren:Go.Shelf.Ren:=⟨fun | 246=>190 | 283=>196 | 284=>197 | 285=>198 | 286=>199 | 129=>207 | 317=>206 | 318=>208 | 319=>209 | 320=>210 | 337=>211 | 338=>212 | n=>n,fun | 2=>2 | 3=>3 | 9=>9 | 4=>4 | 171=>257 | 0=>0 | 53=>254 | 37=>260 | 5=>5 | 173=>261 | 212=>266 | 51=>251 | 20=>20 | 213=>267 | 46=>245 | 232=>270 | 233=>271 | n=>n,fun | 17=>0 | 18=>1 | 19=>2 | n=>n⟩
def Tryz.lays246_ren:Go.Shelf.Ren:=⟨fun | 246=>190 | 283=>196 | 284=>197 | 285=>198 | 286=>199 | 129=>207 | 317=>206 | 318=>208 | 319=>209 | 320=>210 | 337=>211 | 338=>212 | n=>n,fun | 2=>2 | 3=>3 | 9=>9 | 4=>4 | 171=>257 | 0=>0 | 53=>254 | 37=>260 | 5=>5 | 173=>261 | 212=>266 | 51=>251 | 20=>20 | 213=>267 | 46=>245 | 232=>270 | 233=>271 | n=>n,fun | 17=>0 | 18=>1 | 19=>2 | n=>n⟩
def Tryz.laysM243_ren:Go.Shelf.Ren:=⟨fun | 243=>178 | 246=>190 | 283=>196 | 284=>197 | 285=>198 | 286=>199 | 129=>207 | 317=>206 | 318=>208 | 319=>209 | 320=>210 | 337=>211 | 338=>212 | n=>n,fun | 3=>3 | 9=>9 | 2=>2 | 4=>4 | 171=>257 | 0=>0 | 53=>254 | 37=>260 | 5=>5 | 173=>261 | 212=>266 | 51=>251 | 20=>20 | 213=>267 | 46=>245 | 232=>270 | 233=>271 | n=>n,fun | 17=>0 | 18=>1 | 19=>2 | n=>n⟩
def Tryz.lays243_ren:Go.Shelf.Ren:=⟨fun | 243=>178 | 246=>190 | 283=>196 | 284=>197 | 285=>198 | 286=>199 | 129=>207 | 317=>206 | 318=>208 | 319=>209 | 320=>210 | 337=>211 | 338=>212 | n=>n,fun | 3=>3 | 9=>9 | 2=>2 | 4=>4 | 171=>257 | 0=>0 | 53=>254 | 37=>260 | 5=>5 | 173=>261 | 212=>266 | 51=>251 | 20=>20 | 213=>267 | 46=>245 | 232=>270 | 233=>271 | n=>n,fun | 17=>0 | 18=>1 | 19=>2 | n=>n⟩
def Tryz.laysM171_ren:Go.Shelf.Ren:=⟨fun | 171=>169 | 243=>178 | 246=>190 | 283=>196 | 284=>197 | 285=>198 | 286=>199 | 129=>207 | 317=>206 | 318=>208 | 319=>209 | 320=>210 | 337=>211 | 338=>212 | n=>n,fun | 3=>3 | 9=>9 | 2=>2 | 4=>4 | 171=>257 | 0=>0 | 53=>254 | 37=>260 | 5=>5 | 173=>261 | 212=>266 | 51=>251 | 20=>20 | 213=>267 | 46=>245 | 232=>270 | 233=>271 | n=>n,fun | 17=>0 | 18=>1 | 19=>2 | n=>n⟩
theorem Tryz.laysM171:Go.Proofs.LaysM.n171 Tryz.prog Tryz.laysM171_ren:={
 mixed:=by kernel_rfl
 f129:=Tryz.func207.trans (congrArg some (by kernel_rfl))
 f171:=Tryz.func169.trans (congrArg some (by kernel_rfl))
 f243:=Tryz.func178.trans (congrArg some (by kernel_rfl))
 f246:=Tryz.func190.trans (congrArg some (by kernel_rfl))
 f283:=Tryz.func196.trans (congrArg some (by kernel_rfl))
 f284:=Tryz.func197.trans (congrArg some (by kernel_rfl))
 f285:=Tryz.func198.trans (congrArg some (by kernel_rfl))
 f286:=Tryz.func199.trans (congrArg some (by kernel_rfl))
 f317:=Tryz.func206.trans (congrArg some (by kernel_rfl))
 f318:=Tryz.func208.trans (congrArg some (by kernel_rfl))
 f319:=Tryz.func209.trans (congrArg some (by kernel_rfl))
 f320:=Tryz.func210.trans (congrArg some (by kernel_rfl))
 f337:=Tryz.func211.trans (congrArg some (by kernel_rfl))
 f338:=Tryz.func212.trans (congrArg some (by kernel_rfl))
 t0:=Tryz.underlying0
 a0:=Tryz.isAgg0
 z0:=Tryz.sizeOf0
 v0:=Tryz.zeroValue0
 t2:=Tryz.underlying2
 a2:=Tryz.isAgg2
 z2:=Tryz.sizeOf2
 v2:=Tryz.zeroValue2
 t3:=Tryz.underlying3
 a3:=Tryz.isAgg3
 z3:=Tryz.sizeOf3
 v3:=Tryz.zeroValue3
 t4:=Tryz.underlying4
 a4:=Tryz.isAgg4
 z4:=Tryz.sizeOf4
 v4:=Tryz.zeroValue4
 t5:=Tryz.underlying5
 a5:=Tryz.isAgg5
 z5:=Tryz.sizeOf5
 v5:=Tryz.zeroValue5
 t9:=Tryz.underlying9
 a9:=Tryz.isAgg9
 z9:=Tryz.sizeOf9
 v9:=Tryz.zeroValue9
 t20:=Tryz.underlying20
 a20:=Tryz.isAgg20
 z20:=Tryz.sizeOf20
 v20:=Tryz.zeroValue20
 t37:=Tryz.underlying260
 a37:=Tryz.isAgg260
 z37:=Tryz.sizeOf260
 v37:=Tryz.zeroValue260
 t46:=Tryz.underlying245
 a46:=Tryz.isAgg245
 z46:=Tryz.sizeOf245
 v46:=Tryz.zeroValue245
 t51:=Tryz.underlying251
 a51:=Tryz.isAgg251
 z51:=Tryz.sizeOf251
 v51:=Tryz.zeroValue251
 t53:=Tryz.underlying254
 a53:=Tryz.isAgg254
 z53:=Tryz.sizeOf254
 v53:=Tryz.zeroValue254
 t171:=Tryz.underlying257
 a171:=Tryz.isAgg257
 z171:=Tryz.sizeOf257
 v171:=Tryz.zeroValue257
 t173:=Tryz.underlying261
 a173:=Tryz.isAgg261
 z173:=Tryz.sizeOf261
 v173:=Tryz.zeroValue261
 t212:=Tryz.underlying266
 a212:=Tryz.isAgg266
 z212:=Tryz.sizeOf266
 v212:=Tryz.zeroValue266
 t213:=Tryz.underlying267
 a213:=Tryz.isAgg267
 z213:=Tryz.sizeOf267
 t232:=Tryz.underlying270
 a232:=Tryz.isAgg270
 z232:=Tryz.sizeOf270
 v232:=Tryz.zeroValue270
 t233:=Tryz.underlying271
 a233:=Tryz.isAgg271
 z233:=Tryz.sizeOf271
 v233:=Tryz.zeroValue271
 g17:=by kernel_rfl
 g18:=by kernel_rfl
 g19:=by kernel_rfl
 i0:=by kernel_rfl
 i2:=by kernel_rfl
 i3:=by kernel_rfl
 i4:=by kernel_rfl
 i5:=by kernel_rfl
 i9:=by kernel_rfl
 i20:=by kernel_rfl
 i37:=by kernel_rfl
 i46:=by kernel_rfl
 i51:=by kernel_rfl
 i53:=by kernel_rfl
 i171:=by kernel_rfl
 i173:=by kernel_rfl
 i212:=by kernel_rfl
 i232:=by kernel_rfl
 i233:=by kernel_rfl
 m17:=by kernel_rfl
 m18:=by kernel_rfl
 m19:=by kernel_rfl }
open Go.RowKit Go.Sort Go.Lib in
/-- strconv.Itoa: "Itoa is equivalent to FormatInt(int64(i), 10).": i's DECIMAL NUMERAL ('Lib.itoa': a '-' where i is negative, then the digits), FOR EVERY int. The world behind the call: the world before it, new blocks behind the heap (the library's 'var a [24]byte'), draws. (LAID: no walk: one application.) -/
theorem Tryz.strconv_Itoa (n : Int) (h0 : -9223372036854775808 ≤ n) (h1 : n ≤ 9223372036854775807) (w : World) (htab : Lib.TabIs Tryz.prog w "internal/strconv.uint64pow10" .u64 Lib.pow10Tab) :
 Calls Tryz.prog 169 #[.int .i64 n] w fun e w'=>e = .returned (.string ⟨(Lib.itoa n).toArray⟩)∧∃k os,w'=grow (w.drewN k) os:=Any.strconv_Itoa Tryz.laysM171 n h0 h1 w htab
def Tryz.lays171_ren:Go.Shelf.Ren:=⟨fun | 171=>169 | 243=>178 | 246=>190 | 283=>196 | 284=>197 | 285=>198 | 286=>199 | 129=>207 | 317=>206 | 318=>208 | 319=>209 | 320=>210 | 337=>211 | 338=>212 | n=>n,fun | 3=>3 | 9=>9 | 2=>2 | 4=>4 | 171=>257 | 0=>0 | 53=>254 | 37=>260 | 5=>5 | 173=>261 | 212=>266 | 51=>251 | 20=>20 | 213=>267 | 46=>245 | 232=>270 | 233=>271 | n=>n,fun | 17=>0 | 18=>1 | 19=>2 | n=>n⟩
def Tryz.lays264_ren:Go.Shelf.Ren:=⟨fun | 264=>195 | n=>n,fun | 53=>254 | 46=>245 | n=>n,fun | n=>n⟩
def Tryz.lays212_ren:Go.Shelf.Ren:=⟨fun | 212=>188 | 263=>194 | 264=>195 | n=>n,fun | 46=>245 | 51=>251 | 146=>252 | 53=>254 | 148=>255 | n=>n,fun | n=>n⟩
theorem Tryz.lays212:Go.Proofs.Lays.n212 Tryz.prog Tryz.lays212_ren:={
 mixed:=by kernel_rfl
 f212:=Tryz.func188.trans (congrArg some (by kernel_rfl))
 f263:=Tryz.func194.trans (congrArg some (by kernel_rfl))
 f264:=Tryz.func195.trans (congrArg some (by kernel_rfl))
 t46:=Tryz.underlying245
 a46:=Tryz.isAgg245
 z46:=Tryz.sizeOf245
 v46:=Tryz.zeroValue245
 t51:=Tryz.underlying251
 a51:=Tryz.isAgg251
 z51:=Tryz.sizeOf251
 v51:=Tryz.zeroValue251
 t53:=Tryz.underlying254
 a53:=Tryz.isAgg254
 z53:=Tryz.sizeOf254
 v53:=Tryz.zeroValue254
 t146:=Tryz.underlying252
 a146:=Tryz.isAgg252
 z146:=Tryz.sizeOf252
 v146:=Tryz.zeroValue252
 t148:=Tryz.underlying255
 a148:=Tryz.isAgg255
 z148:=Tryz.sizeOf255
 v148:=Tryz.zeroValue255 }
open Go.RowKit Go.Lib in
/-- math/bits.Mul: "Mul returns the full-width product of x and y": on a machine of 64 bits: Mul64's. (LAID: no walk: one application.) -/
theorem Tryz.bits_Mul (x y:Nat)(hx:x<18446744073709551616)(hy:y<18446744073709551616)(w:World) :
 Calls Tryz.prog 188 #[.int .u64 x,.int .u64 y] w fun e w'=>e = .returned (.tuple #[.int .u64 ((x*y / 18446744073709551616:Nat):Int),.int .u64 ((x*y % 18446744073709551616:Nat):Int)])∧w'=w:=Any.bits_Mul Tryz.lays212 x y hx hy w
end Go.Proofs

namespace Go.Proofs.YtkddpedfbicbeaaGreatDoor
open Go Go.Aw Go.Sort Go.Lib

theorem lM (w:World)(k:Nat)(os:Array Obj):Go.RowKit.Below w.heap.size w (grow (w.drewN k) os):=
 ⟨rfl,rfl,rfl,by first | (simp [grow];done) | (simp [grow];omega),fun i hi=>by
  show ((w.drewN k).heap++os)[i]? = _
  rw [Array.getElem?_append_left (by show i<w.heap.size;omega)]
  rfl⟩
theorem uM {g : Gh} {w : World} (h : GlobOK g w) : Lib.TabIs Tryz.prog w "internal/strconv.uint64pow10" .u64 Lib.pow10Tab := by
 obtain ⟨_,T,fr,h2⟩:=h.tabs _ (List.mem_singleton.2 rfl)
 have e : Tryz.prog.globalNamed "internal/strconv.uint64pow10" = some 0 := by kernel_rfl
 unfold Lib.TabIs World.var?
 rw [e]
 show (match w.heap[0]? with | some (.cells cs _ _)=>some cs | _=>none)=_
 rw [h2]
 rfl
theorem kItoa (n:Int)(h0 : -9223372036854775808≤n)(h1:n≤9223372036854775807):Av Tryz.prog 169 [.int .i64 n] (.str (Go.Lib.itoa n)):=
 .of_calls fun g w vs hg ha=>by
  obtain ⟨v,rfl,h2⟩:=ha.inv1
  have e1:=h2.inv_int
  subst e1
  have hl:=Go.Lib.itoa_length_le n h0 h1
  refine ⟨.string ⟨(Go.Lib.itoa n).toArray⟩,fun _ _ _=>lW (by unfold maxLen;omega),(Tryz.strconv_Itoa n h0 h1 w (uM hg)).mono ?_⟩
  rintro e w' ⟨rfl,k,os,rfl⟩
  exact ⟨rfl,lM w k os⟩
theorem kMul (x y:Nat)(hx:x<18446744073709551616)(hy:y<18446744073709551616):Av Tryz.prog 188 [.int .u64 (x:Int),.int .u64 (y:Int)] (.tuple [.int .u64 ((x*y / 18446744073709551616:Nat):Int),.int .u64 ((x*y % 18446744073709551616:Nat):Int)]):=
 .of_same fun g w vs hg ha=>by
  obtain ⟨u,v,rfl,h1,h2⟩:=ha.inv2
  have e1:=h1.inv_int
  have e2:=h2.inv_int
  subst e1 e2
  exact ⟨_,fun g' w'=>.tuple _ _ rfl (fun i c hc=>by
   match i,hc with
   | 0,hc=>cases hc;exact .int _ _
   | 1,hc=>cases hc;exact .int _ _
   | i+2,hc=>simp at hc),Tryz.bits_Mul x y hx hy w⟩
end Go.Proofs.YtkddpedfbicbeaaGreatDoor
