/-
  Several texts in one: S12, S11b, W1. No condition.
-/
import Derived.Test.YtkddpedfbicbeaaGreatDoorK01
import Derived.Test.YtkddpedfbicbeaaGreatDoorTab
import Derived.KernelRfl
namespace Go.Proofs.YtkddpedfbicbeaaGreatDoor
open Go Go.Aw
set_option linter.unusedVariables false
set_option linter.unusedSimpArgs false

/-! ### Zones -/
structure Bd where
  x:Int
  y:Int
  most:Int
deriving DecidableEq
def bd0:Bd:=⟨0,0,0⟩
def cBd (b:Bd):List AV:=[.int .i64 b.x,.int .i64 b.y,.int .i64 b.most]
structure Zn where
  n:Int
  bs:List Bd
def zn0:Zn:=⟨0,[]⟩
def cZn (z:Zn):List AV:=[.int .i64 z.n,.sl 3 (z.bs.map cBd)]
def bdE (n:Int)(b:Bd):Int:=if decide (b.x < 0)||decide (n≤b.x)||decide (b.y < 0)||decide (n≤b.y)||decide (b.most < -1125899906842624)||decide (1125899906842624 < b.most) then 2 else 0
def zoneE (z:Zn):Int:=if decide (z.n < 1)||decide (64 < z.n) then 2 else if decide (256 < (z.bs.length:Int)) then 5 else firstS (bdE z.n) z.bs

/-! ### Least sums -/
/-- the sums, the last bounds, what was improved last -/
structure Ds where
  sums:List Int
  last:List Int
def ixI (l:List Int)(k:Int):Int:=(l[k.toNat]?).getD 0
def rlx1 (i:Nat)(b:Bd)(s:Ds×Int):Ds×Int:=
  if decide (ixI s.1.sums b.y+b.most < ixI s.1.sums b.x) then (⟨s.1.sums.set b.x.toNat (ixI s.1.sums b.y+b.most),s.1.last.set b.x.toNat (i:Int)⟩,b.x) else s
def rlxGo:Nat→List Bd→Ds×Int→Ds×Int
  | _,[],s=>s
  | i,b::r,s=>rlxGo (i+1) r (rlx1 i b s)
def rlxS (bs:List Bd)(d:Ds):Ds×Int:=rlxGo 0 bs (d,-1)
/-- so many rounds, or until nothing is improved: the state, and what was improved last or -1 -/
def roundsS (bs:List Bd):Nat→Ds×Int→Ds×Int
  | 0,s=>s
  | n+1,s=>if decide ((rlxS bs s.1).2 < 0) then rlxS bs s.1 else roundsS bs n (rlxS bs s.1)
def predS (bs:List Bd)(d:Ds)(at_:Int):Int:=((bs[(ixI d.last at_).toNat]?).getD bd0).y
def backN (bs:List Bd)(d:Ds):Nat→Int→Int
  | 0,a=>a
  | n+1,a=>backN bs d n (predS bs d a)
/-- the last bounds from an unknown backwards, until it comes again (at most so many) -/
def cycGo (bs:List Bd)(d:Ds)(from_:Int):Nat→Int→List Int
  | 0,_=>[]
  | n+1,a=>ixI d.last a::if predS bs d a == from_ then [] else cycGo bs d from_ n (predS bs d a)
def start (z:Zn):Ds:=⟨List.replicate z.n.toNat 0,List.replicate z.n.toNat (-1)⟩
def endS (z:Zn):Ds×Int:=roundsS z.bs (z.n.toNat+1) (start z,-1)
def solveD (z:Zn):List Int×List Int:=
  if decide ((endS z).2 < 0) then ((endS z).1.sums,[])
  else ([],cycGo z.bs (endS z).1 (backN z.bs (endS z).1 z.n.toNat (endS z).2) (z.n.toNat+1) (backN z.bs (endS z).1 z.n.toNat (endS z).2))
/-- Solve: whether there is a model, the model, the contradiction, the error -/
structure So where
  ok:Bool
  values:List Int
  cycle:List Int
  err:Int
def SolveD (z:Zn):So:=
  if zoneE z != 0 then ⟨false,[],[],zoneE z⟩
  else if decide ((endS z).2 < 0) then ⟨true,(endS z).1.sums.map (fun v=>v - ixI (endS z).1.sums 0),[],0⟩
  else ⟨false,[],(solveD z).2,0⟩

/-! ### The zone of a clause -/
section
variable (T:List Sc) (V:List Va)
def clauseE (l:List Lit):Int:=
  if (KindS T V (truthE true)).2 != 0 then (KindS T V (truthE true)).2
  else if decide (256 < (l.length:Int)) then 5
  else firstS (fun c=>if condE T V c.cond != 0 then condE T V c.cond else if composedS T V c.cond||(c.neg&&(c.cond.op == 9&&kindR T V (arg0 c.cond) == 0)) then 3 else 0) l
def numericS (l:Lit):Gp×Bool:=
  if l.cond.op == 1 then (⟨[tmOf l.cond],[],0⟩,true)
  else if !comparesS l.cond||textsS T V l.cond then (gp0,false)
  else betweenS (arg0 l.cond) (arg1 l.cond)
/-- the number of a term: 0 for none -/
def addTm (ts:List Tm)(l:List Tm):List Tm:=match l with | []=>ts | t::_=>if ts.contains t then ts else ts++[t]
def numTm (ts:List Tm)(l:List Tm):Int:=match l with | []=>0 | t::_=>((ts.idxOf t:Nat):Int)+1
def limitsS (t:Tm):Int×Int:=if t.op == 2 then (0,1099511627776) else if kindR T V (tmE t) == 1 then (0,1) else (-1099511627776,1099511627776)
def boundsS (c:Lit)(x z rest:Int):List Bd:=
  if (c.cond.op == 1&&c.neg)||(c.cond.op == 8 && !c.neg) then [⟨x,z,0 - rest⟩]
  else if c.cond.op == 1||c.cond.op == 8 then [⟨z,x,rest - 1⟩]
  else if c.cond.op == 7 && !c.neg then [⟨x,z,0 - rest - 1⟩]
  else if c.cond.op == 7 then [⟨z,x,rest⟩]
  else [⟨x,z,0 - rest⟩,⟨z,x,rest⟩]
/-- the unknowns and the bounds so far -/
structure Sy where
  ts:List Tm
  bs:List Bd
def sysStep (s:Sy)(c:Lit):Sy:=
  if !(numericS T V c).2 then s
  else ⟨addTm (addTm s.ts (numericS T V c).1.plus) (numericS T V c).1.minus,
    s.bs++boundsS c (numTm (addTm s.ts (numericS T V c).1.plus) (numericS T V c).1.plus) (numTm (addTm (addTm s.ts (numericS T V c).1.plus) (numericS T V c).1.minus) (numericS T V c).1.minus) (numericS T V c).1.rest⟩
def sysGo (l:List Lit):Sy:=l.foldl (sysStep T V) ⟨[],[]⟩
def limGo:Nat→List Tm→List Bd
  | _,[]=>[]
  | i,t::r=>⟨(i:Int)+1,0,(limitsS T V t).2⟩::⟨0,(i:Int)+1,0 - (limitsS T V t).1⟩::limGo (i+1) r
def zoneOf (s:Sy):Zn:=⟨(s.ts.length:Int)+1,limGo T V 0 s.ts++s.bs⟩
def zoneS (l:List Lit):Zn:=zoneOf T V (sysGo T V l)
def fitsS (z:Zn):Bool:=decide (z.n≤64)&&decide ((z.bs.length:Int)≤256)
structure Zr where
  zone:Zn
  terms:List Ex
  err:Int
def ZoneS (l:List Lit):Zr:=
  if clauseE T V l != 0 then ⟨zn0,[],clauseE T V l⟩
  else if !fitsS (zoneS T V l) then ⟨zn0,[],17⟩ else ⟨zoneS T V l,(sysGo T V l).ts.map tmE,0⟩

/-! ### Strings -/
structure Wd where
  const:Bool
  text:List UInt8
  field:Tm
deriving DecidableEq
end
def tm0:Tm:=⟨0,0,0⟩
def cWd (w:Wd):List AV:=[.bool w.const,.str w.text,.int .i64 w.field.op,.int .i64 w.field.v,.int .i64 w.field.field]
def asWd (e:Ex):Wd:=if e.op == 0 then ⟨true,e.val.text,tm0⟩ else ⟨false,[],tmOf e⟩
abbrev Wm:=List (Wd×Wd)
def wget (w:Wm)(x:Wd):Option Wd:=(w.find? fun p=>p.1=x).map (·.2)
def ofGo (w:Wm):Nat→Wd→Wd
  | 0,x=>x
  | n+1,x=>match wget w x with | some y=>ofGo w n y | none=>x
def ofS' (w:Wm)(x:Wd):Wd:=ofGo w w.length x
section
variable (T:List Sc) (V:List Va)
def stringy (sign:Bool)(c:Lit):Bool:=c.neg != sign&&(textsS T V c.cond&&simpleS T V c.cond)
def eqStep (w:Wm)(c:Lit):Wm×Bool:=
  let a:=ofS' w (asWd (arg0 c.cond));let b:=ofS' w (asWd (arg1 c.cond))
  if a=b then (w,true) else if a.const&&b.const then (w,false) else if a.const then (w++[(b,a)],true) else (w++[(a,b)],true)
def eqGo:List Lit→Wm→Wm×Bool
  | [],w=>(w,true)
  | c::r,w=>if !stringy T V true c then eqGo r w else if !(eqStep w c).2 then ((eqStep w c).1,false) else eqGo r (eqStep w c).1
def neGo (w:Wm):List Lit→Bool
  | []=>true
  | c::r=>if !stringy T V false c then neGo w r else if ofS' w (asWd (arg0 c.cond))=ofS' w (asWd (arg1 c.cond)) then false else neGo w r
def stringsS (l:List Lit):Wm×Bool:=((eqGo T V l []).1,(eqGo T V l []).2&&neGo T V (eqGo T V l []).1 l)
end
end Go.Proofs.YtkddpedfbicbeaaGreatDoor

namespace Go.Proofs.YtkddpedfbicbeaaGreatDoor
open Go Go.Aw
set_option linter.unusedVariables false
set_option linter.unusedSimpArgs false

theorem ifF {α:Type}{b:Bool}{x y:α}(h:b=false):(if b=true then x else y)=y:=if_neg (by rw [h];decide)
theorem hd0_map {α:Type}(f:Ex→α)(d:α){e:Ex}(h:0 < e.args.length):hd0 d (e.args.map f)=f (arg0 e):=by
  unfold hd0 arg0
  cases ha:e.args with
  | nil=>rw [ha] at h;cases h
  | cons a r=>rfl
theorem hd1_map {α:Type}(f:Ex→α)(d:α){e:Ex}(h:1 < e.args.length):hd1 d (e.args.map f)=f (arg1 e):=by
  unfold hd1 arg1
  rw [List.getElem?_map,List.getElem?_eq_getElem h];rfl
theorem len_two' {e:Ex}(h:nodeS e=0)(ho:5≤e.op∧e.op≤11):1 < e.args.length:=by
  obtain ⟨_,_,h3⟩:=node_shape h
  have:arityS e.op=2:=by
    unfold arityS
    rw [if_neg (by omega),if_neg (by omega),if_neg (by omega)]
  omega
theorem leaf_nil {e:Ex}(h:nodeS e=0)(ho:e.op < 5):e.args=[]:=by
  obtain ⟨h1,_,h3⟩:=node_shape h
  have:arityS e.op=0:=by
    unfold arityS
    rw [if_neg (by omega),if_pos (by omega)]
  exact List.length_eq_zero_iff.1 (by omega)
theorem two_cells (op:Int)(x y:Ex):cE (two op x y)=[.int .i64 op,.sl 8 [cE x,cE y],.int .i64 0,.int .i64 0,.int .i64 0,.int .i64 0,.int .i64 0,.str []]:=by
  show [AV.int .i64 op,.sl 8 [encE x,encE y],.int .i64 0,.int .i64 0,.int .i64 0,.int .i64 0,.int .i64 0,.str []]=_
  rw [encE_eq,encE_eq]
theorem not_cells (x:Ex):cE (notE x)=[.int .i64 12,.sl 8 [cE x],.int .i64 0,.int .i64 0,.int .i64 0,.int .i64 0,.int .i64 0,.str []]:=by
  show [AV.int .i64 12,.sl 8 [encE x],.int .i64 0,.int .i64 0,.int .i64 0,.int .i64 0,.int .i64 0,.str []]=_
  rw [encE_eq]
theorem negS_and {e:Ex}(h:(e.op == 10)=true)(hl:1 < e.args.length):negS e=two 11 (negS (arg0 e)) (negS (arg1 e)):=by
  rw [negS_eq,negN,if_pos h,hd0_map negS _ (by omega),hd1_map negS _ hl]
theorem negS_or {e:Ex}(h1:(e.op == 10)=false)(h:(e.op == 11)=true)(hl:1 < e.args.length):negS e=two 10 (negS (arg0 e)) (negS (arg1 e)):=by
  rw [negS_eq,negN,ifF h1,if_pos h,hd0_map negS _ (by omega),hd1_map negS _ hl]
theorem negS_not {e:Ex}(h1:(e.op == 10)=false)(h2:(e.op == 11)=false)(h3:(e.op == 12)=false)(h4:(e.op == 7)=false)(h5:(e.op == 8)=false)(h6:(e.op == 0&&e.val.kind == 1)=false):AV.agg (cE (negS e)) = .agg [.int .i64 12,.sl 8 [cE e],.int .i64 0,.int .i64 0,.int .i64 0,.int .i64 0,.int .i64 0,.str []]:=by
  rw [negS_eq,negN,ifF h1,ifF h2,ifF h3,ifF h4,ifF h5,ifF h6,not_cells]
theorem var_nonneg {e:Ex}(h:nodeS e=0)(ho:(e.op == 1||e.op == 2)=true):0≤e.var:=by
  have ho':e.op=1∨e.op=2:=by simpa using ho
  unfold nodeS at h
  split at h
  · cases h
  split at h
  · cases h
  split at h
  · cases h
  rename_i h3
  have hu:(usesS e.op).1=true:=by rcases ho' with ho | ho <;> rw [ho] <;> rfl
  rw [hu] at h3
  simp at h3
  omega
theorem field_nonneg {e:Ex}(h:nodeS e=0)(ho:e.op=1):0≤e.field:=by
  unfold nodeS at h
  split at h
  · cases h
  split at h
  · cases h
  split at h
  · cases h
  rename_i h3
  have hu:(usesS e.op).2=true:=by rw [ho];rfl
  rw [hu] at h3
  simp at h3
  omega
theorem okL_all:∀{l:List (Ex×Int)},(∀q∈l,q.2=0)→okL l=(l.map Prod.fst,none)
  | [],_=>rfl
  | q::r,h=>by
    have h0:=h q (by simp)
    rw [okL,if_neg (by simp [h0]),okL_all (fun x hx=>h x (by simp [hx]))];rfl
theorem okL_bad:∀{l:List (Ex×Int)} {k:Nat} {q:Ex×Int},(∀x∈l.take k,x.2=0)→l[k]? = some q→(q.2 != 0)=true→(okL l).2=some q
  | [],_,_,_,h,_=>by simp at h
  | x::r,0,q,_,h,hq=>by
    simp at h;subst h
    rw [okL,if_pos hq]
  | x::r,k+1,q,ha,h,hq=>by
    have h0:=ha x (by simp)
    rw [okL,if_neg (by simp [h0])]
    exact okL_bad (k:=k) (fun y hy=>ha y (by rw [List.take_succ_cons];exact List.mem_cons_of_mem _ hy)) (by simpa using h) hq
theorem knownE_none {vars:List (List Ev)}{e:Ex}(ho:(e.op == 1||e.op == 2)=true)(hl:(((eventsS vars e.var).length:Int) == 0)=true):knownE vars e=(e,0):=by
  rw [knownE_eq,knownN,if_pos ho,if_pos hl]
theorem knownE_last {vars:List (List Ev)}{e:Ex}{l:List Ev}{v:Ev}(ho:(e.op == 1||e.op == 2)=true)(he:eventsS vars e.var=l)(hv:l[l.length - 1]? = some v):knownE vars e=(constE (readE e v).1,(readE e v).2):=by
  have hp:0 < l.length:=by
    cases l with
    | nil=>simp at hv
    | cons a r=>simp
  rw [knownE_eq,knownN,if_pos ho,if_neg (by rw [he];simp;intro h;rw [h] at hp;simp at hp),he,List.getLast?_eq_getElem?,hv];rfl
theorem knownE_bad {vars:List (List Ev)}{e a:Ex}{k:Nat}(ho:(e.op == 1||e.op == 2)=false)(hk:∀x∈e.args.take k,(knownE vars x).2=0)(ha:e.args[k]? = some a)(hb:((knownE vars a).2 != 0)=true):knownE vars e=knownE vars a:=by
  rw [knownE_eq,knownN,ifF ho,okL_bad (k:=k) (q:=knownE vars a) (by rw [←List.map_take];intro x hx;obtain ⟨y,hy,rfl⟩:=List.mem_map.1 hx;exact hk y hy) (by rw [List.getElem?_map,ha];rfl) hb]
theorem knownE_ok {vars:List (List Ev)}{e:Ex}(ho:(e.op == 1||e.op == 2)=false)(hk:∀x∈e.args,(knownE vars x).2=0):knownE vars e=(⟨e.op,e.args.map (fun a=>(knownE vars a).1),e.var,e.field,e.kind,e.val⟩,0):=by
  rw [knownE_eq,knownN,ifF ho,okL_all (by intro x hx;obtain ⟨y,hy,rfl⟩:=List.mem_map.1 hx;exact hk y hy)]
  simp
theorem events_at {vars:List (List Ev)}{v:Int}{l:List Ev}(h0:0≤v)(h:vars[v.toNat]? = some l):eventsS vars v=l:=by
  have:=(List.getElem?_eq_some_iff.1 h).1
  unfold eventsS
  rw [if_neg (by simp;omega),h];rfl
theorem events_off {vars:List (List Ev)}{v:Int}(h:decide ((vars.length:Int)≤v)=true):eventsS vars v=[]:=by
  unfold eventsS
  rw [if_pos (by rw [h];simp)]
theorem readE_off {e:Ex}{ev:Ev}(h1:(e.op == 1)=true)(h2:decide ((ev.values.length:Int)≤e.field)=true):readE e ev=(⟨0,ev.time,[]⟩,6):=by rw [readE,if_pos h1,if_pos h2]
theorem readE_at {e:Ex}{ev:Ev}{v:Vl}(h1:(e.op == 1)=true)(h2:decide ((ev.values.length:Int)≤e.field)=false)(hv:ev.values[e.field.toNat]? = some v):readE e ev=(v,vcheckS v):=by rw [readE,if_pos h1,ifF h2,hv];rfl
theorem readE_time {e:Ex}{ev:Ev}(h1:(e.op == 1)=false):readE e ev=(⟨0,ev.time,[]⟩,vcheckS ⟨0,ev.time,[]⟩):=by rw [readE,ifF h1]
theorem get_off {vars:List (List Ev)}{v:Int}(h0:0≤v)(hG:allG [(decide ((vars.length:Int)≤v),false)]):vars[v.toNat]? = some ((vars[v.toNat]?).getD []):=by
  have h:=hG _ (List.mem_singleton.2 rfl)
  simp at h
  have:v.toNat < vars.length:=by omega
  rw [List.getElem?_eq_getElem this];rfl
theorem known_none {vars:List (List Ev)}{v:Int}(h0:0≤v)(h:(decide ((vars.length:Int)≤v)||((((vars[v.toNat]?).getD []).length:Int) == 0))=true):(((eventsS vars v).length:Int) == 0)=true:=by
  rcases Bool.or_eq_true_iff.1 h with h | h
  · rw [events_off h];rfl
  · unfold eventsS
    split
    · rfl
    · exact h
theorem known_some {vars:List (List Ev)}{v:Int}(h0:0≤v)(h:(decide ((vars.length:Int)≤v)||((((vars[v.toNat]?).getD []).length:Int) == 0))=false):∃l,vars[v.toNat]? = some l∧0 < l.length:=by
  obtain ⟨h1,h2⟩:=Bool.or_eq_false_iff.1 h
  have hlt:v.toNat < vars.length:=by simp at h1;omega
  rw [List.getElem?_eq_getElem hlt] at h2
  refine ⟨vars[v.toNat],List.getElem?_eq_getElem hlt,?_⟩
  simp at h2
  exact List.length_pos_iff.2 h2
theorem last_at {α:Type}{f:α→List AV}{l:List α}{v:α}(hp:0 < l.length)(h:l[l.length - 1]? = some v):(l.map f)[((l.length:Int) - 1).toNat]? = some (f v):=by
  rw [show ((l.length:Int) - 1).toNat=l.length - 1 by omega,List.getElem?_map,h];rfl
theorem some_off {α:Type}{l:List α}{i:Int}(h0:0≤i)(h:decide ((l.length:Int)≤i)=false):∃v,l[i.toNat]? = some v:=by
  have hlt:i.toNat < l.length:=by simp at h;omega
  exact ⟨_,List.getElem?_eq_getElem hlt⟩
theorem some_last {α:Type}{l:List α}(h:0 < l.length):∃v,l[l.length - 1]? = some v:=⟨_,List.getElem?_eq_getElem (by omega)⟩
/-! the reference's -/
def rreadE (e:Ex)(ev:Ev):Ex×Int:=if e.op == 1&&decide ((ev.values.length:Int)≤e.field) then (e,6) else (constE (readE e ev).1,(readE e ev).2)
def rknownN (vars:List (List Ev))(e:Ex)(ks:List (Ex×Int)):Ex×Int:=
  if e.op == 1||e.op == 2 then
    (if ((eventsS vars e.var).length:Int) == 0 then (e,0) else rreadE e ((eventsS vars e.var).getLast?.getD ev0))
  else match (okL ks).2 with
    | some p=>(e,p.2)
    | none=>(⟨e.op,(okL ks).1,e.var,e.field,e.kind,e.val⟩,0)
def rknownE (vars:List (List Ev)):Ex→Ex×Int:=recE (rknownN vars)
theorem rknownE_eq (vars:List (List Ev))(e:Ex):rknownE vars e=rknownN vars e (e.args.map (rknownE vars)):=recE_eq _ e
theorem rknownE_none {vars:List (List Ev)}{e:Ex}(ho:(e.op == 1||e.op == 2)=true)(hl:(((eventsS vars e.var).length:Int) == 0)=true):rknownE vars e=(e,0):=by
  rw [rknownE_eq,rknownN,if_pos ho,if_pos hl]
theorem rknownE_last {vars:List (List Ev)}{e:Ex}{v:Ev}(ho:(e.op == 1||e.op == 2)=true)(hv:(eventsS vars e.var)[(eventsS vars e.var).length - 1]? = some v):rknownE vars e=rreadE e v:=by
  rw [rknownE_eq,rknownN,if_pos ho,if_neg (by simp;intro h;rw [h] at hv;simp at hv),List.getLast?_eq_getElem?,hv];rfl
theorem rknownE_off {vars:List (List Ev)}{e:Ex}{v:Ev}(ho:(e.op == 1||e.op == 2)=true)(hv:(eventsS vars e.var)[(eventsS vars e.var).length - 1]? = some v)(h1:(e.op == 1)=true)(h2:decide ((v.values.length:Int)≤e.field)=true):rknownE vars e=(e,6):=by
  rw [rknownE_last ho hv,rreadE,if_pos (by rw [h1,h2];rfl)]
theorem rknownE_at {vars:List (List Ev)}{e:Ex}{v:Ev}{w:Vl}(ho:(e.op == 1||e.op == 2)=true)(hv:(eventsS vars e.var)[(eventsS vars e.var).length - 1]? = some v)(h1:(e.op == 1)=true)(h2:decide ((v.values.length:Int)≤e.field)=false)(hw:v.values[e.field.toNat]? = some w):rknownE vars e=(constE w,vcheckS w):=by
  rw [rknownE_last ho hv,rreadE,if_neg (by rw [h1,h2];decide),readE_at h1 h2 hw]
theorem rknownE_time {vars:List (List Ev)}{e:Ex}{v:Ev}(ho:(e.op == 1||e.op == 2)=true)(hv:(eventsS vars e.var)[(eventsS vars e.var).length - 1]? = some v)(h1:(e.op == 1)=false):rknownE vars e=(constE ⟨0,v.time,[]⟩,vcheckS ⟨0,v.time,[]⟩):=by
  rw [rknownE_last ho hv,rreadE,if_neg (by rw [h1];simp),readE_time h1]
theorem rknownE_bad {vars:List (List Ev)}{e a:Ex}{k:Nat}(ho:(e.op == 1||e.op == 2)=false)(hk:∀x∈e.args.take k,(rknownE vars x).2=0)(ha:e.args[k]? = some a)(hb:((rknownE vars a).2 != 0)=true):rknownE vars e=(e,(rknownE vars a).2):=by
  rw [rknownE_eq,rknownN,ifF ho,okL_bad (k:=k) (q:=rknownE vars a) (by rw [←List.map_take];intro x hx;obtain ⟨y,hy,rfl⟩:=List.mem_map.1 hx;exact hk y hy) (by rw [List.getElem?_map,ha];rfl) hb]
theorem rknownE_ok {vars:List (List Ev)}{e:Ex}(ho:(e.op == 1||e.op == 2)=false)(hk:∀x∈e.args,(rknownE vars x).2=0):rknownE vars e=(⟨e.op,e.args.map (fun a=>(rknownE vars a).1),e.var,e.field,e.kind,e.val⟩,0):=by
  rw [rknownE_eq,rknownN,ifF ho,okL_all (by intro x hx;obtain ⟨y,hy,rfl⟩:=List.mem_map.1 hx;exact hk y hy)]
  simp
theorem events_pos {vars:List (List Ev)}{v:Int}(h:(((eventsS vars v).length:Int) == 0)=false):0 < (eventsS vars v).length:=by
  simp at h
  exact List.length_pos_iff.2 h
theorem events_cases {vars:List (List Ev)}{v:Int}(h:0 < (eventsS vars v).length):eventsS vars v∈vars:=by
  unfold eventsS at h ⊢
  split
  · rename_i h1;rw [if_pos h1] at h;simp at h
  · rename_i h1
    rw [if_neg h1] at h
    cases hl:vars[v.toNat]? with
    | none=>rw [hl] at h;simp at h
    | some l=>exact List.mem_of_getElem? hl
theorem okL_rel {l:List Ex}{f g:Ex→Ex×Int}(h:∀a∈l,(f a).2=(g a).2∧((g a).2=0→f a=g a)):((okL (l.map f)).2.map Prod.snd=(okL (l.map g)).2.map Prod.snd)∧((okL (l.map g)).2=none→okL (l.map f)=okL (l.map g)):=by
  induction l with
  | nil=>exact ⟨rfl,fun _=>rfl⟩
  | cons a r ih=>
    obtain ⟨h1,h2⟩:=h a (by simp)
    obtain ⟨i1,i2⟩:=ih fun x hx=>h x (by simp [hx])
    simp only [List.map_cons,okL]
    by_cases hg:((g a).2 != 0)=true
    · rw [if_pos hg,if_pos (by rw [h1];exact hg)]
      exact ⟨by simp [h1],fun hn=>by cases hn⟩
    · rw [if_neg hg,if_neg (by rw [h1];exact hg)]
      have hf:=h2 (by simpa using hg)
      exact ⟨i1,fun hn=>by simp only at hn ⊢;rw [i2 hn,hf]⟩
theorem okL_snd {l:List (Ex×Int)}{p:Ex×Int}(h:(okL l).2=some p):p.2≠0:=by
  induction l with
  | nil=>cases h
  | cons a r ih=>
    rw [okL] at h
    by_cases hg:(a.2 != 0)=true
    · rw [if_pos hg] at h;cases h;simpa using hg
    · rw [if_neg hg] at h;exact ih h
theorem rknown_known (vars:List (List Ev))(e:Ex):(rknownE vars e).2=(knownE vars e).2∧((knownE vars e).2=0→rknownE vars e=knownE vars e):=by
  refine Ex.ind (P:=fun e=>(rknownE vars e).2=(knownE vars e).2∧((knownE vars e).2=0→rknownE vars e=knownE vars e)) (fun e ih=>?_) e
  rw [rknownE_eq,knownE_eq]
  unfold rknownN knownN
  split
  · split
    · exact ⟨rfl,fun _=>rfl⟩
    · unfold rreadE
      split
      · rename_i h
        have h':=Bool.and_eq_true_iff.1 h
        have:readE e ((eventsS vars e.var).getLast?.getD ev0)=(⟨0,((eventsS vars e.var).getLast?.getD ev0).time,[]⟩,6):=readE_off h'.1 h'.2
        rw [this]
        exact ⟨rfl,fun h=>by cases h⟩
      · exact ⟨rfl,fun _=>rfl⟩
  · obtain ⟨h1,h2⟩:=okL_rel (l:=e.args) (f:=rknownE vars) (g:=knownE vars) ih
    cases hg:(okL (e.args.map (knownE vars))).2 with
    | none=>
      rw [h2 hg,hg]
      exact ⟨rfl,fun _=>rfl⟩
    | some p=>
      rw [hg] at h1
      cases hf:(okL (e.args.map (rknownE vars))).2 with
      | none=>rw [hf] at h1;cases h1
      | some q=>
        rw [hf] at h1
        have hp:=okL_snd hg
        have:q.2=p.2:=by simpa using h1
        exact ⟨this,fun h=>absurd h hp⟩
theorem evs_le {vars:List (List Ev)}(hx:∀l∈vars,l.length≤1048576)(v:Int):(eventsS vars v).length≤1048576:=by
  unfold eventsS
  split
  · simp
  · cases hl:vars[v.toNat]? with
    | none=>simp
    | some l=>exact hx l (List.mem_of_getElem? hl)
theorem KnownS_1 {vars:List (List Ev)}{e:Ex}(h:(checkS e != 0)=true):KnownS vars e=(ex0,checkS e):=by rw [KnownS,if_pos h]
theorem KnownS_2 {vars:List (List Ev)}{e:Ex}(h:(checkS e != 0)=false)(h2:((knownE vars e).2 != 0)=true):KnownS vars e=(ex0,(knownE vars e).2):=by rw [KnownS,ifF h,if_pos h2]
theorem KnownS_3 {vars:List (List Ev)}{e:Ex}(h:(checkS e != 0)=false)(h2:((knownE vars e).2 != 0)=false):KnownS vars e=((knownE vars e).1,0):=by rw [KnownS,ifF h,ifF h2]
theorem KnownS_r2 {vars:List (List Ev)}{e:Ex}(h:(checkS e != 0)=false)(h2:((rknownE vars e).2 != 0)=true):KnownS vars e=(ex0,(rknownE vars e).2):=by
  rw [(rknown_known vars e).1] at h2 ⊢
  exact KnownS_2 h h2
theorem KnownS_r3 {vars:List (List Ev)}{e:Ex}(h:(checkS e != 0)=false)(h2:((rknownE vars e).2 != 0)=false):KnownS vars e=((rknownE vars e).1,0):=by
  rw [(rknown_known vars e).1] at h2
  rw [(rknown_known vars e).2 (by simpa using h2)]
  exact KnownS_3 h h2
theorem size0 {e:Ex}(h:0 < e.args.length):sizeN (arg0 e) < sizeN e:=size_arg (arg0_mem h)
theorem check_nodes' {e:Ex}(h:(checkS e != 0)=false):nodesS e=0:=by
  have h0:checkS e=0:=by simpa using h
  unfold checkS at h0
  split at h0
  · cases h0
  · split at h0
    · cases h0
    · exact h0
theorem check_size {e:Ex}(h:(checkS e != 0)=false):sizeN e≤64:=by
  have h0:checkS e=0:=by simpa using h
  unfold checkS at h0
  split at h0
  · cases h0
  · rename_i h1
    simp at h1
    omega
theorem two_size (op:Int)(a b:Ex):sizeN (two op a b)=sizeN a+sizeN b+1:=by
  rw [sizeN_eq];simp [two];omega
theorem neg_size (e:Ex):nodesS e=0→sizeN (negS e)≤2*sizeN e:=by
  refine Ex.ind (P:=fun e=>nodesS e=0→sizeN (negS e)≤2*sizeN e) (fun e ih hn=>?_) e
  have hz:=nodes_zero hn
  have hp:=sizeN_eq e
  rw [negS_eq]
  unfold negN
  have hsum2:∀h:1 < e.args.length,sizeN (arg0 e)+sizeN (arg1 e)+1≤sizeN e:=fun h=>by
    have h0:=get0 (show 0 < e.args.length by omega)
    have h1:=get1 h
    cases ha:e.args with
    | nil=>rw [ha] at h;simp at h
    | cons a r=>
      cases r with
      | nil=>rw [ha] at h;simp at h
      | cons b r=>
        have e0:arg0 e=a:=by unfold arg0;rw [ha];rfl
        have e1:arg1 e=b:=by unfold arg1;rw [ha];rfl
        rw [e0,e1,hp,ha];simp;omega
  split
  · rename_i h
    have hl:=len_two' hz.1 (by simp at h;omega)
    rw [hd0_map negS _ (by omega),hd1_map negS _ hl,two_size]
    have:=ih _ (arg0_mem (by omega)) (hz.2 _ (arg0_mem (by omega)))
    have:=ih _ (arg1_mem hl) (hz.2 _ (arg1_mem hl))
    have:=hsum2 hl
    omega
  · split
    · rename_i h
      have hl:=len_two' hz.1 (by simp at h;omega)
      rw [hd0_map negS _ (by omega),hd1_map negS _ hl,two_size]
      have:=ih _ (arg0_mem (by omega)) (hz.2 _ (arg0_mem (by omega)))
      have:=ih _ (arg1_mem hl) (hz.2 _ (arg1_mem hl))
      have:=hsum2 hl
      omega
    · split
      · rename_i h
        have:=size0 (len_not hz.1 (by simpa using h));omega
      · split
        · rename_i h
          have hl:=len_two' hz.1 (by simp at h;omega)
          rw [two_size];have:=hsum2 hl;omega
        · split
          · rename_i h
            have hl:=len_two' hz.1 (by simp at h;omega)
            rw [two_size];have:=hsum2 hl;omega
          · split
            · have:sizeN (truthE (e.val.num == 0))=1:=by rw [sizeN_eq];rfl
              omega
            · have:sizeN (notE e)=sizeN e+1:=by rw [sizeN_eq];simp [notE];omega
              have h1:1≤sizeN e:=by omega
              omega
end Go.Proofs.YtkddpedfbicbeaaGreatDoor

namespace Go.Proofs.YtkddpedfbicbeaaGreatDoor
open Go Go.Aw
set_option maxHeartbeats 400000
set_option maxRecDepth 20000
set_option linter.unusedVariables false
set_option linter.unusedSimpArgs false

theorem c52 (op:Int):APure Tryz.prog 109 [.int .i64 op] (.tuple [.bool (usesS op).1,.bool (usesS op).2]):=by
 refine APure.body (n:=11) tok Tryz.func109 rfl rfl rfl fun H=>?_
 refine Qsr (Qp Qab ?_)
 refine Qp Qab ?_
 refine Qnn (AW.seq (Qsr (Qp Qmi ?_)))
 refine Qnn (AW.block (AW.seq (Qsr (Qp Qceq ?_))))
 refine Qp Qab ?_
 refine Qnn (Qif (fun hc1=>?_) fun hc1=>?_)
 ·
  refine Qst (Qif (fun hc2=>?_) fun hc2=>?_)
  ·
   refine Qsr (Qp Qab ?_)
   refine Qp Qab ?_
   refine Qnn (AW.ret (blkR (thenR (Qrr (.bool _) (.bool _) ?_))))
   simp_all [resOf,usesS]
  ·
   refine AW.seq (Qsr (Qp Qceq ?_))
   refine Qp Qab ?_
   refine Qnn (Qif (fun hc3=>?_) fun hc3=>?_)
   ·
    refine Qst (Qif (fun hc4=>?_) fun hc4=>?_)
    ·
     refine Qsr (Qp Qab ?_)
     refine Qp Qab ?_
     refine Qnn (AW.ret (blkR (thenR (Qrr (.bool _) (.bool _) ?_))))
     simp_all [resOf,usesS]
    ·
     refine AW.skip (blkN (thenN (Qsr (Qp Qab ?_))))
     refine Qp Qab ?_
     refine Qnn (AW.ret (Qrr (.bool _) (.bool _) ?_))
     simp_all [resOf,usesS]
   ·
    refine AW.region (Qp Qceq ?_)
    refine Qp Qab ?_
    refine Qnn (Qif (fun hc5=>?_) fun hc5=>?_)
    ·
     refine Qsr (Qp Qab ?_)
     refine Qp Qab ?_
     refine Qnn (AW.ret (blkR (thenR (Qrr (.bool _) (.bool _) ?_))))
     simp_all [resOf,usesS]
    ·
     refine AW.skip (blkN (thenN (Qsr (Qp Qab ?_))))
     refine Qp Qab ?_
     refine Qnn (AW.ret (Qrr (.bool _) (.bool _) ?_))
     simp_all [resOf,usesS]
 ·
  refine AW.region (Qp Qceq ?_)
  refine Qp Qab ?_
  refine Qnn (Qif (fun hc6=>?_) fun hc6=>?_)
  ·
   refine Qsr (Qp Qab ?_)
   refine Qp Qab ?_
   refine Qnn (AW.ret (blkR (thenR (Qrr (.bool _) (.bool _) ?_))))
   simp_all [resOf,usesS]
  ·
   refine AW.seq (Qsr (Qp Qceq ?_))
   refine Qp Qab ?_
   refine Qnn (Qif (fun hc7=>?_) fun hc7=>?_)
   ·
    refine Qst (Qif (fun hc8=>?_) fun hc8=>?_)
    ·
     refine Qsr (Qp Qab ?_)
     refine Qp Qab ?_
     refine Qnn (AW.ret (blkR (thenR (Qrr (.bool _) (.bool _) ?_))))
     simp_all [resOf,usesS]
    ·
     refine AW.skip (blkN (thenN (Qsr (Qp Qab ?_))))
     refine Qp Qab ?_
     refine Qnn (AW.ret (Qrr (.bool _) (.bool _) ?_))
     simp_all [resOf,usesS]
   ·
    refine AW.region (Qp Qceq ?_)
    refine Qp Qab ?_
    refine Qnn (Qif (fun hc9=>?_) fun hc9=>?_)
    ·
     refine Qsr (Qp Qab ?_)
     refine Qp Qab ?_
     refine Qnn (AW.ret (blkR (thenR (Qrr (.bool _) (.bool _) ?_))))
     simp_all [resOf,usesS]
    ·
     refine AW.skip (blkN (thenN (Qsr (Qp Qab ?_))))
     refine Qp Qab ?_
     refine Qnn (AW.ret (Qrr (.bool _) (.bool _) ?_))
     simp_all [resOf,usesS]
theorem c84 (op:Int):APure Tryz.prog 160 [.int .i64 op] (.tuple [.bool (usesS op).1,.bool (usesS op).2]):=by
 refine APure.body (n:=21) tok Tryz.func160 rfl rfl rfl fun H=>?_
 refine Qsr (Qp Qab ?_)
 refine Qp Qab ?_
 refine Qns (Qp Qmi ?_)
 refine Qp Qceq ?_
 refine Qp Qmb ?_
 refine Qg [] Qw Qmi ?_
 refine Qg [(8,_)] Qw Qceq ?_
 refine Qp Qpo ?_
 refine Qp Qab ?_
 refine Qns (Qp Qmb ?_)
 refine Qp Qmb ?_
 refine Qg [] Qw Qmi ?_
 refine Qg [(13,_)] Qw Qceq ?_
 refine Qp Qpo ?_
 refine Qp Qmb ?_
 refine Qg [] Qw Qmi ?_
 refine Qg [(17,_)] Qw Qceq ?_
 refine Qp Qpo ?_
 refine Qp Qmb ?_
 refine Qp Qab ?_
 refine Qp Qab ?_
 refine Qnn (AW.ret (Qrr (.bool _) (.bool _) ?_))
 by_cases h1:op=1 <;> by_cases h2:op=2 <;> by_cases h3:op=3 <;> by_cases h4:op=4 <;> simp_all [usesS,resOf]
theorem c81 (op:Int):APure Tryz.prog 108 [.int .i64 op] (.tuple [.int .i64 (arityS op),.bool (decide (0≤op∧op≤12))]):=by
 refine APure.body (n:=17) tok Tryz.func108 rfl rfl rfl fun H=>?_
 refine Qsr (Qp Qai ?_)
 refine Qp Qab ?_
 refine Qnn (AW.seq (AW.block (Qsr (Qp Qmi ?_))))
 refine Qp Qclt ?_
 refine Qp Qmb ?_
 refine Qg [] Qw Qmi ?_
 refine Qg [(8,_)] Qw Qcgt ?_
 refine Qp Qpo ?_
 refine Qp Qab ?_
 refine Qnn (Qif (fun hc1=>?_) fun hc1=>?_)
 ·
  refine Qsr (Qp Qai ?_)
  refine Qp Qab ?_
  refine Qnn (AW.ret (blkR (thenR (Qrr (.int .i64 _) (.bool _) ?_))))
  simp only [Bool.or_eq_true,Bool.or_eq_false_iff,decide_eq_true_eq,decide_eq_false_iff_not,beq_iff_eq,beq_eq_false_iff_ne] at *
  simp only [resOf,arityS,AV.tuple.injEq,List.cons.injEq,AV.int.injEq,AV.bool.injEq,true_and,and_true]
  refine ⟨?_,?_⟩
  ·
   repeat' split
   all_goals omega
  · simp <;> omega
 ·
  refine Qsr (Qp Qmi ?_)
  refine Qp Qclt ?_
  refine Qp Qab ?_
  refine Qnn (Qif (fun hc2=>?_) fun hc2=>?_)
  ·
   refine Qsr (Qp Qai ?_)
   refine Qp Qab ?_
   refine Qnn (AW.ret (blkR (thenR (Qrr (.int .i64 _) (.bool _) ?_))))
   simp only [Bool.or_eq_true,Bool.or_eq_false_iff,decide_eq_true_eq,decide_eq_false_iff_not,beq_iff_eq,beq_eq_false_iff_ne] at *
   simp only [resOf,arityS,AV.tuple.injEq,List.cons.injEq,AV.int.injEq,AV.bool.injEq,true_and,and_true]
   refine ⟨?_,?_⟩
   ·
    repeat' split
    all_goals omega
   · simp <;> omega
  ·
   refine Qsr (Qp Qmi ?_)
   refine Qp Qceq ?_
   refine Qp Qab ?_
   refine Qnn (Qif (fun hc3=>?_) fun hc3=>?_)
   ·
    refine Qsr (Qp Qai ?_)
    refine Qp Qab ?_
    refine Qnn (AW.ret (blkR (thenR (Qrr (.int .i64 _) (.bool _) ?_))))
    simp only [Bool.or_eq_true,Bool.or_eq_false_iff,decide_eq_true_eq,decide_eq_false_iff_not,beq_iff_eq,beq_eq_false_iff_ne] at *
    simp only [resOf,arityS,AV.tuple.injEq,List.cons.injEq,AV.int.injEq,AV.bool.injEq,true_and,and_true]
    refine ⟨?_,?_⟩
    ·
     repeat' split
     all_goals omega
    · simp <;> omega
   ·
    refine AW.skip (blkN (thenN (Qsr (Qp Qai ?_))))
    refine Qp Qab ?_
    refine Qnn (AW.ret (Qrr (.int .i64 _) (.bool _) ?_))
    simp only [Bool.or_eq_true,Bool.or_eq_false_iff,decide_eq_true_eq,decide_eq_false_iff_not,beq_iff_eq,beq_eq_false_iff_ne] at *
    simp only [resOf,arityS,AV.tuple.injEq,List.cons.injEq,AV.int.injEq,AV.bool.injEq,true_and,and_true]
    refine ⟨?_,?_⟩
    ·
     repeat' split
     all_goals omega
    · simp <;> omega
theorem c100 (op:Int):APure Tryz.prog 159 [.int .i64 op] (.int .i64 (if 0≤op∧op≤12 then arityS op else -1)):=by
 refine APure.body (n:=20) tok Tryz.func159 rfl rfl rfl fun H=>?_
 refine Qsr (Qp Qai ?_)
 refine Qnn (AW.seq (Qsr (Qp Qmi ?_)))
 refine Qnn (AW.block ?_)
 refine AW.cut (fun (_:Unit)=>(⟨[(0,.int .i64 op),(3,.int .i64 op),(4,.bool (op == 0||op == 1||op == 2||op == 3||op == 4))],H,20⟩:St)) (fun (_:Unit)=>True) ?_ ?_
 ·
  refine Qsr (Qp Qceq ?_)
  refine Qp Qab ?_
  refine Qnn (Qif (fun hc1=>?_) fun hc1=>?_)
  ·
   refine Qst ?_
   refine ⟨(),?_,GS.weaken ⟨rfl,rfl,congrArg AV.bool (by simp [*]),trivial⟩ (.refl _)⟩
   trivial
  ·
   refine Qsr (Qp Qceq ?_)
   refine Qp Qab ?_
   refine Qnn (Qif (fun hc2=>?_) fun hc2=>?_)
   ·
    refine Qst ?_
    refine ⟨(),?_,GS.weaken ⟨rfl,rfl,congrArg AV.bool (by simp [*]),trivial⟩ (.refl _)⟩
    trivial
   ·
    refine Qsr (Qp Qceq ?_)
    refine Qp Qab ?_
    refine Qnn (Qif (fun hc3=>?_) fun hc3=>?_)
    ·
     refine Qst ?_
     refine ⟨(),?_,GS.weaken ⟨rfl,rfl,congrArg AV.bool (by simp [*]),trivial⟩ (.refl _)⟩
     trivial
    ·
     refine Qsr (Qp Qceq ?_)
     refine Qp Qab ?_
     refine Qnn (Qif (fun hc4=>?_) fun hc4=>?_)
     ·
      refine Qst ?_
      refine ⟨(),?_,GS.weaken ⟨rfl,rfl,congrArg AV.bool (by simp [*]),trivial⟩ (.refl _)⟩
      trivial
     ·
      refine AW.region (Qp Qceq ?_)
      refine Qp Qab ?_
      refine Qnn ?_
      refine ⟨(),?_,GS.weaken ⟨rfl,rfl,congrArg AV.bool (by simp [*]),trivial⟩ (.refl _)⟩
      trivial
 ·
  rintro _ _
  refine Qif (fun hc5=>?_) fun hc5=>?_
  ·
   refine Qsr (Qp Qai ?_)
   refine Qnn (AW.ret (blkR (thenR (Qr (.int .i64 _) ?_))))
   simp only [Bool.or_eq_true,Bool.or_eq_false_iff,beq_iff_eq,beq_eq_false_iff_ne] at *
   simp only [resOf,arityS,AV.int.injEq,true_and]
   repeat' split
   all_goals omega
  ·
   refine Qsr (Qp Qceq ?_)
   refine Qp Qab ?_
   refine Qnn (Qif (fun hc6=>?_) fun hc6=>?_)
   ·
    refine Qsr (Qp Qai ?_)
    refine Qnn (AW.ret (blkR (thenR (Qr (.int .i64 _) ?_))))
    simp only [Bool.or_eq_true,Bool.or_eq_false_iff,beq_iff_eq,beq_eq_false_iff_ne] at *
    simp only [resOf,arityS,AV.int.injEq,true_and]
    repeat' split
    all_goals omega
   ·
    refine AW.cut (fun (_:Unit)=>(⟨[(12,.bool (op == 5||op == 6||op == 7||op == 8||op == 9||op == 10||op == 11))],H,20⟩:St)) (fun (_:Unit)=>True) ?_ ?_
    ·
     refine Qsr (Qp Qceq ?_)
     refine Qp Qab ?_
     refine Qnn (Qif (fun hc7=>?_) fun hc7=>?_)
     ·
      refine Qst ?_
      refine ⟨(),?_,GS.weaken ⟨congrArg AV.bool (by simp [*]),trivial⟩ (.refl _)⟩
      trivial
     ·
      refine Qsr (Qp Qceq ?_)
      refine Qp Qab ?_
      refine Qnn (Qif (fun hc8=>?_) fun hc8=>?_)
      ·
       refine Qst ?_
       refine ⟨(),?_,GS.weaken ⟨congrArg AV.bool (by simp [*]),trivial⟩ (.refl _)⟩
       trivial
      ·
       refine Qsr (Qp Qceq ?_)
       refine Qp Qab ?_
       refine Qnn (Qif (fun hc9=>?_) fun hc9=>?_)
       ·
        refine Qst ?_
        refine ⟨(),?_,GS.weaken ⟨congrArg AV.bool (by simp [*]),trivial⟩ (.refl _)⟩
        trivial
       ·
        refine Qsr (Qp Qceq ?_)
        refine Qp Qab ?_
        refine Qnn (Qif (fun hc10=>?_) fun hc10=>?_)
        ·
         refine Qst ?_
         refine ⟨(),?_,GS.weaken ⟨congrArg AV.bool (by simp [*]),trivial⟩ (.refl _)⟩
         trivial
        ·
         refine Qsr (Qp Qceq ?_)
         refine Qp Qab ?_
         refine Qnn (Qif (fun hc11=>?_) fun hc11=>?_)
         ·
          refine Qst ?_
          refine ⟨(),?_,GS.weaken ⟨congrArg AV.bool (by simp [*]),trivial⟩ (.refl _)⟩
          trivial
         ·
          refine Qsr (Qp Qceq ?_)
          refine Qp Qab ?_
          refine Qnn (Qif (fun hc12=>?_) fun hc12=>?_)
          ·
           refine Qst ?_
           refine ⟨(),?_,GS.weaken ⟨congrArg AV.bool (by simp [*]),trivial⟩ (.refl _)⟩
           trivial
          ·
           refine AW.region (Qp Qceq ?_)
           refine Qp Qab ?_
           refine Qnn ?_
           refine ⟨(),?_,GS.weaken ⟨congrArg AV.bool (by simp [*]),trivial⟩ (.refl _)⟩
           trivial
    ·
     rintro _ _
     refine Qif (fun hc13=>?_) fun hc13=>?_
     ·
      refine Qsr (Qp Qai ?_)
      refine Qnn (AW.ret (blkR (thenR (Qr (.int .i64 _) ?_))))
      simp only [Bool.or_eq_true,Bool.or_eq_false_iff,beq_iff_eq,beq_eq_false_iff_ne] at *
      simp only [resOf,arityS,AV.int.injEq,true_and]
      repeat' split
      all_goals omega
     ·
      refine AW.skip (blkN (thenN (Qsr (Qp Qai ?_))))
      refine Qnn (AW.ret (Qr (.int .i64 _) ?_))
      simp only [Bool.or_eq_true,Bool.or_eq_false_iff,beq_iff_eq,beq_eq_false_iff_ne] at *
      simp only [resOf,arityS,AV.int.injEq,true_and]
      repeat' split
      all_goals omega
theorem c107 (v:Vl):APure Tryz.prog 161 [.agg (cV v)] (.int .i64 (vsizeS v)):=by
  refine APure.body (n:=36) tok Tryz.func161 rfl rfl rfl fun H=>?_
  refine AW.seq (AW.region (Qp (Qbx [.int .i64 _,.int .i64 _,.str _]) ?_))
  refine Qp Qai ?_
  refine AOL.nil (thenN (AW.seq (AW.block (AW.seq (AW.region (Qp Qf5 ?_))))))
  refine Qp Qli ?_
  refine Qp Qceq ?_
  refine Qp Qmb ?_
  refine Qg [] Qw Qf6 ?_
  refine Qg [(8,_)] Qw Qli ?_
  refine Qg [(9,_)] Qw Qclt ?_
  refine Qg [(10,_)] Qw Qmb ?_
  refine Qg [] Qw Qf6 ?_
  refine Qg [(12,_)] Qw Qli ?_
  refine Qg [(13,_)] Qw Qcgt ?_
  refine Qg [(11,_),(14,_)] Qw Qpo ?_
  refine Qp Qpa ?_
  refine Qp Qab ?_
  refine AOL.nil (thenN (Qif (fun hc1=>?_) fun hc1=>?_))
  · skip
    refine AW.seq (AW.region (Qp Qai ?_))
    refine AOL.nil (thenN (AW.ret (blkR (thenR (Qr (.int .i64 _) ?_)))))
    try simp only [str0,Bool.and_true] at *
    first
      | (simp only [resOf,vsizeS];(first | rw [if_pos hc1] | skip);first | done | rfl)
      | (try simp only [Bool.not_eq_true',Bool.not_eq_false'] at *
         first
         | (simp only [resOf,vsizeS, *,Bool.false_eq_true,↓reduceIte,Bool.true_or,Bool.or_true,Bool.false_or,Bool.or_false,Bool.true_and,Bool.and_true,Bool.false_and,Bool.and_false,Bool.not_true,Bool.not_false];done)
         | (simp [resOf,vsizeS, *];done)
         | (simp_all [resOf,vsizeS];done))
      | skip
  · skip
    refine AW.seq (AW.region (Qp Qf5 ?_))
    refine Qp Qli ?_
    refine Qp Qceq ?_
    refine Qp Qmb ?_
    refine Qg [] Qw Qf6 ?_
    refine Qg [(22,_)] Qw Qli ?_
    refine Qg [(23,_)] Qw Qcne ?_
    refine Qp Qpa ?_
    refine Qp Qmb ?_
    refine Qg [] Qw Qf6 ?_
    refine Qg [(27,_)] Qw Qli ?_
    refine Qg [(28,_)] Qw Qcne ?_
    refine Qp Qpa ?_
    refine Qp Qab ?_
    refine AOL.nil (thenN (Qif (fun hc2=>?_) fun hc2=>?_))
    · skip
      refine AW.seq (AW.region (Qp Qai ?_))
      refine AOL.nil (thenN (AW.ret (blkR (thenR (Qr (.int .i64 _) ?_)))))
      try simp only [str0,Bool.and_true] at *
      first
        | (simp only [resOf,vsizeS];(first | rw [if_neg (Bool.eq_false_iff.mp hc1)] | skip);(first | rw [if_pos hc2] | skip);first | done | rfl)
        | (try simp only [Bool.not_eq_true',Bool.not_eq_false'] at *
           first
           | (simp only [resOf,vsizeS, *,Bool.false_eq_true,↓reduceIte,Bool.true_or,Bool.or_true,Bool.false_or,Bool.or_false,Bool.true_and,Bool.and_true,Bool.false_and,Bool.and_false,Bool.not_true,Bool.not_false];done)
           | (simp [resOf,vsizeS, *];done)
           | (simp_all [resOf,vsizeS];done))
        | skip
    · skip
      refine AW.seq (AW.region (Qp Qf7 ?_))
      refine Qp Qlt ?_
      refine Qp (P_len_str tok rfl rfl rfl rfl) ?_
      refine Qp Qcgt ?_
      refine Qp Qab ?_
      refine AOL.nil (thenN (Qif (fun hc3=>?_) fun hc3=>?_))
      · skip
        refine AW.seq (AW.region (Qp Qai ?_))
        refine AOL.nil (thenN (AW.ret (blkR (thenR (Qr (.int .i64 _) ?_)))))
        try simp only [str0,Bool.and_true] at *
        first
          | (simp only [resOf,vsizeS];(first | rw [if_neg (Bool.eq_false_iff.mp hc1)] | skip);(first | rw [if_neg (Bool.eq_false_iff.mp hc2)] | skip);(first | rw [if_pos hc3] | skip);first | done | rfl)
          | (try simp only [Bool.not_eq_true',Bool.not_eq_false'] at *
             first
             | (simp only [resOf,vsizeS, *,Bool.false_eq_true,↓reduceIte,Bool.true_or,Bool.or_true,Bool.false_or,Bool.or_false,Bool.true_and,Bool.and_true,Bool.false_and,Bool.and_false,Bool.not_true,Bool.not_false];done)
             | (simp [resOf,vsizeS, *];done)
             | (simp_all [resOf,vsizeS];done))
          | skip
      · skip
        refine AW.skip (blkN (thenN (AW.seq (AW.region (Qp Qai ?_)))))
        refine AOL.nil (thenN (AW.ret (Qr (.int .i64 _) ?_)))
        try simp only [str0,Bool.and_true] at *
        first
          | (simp only [resOf,vsizeS];(first | rw [if_neg (Bool.eq_false_iff.mp hc1)] | skip);(first | rw [if_neg (Bool.eq_false_iff.mp hc2)] | skip);(first | rw [if_neg (Bool.eq_false_iff.mp hc3)] | skip);first | done | rfl)
          | (try simp only [Bool.not_eq_true',Bool.not_eq_false'] at *
             first
             | (simp only [resOf,vsizeS, *,Bool.false_eq_true,↓reduceIte,Bool.true_or,Bool.or_true,Bool.false_or,Bool.or_false,Bool.true_and,Bool.and_true,Bool.false_and,Bool.and_false,Bool.not_true,Bool.not_false];done)
             | (simp [resOf,vsizeS, *];done)
             | (simp_all [resOf,vsizeS];done))
          | skip
theorem c94 (v:Vl):APure Tryz.prog 143 [.agg (cV v)] (.int .i64 (vcheckS v)):=by
  refine APure.body (n:=18) tok Tryz.func143 rfl rfl rfl fun H=>?_
  refine AW.seq (AW.region (Qp (Qbx [.int .i64 _,.int .i64 _,.str _]) ?_))
  refine Qp Qai ?_
  refine AOL.nil (thenN (AW.seq (AW.seq (AW.region (Qp Qf5 ?_)))))
  refine Qp Qli ?_
  refine AOL.nil (thenN (AW.block (AW.seq (AW.seq (AW.region (Qp Qceq ?_))))))
  refine Qp Qab ?_
  refine AOL.nil (thenN (Qif (fun hc1=>?_) fun hc1=>?_))
  · skip
    refine Qst (Qif (fun hc2=>?_) fun hc2=>?_)
    · skip
      refine AW.seq (AW.region (Qp Qf7 ?_))
      refine Qp Qlt ?_
      refine Qp (P_neq_str rfl rfl) ?_
      refine AOL.nil (thenN (Qif (fun hc3=>?_) fun hc3=>?_))
      · skip
        refine AW.seq (AW.region (Qp Qai ?_))
        refine AOL.nil (thenN (AW.ret (blkR (thenR (Qr (.int .i64 _) ?_)))))
        try simp only [str0,Bool.and_true] at *
        first
          | (simp only [resOf,vcheckS];(first | rw [if_pos hc1] | skip);(first | rw [if_pos hc2] | skip);(first | rw [if_pos hc3] | skip);first | done | rfl)
          | (try simp only [Bool.not_eq_true',Bool.not_eq_false'] at *
             first
             | (simp only [resOf,vcheckS, *,Bool.false_eq_true,↓reduceIte,Bool.true_or,Bool.or_true,Bool.false_or,Bool.or_false,Bool.true_and,Bool.and_true,Bool.false_and,Bool.and_false,Bool.not_true,Bool.not_false];done)
             | (simp [resOf,vcheckS, *];done)
             | (simp_all [resOf,vcheckS];done))
          | skip
      · skip
        refine AW.skip (blkN (thenN (AW.seq (AW.region (Qp (Qlg [.int .i64 _,.int .i64 _,.str _]) ?_)))))
        refine Qp (Qc rfl (c107 v)) ?_
        refine Qp Qai ?_
        refine AOL.nil (thenN (AW.ret (Qr (.int .i64 _) ?_)))
        try simp only [str0,Bool.and_true] at *
        first
          | (simp only [resOf,vcheckS];(first | rw [if_pos hc1] | skip);(first | rw [if_pos hc2] | skip);(first | rw [if_neg (Bool.eq_false_iff.mp hc3)] | skip);first | done | rfl)
          | (try simp only [Bool.not_eq_true',Bool.not_eq_false'] at *
             first
             | (simp only [resOf,vcheckS, *,Bool.false_eq_true,↓reduceIte,Bool.true_or,Bool.or_true,Bool.false_or,Bool.or_false,Bool.true_and,Bool.and_true,Bool.false_and,Bool.and_false,Bool.not_true,Bool.not_false];done)
             | (simp [resOf,vcheckS, *];done)
             | (simp_all [resOf,vcheckS];done))
          | skip
    · skip
      refine AW.seq (AW.region (Qp Qceq ?_))
      refine Qp Qab ?_
      refine AOL.nil (thenN (Qif (fun hc4=>?_) fun hc4=>?_))
      · skip
        refine AW.seq (AW.region (Qp Qf6 ?_))
        refine Qp Qli ?_
        refine Qp Qcne ?_
        refine AOL.nil (thenN (Qif (fun hc5=>?_) fun hc5=>?_))
        · skip
          refine AW.seq (AW.region (Qp Qai ?_))
          refine AOL.nil (thenN (AW.ret (blkR (thenR (Qr (.int .i64 _) ?_)))))
          try simp only [str0,Bool.and_true] at *
          first
            | (simp only [resOf,vcheckS];(first | rw [if_pos hc1] | skip);(first | rw [if_neg (Bool.eq_false_iff.mp hc2)] | skip);(first | rw [if_pos hc4] | skip);(first | rw [if_pos hc5] | skip);first | done | rfl)
            | (try simp only [Bool.not_eq_true',Bool.not_eq_false'] at *
               first
               | (simp only [resOf,vcheckS, *,Bool.false_eq_true,↓reduceIte,Bool.true_or,Bool.or_true,Bool.false_or,Bool.or_false,Bool.true_and,Bool.and_true,Bool.false_and,Bool.and_false,Bool.not_true,Bool.not_false];done)
               | (simp [resOf,vcheckS, *];done)
               | (simp_all [resOf,vcheckS];done))
            | skip
        · skip
          refine AW.skip (blkN (thenN (AW.seq (AW.region (Qp (Qlg [.int .i64 _,.int .i64 _,.str _]) ?_)))))
          refine Qp (Qc rfl (c107 v)) ?_
          refine Qp Qai ?_
          refine AOL.nil (thenN (AW.ret (Qr (.int .i64 _) ?_)))
          try simp only [str0,Bool.and_true] at *
          first
            | (simp only [resOf,vcheckS];(first | rw [if_pos hc1] | skip);(first | rw [if_neg (Bool.eq_false_iff.mp hc2)] | skip);(first | rw [if_pos hc4] | skip);(first | rw [if_neg (Bool.eq_false_iff.mp hc5)] | skip);first | done | rfl)
            | (try simp only [Bool.not_eq_true',Bool.not_eq_false'] at *
               first
               | (simp only [resOf,vcheckS, *,Bool.false_eq_true,↓reduceIte,Bool.true_or,Bool.or_true,Bool.false_or,Bool.or_false,Bool.true_and,Bool.and_true,Bool.false_and,Bool.and_false,Bool.not_true,Bool.not_false];done)
               | (simp [resOf,vcheckS, *];done)
               | (simp_all [resOf,vcheckS];done))
            | skip
      · skip
        refine AW.seq (AW.region (Qp Qai ?_))
        refine AOL.nil (thenN (AW.ret (blkR (thenR (Qr (.int .i64 _) ?_)))))
        try simp only [str0,Bool.and_true] at *
        first
          | (simp only [resOf,vcheckS];(first | rw [if_pos hc1] | skip);(first | rw [if_neg (Bool.eq_false_iff.mp hc2)] | skip);(first | rw [if_neg (Bool.eq_false_iff.mp hc4)] | skip);first | done | rfl)
          | (try simp only [Bool.not_eq_true',Bool.not_eq_false'] at *
             first
             | (simp only [resOf,vcheckS, *,Bool.false_eq_true,↓reduceIte,Bool.true_or,Bool.or_true,Bool.false_or,Bool.or_false,Bool.true_and,Bool.and_true,Bool.false_and,Bool.and_false,Bool.not_true,Bool.not_false];done)
             | (simp [resOf,vcheckS, *];done)
             | (simp_all [resOf,vcheckS];done))
          | skip
  · skip
    refine AW.region (Qp Qceq ?_)
    refine Qp Qab ?_
    refine AOL.nil (thenN (Qif (fun hc6=>?_) fun hc6=>?_))
    · skip
      refine AW.seq (AW.region (Qp Qf7 ?_))
      refine Qp Qlt ?_
      refine Qp (P_neq_str rfl rfl) ?_
      refine AOL.nil (thenN (Qif (fun hc7=>?_) fun hc7=>?_))
      · skip
        refine AW.seq (AW.region (Qp Qai ?_))
        refine AOL.nil (thenN (AW.ret (blkR (thenR (Qr (.int .i64 _) ?_)))))
        try simp only [str0,Bool.and_true] at *
        first
          | (simp only [resOf,vcheckS];(first | rw [if_neg (Bool.eq_false_iff.mp hc1)] | skip);(first | rw [if_pos hc6] | skip);(first | rw [if_pos hc7] | skip);first | done | rfl)
          | (try simp only [Bool.not_eq_true',Bool.not_eq_false'] at *
             first
             | (simp only [resOf,vcheckS, *,Bool.false_eq_true,↓reduceIte,Bool.true_or,Bool.or_true,Bool.false_or,Bool.or_false,Bool.true_and,Bool.and_true,Bool.false_and,Bool.and_false,Bool.not_true,Bool.not_false];done)
             | (simp [resOf,vcheckS, *];done)
             | (simp_all [resOf,vcheckS];done))
          | skip
      · skip
        refine AW.skip (blkN (thenN (AW.seq (AW.region (Qp (Qlg [.int .i64 _,.int .i64 _,.str _]) ?_)))))
        refine Qp (Qc rfl (c107 v)) ?_
        refine Qp Qai ?_
        refine AOL.nil (thenN (AW.ret (Qr (.int .i64 _) ?_)))
        try simp only [str0,Bool.and_true] at *
        first
          | (simp only [resOf,vcheckS];(first | rw [if_neg (Bool.eq_false_iff.mp hc1)] | skip);(first | rw [if_pos hc6] | skip);(first | rw [if_neg (Bool.eq_false_iff.mp hc7)] | skip);first | done | rfl)
          | (try simp only [Bool.not_eq_true',Bool.not_eq_false'] at *
             first
             | (simp only [resOf,vcheckS, *,Bool.false_eq_true,↓reduceIte,Bool.true_or,Bool.or_true,Bool.false_or,Bool.or_false,Bool.true_and,Bool.and_true,Bool.false_and,Bool.and_false,Bool.not_true,Bool.not_false];done)
             | (simp [resOf,vcheckS, *];done)
             | (simp_all [resOf,vcheckS];done))
          | skip
    · skip
      refine AW.seq (AW.region (Qp Qceq ?_))
      refine Qp Qab ?_
      refine AOL.nil (thenN (Qif (fun hc8=>?_) fun hc8=>?_))
      · skip
        refine AW.seq (AW.region (Qp Qf6 ?_))
        refine Qp Qli ?_
        refine Qp Qcne ?_
        refine AOL.nil (thenN (Qif (fun hc9=>?_) fun hc9=>?_))
        · skip
          refine AW.seq (AW.region (Qp Qai ?_))
          refine AOL.nil (thenN (AW.ret (blkR (thenR (Qr (.int .i64 _) ?_)))))
          try simp only [str0,Bool.and_true] at *
          first
            | (simp only [resOf,vcheckS];(first | rw [if_neg (Bool.eq_false_iff.mp hc1)] | skip);(first | rw [if_neg (Bool.eq_false_iff.mp hc6)] | skip);(first | rw [if_pos hc8] | skip);(first | rw [if_pos hc9] | skip);first | done | rfl)
            | (try simp only [Bool.not_eq_true',Bool.not_eq_false'] at *
               first
               | (simp only [resOf,vcheckS, *,Bool.false_eq_true,↓reduceIte,Bool.true_or,Bool.or_true,Bool.false_or,Bool.or_false,Bool.true_and,Bool.and_true,Bool.false_and,Bool.and_false,Bool.not_true,Bool.not_false];done)
               | (simp [resOf,vcheckS, *];done)
               | (simp_all [resOf,vcheckS];done))
            | skip
        · skip
          refine AW.skip (blkN (thenN (AW.seq (AW.region (Qp (Qlg [.int .i64 _,.int .i64 _,.str _]) ?_)))))
          refine Qp (Qc rfl (c107 v)) ?_
          refine Qp Qai ?_
          refine AOL.nil (thenN (AW.ret (Qr (.int .i64 _) ?_)))
          try simp only [str0,Bool.and_true] at *
          first
            | (simp only [resOf,vcheckS];(first | rw [if_neg (Bool.eq_false_iff.mp hc1)] | skip);(first | rw [if_neg (Bool.eq_false_iff.mp hc6)] | skip);(first | rw [if_pos hc8] | skip);(first | rw [if_neg (Bool.eq_false_iff.mp hc9)] | skip);first | done | rfl)
            | (try simp only [Bool.not_eq_true',Bool.not_eq_false'] at *
               first
               | (simp only [resOf,vcheckS, *,Bool.false_eq_true,↓reduceIte,Bool.true_or,Bool.or_true,Bool.false_or,Bool.or_false,Bool.true_and,Bool.and_true,Bool.false_and,Bool.and_false,Bool.not_true,Bool.not_false];done)
               | (simp [resOf,vcheckS, *];done)
               | (simp_all [resOf,vcheckS];done))
            | skip
      · skip
        refine AW.seq (AW.region (Qp Qai ?_))
        refine AOL.nil (thenN (AW.ret (blkR (thenR (Qr (.int .i64 _) ?_)))))
        try simp only [str0,Bool.and_true] at *
        first
          | (simp only [resOf,vcheckS];(first | rw [if_neg (Bool.eq_false_iff.mp hc1)] | skip);(first | rw [if_neg (Bool.eq_false_iff.mp hc6)] | skip);(first | rw [if_neg (Bool.eq_false_iff.mp hc8)] | skip);first | done | rfl)
          | (try simp only [Bool.not_eq_true',Bool.not_eq_false'] at *
             first
             | (simp only [resOf,vcheckS, *,Bool.false_eq_true,↓reduceIte,Bool.true_or,Bool.or_true,Bool.false_or,Bool.or_false,Bool.true_and,Bool.and_true,Bool.false_and,Bool.and_false,Bool.not_true,Bool.not_false];done)
             | (simp [resOf,vcheckS, *];done)
             | (simp_all [resOf,vcheckS];done))
          | skip
theorem c75 (b:Bool):APure Tryz.prog 107 [.bool b] (.agg (cV (flagS b))):=by
  refine APure.body (n:=8) tok Tryz.func107 rfl rfl rfl fun H=>?_
  refine AW.seq (AW.region (Qe (E_alloc (l:=[.int .i64 0,.int .i64 0,.str []]) (by kernel_rfl)) ?_))
  rintro _ _ ⟨b2,rfl,rfl⟩
  refine AOL.nil (thenN (AW.seq (AW.region (Qp (Qbd [.int .i64 _,.int .i64 _,.str _]) ?_))))
  refine Qe (E_alloc (l:=[.int .i64 0,.int .i64 0,.str []]) (by kernel_rfl)) ?_
  rintro _ _ ⟨b3,rfl,rfl⟩
  refine Qe (E_store (k:=0) (v:=.agg _) (cs':=[.int .i64 _,.int .i64 _,.str _]) (H2:=_::_::_) tok rfl rfl rfl rfl (rfl) rfl rfl rfl rfl) ?_
  rintro _ _ ⟨rfl,rfl⟩
  refine AOL.nil (thenN (AW.seq (AW.seq (AW.region (Qp Qmb ?_)))))
  refine AOL.nil (thenN (Qif (fun hc1=>?_) fun hc1=>?_))
  · skip
    refine AW.region (Qp Qfv ?_)
    refine Qe (E_store (k:=0) (v:=.int .i64 _) (cs':=[.int .i64 _,.int .i64 _,.str _]) (H2:=_::_::_) tok rfl rfl rfl rfl (rfl) rfl rfl rfl rfl) ?_
    rintro _ _ ⟨rfl,rfl⟩
    refine AOL.nil (thenN (AW.seq (AW.region ?_)))
    refine AOL.pk (P_load_box_agg (k:=0) (l:=[.int .i64 _,.int .i64 _,.str _]) tok rfl rfl rfl rfl rfl) rfl rfl ?_
    refine Qe (E_store (k:=1) (v:=.agg _) (cs':=[.int .i64 _,.int .i64 _,.str _]) (H2:=_::_::_) tok rfl rfl rfl rfl (rfl) rfl rfl rfl rfl) ?_
    rintro _ _ ⟨rfl,rfl⟩
    refine AOL.nil (thenN (AW.ret ?_))
    refine ⟨.inr rfl,[.agg [.int .i64 _,.int .i64 _,.str _]],.cons (.box _ _ _ 1 _ _ _ _ rfl rfl rfl rfl rfl rfl) <| .nil,.cons _ (.cons _ (.refl _)),?_⟩
    try simp only [str0,Bool.and_true] at *
    first
      | (simp only [resOf,flagS,cV];(first | rw [if_pos hc1] | skip);first | done | rfl)
      | (try simp only [Bool.not_eq_true',Bool.not_eq_false'] at *
         first
         | (simp only [resOf,flagS,cV, *,Bool.false_eq_true,↓reduceIte,Bool.true_or,Bool.or_true,Bool.false_or,Bool.or_false,Bool.true_and,Bool.and_true,Bool.false_and,Bool.and_false,Bool.not_true,Bool.not_false];done)
         | (simp [resOf,flagS,cV, *];done)
         | (simp_all [resOf,flagS,cV];done))
      | skip
  · skip
    refine Qst (AW.seq (AW.region ?_))
    refine AOL.pk (P_load_box_agg (k:=0) (l:=[.int .i64 _,.int .i64 _,.str _]) tok rfl rfl rfl rfl rfl) rfl rfl ?_
    refine Qe (E_store (k:=1) (v:=.agg _) (cs':=[.int .i64 _,.int .i64 _,.str _]) (H2:=_::_::_) tok rfl rfl rfl rfl (rfl) rfl rfl rfl rfl) ?_
    rintro _ _ ⟨rfl,rfl⟩
    refine AOL.nil (thenN (AW.ret ?_))
    refine ⟨.inr rfl,[.agg [.int .i64 _,.int .i64 _,.str _]],.cons (.box _ _ _ 1 _ _ _ _ rfl rfl rfl rfl rfl rfl) <| .nil,.cons _ (.cons _ (.refl _)),?_⟩
    try simp only [str0,Bool.and_true] at *
    first
      | (simp only [resOf,flagS,cV];(first | rw [if_neg (Bool.eq_false_iff.mp hc1)] | skip);first | done | rfl)
      | (try simp only [Bool.not_eq_true',Bool.not_eq_false'] at *
         first
         | (simp only [resOf,flagS,cV, *,Bool.false_eq_true,↓reduceIte,Bool.true_or,Bool.or_true,Bool.false_or,Bool.or_false,Bool.true_and,Bool.and_true,Bool.false_and,Bool.and_false,Bool.not_true,Bool.not_false];done)
         | (simp [resOf,flagS,cV, *];done)
         | (simp_all [resOf,flagS,cV];done))
      | skip
theorem c38 (b:Bool):APure Tryz.prog 98 [.bool b] (.agg (cV (flagS b))):=by
  refine APure.body (n:=6) tok Tryz.func98 rfl rfl rfl fun H=>?_
  refine AW.seq (AW.region (Qe (E_alloc (l:=[.int .i64 0,.int .i64 0,.str []]) (by kernel_rfl)) ?_))
  rintro _ _ ⟨b2,rfl,rfl⟩
  refine AOL.nil (thenN (AW.seq (AW.seq (AW.region (Qp Qmb ?_)))))
  refine AOL.nil (thenN (Qif (fun hc1=>?_) fun hc1=>?_))
  · skip
    refine AW.seq (AW.region (Qp (Qbd [.int .i64 _,.int .i64 _,.str _]) ?_))
    refine Qe (E_store (k:=0) (v:=.agg _) (cs':=[.int .i64 _,.int .i64 _,.str _]) (H2:=_::_) tok rfl rfl rfl rfl (rfl) rfl rfl rfl rfl) ?_
    rintro _ _ ⟨rfl,rfl⟩
    refine AOL.nil (thenN (Qrt ?_))
    refine ⟨.inr rfl,[.agg [.int .i64 _,.int .i64 _,.str _]],.cons (.box _ _ _ 0 _ _ _ _ rfl rfl rfl rfl rfl rfl) <| .nil,.cons _ (.refl _),?_⟩
    try simp only [str0,Bool.and_true] at *
    first
      | (simp only [resOf,flagS,cV];(first | rw [if_pos hc1] | skip);first | done | rfl)
      | (try simp only [Bool.not_eq_true',Bool.not_eq_false'] at *
         first
         | (simp only [resOf,flagS,cV, *,Bool.false_eq_true,↓reduceIte,Bool.true_or,Bool.or_true,Bool.false_or,Bool.or_false,Bool.true_and,Bool.and_true,Bool.false_and,Bool.and_false,Bool.not_true,Bool.not_false];done)
         | (simp [resOf,flagS,cV, *];done)
         | (simp_all [resOf,flagS,cV];done))
      | skip
  · skip
    refine Qst (AW.seq (AW.region (Qp (Qbd [.int .i64 _,.int .i64 _,.str _]) ?_)))
    refine Qe (E_store (k:=0) (v:=.agg _) (cs':=[.int .i64 _,.int .i64 _,.str _]) (H2:=_::_) tok rfl rfl rfl rfl (rfl) rfl rfl rfl rfl) ?_
    rintro _ _ ⟨rfl,rfl⟩
    refine AOL.nil (thenN (AW.ret ?_))
    refine ⟨.inr rfl,[.agg [.int .i64 _,.int .i64 _,.str _]],.cons (.box _ _ _ 0 _ _ _ _ rfl rfl rfl rfl rfl rfl) <| .nil,.cons _ (.refl _),?_⟩
    try simp only [str0,Bool.and_true] at *
    first
      | (simp only [resOf,flagS,cV];(first | rw [if_neg (Bool.eq_false_iff.mp hc1)] | skip);first | done | rfl)
      | (try simp only [Bool.not_eq_true',Bool.not_eq_false'] at *
         first
         | (simp only [resOf,flagS,cV, *,Bool.false_eq_true,↓reduceIte,Bool.true_or,Bool.or_true,Bool.false_or,Bool.or_false,Bool.true_and,Bool.and_true,Bool.false_and,Bool.and_false,Bool.not_true,Bool.not_false];done)
         | (simp [resOf,flagS,cV, *];done)
         | (simp_all [resOf,flagS,cV];done))
      | skip
theorem c79 (v:Vl):APure Tryz.prog 101 [.agg (cV v)] (.int .i64 (vcheckS v)):=by
  refine APure.body (n:=47) tok Tryz.func101 rfl rfl rfl fun H=>?_
  refine AW.seq (AW.region (Qp (Qbx [.int .i64 _,.int .i64 _,.str _]) ?_))
  refine Qp Qai ?_
  refine AOL.nil (thenN (AW.seq (AW.seq (AW.region (Qp Qf5 ?_)))))
  refine Qp Qli ?_
  refine Qp Qclt ?_
  refine Qp Qmb ?_
  refine Qg [] Qw Qf5 ?_
  refine Qg [(7,_)] Qw Qli ?_
  refine Qg [(8,_)] Qw Qcgt ?_
  refine Qp Qpo ?_
  refine AOL.nil (thenN (Qif (fun hc1=>?_) fun hc1=>?_))
  · skip
    refine AW.seq (AW.region (Qp Qai ?_))
    refine AOL.nil (thenN (Qrt (Qr (.int .i64 _) ?_)))
    rw [←rvcheck_eq]
    try simp only [str0,Bool.and_true] at *
    first
      | (simp only [resOf,rvcheckS];(first | rw [if_pos hc1] | skip);first | done | rfl)
      | (try simp only [Bool.not_eq_true',Bool.not_eq_false'] at *
         first
         | (simp only [resOf,rvcheckS, *,Bool.false_eq_true,↓reduceIte,Bool.true_or,Bool.or_true,Bool.false_or,Bool.or_false,Bool.true_and,Bool.and_true,Bool.false_and,Bool.and_false,Bool.not_true,Bool.not_false];done)
         | (simp [resOf,rvcheckS, *];done)
         | (simp_all [resOf,rvcheckS];done))
      | skip
  · skip
    refine Qst (AW.seq (AW.seq (AW.region (Qp Qf5 ?_))))
    refine Qp Qli ?_
    refine Qp Qceq ?_
    refine AOL.nil (thenN (Qif (fun hc2=>?_) fun hc2=>?_))
    · skip
      refine AW.seq (AW.seq (AW.region (Qp Qf6 ?_)))
      refine Qp Qli ?_
      refine Qp Qcne ?_
      refine AOL.nil (thenN (Qif (fun hc3=>?_) fun hc3=>?_))
      · skip
        refine AW.seq (AW.region (Qp Qai ?_))
        refine AOL.nil (thenN (Qrt (thenR (Qr (.int .i64 _) ?_))))
        rw [←rvcheck_eq]
        try simp only [str0,Bool.and_true] at *
        first
          | (simp only [resOf,rvcheckS];(first | rw [if_neg (Bool.eq_false_iff.mp hc1)] | skip);(first | rw [if_pos hc2] | skip);(first | rw [if_pos hc3] | skip);first | done | rfl)
          | (try simp only [Bool.not_eq_true',Bool.not_eq_false'] at *
             first
             | (simp only [resOf,rvcheckS, *,Bool.false_eq_true,↓reduceIte,Bool.true_or,Bool.or_true,Bool.false_or,Bool.or_false,Bool.true_and,Bool.and_true,Bool.false_and,Bool.and_false,Bool.not_true,Bool.not_false];done)
             | (simp [resOf,rvcheckS, *];done)
             | (simp_all [resOf,rvcheckS];done))
          | skip
      · skip
        refine Qst (AW.seq (AW.seq (AW.region (Qp Qf7 ?_))))
        refine Qp Qlt ?_
        refine Qp (P_len_str tok rfl rfl rfl rfl) ?_
        refine Qp Qcgt ?_
        refine AOL.nil (thenN (Qif (fun hc4=>?_) fun hc4=>?_))
        · skip
          refine AW.seq (AW.region (Qp Qai ?_))
          refine AOL.nil (thenN (Qrt (thenR (Qr (.int .i64 _) ?_))))
          rw [←rvcheck_eq]
          try simp only [str0,Bool.and_true] at *
          first
            | (simp only [resOf,rvcheckS];(first | rw [if_neg (Bool.eq_false_iff.mp hc1)] | skip);(first | rw [if_pos hc2] | skip);(first | rw [if_neg (Bool.eq_false_iff.mp hc3)] | skip);(first | rw [if_pos hc4] | skip);first | done | rfl)
            | (try simp only [Bool.not_eq_true',Bool.not_eq_false'] at *
               first
               | (simp only [resOf,rvcheckS, *,Bool.false_eq_true,↓reduceIte,Bool.true_or,Bool.or_true,Bool.false_or,Bool.or_false,Bool.true_and,Bool.and_true,Bool.false_and,Bool.and_false,Bool.not_true,Bool.not_false];done)
               | (simp [resOf,rvcheckS, *];done)
               | (simp_all [resOf,rvcheckS];done))
            | skip
        · skip
          refine Qst (AW.seq (AW.region (Qp Qai ?_)))
          refine AOL.nil (thenN (Qrt (Qr (.int .i64 _) ?_)))
          rw [←rvcheck_eq]
          try simp only [str0,Bool.and_true] at *
          first
            | (simp only [resOf,rvcheckS];(first | rw [if_neg (Bool.eq_false_iff.mp hc1)] | skip);(first | rw [if_pos hc2] | skip);(first | rw [if_neg (Bool.eq_false_iff.mp hc3)] | skip);(first | rw [if_neg (Bool.eq_false_iff.mp hc4)] | skip);first | done | rfl)
            | (try simp only [Bool.not_eq_true',Bool.not_eq_false'] at *
               first
               | (simp only [resOf,rvcheckS, *,Bool.false_eq_true,↓reduceIte,Bool.true_or,Bool.or_true,Bool.false_or,Bool.or_false,Bool.true_and,Bool.and_true,Bool.false_and,Bool.and_false,Bool.not_true,Bool.not_false];done)
               | (simp [resOf,rvcheckS, *];done)
               | (simp_all [resOf,rvcheckS];done))
            | skip
    · skip
      refine Qst (AW.seq (AW.seq (AW.region (Qp Qf7 ?_))))
      refine Qp Qlt ?_
      refine Qp (P_neq_str rfl rfl) ?_
      refine AOL.nil (thenN (Qif (fun hc5=>?_) fun hc5=>?_))
      · skip
        refine AW.seq (AW.region (Qp Qai ?_))
        refine AOL.nil (thenN (Qrt (Qr (.int .i64 _) ?_)))
        rw [←rvcheck_eq]
        try simp only [str0,Bool.and_true] at *
        first
          | (simp only [resOf,rvcheckS];(first | rw [if_neg (Bool.eq_false_iff.mp hc1)] | skip);(first | rw [if_neg (Bool.eq_false_iff.mp hc2)] | skip);(first | rw [if_pos hc5] | skip);first | done | rfl)
          | (try simp only [Bool.not_eq_true',Bool.not_eq_false'] at *
             first
             | (simp only [resOf,rvcheckS, *,Bool.false_eq_true,↓reduceIte,Bool.true_or,Bool.or_true,Bool.false_or,Bool.or_false,Bool.true_and,Bool.and_true,Bool.false_and,Bool.and_false,Bool.not_true,Bool.not_false];done)
             | (simp [resOf,rvcheckS, *];done)
             | (simp_all [resOf,rvcheckS];done))
          | skip
      · skip
        refine Qst (AW.seq (AW.seq (AW.region (Qp Qf5 ?_))))
        refine Qp Qli ?_
        refine Qp Qceq ?_
        refine Qp Qmb ?_
        refine Qg [] Qw Qf6 ?_
        refine Qg [(28,_)] Qw Qli ?_
        refine Qg [(29,_)] Qw Qclt ?_
        refine Qg [(30,_)] Qw Qmb ?_
        refine Qg [] Qw Qf6 ?_
        refine Qg [(32,_)] Qw Qli ?_
        refine Qg [(33,_)] Qw Qcgt ?_
        refine Qg [(31,_),(34,_)] Qw Qpo ?_
        refine Qp Qpa ?_
        refine Qp Qmb ?_
        refine Qg [] Qw Qf6 ?_
        refine Qg [(38,_)] Qw Qli ?_
        refine Qg [(39,_)] Qw Qclt ?_
        refine Qp Qpo ?_
        refine Qp Qmb ?_
        refine Qg [] Qw Qf6 ?_
        refine Qg [(43,_)] Qw Qli ?_
        refine Qg [(44,_)] Qw Qcgt ?_
        refine Qp Qpo ?_
        refine AOL.nil (thenN (Qif (fun hc6=>?_) fun hc6=>?_))
        · skip
          refine AW.seq (AW.region (Qp Qai ?_))
          refine AOL.nil (thenN (Qrt (Qr (.int .i64 _) ?_)))
          rw [←rvcheck_eq]
          try simp only [str0,Bool.and_true] at *
          first
            | (simp only [resOf,rvcheckS];(first | rw [if_neg (Bool.eq_false_iff.mp hc1)] | skip);(first | rw [if_neg (Bool.eq_false_iff.mp hc2)] | skip);(first | rw [if_neg (Bool.eq_false_iff.mp hc5)] | skip);(first | rw [if_pos hc6] | skip);first | done | rfl)
            | (try simp only [Bool.not_eq_true',Bool.not_eq_false'] at *
               first
               | (simp only [resOf,rvcheckS, *,Bool.false_eq_true,↓reduceIte,Bool.true_or,Bool.or_true,Bool.false_or,Bool.or_false,Bool.true_and,Bool.and_true,Bool.false_and,Bool.and_false,Bool.not_true,Bool.not_false];done)
               | (simp [resOf,rvcheckS, *];done)
               | (simp_all [resOf,rvcheckS];done))
            | skip
        · skip
          refine Qst (AW.seq (AW.region (Qp Qai ?_)))
          refine AOL.nil (thenN (AW.ret (Qr (.int .i64 _) ?_)))
          rw [←rvcheck_eq]
          try simp only [str0,Bool.and_true] at *
          first
            | (simp only [resOf,rvcheckS];(first | rw [if_neg (Bool.eq_false_iff.mp hc1)] | skip);(first | rw [if_neg (Bool.eq_false_iff.mp hc2)] | skip);(first | rw [if_neg (Bool.eq_false_iff.mp hc5)] | skip);(first | rw [if_neg (Bool.eq_false_iff.mp hc6)] | skip);first | done | rfl)
            | (try simp only [Bool.not_eq_true',Bool.not_eq_false'] at *
               first
               | (simp only [resOf,rvcheckS, *,Bool.false_eq_true,↓reduceIte,Bool.true_or,Bool.or_true,Bool.false_or,Bool.or_false,Bool.true_and,Bool.and_true,Bool.false_and,Bool.and_false,Bool.not_true,Bool.not_false];done)
               | (simp [resOf,rvcheckS, *];done)
               | (simp_all [resOf,rvcheckS];done))
            | skip
theorem c101 (k:Int)(v:Vl):APure Tryz.prog 150 [.int .i64 k,.agg (cV v)] (.bool (rsuitsS k v)):=by
  refine APure.body (n:=20) tok Tryz.func150 rfl rfl rfl fun H=>?_
  refine AW.seq (AW.region (Qp (Qbx [.int .i64 _,.int .i64 _,.str _]) ?_))
  refine Qp Qab ?_
  refine AOL.nil (thenN (AW.seq (AW.region (Qp Qf5 ?_))))
  refine Qp Qli ?_
  refine Qp Qceq ?_
  refine Qp Qmb ?_
  refine Qg [] Qw Qmi ?_
  refine Qg [(9,_)] Qw Qceq ?_
  refine Qp Qpo ?_
  refine Qp Qmb ?_
  refine Qg [] Qw Qmi ?_
  refine Qg [(13,_)] Qw Qceq ?_
  refine Qp Qpo ?_
  refine Qp Qmb ?_
  refine Qg [] Qw Qmi ?_
  refine Qg [(17,_)] Qw Qceq ?_
  refine Qp Qpo ?_
  refine Qp Qab ?_
  refine AOL.nil (thenN (AW.ret (Qr (.bool _) ?_)))
  try simp only [str0,Bool.and_true] at *
  first
    | (simp only [resOf,rsuitsS];skip;first | done | rfl)
    | (try simp only [Bool.not_eq_true',Bool.not_eq_false'] at *
       first
       | (simp only [resOf,rsuitsS, *,Bool.false_eq_true,↓reduceIte,Bool.true_or,Bool.or_true,Bool.false_or,Bool.or_false,Bool.true_and,Bool.and_true,Bool.false_and,Bool.and_false,Bool.not_true,Bool.not_false];done)
       | (simp [resOf,rsuitsS, *];done)
       | (simp_all [resOf,rsuitsS];done))
    | skip
theorem c99 (k:Int)(v:Vl):APure Tryz.prog 148 [.int .i64 k,.agg (cV v)] (.bool (esuitsS k v)):=by
  refine APure.body (n:=16) tok Tryz.func148 rfl rfl rfl fun H=>?_
  refine AW.seq (AW.region (Qp (Qbx [.int .i64 _,.int .i64 _,.str _]) ?_))
  refine Qp Qab ?_
  refine AOL.nil (thenN (AW.seq (AW.region (Qp Qf5 ?_))))
  refine Qp Qli ?_
  refine Qp Qceq ?_
  refine Qp Qmb ?_
  refine Qg [] Qw Qmi ?_
  refine Qg [(9,_)] Qw Qceq ?_
  refine Qp Qpo ?_
  refine Qp Qmb ?_
  refine Qg [] Qw Qmi ?_
  refine Qg [(13,_)] Qw Qceq ?_
  refine Qp Qpo ?_
  refine Qp Qab ?_
  refine AOL.nil (thenN (AW.ret (Qr (.bool _) ?_)))
  try simp only [str0,Bool.and_true] at *
  first
    | (simp only [resOf,esuitsS];skip;first | done | rfl)
    | (try simp only [Bool.not_eq_true',Bool.not_eq_false'] at *
       first
       | (simp only [resOf,esuitsS, *,Bool.false_eq_true,↓reduceIte,Bool.true_or,Bool.or_true,Bool.false_or,Bool.or_false,Bool.true_and,Bool.and_true,Bool.false_and,Bool.and_false,Bool.not_true,Bool.not_false];done)
       | (simp [resOf,esuitsS, *];done)
       | (simp_all [resOf,esuitsS];done))
    | skip
end Go.Proofs.YtkddpedfbicbeaaGreatDoor
