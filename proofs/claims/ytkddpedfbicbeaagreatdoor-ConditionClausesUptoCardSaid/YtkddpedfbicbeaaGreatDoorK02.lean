/-
  Several texts in one: S12, S11b, W1. No condition.
-/
import Derived.Test.YtkddpedfbicbeaaGreatDoorK01
import Derived.Test.YtkddpedfbicbeaaGreatDoorTab
import Derived.KernelRfl
namespace Go.Proofs.YtkddpedfbicbeaaGreatDoor
open Go Go.Aw
set_option linter.unusedVariables false
set_option linter.unusedSimpArgs false

/-! ### Zones -/
structure Bd where
  x:Int
  y:Int
  most:Int
deriving DecidableEq
def bd0:Bd:=⟨0,0,0⟩
def cBd (b:Bd):List AV:=[.int .i64 b.x,.int .i64 b.y,.int .i64 b.most]
structure Zn where
  n:Int
  bs:List Bd
def zn0:Zn:=⟨0,[]⟩
def cZn (z:Zn):List AV:=[.int .i64 z.n,.sl 3 (z.bs.map cBd)]
def bdE (n:Int)(b:Bd):Int:=if decide (b.x < 0)||decide (n≤b.x)||decide (b.y < 0)||decide (n≤b.y)||decide (b.most < -1125899906842624)||decide (1125899906842624 < b.most) then 2 else 0
def zoneE (z:Zn):Int:=if decide (z.n < 1)||decide (64 < z.n) then 2 else if decide (256 < (z.bs.length:Int)) then 5 else firstS (bdE z.n) z.bs

/-! ### Least sums -/
/-- the sums, the last bounds, what was improved last -/
structure Ds where
  sums:List Int
  last:List Int
def ixI (l:List Int)(k:Int):Int:=(l[k.toNat]?).getD 0
def rlx1 (i:Nat)(b:Bd)(s:Ds×Int):Ds×Int:=
  if decide (ixI s.1.sums b.y+b.most < ixI s.1.sums b.x) then (⟨s.1.sums.set b.x.toNat (ixI s.1.sums b.y+b.most),s.1.last.set b.x.toNat (i:Int)⟩,b.x) else s
def rlxGo:Nat→List Bd→Ds×Int→Ds×Int
  | _,[],s=>s
  | i,b::r,s=>rlxGo (i+1) r (rlx1 i b s)
def rlxS (bs:List Bd)(d:Ds):Ds×Int:=rlxGo 0 bs (d,-1)
/-- so many rounds, or until nothing is improved: the state, and what was improved last or -1 -/
def roundsS (bs:List Bd):Nat→Ds×Int→Ds×Int
  | 0,s=>s
  | n+1,s=>if decide ((rlxS bs s.1).2 < 0) then rlxS bs s.1 else roundsS bs n (rlxS bs s.1)
def predS (bs:List Bd)(d:Ds)(at_:Int):Int:=((bs[(ixI d.last at_).toNat]?).getD bd0).y
def backN (bs:List Bd)(d:Ds):Nat→Int→Int
  | 0,a=>a
  | n+1,a=>backN bs d n (predS bs d a)
/-- the last bounds from an unknown backwards, until it comes again (at most so many) -/
def cycGo (bs:List Bd)(d:Ds)(from_:Int):Nat→Int→List Int
  | 0,_=>[]
  | n+1,a=>ixI d.last a::if predS bs d a == from_ then [] else cycGo bs d from_ n (predS bs d a)
def start (z:Zn):Ds:=⟨List.replicate z.n.toNat 0,List.replicate z.n.toNat (-1)⟩
def endS (z:Zn):Ds×Int:=roundsS z.bs (z.n.toNat+1) (start z,-1)
def solveD (z:Zn):List Int×List Int:=
  if decide ((endS z).2 < 0) then ((endS z).1.sums,[])
  else ([],cycGo z.bs (endS z).1 (backN z.bs (endS z).1 z.n.toNat (endS z).2) (z.n.toNat+1) (backN z.bs (endS z).1 z.n.toNat (endS z).2))
/-- Solve: whether there is a model, the model, the contradiction, the error -/
structure So where
  ok:Bool
  values:List Int
  cycle:List Int
  err:Int
def SolveD (z:Zn):So:=
  if zoneE z != 0 then ⟨false,[],[],zoneE z⟩
  else if decide ((endS z).2 < 0) then ⟨true,(endS z).1.sums.map (fun v=>v - ixI (endS z).1.sums 0),[],0⟩
  else ⟨false,[],(solveD z).2,0⟩

/-! ### The zone of a clause -/
section
variable (T:List Sc) (V:List Va)
def clauseE (l:List Lit):Int:=
  if (KindS T V (truthE true)).2 != 0 then (KindS T V (truthE true)).2
  else if decide (256 < (l.length:Int)) then 5
  else firstS (fun c=>if condE T V c.cond != 0 then condE T V c.cond else if composedS T V c.cond||(c.neg&&(c.cond.op == 9&&kindR T V (arg0 c.cond) == 0)) then 3 else 0) l
def numericS (l:Lit):Gp×Bool:=
  if l.cond.op == 1 then (⟨[tmOf l.cond],[],0⟩,true)
  else if !comparesS l.cond||textsS T V l.cond then (gp0,false)
  else betweenS (arg0 l.cond) (arg1 l.cond)
/-- the number of a term: 0 for none -/
def addTm (ts:List Tm)(l:List Tm):List Tm:=match l with | []=>ts | t::_=>if ts.contains t then ts else ts++[t]
def numTm (ts:List Tm)(l:List Tm):Int:=match l with | []=>0 | t::_=>((ts.idxOf t:Nat):Int)+1
def limitsS (t:Tm):Int×Int:=if t.op == 2 then (0,1099511627776) else if kindR T V (tmE t) == 1 then (0,1) else (-1099511627776,1099511627776)
def boundsS (c:Lit)(x z rest:Int):List Bd:=
  if (c.cond.op == 1&&c.neg)||(c.cond.op == 8 && !c.neg) then [⟨x,z,0 - rest⟩]
  else if c.cond.op == 1||c.cond.op == 8 then [⟨z,x,rest - 1⟩]
  else if c.cond.op == 7 && !c.neg then [⟨x,z,0 - rest - 1⟩]
  else if c.cond.op == 7 then [⟨z,x,rest⟩]
  else [⟨x,z,0 - rest⟩,⟨z,x,rest⟩]
/-- the unknowns and the bounds so far -/
structure Sy where
  ts:List Tm
  bs:List Bd
def sysStep (s:Sy)(c:Lit):Sy:=
  if !(numericS T V c).2 then s
  else ⟨addTm (addTm s.ts (numericS T V c).1.plus) (numericS T V c).1.minus,
    s.bs++boundsS c (numTm (addTm s.ts (numericS T V c).1.plus) (numericS T V c).1.plus) (numTm (addTm (addTm s.ts (numericS T V c).1.plus) (numericS T V c).1.minus) (numericS T V c).1.minus) (numericS T V c).1.rest⟩
def sysGo (l:List Lit):Sy:=l.foldl (sysStep T V) ⟨[],[]⟩
def limGo:Nat→List Tm→List Bd
  | _,[]=>[]
  | i,t::r=>⟨(i:Int)+1,0,(limitsS T V t).2⟩::⟨0,(i:Int)+1,0 - (limitsS T V t).1⟩::limGo (i+1) r
def zoneOf (s:Sy):Zn:=⟨(s.ts.length:Int)+1,limGo T V 0 s.ts++s.bs⟩
def zoneS (l:List Lit):Zn:=zoneOf T V (sysGo T V l)
def fitsS (z:Zn):Bool:=decide (z.n≤64)&&decide ((z.bs.length:Int)≤256)
structure Zr where
  zone:Zn
  terms:List Ex
  err:Int
def ZoneS (l:List Lit):Zr:=
  if clauseE T V l != 0 then ⟨zn0,[],clauseE T V l⟩
  else if !fitsS (zoneS T V l) then ⟨zn0,[],17⟩ else ⟨zoneS T V l,(sysGo T V l).ts.map tmE,0⟩

/-! ### Strings -/
structure Wd where
  const:Bool
  text:List UInt8
  field:Tm
deriving DecidableEq
end
def tm0:Tm:=⟨0,0,0⟩
def cWd (w:Wd):List AV:=[.bool w.const,.str w.text,.int .i64 w.field.op,.int .i64 w.field.v,.int .i64 w.field.field]
def asWd (e:Ex):Wd:=if e.op == 0 then ⟨true,e.val.text,tm0⟩ else ⟨false,[],tmOf e⟩
abbrev Wm:=List (Wd×Wd)
def wget (w:Wm)(x:Wd):Option Wd:=(w.find? fun p=>p.1=x).map (·.2)
def ofGo (w:Wm):Nat→Wd→Wd
  | 0,x=>x
  | n+1,x=>match wget w x with | some y=>ofGo w n y | none=>x
def ofS' (w:Wm)(x:Wd):Wd:=ofGo w w.length x
section
variable (T:List Sc) (V:List Va)
def stringy (sign:Bool)(c:Lit):Bool:=c.neg != sign&&(textsS T V c.cond&&simpleS T V c.cond)
def eqStep (w:Wm)(c:Lit):Wm×Bool:=
  let a:=ofS' w (asWd (arg0 c.cond));let b:=ofS' w (asWd (arg1 c.cond))
  if a=b then (w,true) else if a.const&&b.const then (w,false) else if a.const then (w++[(b,a)],true) else (w++[(a,b)],true)
def eqGo:List Lit→Wm→Wm×Bool
  | [],w=>(w,true)
  | c::r,w=>if !stringy T V true c then eqGo r w else if !(eqStep w c).2 then ((eqStep w c).1,false) else eqGo r (eqStep w c).1
def neGo (w:Wm):List Lit→Bool
  | []=>true
  | c::r=>if !stringy T V false c then neGo w r else if ofS' w (asWd (arg0 c.cond))=ofS' w (asWd (arg1 c.cond)) then false else neGo w r
def stringsS (l:List Lit):Wm×Bool:=((eqGo T V l []).1,(eqGo T V l []).2&&neGo T V (eqGo T V l []).1 l)
end
end Go.Proofs.YtkddpedfbicbeaaGreatDoor

namespace Go.Proofs.YtkddpedfbicbeaaGreatDoor
open Go Go.Aw
set_option linter.unusedVariables false
set_option linter.unusedSimpArgs false

theorem ifF {α:Type}{b:Bool}{x y:α}(h:b=false):(if b=true then x else y)=y:=if_neg (by rw [h];decide)
theorem hd0_map {α:Type}(f:Ex→α)(d:α){e:Ex}(h:0 < e.args.length):hd0 d (e.args.map f)=f (arg0 e):=by
  unfold hd0 arg0
  cases ha:e.args with
  | nil=>rw [ha] at h;cases h
  | cons a r=>rfl
theorem hd1_map {α:Type}(f:Ex→α)(d:α){e:Ex}(h:1 < e.args.length):hd1 d (e.args.map f)=f (arg1 e):=by
  unfold hd1 arg1
  rw [List.getElem?_map,List.getElem?_eq_getElem h];rfl
theorem len_two' {e:Ex}(h:nodeS e=0)(ho:5≤e.op∧e.op≤11):1 < e.args.length:=by
  obtain ⟨_,_,h3⟩:=node_shape h
  have:arityS e.op=2:=by
    unfold arityS
    rw [if_neg (by omega),if_neg (by omega),if_neg (by omega)]
  omega
theorem leaf_nil {e:Ex}(h:nodeS e=0)(ho:e.op < 5):e.args=[]:=by
  obtain ⟨h1,_,h3⟩:=node_shape h
  have:arityS e.op=0:=by
    unfold arityS
    rw [if_neg (by omega),if_pos (by omega)]
  exact List.length_eq_zero_iff.1 (by omega)
theorem two_cells (op:Int)(x y:Ex):cE (two op x y)=[.int .i64 op,.sl 8 [cE x,cE y],.int .i64 0,.int .i64 0,.int .i64 0,.int .i64 0,.int .i64 0,.str []]:=by
  show [AV.int .i64 op,.sl 8 [encE x,encE y],.int .i64 0,.int .i64 0,.int .i64 0,.int .i64 0,.int .i64 0,.str []]=_
  rw [encE_eq,encE_eq]
theorem not_cells (x:Ex):cE (notE x)=[.int .i64 12,.sl 8 [cE x],.int .i64 0,.int .i64 0,.int .i64 0,.int .i64 0,.int .i64 0,.str []]:=by
  show [AV.int .i64 12,.sl 8 [encE x],.int .i64 0,.int .i64 0,.int .i64 0,.int .i64 0,.int .i64 0,.str []]=_
  rw [encE_eq]
/-! the reference's -/
def rreadE (e:Ex)(ev:Ev):Ex×Int:=if e.op == 1&&decide ((ev.values.length:Int)≤e.field) then (e,6) else (constE (readE e ev).1,(readE e ev).2)
def rknownN (vars:List (List Ev))(e:Ex)(ks:List (Ex×Int)):Ex×Int:=
  if e.op == 1||e.op == 2 then
    (if ((eventsS vars e.var).length:Int) == 0 then (e,0) else rreadE e ((eventsS vars e.var).getLast?.getD ev0))
  else match (okL ks).2 with
    | some p=>(e,p.2)
    | none=>(⟨e.op,(okL ks).1,e.var,e.field,e.kind,e.val⟩,0)
def rknownE (vars:List (List Ev)):Ex→Ex×Int:=recE (rknownN vars)
theorem size0 {e:Ex}(h:0 < e.args.length):sizeN (arg0 e) < sizeN e:=size_arg (arg0_mem h)
theorem check_nodes' {e:Ex}(h:(checkS e != 0)=false):nodesS e=0:=by
  have h0:checkS e=0:=by simpa using h
  unfold checkS at h0
  split at h0
  · cases h0
  · split at h0
    · cases h0
    · exact h0
end Go.Proofs.YtkddpedfbicbeaaGreatDoor

namespace Go.Proofs.YtkddpedfbicbeaaGreatDoor
open Go Go.Aw
set_option maxHeartbeats 400000
set_option maxRecDepth 20000
set_option linter.unusedVariables false
set_option linter.unusedSimpArgs false

theorem c52 (op:Int):APure Tryz.prog 109 [.int .i64 op] (.tuple [.bool (usesS op).1,.bool (usesS op).2]):=by
 refine APure.body (n:=11) tok Tryz.func109 rfl rfl rfl fun H=>?_
 refine Qsr (Qp Qab ?_)
 refine Qp Qab ?_
 refine Qnn (AW.seq (Qsr (Qp Qmi ?_)))
 refine Qnn (AW.block (AW.seq (Qsr (Qp Qceq ?_))))
 refine Qp Qab ?_
 refine Qnn (Qif (fun hc1=>?_) fun hc1=>?_)
 ·
  refine Qst (Qif (fun hc2=>?_) fun hc2=>?_)
  ·
   refine Qsr (Qp Qab ?_)
   refine Qp Qab ?_
   refine Qnn (AW.ret (blkR (thenR (Qrr (.bool _) (.bool _) ?_))))
   simp_all [resOf,usesS]
  ·
   refine AW.seq (Qsr (Qp Qceq ?_))
   refine Qp Qab ?_
   refine Qnn (Qif (fun hc3=>?_) fun hc3=>?_)
   ·
    refine Qst (Qif (fun hc4=>?_) fun hc4=>?_)
    ·
     refine Qsr (Qp Qab ?_)
     refine Qp Qab ?_
     refine Qnn (AW.ret (blkR (thenR (Qrr (.bool _) (.bool _) ?_))))
     simp_all [resOf,usesS]
    ·
     refine AW.skip (blkN (thenN (Qsr (Qp Qab ?_))))
     refine Qp Qab ?_
     refine Qnn (AW.ret (Qrr (.bool _) (.bool _) ?_))
     simp_all [resOf,usesS]
   ·
    refine AW.region (Qp Qceq ?_)
    refine Qp Qab ?_
    refine Qnn (Qif (fun hc5=>?_) fun hc5=>?_)
    ·
     refine Qsr (Qp Qab ?_)
     refine Qp Qab ?_
     refine Qnn (AW.ret (blkR (thenR (Qrr (.bool _) (.bool _) ?_))))
     simp_all [resOf,usesS]
    ·
     refine AW.skip (blkN (thenN (Qsr (Qp Qab ?_))))
     refine Qp Qab ?_
     refine Qnn (AW.ret (Qrr (.bool _) (.bool _) ?_))
     simp_all [resOf,usesS]
 ·
  refine AW.region (Qp Qceq ?_)
  refine Qp Qab ?_
  refine Qnn (Qif (fun hc6=>?_) fun hc6=>?_)
  ·
   refine Qsr (Qp Qab ?_)
   refine Qp Qab ?_
   refine Qnn (AW.ret (blkR (thenR (Qrr (.bool _) (.bool _) ?_))))
   simp_all [resOf,usesS]
  ·
   refine AW.seq (Qsr (Qp Qceq ?_))
   refine Qp Qab ?_
   refine Qnn (Qif (fun hc7=>?_) fun hc7=>?_)
   ·
    refine Qst (Qif (fun hc8=>?_) fun hc8=>?_)
    ·
     refine Qsr (Qp Qab ?_)
     refine Qp Qab ?_
     refine Qnn (AW.ret (blkR (thenR (Qrr (.bool _) (.bool _) ?_))))
     simp_all [resOf,usesS]
    ·
     refine AW.skip (blkN (thenN (Qsr (Qp Qab ?_))))
     refine Qp Qab ?_
     refine Qnn (AW.ret (Qrr (.bool _) (.bool _) ?_))
     simp_all [resOf,usesS]
   ·
    refine AW.region (Qp Qceq ?_)
    refine Qp Qab ?_
    refine Qnn (Qif (fun hc9=>?_) fun hc9=>?_)
    ·
     refine Qsr (Qp Qab ?_)
     refine Qp Qab ?_
     refine Qnn (AW.ret (blkR (thenR (Qrr (.bool _) (.bool _) ?_))))
     simp_all [resOf,usesS]
    ·
     refine AW.skip (blkN (thenN (Qsr (Qp Qab ?_))))
     refine Qp Qab ?_
     refine Qnn (AW.ret (Qrr (.bool _) (.bool _) ?_))
     simp_all [resOf,usesS]
theorem c84 (op:Int):APure Tryz.prog 160 [.int .i64 op] (.tuple [.bool (usesS op).1,.bool (usesS op).2]):=by
 refine APure.body (n:=21) tok Tryz.func160 rfl rfl rfl fun H=>?_
 refine Qsr (Qp Qab ?_)
 refine Qp Qab ?_
 refine Qns (Qp Qmi ?_)
 refine Qp Qceq ?_
 refine Qp Qmb ?_
 refine Qg [] Qw Qmi ?_
 refine Qg [(8,_)] Qw Qceq ?_
 refine Qp Qpo ?_
 refine Qp Qab ?_
 refine Qns (Qp Qmb ?_)
 refine Qp Qmb ?_
 refine Qg [] Qw Qmi ?_
 refine Qg [(13,_)] Qw Qceq ?_
 refine Qp Qpo ?_
 refine Qp Qmb ?_
 refine Qg [] Qw Qmi ?_
 refine Qg [(17,_)] Qw Qceq ?_
 refine Qp Qpo ?_
 refine Qp Qmb ?_
 refine Qp Qab ?_
 refine Qp Qab ?_
 refine Qnn (AW.ret (Qrr (.bool _) (.bool _) ?_))
 by_cases h1:op=1 <;> by_cases h2:op=2 <;> by_cases h3:op=3 <;> by_cases h4:op=4 <;> simp_all [usesS,resOf]
theorem c81 (op:Int):APure Tryz.prog 108 [.int .i64 op] (.tuple [.int .i64 (arityS op),.bool (decide (0≤op∧op≤12))]):=by
 refine APure.body (n:=17) tok Tryz.func108 rfl rfl rfl fun H=>?_
 refine Qsr (Qp Qai ?_)
 refine Qp Qab ?_
 refine Qnn (AW.seq (AW.block (Qsr (Qp Qmi ?_))))
 refine Qp Qclt ?_
 refine Qp Qmb ?_
 refine Qg [] Qw Qmi ?_
 refine Qg [(8,_)] Qw Qcgt ?_
 refine Qp Qpo ?_
 refine Qp Qab ?_
 refine Qnn (Qif (fun hc1=>?_) fun hc1=>?_)
 ·
  refine Qsr (Qp Qai ?_)
  refine Qp Qab ?_
  refine Qnn (AW.ret (blkR (thenR (Qrr (.int .i64 _) (.bool _) ?_))))
  simp only [Bool.or_eq_true,Bool.or_eq_false_iff,decide_eq_true_eq,decide_eq_false_iff_not,beq_iff_eq,beq_eq_false_iff_ne] at *
  simp only [resOf,arityS,AV.tuple.injEq,List.cons.injEq,AV.int.injEq,AV.bool.injEq,true_and,and_true]
  refine ⟨?_,?_⟩
  ·
   repeat' split
   all_goals omega
  · simp <;> omega
 ·
  refine Qsr (Qp Qmi ?_)
  refine Qp Qclt ?_
  refine Qp Qab ?_
  refine Qnn (Qif (fun hc2=>?_) fun hc2=>?_)
  ·
   refine Qsr (Qp Qai ?_)
   refine Qp Qab ?_
   refine Qnn (AW.ret (blkR (thenR (Qrr (.int .i64 _) (.bool _) ?_))))
   simp only [Bool.or_eq_true,Bool.or_eq_false_iff,decide_eq_true_eq,decide_eq_false_iff_not,beq_iff_eq,beq_eq_false_iff_ne] at *
   simp only [resOf,arityS,AV.tuple.injEq,List.cons.injEq,AV.int.injEq,AV.bool.injEq,true_and,and_true]
   refine ⟨?_,?_⟩
   ·
    repeat' split
    all_goals omega
   · simp <;> omega
  ·
   refine Qsr (Qp Qmi ?_)
   refine Qp Qceq ?_
   refine Qp Qab ?_
   refine Qnn (Qif (fun hc3=>?_) fun hc3=>?_)
   ·
    refine Qsr (Qp Qai ?_)
    refine Qp Qab ?_
    refine Qnn (AW.ret (blkR (thenR (Qrr (.int .i64 _) (.bool _) ?_))))
    simp only [Bool.or_eq_true,Bool.or_eq_false_iff,decide_eq_true_eq,decide_eq_false_iff_not,beq_iff_eq,beq_eq_false_iff_ne] at *
    simp only [resOf,arityS,AV.tuple.injEq,List.cons.injEq,AV.int.injEq,AV.bool.injEq,true_and,and_true]
    refine ⟨?_,?_⟩
    ·
     repeat' split
     all_goals omega
    · simp <;> omega
   ·
    refine AW.skip (blkN (thenN (Qsr (Qp Qai ?_))))
    refine Qp Qab ?_
    refine Qnn (AW.ret (Qrr (.int .i64 _) (.bool _) ?_))
    simp only [Bool.or_eq_true,Bool.or_eq_false_iff,decide_eq_true_eq,decide_eq_false_iff_not,beq_iff_eq,beq_eq_false_iff_ne] at *
    simp only [resOf,arityS,AV.tuple.injEq,List.cons.injEq,AV.int.injEq,AV.bool.injEq,true_and,and_true]
    refine ⟨?_,?_⟩
    ·
     repeat' split
     all_goals omega
    · simp <;> omega
theorem c100 (op:Int):APure Tryz.prog 159 [.int .i64 op] (.int .i64 (if 0≤op∧op≤12 then arityS op else -1)):=by
 refine APure.body (n:=20) tok Tryz.func159 rfl rfl rfl fun H=>?_
 refine Qsr (Qp Qai ?_)
 refine Qnn (AW.seq (Qsr (Qp Qmi ?_)))
 refine Qnn (AW.block ?_)
 refine AW.cut (fun (_:Unit)=>(⟨[(0,.int .i64 op),(3,.int .i64 op),(4,.bool (op == 0||op == 1||op == 2||op == 3||op == 4))],H,20⟩:St)) (fun (_:Unit)=>True) ?_ ?_
 ·
  refine Qsr (Qp Qceq ?_)
  refine Qp Qab ?_
  refine Qnn (Qif (fun hc1=>?_) fun hc1=>?_)
  ·
   refine Qst ?_
   refine ⟨(),?_,GS.weaken ⟨rfl,rfl,congrArg AV.bool (by simp [*]),trivial⟩ (.refl _)⟩
   trivial
  ·
   refine Qsr (Qp Qceq ?_)
   refine Qp Qab ?_
   refine Qnn (Qif (fun hc2=>?_) fun hc2=>?_)
   ·
    refine Qst ?_
    refine ⟨(),?_,GS.weaken ⟨rfl,rfl,congrArg AV.bool (by simp [*]),trivial⟩ (.refl _)⟩
    trivial
   ·
    refine Qsr (Qp Qceq ?_)
    refine Qp Qab ?_
    refine Qnn (Qif (fun hc3=>?_) fun hc3=>?_)
    ·
     refine Qst ?_
     refine ⟨(),?_,GS.weaken ⟨rfl,rfl,congrArg AV.bool (by simp [*]),trivial⟩ (.refl _)⟩
     trivial
    ·
     refine Qsr (Qp Qceq ?_)
     refine Qp Qab ?_
     refine Qnn (Qif (fun hc4=>?_) fun hc4=>?_)
     ·
      refine Qst ?_
      refine ⟨(),?_,GS.weaken ⟨rfl,rfl,congrArg AV.bool (by simp [*]),trivial⟩ (.refl _)⟩
      trivial
     ·
      refine AW.region (Qp Qceq ?_)
      refine Qp Qab ?_
      refine Qnn ?_
      refine ⟨(),?_,GS.weaken ⟨rfl,rfl,congrArg AV.bool (by simp [*]),trivial⟩ (.refl _)⟩
      trivial
 ·
  rintro _ _
  refine Qif (fun hc5=>?_) fun hc5=>?_
  ·
   refine Qsr (Qp Qai ?_)
   refine Qnn (AW.ret (blkR (thenR (Qr (.int .i64 _) ?_))))
   simp only [Bool.or_eq_true,Bool.or_eq_false_iff,beq_iff_eq,beq_eq_false_iff_ne] at *
   simp only [resOf,arityS,AV.int.injEq,true_and]
   repeat' split
   all_goals omega
  ·
   refine Qsr (Qp Qceq ?_)
   refine Qp Qab ?_
   refine Qnn (Qif (fun hc6=>?_) fun hc6=>?_)
   ·
    refine Qsr (Qp Qai ?_)
    refine Qnn (AW.ret (blkR (thenR (Qr (.int .i64 _) ?_))))
    simp only [Bool.or_eq_true,Bool.or_eq_false_iff,beq_iff_eq,beq_eq_false_iff_ne] at *
    simp only [resOf,arityS,AV.int.injEq,true_and]
    repeat' split
    all_goals omega
   ·
    refine AW.cut (fun (_:Unit)=>(⟨[(12,.bool (op == 5||op == 6||op == 7||op == 8||op == 9||op == 10||op == 11))],H,20⟩:St)) (fun (_:Unit)=>True) ?_ ?_
    ·
     refine Qsr (Qp Qceq ?_)
     refine Qp Qab ?_
     refine Qnn (Qif (fun hc7=>?_) fun hc7=>?_)
     ·
      refine Qst ?_
      refine ⟨(),?_,GS.weaken ⟨congrArg AV.bool (by simp [*]),trivial⟩ (.refl _)⟩
      trivial
     ·
      refine Qsr (Qp Qceq ?_)
      refine Qp Qab ?_
      refine Qnn (Qif (fun hc8=>?_) fun hc8=>?_)
      ·
       refine Qst ?_
       refine ⟨(),?_,GS.weaken ⟨congrArg AV.bool (by simp [*]),trivial⟩ (.refl _)⟩
       trivial
      ·
       refine Qsr (Qp Qceq ?_)
       refine Qp Qab ?_
       refine Qnn (Qif (fun hc9=>?_) fun hc9=>?_)
       ·
        refine Qst ?_
        refine ⟨(),?_,GS.weaken ⟨congrArg AV.bool (by simp [*]),trivial⟩ (.refl _)⟩
        trivial
       ·
        refine Qsr (Qp Qceq ?_)
        refine Qp Qab ?_
        refine Qnn (Qif (fun hc10=>?_) fun hc10=>?_)
        ·
         refine Qst ?_
         refine ⟨(),?_,GS.weaken ⟨congrArg AV.bool (by simp [*]),trivial⟩ (.refl _)⟩
         trivial
        ·
         refine Qsr (Qp Qceq ?_)
         refine Qp Qab ?_
         refine Qnn (Qif (fun hc11=>?_) fun hc11=>?_)
         ·
          refine Qst ?_
          refine ⟨(),?_,GS.weaken ⟨congrArg AV.bool (by simp [*]),trivial⟩ (.refl _)⟩
          trivial
         ·
          refine Qsr (Qp Qceq ?_)
          refine Qp Qab ?_
          refine Qnn (Qif (fun hc12=>?_) fun hc12=>?_)
          ·
           refine Qst ?_
           refine ⟨(),?_,GS.weaken ⟨congrArg AV.bool (by simp [*]),trivial⟩ (.refl _)⟩
           trivial
          ·
           refine AW.region (Qp Qceq ?_)
           refine Qp Qab ?_
           refine Qnn ?_
           refine ⟨(),?_,GS.weaken ⟨congrArg AV.bool (by simp [*]),trivial⟩ (.refl _)⟩
           trivial
    ·
     rintro _ _
     refine Qif (fun hc13=>?_) fun hc13=>?_
     ·
      refine Qsr (Qp Qai ?_)
      refine Qnn (AW.ret (blkR (thenR (Qr (.int .i64 _) ?_))))
      simp only [Bool.or_eq_true,Bool.or_eq_false_iff,beq_iff_eq,beq_eq_false_iff_ne] at *
      simp only [resOf,arityS,AV.int.injEq,true_and]
      repeat' split
      all_goals omega
     ·
      refine AW.skip (blkN (thenN (Qsr (Qp Qai ?_))))
      refine Qnn (AW.ret (Qr (.int .i64 _) ?_))
      simp only [Bool.or_eq_true,Bool.or_eq_false_iff,beq_iff_eq,beq_eq_false_iff_ne] at *
      simp only [resOf,arityS,AV.int.injEq,true_and]
      repeat' split
      all_goals omega
theorem c107 (v:Vl):APure Tryz.prog 161 [.agg (cV v)] (.int .i64 (vsizeS v)):=by
  refine APure.body (n:=36) tok Tryz.func161 rfl rfl rfl fun H=>?_
  refine AW.seq (AW.region (Qp (Qbx [.int .i64 _,.int .i64 _,.str _]) ?_))
  refine Qp Qai ?_
  refine AOL.nil (thenN (AW.seq (AW.block (AW.seq (AW.region (Qp Qf5 ?_))))))
  refine Qp Qli ?_
  refine Qp Qceq ?_
  refine Qp Qmb ?_
  refine Qg [] Qw Qf6 ?_
  refine Qg [(8,_)] Qw Qli ?_
  refine Qg [(9,_)] Qw Qclt ?_
  refine Qg [(10,_)] Qw Qmb ?_
  refine Qg [] Qw Qf6 ?_
  refine Qg [(12,_)] Qw Qli ?_
  refine Qg [(13,_)] Qw Qcgt ?_
  refine Qg [(11,_),(14,_)] Qw Qpo ?_
  refine Qp Qpa ?_
  refine Qp Qab ?_
  refine AOL.nil (thenN (Qif (fun hc1=>?_) fun hc1=>?_))
  · skip
    refine AW.seq (AW.region (Qp Qai ?_))
    refine AOL.nil (thenN (AW.ret (blkR (thenR (Qr (.int .i64 _) ?_)))))
    try simp only [str0,Bool.and_true] at *
    first
      | (simp only [resOf,vsizeS];(first | rw [if_pos hc1] | skip);first | done | rfl)
      | (try simp only [Bool.not_eq_true',Bool.not_eq_false'] at *
         first
         | (simp only [resOf,vsizeS, *,Bool.false_eq_true,↓reduceIte,Bool.true_or,Bool.or_true,Bool.false_or,Bool.or_false,Bool.true_and,Bool.and_true,Bool.false_and,Bool.and_false,Bool.not_true,Bool.not_false];done)
         | (simp [resOf,vsizeS, *];done)
         | (simp_all [resOf,vsizeS];done))
      | skip
  · skip
    refine AW.seq (AW.region (Qp Qf5 ?_))
    refine Qp Qli ?_
    refine Qp Qceq ?_
    refine Qp Qmb ?_
    refine Qg [] Qw Qf6 ?_
    refine Qg [(22,_)] Qw Qli ?_
    refine Qg [(23,_)] Qw Qcne ?_
    refine Qp Qpa ?_
    refine Qp Qmb ?_
    refine Qg [] Qw Qf6 ?_
    refine Qg [(27,_)] Qw Qli ?_
    refine Qg [(28,_)] Qw Qcne ?_
    refine Qp Qpa ?_
    refine Qp Qab ?_
    refine AOL.nil (thenN (Qif (fun hc2=>?_) fun hc2=>?_))
    · skip
      refine AW.seq (AW.region (Qp Qai ?_))
      refine AOL.nil (thenN (AW.ret (blkR (thenR (Qr (.int .i64 _) ?_)))))
      try simp only [str0,Bool.and_true] at *
      first
        | (simp only [resOf,vsizeS];(first | rw [if_neg (Bool.eq_false_iff.mp hc1)] | skip);(first | rw [if_pos hc2] | skip);first | done | rfl)
        | (try simp only [Bool.not_eq_true',Bool.not_eq_false'] at *
           first
           | (simp only [resOf,vsizeS, *,Bool.false_eq_true,↓reduceIte,Bool.true_or,Bool.or_true,Bool.false_or,Bool.or_false,Bool.true_and,Bool.and_true,Bool.false_and,Bool.and_false,Bool.not_true,Bool.not_false];done)
           | (simp [resOf,vsizeS, *];done)
           | (simp_all [resOf,vsizeS];done))
        | skip
    · skip
      refine AW.seq (AW.region (Qp Qf7 ?_))
      refine Qp Qlt ?_
      refine Qp (P_len_str tok rfl rfl rfl rfl) ?_
      refine Qp Qcgt ?_
      refine Qp Qab ?_
      refine AOL.nil (thenN (Qif (fun hc3=>?_) fun hc3=>?_))
      · skip
        refine AW.seq (AW.region (Qp Qai ?_))
        refine AOL.nil (thenN (AW.ret (blkR (thenR (Qr (.int .i64 _) ?_)))))
        try simp only [str0,Bool.and_true] at *
        first
          | (simp only [resOf,vsizeS];(first | rw [if_neg (Bool.eq_false_iff.mp hc1)] | skip);(first | rw [if_neg (Bool.eq_false_iff.mp hc2)] | skip);(first | rw [if_pos hc3] | skip);first | done | rfl)
          | (try simp only [Bool.not_eq_true',Bool.not_eq_false'] at *
             first
             | (simp only [resOf,vsizeS, *,Bool.false_eq_true,↓reduceIte,Bool.true_or,Bool.or_true,Bool.false_or,Bool.or_false,Bool.true_and,Bool.and_true,Bool.false_and,Bool.and_false,Bool.not_true,Bool.not_false];done)
             | (simp [resOf,vsizeS, *];done)
             | (simp_all [resOf,vsizeS];done))
          | skip
      · skip
        refine AW.skip (blkN (thenN (AW.seq (AW.region (Qp Qai ?_)))))
        refine AOL.nil (thenN (AW.ret (Qr (.int .i64 _) ?_)))
        try simp only [str0,Bool.and_true] at *
        first
          | (simp only [resOf,vsizeS];(first | rw [if_neg (Bool.eq_false_iff.mp hc1)] | skip);(first | rw [if_neg (Bool.eq_false_iff.mp hc2)] | skip);(first | rw [if_neg (Bool.eq_false_iff.mp hc3)] | skip);first | done | rfl)
          | (try simp only [Bool.not_eq_true',Bool.not_eq_false'] at *
             first
             | (simp only [resOf,vsizeS, *,Bool.false_eq_true,↓reduceIte,Bool.true_or,Bool.or_true,Bool.false_or,Bool.or_false,Bool.true_and,Bool.and_true,Bool.false_and,Bool.and_false,Bool.not_true,Bool.not_false];done)
             | (simp [resOf,vsizeS, *];done)
             | (simp_all [resOf,vsizeS];done))
          | skip
theorem c94 (v:Vl):APure Tryz.prog 143 [.agg (cV v)] (.int .i64 (vcheckS v)):=by
  refine APure.body (n:=18) tok Tryz.func143 rfl rfl rfl fun H=>?_
  refine AW.seq (AW.region (Qp (Qbx [.int .i64 _,.int .i64 _,.str _]) ?_))
  refine Qp Qai ?_
  refine AOL.nil (thenN (AW.seq (AW.seq (AW.region (Qp Qf5 ?_)))))
  refine Qp Qli ?_
  refine AOL.nil (thenN (AW.block (AW.seq (AW.seq (AW.region (Qp Qceq ?_))))))
  refine Qp Qab ?_
  refine AOL.nil (thenN (Qif (fun hc1=>?_) fun hc1=>?_))
  · skip
    refine Qst (Qif (fun hc2=>?_) fun hc2=>?_)
    · skip
      refine AW.seq (AW.region (Qp Qf7 ?_))
      refine Qp Qlt ?_
      refine Qp (P_neq_str rfl rfl) ?_
      refine AOL.nil (thenN (Qif (fun hc3=>?_) fun hc3=>?_))
      · skip
        refine AW.seq (AW.region (Qp Qai ?_))
        refine AOL.nil (thenN (AW.ret (blkR (thenR (Qr (.int .i64 _) ?_)))))
        try simp only [str0,Bool.and_true] at *
        first
          | (simp only [resOf,vcheckS];(first | rw [if_pos hc1] | skip);(first | rw [if_pos hc2] | skip);(first | rw [if_pos hc3] | skip);first | done | rfl)
          | (try simp only [Bool.not_eq_true',Bool.not_eq_false'] at *
             first
             | (simp only [resOf,vcheckS, *,Bool.false_eq_true,↓reduceIte,Bool.true_or,Bool.or_true,Bool.false_or,Bool.or_false,Bool.true_and,Bool.and_true,Bool.false_and,Bool.and_false,Bool.not_true,Bool.not_false];done)
             | (simp [resOf,vcheckS, *];done)
             | (simp_all [resOf,vcheckS];done))
          | skip
      · skip
        refine AW.skip (blkN (thenN (AW.seq (AW.region (Qp (Qlg [.int .i64 _,.int .i64 _,.str _]) ?_)))))
        refine Qp (Qc rfl (c107 v)) ?_
        refine Qp Qai ?_
        refine AOL.nil (thenN (AW.ret (Qr (.int .i64 _) ?_)))
        try simp only [str0,Bool.and_true] at *
        first
          | (simp only [resOf,vcheckS];(first | rw [if_pos hc1] | skip);(first | rw [if_pos hc2] | skip);(first | rw [if_neg (Bool.eq_false_iff.mp hc3)] | skip);first | done | rfl)
          | (try simp only [Bool.not_eq_true',Bool.not_eq_false'] at *
             first
             | (simp only [resOf,vcheckS, *,Bool.false_eq_true,↓reduceIte,Bool.true_or,Bool.or_true,Bool.false_or,Bool.or_false,Bool.true_and,Bool.and_true,Bool.false_and,Bool.and_false,Bool.not_true,Bool.not_false];done)
             | (simp [resOf,vcheckS, *];done)
             | (simp_all [resOf,vcheckS];done))
          | skip
    · skip
      refine AW.seq (AW.region (Qp Qceq ?_))
      refine Qp Qab ?_
      refine AOL.nil (thenN (Qif (fun hc4=>?_) fun hc4=>?_))
      · skip
        refine AW.seq (AW.region (Qp Qf6 ?_))
        refine Qp Qli ?_
        refine Qp Qcne ?_
        refine AOL.nil (thenN (Qif (fun hc5=>?_) fun hc5=>?_))
        · skip
          refine AW.seq (AW.region (Qp Qai ?_))
          refine AOL.nil (thenN (AW.ret (blkR (thenR (Qr (.int .i64 _) ?_)))))
          try simp only [str0,Bool.and_true] at *
          first
            | (simp only [resOf,vcheckS];(first | rw [if_pos hc1] | skip);(first | rw [if_neg (Bool.eq_false_iff.mp hc2)] | skip);(first | rw [if_pos hc4] | skip);(first | rw [if_pos hc5] | skip);first | done | rfl)
            | (try simp only [Bool.not_eq_true',Bool.not_eq_false'] at *
               first
               | (simp only [resOf,vcheckS, *,Bool.false_eq_true,↓reduceIte,Bool.true_or,Bool.or_true,Bool.false_or,Bool.or_false,Bool.true_and,Bool.and_true,Bool.false_and,Bool.and_false,Bool.not_true,Bool.not_false];done)
               | (simp [resOf,vcheckS, *];done)
               | (simp_all [resOf,vcheckS];done))
            | skip
        · skip
          refine AW.skip (blkN (thenN (AW.seq (AW.region (Qp (Qlg [.int .i64 _,.int .i64 _,.str _]) ?_)))))
          refine Qp (Qc rfl (c107 v)) ?_
          refine Qp Qai ?_
          refine AOL.nil (thenN (AW.ret (Qr (.int .i64 _) ?_)))
          try simp only [str0,Bool.and_true] at *
          first
            | (simp only [resOf,vcheckS];(first | rw [if_pos hc1] | skip);(first | rw [if_neg (Bool.eq_false_iff.mp hc2)] | skip);(first | rw [if_pos hc4] | skip);(first | rw [if_neg (Bool.eq_false_iff.mp hc5)] | skip);first | done | rfl)
            | (try simp only [Bool.not_eq_true',Bool.not_eq_false'] at *
               first
               | (simp only [resOf,vcheckS, *,Bool.false_eq_true,↓reduceIte,Bool.true_or,Bool.or_true,Bool.false_or,Bool.or_false,Bool.true_and,Bool.and_true,Bool.false_and,Bool.and_false,Bool.not_true,Bool.not_false];done)
               | (simp [resOf,vcheckS, *];done)
               | (simp_all [resOf,vcheckS];done))
            | skip
      · skip
        refine AW.seq (AW.region (Qp Qai ?_))
        refine AOL.nil (thenN (AW.ret (blkR (thenR (Qr (.int .i64 _) ?_)))))
        try simp only [str0,Bool.and_true] at *
        first
          | (simp only [resOf,vcheckS];(first | rw [if_pos hc1] | skip);(first | rw [if_neg (Bool.eq_false_iff.mp hc2)] | skip);(first | rw [if_neg (Bool.eq_false_iff.mp hc4)] | skip);first | done | rfl)
          | (try simp only [Bool.not_eq_true',Bool.not_eq_false'] at *
             first
             | (simp only [resOf,vcheckS, *,Bool.false_eq_true,↓reduceIte,Bool.true_or,Bool.or_true,Bool.false_or,Bool.or_false,Bool.true_and,Bool.and_true,Bool.false_and,Bool.and_false,Bool.not_true,Bool.not_false];done)
             | (simp [resOf,vcheckS, *];done)
             | (simp_all [resOf,vcheckS];done))
          | skip
  · skip
    refine AW.region (Qp Qceq ?_)
    refine Qp Qab ?_
    refine AOL.nil (thenN (Qif (fun hc6=>?_) fun hc6=>?_))
    · skip
      refine AW.seq (AW.region (Qp Qf7 ?_))
      refine Qp Qlt ?_
      refine Qp (P_neq_str rfl rfl) ?_
      refine AOL.nil (thenN (Qif (fun hc7=>?_) fun hc7=>?_))
      · skip
        refine AW.seq (AW.region (Qp Qai ?_))
        refine AOL.nil (thenN (AW.ret (blkR (thenR (Qr (.int .i64 _) ?_)))))
        try simp only [str0,Bool.and_true] at *
        first
          | (simp only [resOf,vcheckS];(first | rw [if_neg (Bool.eq_false_iff.mp hc1)] | skip);(first | rw [if_pos hc6] | skip);(first | rw [if_pos hc7] | skip);first | done | rfl)
          | (try simp only [Bool.not_eq_true',Bool.not_eq_false'] at *
             first
             | (simp only [resOf,vcheckS, *,Bool.false_eq_true,↓reduceIte,Bool.true_or,Bool.or_true,Bool.false_or,Bool.or_false,Bool.true_and,Bool.and_true,Bool.false_and,Bool.and_false,Bool.not_true,Bool.not_false];done)
             | (simp [resOf,vcheckS, *];done)
             | (simp_all [resOf,vcheckS];done))
          | skip
      · skip
        refine AW.skip (blkN (thenN (AW.seq (AW.region (Qp (Qlg [.int .i64 _,.int .i64 _,.str _]) ?_)))))
        refine Qp (Qc rfl (c107 v)) ?_
        refine Qp Qai ?_
        refine AOL.nil (thenN (AW.ret (Qr (.int .i64 _) ?_)))
        try simp only [str0,Bool.and_true] at *
        first
          | (simp only [resOf,vcheckS];(first | rw [if_neg (Bool.eq_false_iff.mp hc1)] | skip);(first | rw [if_pos hc6] | skip);(first | rw [if_neg (Bool.eq_false_iff.mp hc7)] | skip);first | done | rfl)
          | (try simp only [Bool.not_eq_true',Bool.not_eq_false'] at *
             first
             | (simp only [resOf,vcheckS, *,Bool.false_eq_true,↓reduceIte,Bool.true_or,Bool.or_true,Bool.false_or,Bool.or_false,Bool.true_and,Bool.and_true,Bool.false_and,Bool.and_false,Bool.not_true,Bool.not_false];done)
             | (simp [resOf,vcheckS, *];done)
             | (simp_all [resOf,vcheckS];done))
          | skip
    · skip
      refine AW.seq (AW.region (Qp Qceq ?_))
      refine Qp Qab ?_
      refine AOL.nil (thenN (Qif (fun hc8=>?_) fun hc8=>?_))
      · skip
        refine AW.seq (AW.region (Qp Qf6 ?_))
        refine Qp Qli ?_
        refine Qp Qcne ?_
        refine AOL.nil (thenN (Qif (fun hc9=>?_) fun hc9=>?_))
        · skip
          refine AW.seq (AW.region (Qp Qai ?_))
          refine AOL.nil (thenN (AW.ret (blkR (thenR (Qr (.int .i64 _) ?_)))))
          try simp only [str0,Bool.and_true] at *
          first
            | (simp only [resOf,vcheckS];(first | rw [if_neg (Bool.eq_false_iff.mp hc1)] | skip);(first | rw [if_neg (Bool.eq_false_iff.mp hc6)] | skip);(first | rw [if_pos hc8] | skip);(first | rw [if_pos hc9] | skip);first | done | rfl)
            | (try simp only [Bool.not_eq_true',Bool.not_eq_false'] at *
               first
               | (simp only [resOf,vcheckS, *,Bool.false_eq_true,↓reduceIte,Bool.true_or,Bool.or_true,Bool.false_or,Bool.or_false,Bool.true_and,Bool.and_true,Bool.false_and,Bool.and_false,Bool.not_true,Bool.not_false];done)
               | (simp [resOf,vcheckS, *];done)
               | (simp_all [resOf,vcheckS];done))
            | skip
        · skip
          refine AW.skip (blkN (thenN (AW.seq (AW.region (Qp (Qlg [.int .i64 _,.int .i64 _,.str _]) ?_)))))
          refine Qp (Qc rfl (c107 v)) ?_
          refine Qp Qai ?_
          refine AOL.nil (thenN (AW.ret (Qr (.int .i64 _) ?_)))
          try simp only [str0,Bool.and_true] at *
          first
            | (simp only [resOf,vcheckS];(first | rw [if_neg (Bool.eq_false_iff.mp hc1)] | skip);(first | rw [if_neg (Bool.eq_false_iff.mp hc6)] | skip);(first | rw [if_pos hc8] | skip);(first | rw [if_neg (Bool.eq_false_iff.mp hc9)] | skip);first | done | rfl)
            | (try simp only [Bool.not_eq_true',Bool.not_eq_false'] at *
               first
               | (simp only [resOf,vcheckS, *,Bool.false_eq_true,↓reduceIte,Bool.true_or,Bool.or_true,Bool.false_or,Bool.or_false,Bool.true_and,Bool.and_true,Bool.false_and,Bool.and_false,Bool.not_true,Bool.not_false];done)
               | (simp [resOf,vcheckS, *];done)
               | (simp_all [resOf,vcheckS];done))
            | skip
      · skip
        refine AW.seq (AW.region (Qp Qai ?_))
        refine AOL.nil (thenN (AW.ret (blkR (thenR (Qr (.int .i64 _) ?_)))))
        try simp only [str0,Bool.and_true] at *
        first
          | (simp only [resOf,vcheckS];(first | rw [if_neg (Bool.eq_false_iff.mp hc1)] | skip);(first | rw [if_neg (Bool.eq_false_iff.mp hc6)] | skip);(first | rw [if_neg (Bool.eq_false_iff.mp hc8)] | skip);first | done | rfl)
          | (try simp only [Bool.not_eq_true',Bool.not_eq_false'] at *
             first
             | (simp only [resOf,vcheckS, *,Bool.false_eq_true,↓reduceIte,Bool.true_or,Bool.or_true,Bool.false_or,Bool.or_false,Bool.true_and,Bool.and_true,Bool.false_and,Bool.and_false,Bool.not_true,Bool.not_false];done)
             | (simp [resOf,vcheckS, *];done)
             | (simp_all [resOf,vcheckS];done))
          | skip
theorem c75 (b:Bool):APure Tryz.prog 107 [.bool b] (.agg (cV (flagS b))):=by
  refine APure.body (n:=8) tok Tryz.func107 rfl rfl rfl fun H=>?_
  refine AW.seq (AW.region (Qe (E_alloc (l:=[.int .i64 0,.int .i64 0,.str []]) (by kernel_rfl)) ?_))
  rintro _ _ ⟨b2,rfl,rfl⟩
  refine AOL.nil (thenN (AW.seq (AW.region (Qp (Qbd [.int .i64 _,.int .i64 _,.str _]) ?_))))
  refine Qe (E_alloc (l:=[.int .i64 0,.int .i64 0,.str []]) (by kernel_rfl)) ?_
  rintro _ _ ⟨b3,rfl,rfl⟩
  refine Qe (E_store (k:=0) (v:=.agg _) (cs':=[.int .i64 _,.int .i64 _,.str _]) (H2:=_::_::_) tok rfl rfl rfl rfl (rfl) rfl rfl rfl rfl) ?_
  rintro _ _ ⟨rfl,rfl⟩
  refine AOL.nil (thenN (AW.seq (AW.seq (AW.region (Qp Qmb ?_)))))
  refine AOL.nil (thenN (Qif (fun hc1=>?_) fun hc1=>?_))
  · skip
    refine AW.region (Qp Qfv ?_)
    refine Qe (E_store (k:=0) (v:=.int .i64 _) (cs':=[.int .i64 _,.int .i64 _,.str _]) (H2:=_::_::_) tok rfl rfl rfl rfl (rfl) rfl rfl rfl rfl) ?_
    rintro _ _ ⟨rfl,rfl⟩
    refine AOL.nil (thenN (AW.seq (AW.region ?_)))
    refine AOL.pk (P_load_box_agg (k:=0) (l:=[.int .i64 _,.int .i64 _,.str _]) tok rfl rfl rfl rfl rfl) rfl rfl ?_
    refine Qe (E_store (k:=1) (v:=.agg _) (cs':=[.int .i64 _,.int .i64 _,.str _]) (H2:=_::_::_) tok rfl rfl rfl rfl (rfl) rfl rfl rfl rfl) ?_
    rintro _ _ ⟨rfl,rfl⟩
    refine AOL.nil (thenN (AW.ret ?_))
    refine ⟨.inr rfl,[.agg [.int .i64 _,.int .i64 _,.str _]],.cons (.box _ _ _ 1 _ _ _ _ rfl rfl rfl rfl rfl rfl) <| .nil,.cons _ (.cons _ (.refl _)),?_⟩
    try simp only [str0,Bool.and_true] at *
    first
      | (simp only [resOf,flagS,cV];(first | rw [if_pos hc1] | skip);first | done | rfl)
      | (try simp only [Bool.not_eq_true',Bool.not_eq_false'] at *
         first
         | (simp only [resOf,flagS,cV, *,Bool.false_eq_true,↓reduceIte,Bool.true_or,Bool.or_true,Bool.false_or,Bool.or_false,Bool.true_and,Bool.and_true,Bool.false_and,Bool.and_false,Bool.not_true,Bool.not_false];done)
         | (simp [resOf,flagS,cV, *];done)
         | (simp_all [resOf,flagS,cV];done))
      | skip
  · skip
    refine Qst (AW.seq (AW.region ?_))
    refine AOL.pk (P_load_box_agg (k:=0) (l:=[.int .i64 _,.int .i64 _,.str _]) tok rfl rfl rfl rfl rfl) rfl rfl ?_
    refine Qe (E_store (k:=1) (v:=.agg _) (cs':=[.int .i64 _,.int .i64 _,.str _]) (H2:=_::_::_) tok rfl rfl rfl rfl (rfl) rfl rfl rfl rfl) ?_
    rintro _ _ ⟨rfl,rfl⟩
    refine AOL.nil (thenN (AW.ret ?_))
    refine ⟨.inr rfl,[.agg [.int .i64 _,.int .i64 _,.str _]],.cons (.box _ _ _ 1 _ _ _ _ rfl rfl rfl rfl rfl rfl) <| .nil,.cons _ (.cons _ (.refl _)),?_⟩
    try simp only [str0,Bool.and_true] at *
    first
      | (simp only [resOf,flagS,cV];(first | rw [if_neg (Bool.eq_false_iff.mp hc1)] | skip);first | done | rfl)
      | (try simp only [Bool.not_eq_true',Bool.not_eq_false'] at *
         first
         | (simp only [resOf,flagS,cV, *,Bool.false_eq_true,↓reduceIte,Bool.true_or,Bool.or_true,Bool.false_or,Bool.or_false,Bool.true_and,Bool.and_true,Bool.false_and,Bool.and_false,Bool.not_true,Bool.not_false];done)
         | (simp [resOf,flagS,cV, *];done)
         | (simp_all [resOf,flagS,cV];done))
      | skip
theorem c79 (v:Vl):APure Tryz.prog 101 [.agg (cV v)] (.int .i64 (vcheckS v)):=by
  refine APure.body (n:=47) tok Tryz.func101 rfl rfl rfl fun H=>?_
  refine AW.seq (AW.region (Qp (Qbx [.int .i64 _,.int .i64 _,.str _]) ?_))
  refine Qp Qai ?_
  refine AOL.nil (thenN (AW.seq (AW.seq (AW.region (Qp Qf5 ?_)))))
  refine Qp Qli ?_
  refine Qp Qclt ?_
  refine Qp Qmb ?_
  refine Qg [] Qw Qf5 ?_
  refine Qg [(7,_)] Qw Qli ?_
  refine Qg [(8,_)] Qw Qcgt ?_
  refine Qp Qpo ?_
  refine AOL.nil (thenN (Qif (fun hc1=>?_) fun hc1=>?_))
  · skip
    refine AW.seq (AW.region (Qp Qai ?_))
    refine AOL.nil (thenN (Qrt (Qr (.int .i64 _) ?_)))
    rw [←rvcheck_eq]
    try simp only [str0,Bool.and_true] at *
    first
      | (simp only [resOf,rvcheckS];(first | rw [if_pos hc1] | skip);first | done | rfl)
      | (try simp only [Bool.not_eq_true',Bool.not_eq_false'] at *
         first
         | (simp only [resOf,rvcheckS, *,Bool.false_eq_true,↓reduceIte,Bool.true_or,Bool.or_true,Bool.false_or,Bool.or_false,Bool.true_and,Bool.and_true,Bool.false_and,Bool.and_false,Bool.not_true,Bool.not_false];done)
         | (simp [resOf,rvcheckS, *];done)
         | (simp_all [resOf,rvcheckS];done))
      | skip
  · skip
    refine Qst (AW.seq (AW.seq (AW.region (Qp Qf5 ?_))))
    refine Qp Qli ?_
    refine Qp Qceq ?_
    refine AOL.nil (thenN (Qif (fun hc2=>?_) fun hc2=>?_))
    · skip
      refine AW.seq (AW.seq (AW.region (Qp Qf6 ?_)))
      refine Qp Qli ?_
      refine Qp Qcne ?_
      refine AOL.nil (thenN (Qif (fun hc3=>?_) fun hc3=>?_))
      · skip
        refine AW.seq (AW.region (Qp Qai ?_))
        refine AOL.nil (thenN (Qrt (thenR (Qr (.int .i64 _) ?_))))
        rw [←rvcheck_eq]
        try simp only [str0,Bool.and_true] at *
        first
          | (simp only [resOf,rvcheckS];(first | rw [if_neg (Bool.eq_false_iff.mp hc1)] | skip);(first | rw [if_pos hc2] | skip);(first | rw [if_pos hc3] | skip);first | done | rfl)
          | (try simp only [Bool.not_eq_true',Bool.not_eq_false'] at *
             first
             | (simp only [resOf,rvcheckS, *,Bool.false_eq_true,↓reduceIte,Bool.true_or,Bool.or_true,Bool.false_or,Bool.or_false,Bool.true_and,Bool.and_true,Bool.false_and,Bool.and_false,Bool.not_true,Bool.not_false];done)
             | (simp [resOf,rvcheckS, *];done)
             | (simp_all [resOf,rvcheckS];done))
          | skip
      · skip
        refine Qst (AW.seq (AW.seq (AW.region (Qp Qf7 ?_))))
        refine Qp Qlt ?_
        refine Qp (P_len_str tok rfl rfl rfl rfl) ?_
        refine Qp Qcgt ?_
        refine AOL.nil (thenN (Qif (fun hc4=>?_) fun hc4=>?_))
        · skip
          refine AW.seq (AW.region (Qp Qai ?_))
          refine AOL.nil (thenN (Qrt (thenR (Qr (.int .i64 _) ?_))))
          rw [←rvcheck_eq]
          try simp only [str0,Bool.and_true] at *
          first
            | (simp only [resOf,rvcheckS];(first | rw [if_neg (Bool.eq_false_iff.mp hc1)] | skip);(first | rw [if_pos hc2] | skip);(first | rw [if_neg (Bool.eq_false_iff.mp hc3)] | skip);(first | rw [if_pos hc4] | skip);first | done | rfl)
            | (try simp only [Bool.not_eq_true',Bool.not_eq_false'] at *
               first
               | (simp only [resOf,rvcheckS, *,Bool.false_eq_true,↓reduceIte,Bool.true_or,Bool.or_true,Bool.false_or,Bool.or_false,Bool.true_and,Bool.and_true,Bool.false_and,Bool.and_false,Bool.not_true,Bool.not_false];done)
               | (simp [resOf,rvcheckS, *];done)
               | (simp_all [resOf,rvcheckS];done))
            | skip
        · skip
          refine Qst (AW.seq (AW.region (Qp Qai ?_)))
          refine AOL.nil (thenN (Qrt (Qr (.int .i64 _) ?_)))
          rw [←rvcheck_eq]
          try simp only [str0,Bool.and_true] at *
          first
            | (simp only [resOf,rvcheckS];(first | rw [if_neg (Bool.eq_false_iff.mp hc1)] | skip);(first | rw [if_pos hc2] | skip);(first | rw [if_neg (Bool.eq_false_iff.mp hc3)] | skip);(first | rw [if_neg (Bool.eq_false_iff.mp hc4)] | skip);first | done | rfl)
            | (try simp only [Bool.not_eq_true',Bool.not_eq_false'] at *
               first
               | (simp only [resOf,rvcheckS, *,Bool.false_eq_true,↓reduceIte,Bool.true_or,Bool.or_true,Bool.false_or,Bool.or_false,Bool.true_and,Bool.and_true,Bool.false_and,Bool.and_false,Bool.not_true,Bool.not_false];done)
               | (simp [resOf,rvcheckS, *];done)
               | (simp_all [resOf,rvcheckS];done))
            | skip
    · skip
      refine Qst (AW.seq (AW.seq (AW.region (Qp Qf7 ?_))))
      refine Qp Qlt ?_
      refine Qp (P_neq_str rfl rfl) ?_
      refine AOL.nil (thenN (Qif (fun hc5=>?_) fun hc5=>?_))
      · skip
        refine AW.seq (AW.region (Qp Qai ?_))
        refine AOL.nil (thenN (Qrt (Qr (.int .i64 _) ?_)))
        rw [←rvcheck_eq]
        try simp only [str0,Bool.and_true] at *
        first
          | (simp only [resOf,rvcheckS];(first | rw [if_neg (Bool.eq_false_iff.mp hc1)] | skip);(first | rw [if_neg (Bool.eq_false_iff.mp hc2)] | skip);(first | rw [if_pos hc5] | skip);first | done | rfl)
          | (try simp only [Bool.not_eq_true',Bool.not_eq_false'] at *
             first
             | (simp only [resOf,rvcheckS, *,Bool.false_eq_true,↓reduceIte,Bool.true_or,Bool.or_true,Bool.false_or,Bool.or_false,Bool.true_and,Bool.and_true,Bool.false_and,Bool.and_false,Bool.not_true,Bool.not_false];done)
             | (simp [resOf,rvcheckS, *];done)
             | (simp_all [resOf,rvcheckS];done))
          | skip
      · skip
        refine Qst (AW.seq (AW.seq (AW.region (Qp Qf5 ?_))))
        refine Qp Qli ?_
        refine Qp Qceq ?_
        refine Qp Qmb ?_
        refine Qg [] Qw Qf6 ?_
        refine Qg [(28,_)] Qw Qli ?_
        refine Qg [(29,_)] Qw Qclt ?_
        refine Qg [(30,_)] Qw Qmb ?_
        refine Qg [] Qw Qf6 ?_
        refine Qg [(32,_)] Qw Qli ?_
        refine Qg [(33,_)] Qw Qcgt ?_
        refine Qg [(31,_),(34,_)] Qw Qpo ?_
        refine Qp Qpa ?_
        refine Qp Qmb ?_
        refine Qg [] Qw Qf6 ?_
        refine Qg [(38,_)] Qw Qli ?_
        refine Qg [(39,_)] Qw Qclt ?_
        refine Qp Qpo ?_
        refine Qp Qmb ?_
        refine Qg [] Qw Qf6 ?_
        refine Qg [(43,_)] Qw Qli ?_
        refine Qg [(44,_)] Qw Qcgt ?_
        refine Qp Qpo ?_
        refine AOL.nil (thenN (Qif (fun hc6=>?_) fun hc6=>?_))
        · skip
          refine AW.seq (AW.region (Qp Qai ?_))
          refine AOL.nil (thenN (Qrt (Qr (.int .i64 _) ?_)))
          rw [←rvcheck_eq]
          try simp only [str0,Bool.and_true] at *
          first
            | (simp only [resOf,rvcheckS];(first | rw [if_neg (Bool.eq_false_iff.mp hc1)] | skip);(first | rw [if_neg (Bool.eq_false_iff.mp hc2)] | skip);(first | rw [if_neg (Bool.eq_false_iff.mp hc5)] | skip);(first | rw [if_pos hc6] | skip);first | done | rfl)
            | (try simp only [Bool.not_eq_true',Bool.not_eq_false'] at *
               first
               | (simp only [resOf,rvcheckS, *,Bool.false_eq_true,↓reduceIte,Bool.true_or,Bool.or_true,Bool.false_or,Bool.or_false,Bool.true_and,Bool.and_true,Bool.false_and,Bool.and_false,Bool.not_true,Bool.not_false];done)
               | (simp [resOf,rvcheckS, *];done)
               | (simp_all [resOf,rvcheckS];done))
            | skip
        · skip
          refine Qst (AW.seq (AW.region (Qp Qai ?_)))
          refine AOL.nil (thenN (AW.ret (Qr (.int .i64 _) ?_)))
          rw [←rvcheck_eq]
          try simp only [str0,Bool.and_true] at *
          first
            | (simp only [resOf,rvcheckS];(first | rw [if_neg (Bool.eq_false_iff.mp hc1)] | skip);(first | rw [if_neg (Bool.eq_false_iff.mp hc2)] | skip);(first | rw [if_neg (Bool.eq_false_iff.mp hc5)] | skip);(first | rw [if_neg (Bool.eq_false_iff.mp hc6)] | skip);first | done | rfl)
            | (try simp only [Bool.not_eq_true',Bool.not_eq_false'] at *
               first
               | (simp only [resOf,rvcheckS, *,Bool.false_eq_true,↓reduceIte,Bool.true_or,Bool.or_true,Bool.false_or,Bool.or_false,Bool.true_and,Bool.and_true,Bool.false_and,Bool.and_false,Bool.not_true,Bool.not_false];done)
               | (simp [resOf,rvcheckS, *];done)
               | (simp_all [resOf,rvcheckS];done))
            | skip
theorem c101 (k:Int)(v:Vl):APure Tryz.prog 150 [.int .i64 k,.agg (cV v)] (.bool (rsuitsS k v)):=by
  refine APure.body (n:=20) tok Tryz.func150 rfl rfl rfl fun H=>?_
  refine AW.seq (AW.region (Qp (Qbx [.int .i64 _,.int .i64 _,.str _]) ?_))
  refine Qp Qab ?_
  refine AOL.nil (thenN (AW.seq (AW.region (Qp Qf5 ?_))))
  refine Qp Qli ?_
  refine Qp Qceq ?_
  refine Qp Qmb ?_
  refine Qg [] Qw Qmi ?_
  refine Qg [(9,_)] Qw Qceq ?_
  refine Qp Qpo ?_
  refine Qp Qmb ?_
  refine Qg [] Qw Qmi ?_
  refine Qg [(13,_)] Qw Qceq ?_
  refine Qp Qpo ?_
  refine Qp Qmb ?_
  refine Qg [] Qw Qmi ?_
  refine Qg [(17,_)] Qw Qceq ?_
  refine Qp Qpo ?_
  refine Qp Qab ?_
  refine AOL.nil (thenN (AW.ret (Qr (.bool _) ?_)))
  try simp only [str0,Bool.and_true] at *
  first
    | (simp only [resOf,rsuitsS];skip;first | done | rfl)
    | (try simp only [Bool.not_eq_true',Bool.not_eq_false'] at *
       first
       | (simp only [resOf,rsuitsS, *,Bool.false_eq_true,↓reduceIte,Bool.true_or,Bool.or_true,Bool.false_or,Bool.or_false,Bool.true_and,Bool.and_true,Bool.false_and,Bool.and_false,Bool.not_true,Bool.not_false];done)
       | (simp [resOf,rsuitsS, *];done)
       | (simp_all [resOf,rsuitsS];done))
    | skip
theorem c99 (k:Int)(v:Vl):APure Tryz.prog 148 [.int .i64 k,.agg (cV v)] (.bool (esuitsS k v)):=by
  refine APure.body (n:=16) tok Tryz.func148 rfl rfl rfl fun H=>?_
  refine AW.seq (AW.region (Qp (Qbx [.int .i64 _,.int .i64 _,.str _]) ?_))
  refine Qp Qab ?_
  refine AOL.nil (thenN (AW.seq (AW.region (Qp Qf5 ?_))))
  refine Qp Qli ?_
  refine Qp Qceq ?_
  refine Qp Qmb ?_
  refine Qg [] Qw Qmi ?_
  refine Qg [(9,_)] Qw Qceq ?_
  refine Qp Qpo ?_
  refine Qp Qmb ?_
  refine Qg [] Qw Qmi ?_
  refine Qg [(13,_)] Qw Qceq ?_
  refine Qp Qpo ?_
  refine Qp Qab ?_
  refine AOL.nil (thenN (AW.ret (Qr (.bool _) ?_)))
  try simp only [str0,Bool.and_true] at *
  first
    | (simp only [resOf,esuitsS];skip;first | done | rfl)
    | (try simp only [Bool.not_eq_true',Bool.not_eq_false'] at *
       first
       | (simp only [resOf,esuitsS, *,Bool.false_eq_true,↓reduceIte,Bool.true_or,Bool.or_true,Bool.false_or,Bool.or_false,Bool.true_and,Bool.and_true,Bool.false_and,Bool.and_false,Bool.not_true,Bool.not_false];done)
       | (simp [resOf,esuitsS, *];done)
       | (simp_all [resOf,esuitsS];done))
    | skip
end Go.Proofs.YtkddpedfbicbeaaGreatDoor
