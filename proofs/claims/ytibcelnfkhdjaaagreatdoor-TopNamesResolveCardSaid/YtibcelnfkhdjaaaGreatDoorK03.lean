/-
  Several texts in one: EM7, EM8, EM9, Az, Shelf, C, W1, W2, W3, W4, W5, W6, W7, W8, W9. No condition.
-/
import Derived.Test.YtibcelnfkhdjaaaGreatDoorK02
import Derived.Test.YtibcelnfkhdjaaaGreatDoorAx
import Derived.Test.YtibcelnfkhdjaaaGreatDoorTab
import Derived.KernelRfl
import Derived.Shelf.Small.Strs
import Derived.Shelf.Strconv.Itoa0
import Derived.Shelf.Strconv.Itoa1
import Derived.Shelf.LaysM
import Derived.Shelf.Strconv.Itoa2
import Derived.Shelf.Strconv.Itoa3
import Derived.Shelf.Strings.Search1
import Derived.Shelf.Strings.Search2
import Derived.Shelf.Strings.Search3
import Derived.Shelf.Strings.Shaped
import Derived.Shelf.Strings.Prefix
import Derived.Test.YtibcelnfkhdjaaaGreatDoorProg
set_option linter.unusedVariables false
set_option linter.unusedSimpArgs false
set_option maxHeartbeats 800000
set_option maxRecDepth 100000
namespace Go.Proofs.YtibcelnfkhdjaaaGreatDoor
open Go Go.Aw
inductive Fd (f:Ex->Ex):Ex->Prop where
 | mk (e:Ex) (ha:∀a∈e.args,Fd f a) (h:f e=e):Fd f e
theorem aL {e:Ex}(h:Fg e=0):Dp e<=64/\Ic e<=12/\Iz e=0:=by
 unfold Fg at h;split at h
 . cases h
 rename_i h1;split at h
 . cases h
 rename_i h2;simp at h1 h2;exact ⟨by omega,by omega,h⟩
section
variable {d:Option Nat} {ty:TypeId} {pos:String} {aft:Array Edge} {gd:Option (Nat×Bool)} {ρ:Operand->AV} {K:List HO->Prop}
theorem Ax {x:Operand}{n:Int}(h:ρ x = .int .i64 n:=by exact rfl):Db Tryz.prog ⟨d,.assign x,ty,pos,aft,gd⟩ ρ K (.int .i64 n):=Ad h
theorem A0 {x:Operand}{n:Int}(h:ρ x = .int .i64 n:=by exact rfl):Db Tryz.prog ⟨d,.move x,ty,pos,aft,gd⟩ ρ K (.int .i64 n):=Ab h
theorem Cd {t:TypeId}{td:TD}{x:Operand}{n:Int}{cs:List AV}(h:ρ x = .ptr (.int .i64 n::cs):=by exact rfl)(ht:Bl TL t=some td:=by exact rfl)(ha:td.agg=false:=by exact rfl):Db Tryz.prog ⟨d,.load t x,ty,pos,aft,gd⟩ ρ K (.int .i64 n):=Aq tok h ht ha
theorem Td {x:Operand}{i:Nat}{vs:List AV}{n:Int}(h:ρ x = .tuple vs:=by exact rfl)(hv:vs[i]? = some (.int .i64 n):=by exact rfl):Db Tryz.prog ⟨d,.extract x i,ty,pos,aft,gd⟩ ρ K (.int .i64 n):=A6 h hv
theorem Bh {x:Operand}{b:Bool}(h:ρ x = .bool b:=by exact rfl):Db Tryz.prog ⟨d,.assign x,ty,pos,aft,gd⟩ ρ K (.bool b):=Ad h
theorem Co {x:Operand}{b:Bool}(h:ρ x = .bool b:=by exact rfl):Db Tryz.prog ⟨d,.move x,ty,pos,aft,gd⟩ ρ K (.bool b):=Ab h
theorem lN {t:TypeId}{td:TD}{x:Operand}{b:Bool}{cs:List AV}(h:ρ x = .ptr (.bool b::cs):=by exact rfl)(ht:Bl TL t=some td:=by exact rfl)(ha:td.agg=false:=by exact rfl):Db Tryz.prog ⟨d,.load t x,ty,pos,aft,gd⟩ ρ K (.bool b):=Aq tok h ht ha
theorem fU {x:Operand}{i:Nat}{vs:List AV}{b:Bool}(h:ρ x = .tuple vs:=by exact rfl)(hv:vs[i]? = some (.bool b):=by exact rfl):Db Tryz.prog ⟨d,.extract x i,ty,pos,aft,gd⟩ ρ K (.bool b):=A6 h hv
theorem jF {x:Operand}{z:Nat}{es:List (List AV)}(h:ρ x = .sl z es:=by exact rfl):Db Tryz.prog ⟨d,.assign x,ty,pos,aft,gd⟩ ρ K (.sl z es):=Ad h
theorem Mm {x:Operand}{z:Nat}{es:List (List AV)}(h:ρ x = .sl z es:=by exact rfl):Db Tryz.prog ⟨d,.move x,ty,pos,aft,gd⟩ ρ K (.sl z es):=Ab h
theorem Ew {t:TypeId}{td:TD}{x:Operand}{z:Nat}{es:List (List AV)}{cs:List AV}(h:ρ x = .ptr (.sl z es::cs):=by exact rfl)(ht:Bl TL t=some td:=by exact rfl)(ha:td.agg=false:=by exact rfl):Db Tryz.prog ⟨d,.load t x,ty,pos,aft,gd⟩ ρ K (.sl z es):=Aq tok h ht ha
theorem Qxs {x:Operand}{i:Nat}{vs:List AV}{z:Nat}{es:List (List AV)}(h:ρ x = .tuple vs:=by exact rfl)(hv:vs[i]? = some (.sl z es):=by exact rfl):Db Tryz.prog ⟨d,.extract x i,ty,pos,aft,gd⟩ ρ K (.sl z es):=A6 h hv
theorem O2 {x:Operand}{v:Value}(h:ρ x = .val v:=by exact rfl):Db Tryz.prog ⟨d,.assign x,ty,pos,aft,gd⟩ ρ K (.val v):=Ad h
theorem Bu {x:Operand}{v:Value}(h:ρ x = .val v:=by exact rfl):Db Tryz.prog ⟨d,.move x,ty,pos,aft,gd⟩ ρ K (.val v):=Ab h
theorem Kg {t:TypeId}{td:TD}{x:Operand}{v:Value}{cs:List AV}(h:ρ x = .ptr (.val v::cs):=by exact rfl)(ht:Bl TL t=some td:=by exact rfl)(ha:td.agg=false:=by exact rfl):Db Tryz.prog ⟨d,.load t x,ty,pos,aft,gd⟩ ρ K (.val v):=Aq tok h ht ha
theorem Qxv {x:Operand}{i:Nat}{vs:List AV}{v:Value}(h:ρ x = .tuple vs:=by exact rfl)(hv:vs[i]? = some (.val v):=by exact rfl):Db Tryz.prog ⟨d,.extract x i,ty,pos,aft,gd⟩ ρ K (.val v):=A6 h hv
theorem Qaa {x:Operand}{l:List AV}(h:ρ x = .agg l:=by exact rfl):Db Tryz.prog ⟨d,.assign x,ty,pos,aft,gd⟩ ρ K (.agg l):=Ad h
theorem Qma {x:Operand}{l:List AV}(h:ρ x = .agg l:=by exact rfl):Db Tryz.prog ⟨d,.move x,ty,pos,aft,gd⟩ ρ K (.agg l):=Ab h
theorem Qla {t:TypeId}{td:TD}{x:Operand}{l:List AV}{cs:List AV}(h:ρ x = .ptr (.agg l::cs):=by exact rfl)(ht:Bl TL t=some td:=by exact rfl)(ha:td.agg=false:=by exact rfl):Db Tryz.prog ⟨d,.load t x,ty,pos,aft,gd⟩ ρ K (.agg l):=Aq tok h ht ha
theorem Qxa {x:Operand}{i:Nat}{vs:List AV}{l:List AV}(h:ρ x = .tuple vs:=by exact rfl)(hv:vs[i]? = some (.agg l):=by exact rfl):Db Tryz.prog ⟨d,.extract x i,ty,pos,aft,gd⟩ ρ K (.agg l):=A6 h hv
theorem La {x:Operand}{s:List UInt8}(h:ρ x = .str s:=by exact rfl):Db Tryz.prog ⟨d,.assign x,ty,pos,aft,gd⟩ ρ K (.str s):=Ad h
theorem Gu {x:Operand}{s:List UInt8}(h:ρ x = .str s:=by exact rfl):Db Tryz.prog ⟨d,.move x,ty,pos,aft,gd⟩ ρ K (.str s):=Ab h
theorem F4 {t:TypeId}{td:TD}{x:Operand}{s:List UInt8}{cs:List AV}(h:ρ x = .ptr (.str s::cs):=by exact rfl)(ht:Bl TL t=some td:=by exact rfl)(ha:td.agg=false:=by exact rfl):Db Tryz.prog ⟨d,.load t x,ty,pos,aft,gd⟩ ρ K (.str s):=Aq tok h ht ha
theorem wV {x:Operand}{i:Nat}{vs:List AV}{s:List UInt8}(h:ρ x = .tuple vs:=by exact rfl)(hv:vs[i]? = some (.str s):=by exact rfl):Db Tryz.prog ⟨d,.extract x i,ty,pos,aft,gd⟩ ρ K (.str s):=A6 h hv
theorem Qau {x:Operand}{l:List AV}(h:ρ x = .tuple l:=by exact rfl):Db Tryz.prog ⟨d,.assign x,ty,pos,aft,gd⟩ ρ K (.tuple l):=Ad h
theorem Th {x:Operand}{l:List AV}(h:ρ x = .tuple l:=by exact rfl):Db Tryz.prog ⟨d,.move x,ty,pos,aft,gd⟩ ρ K (.tuple l):=Ab h
theorem Qlu {t:TypeId}{td:TD}{x:Operand}{l:List AV}{cs:List AV}(h:ρ x = .ptr (.tuple l::cs):=by exact rfl)(ht:Bl TL t=some td:=by exact rfl)(ha:td.agg=false:=by exact rfl):Db Tryz.prog ⟨d,.load t x,ty,pos,aft,gd⟩ ρ K (.tuple l):=Aq tok h ht ha
theorem Qxu {x:Operand}{i:Nat}{vs:List AV}{l:List AV}(h:ρ x = .tuple vs:=by exact rfl)(hv:vs[i]? = some (.tuple l):=by exact rfl):Db Tryz.prog ⟨d,.extract x i,ty,pos,aft,gd⟩ ρ K (.tuple l):=A6 h hv
theorem Qap {x:Operand}{l:List AV}(h:ρ x = .ptr l:=by exact rfl):Db Tryz.prog ⟨d,.assign x,ty,pos,aft,gd⟩ ρ K (.ptr l):=Ad h
theorem Qmp {x:Operand}{l:List AV}(h:ρ x = .ptr l:=by exact rfl):Db Tryz.prog ⟨d,.move x,ty,pos,aft,gd⟩ ρ K (.ptr l):=Ab h
theorem Qlp {t:TypeId}{td:TD}{x:Operand}{l:List AV}{cs:List AV}(h:ρ x = .ptr (.ptr l::cs):=by exact rfl)(ht:Bl TL t=some td:=by exact rfl)(ha:td.agg=false:=by exact rfl):Db Tryz.prog ⟨d,.load t x,ty,pos,aft,gd⟩ ρ K (.ptr l):=Aq tok h ht ha
theorem Qxp {x:Operand}{i:Nat}{vs:List AV}{l:List AV}(h:ρ x = .tuple vs:=by exact rfl)(hv:vs[i]? = some (.ptr l):=by exact rfl):Db Tryz.prog ⟨d,.extract x i,ty,pos,aft,gd⟩ ρ K (.ptr l):=A6 h hv
theorem C1 (l:List AV){t:TypeId}{td:TD}{x:Operand}{cs:List AV}(h:ρ x = .ptr cs:=by exact rfl)(ht:Bl TL t=some td:=by exact rfl)(ha:td.agg=true:=by exact rfl)(hl:cs.take td.size=l:=by exact rfl)(hs:Nat.beq l.length td.size=true:=by exact rfl):Db Tryz.prog ⟨d,.load t x,ty,pos,aft,gd⟩ ρ K (.agg l):=Cq tok h ht ha hl hs
theorem Qf (cs':List AV){s f off z ft:Nat}{nm:Bool}{x:Operand}{cs:List AV}{td:TD}{gs:List (Nat×Nat×Bool×Nat)}(h:ρ x = .ptr cs:=by exact rfl)(ht:Bl TL s=some td:=by exact rfl)(hk:td.kind = .struct gs:=by exact rfl)(hf:gs[f]? = some (off,z,nm,ft):=by exact rfl)(hz:Nat.blt 0 z=true:=by exact rfl)(hc:cs.drop off=cs':=by exact rfl):Db Tryz.prog ⟨d,.fieldAddr s x f,ty,pos,aft,gd⟩ ρ K (.ptr cs'):=Ai tok h ht hk hf hz hc
theorem Cw {s f off z ft b o:Nat}{nm:Bool}{x:Operand}{td:TD}{gs:List (Nat×Nat×Bool×Nat)}{o':Nat}(h:ρ x = .val (.pointer (some ⟨b,o,none⟩)):=by exact rfl)(ht:Bl TL s=some td:=by exact rfl)(hk:td.kind = .struct gs:=by exact rfl)(hf:gs[f]? = some (off,z,nm,ft):=by exact rfl)(hz:Nat.blt 0 z=true:=by exact rfl)(ho:o+off=o':=by exact rfl):Db Tryz.prog ⟨d,.fieldAddr s x f,ty,pos,aft,gd⟩ ρ K (.val (.pointer (some ⟨b,o',none⟩))):=Hz tok h ht hk hf hz ho
theorem Ik (cs:List AV){t:TypeId}{x:Operand}{l:List AV}(h:ρ x = .agg l:=by exact rfl)(hc:Cl (.agg l)=cs:=by exact rfl)(hs:Au cs=true:=by exact rfl):Db Tryz.prog ⟨d,.box t x,ty,pos,aft,gd⟩ ρ K (.ptr cs):=Sw h hc hs
theorem E2 (l:List AV){t:TypeId}{td:TD}{gs:List (Nat×Nat×Bool×Nat)}{parts:Array (Nat×Operand)}(ht:Bl TL t=some td:=by exact rfl)(hk:td.kind = .struct gs:=by exact rfl)(h:aH gs td.zero (Pf ρ parts.toList)=some l:=by exact rfl):Db Tryz.prog ⟨d,.build t parts,ty,pos,aft,gd⟩ ρ K (.agg l):=tR tok ht hk h
theorem jG {s f' off z ft:Nat}{nm:Bool}{x:Operand}{cs:List AV}{td:TD}{gs:List (Nat×Nat×Bool×Nat)}{a:Int}{b:AV}{c:Int}{d1:Int}{e:Int}{f:Int}{g:Int}{h:List UInt8}(i:ρ x = .ptr cs:=by exact rfl)(ht:Bl TL s=some td:=by exact rfl)(hk:td.kind = .struct gs:=by exact rfl)(hf:gs[f']? = some (off,z,nm,ft):=by exact rfl)(hz:Nat.blt 0 z=true:=by exact rfl)(hc:cs.drop off = [.int .i64 a,b,.int .i64 c,.int .i64 d1,.int .i64 e,.int .i64 f,.int .i64 g,.str h]:=by exact rfl):Db Tryz.prog ⟨d,.fieldAddr s x f',ty,pos,aft,gd⟩ ρ K (.ptr [.int .i64 a,b,.int .i64 c,.int .i64 d1,.int .i64 e,.int .i64 f,.int .i64 g,.str h]):=Ai tok i ht hk hf hz hc
theorem Xb {t:TypeId}{td:TD}{x:Operand}{cs:List AV}{a:Int}{b:AV}{c:Int}{d1:Int}{e:Int}{f:Int}{g:Int}{h:List UInt8}(i:ρ x = .ptr cs:=by exact rfl)(ht:Bl TL t=some td:=by exact rfl)(ha:td.agg=true:=by exact rfl)(hl:cs.take td.size = [.int .i64 a,b,.int .i64 c,.int .i64 d1,.int .i64 e,.int .i64 f,.int .i64 g,.str h]:=by exact rfl)(hs:Nat.beq 8 td.size=true:=by exact rfl):Db Tryz.prog ⟨d,.load t x,ty,pos,aft,gd⟩ ρ K (.agg [.int .i64 a,b,.int .i64 c,.int .i64 d1,.int .i64 e,.int .i64 f,.int .i64 g,.str h]):=Cq tok i ht ha hl hs
theorem Qbe {t:TypeId}{x:Operand}{l:List AV}{a:Int}{b:AV}{c:Int}{d1:Int}{e:Int}{f:Int}{g:Int}{h:List UInt8}(i:ρ x = .agg l:=by exact rfl)(hc:Cl (.agg l) = [.int .i64 a,b,.int .i64 c,.int .i64 d1,.int .i64 e,.int .i64 f,.int .i64 g,.str h]:=by exact rfl)(hs:Au [.int .i64 a,b,.int .i64 c,.int .i64 d1,.int .i64 e,.int .i64 f,.int .i64 g,.str h]=true:=by exact rfl):Db Tryz.prog ⟨d,.box t x,ty,pos,aft,gd⟩ ρ K (.ptr [.int .i64 a,b,.int .i64 c,.int .i64 d1,.int .i64 e,.int .i64 f,.int .i64 g,.str h]):=Sw i hc hs
theorem Qf1 {s f' off z ft:Nat}{nm:Bool}{x:Operand}{cs:List AV}{td:TD}{gs:List (Nat×Nat×Bool×Nat)}{b:AV}{c:Int}{d1:Int}{e:Int}{f:Int}{g:Int}{h:List UInt8}(i:ρ x = .ptr cs:=by exact rfl)(ht:Bl TL s=some td:=by exact rfl)(hk:td.kind = .struct gs:=by exact rfl)(hf:gs[f']? = some (off,z,nm,ft):=by exact rfl)(hz:Nat.blt 0 z=true:=by exact rfl)(hc:cs.drop off = [b,.int .i64 c,.int .i64 d1,.int .i64 e,.int .i64 f,.int .i64 g,.str h]:=by exact rfl):Db Tryz.prog ⟨d,.fieldAddr s x f',ty,pos,aft,gd⟩ ρ K (.ptr [b,.int .i64 c,.int .i64 d1,.int .i64 e,.int .i64 f,.int .i64 g,.str h]):=Ai tok i ht hk hf hz hc
theorem tU {s f' off z ft:Nat}{nm:Bool}{x:Operand}{cs:List AV}{td:TD}{gs:List (Nat×Nat×Bool×Nat)}{c:Int}{d1:Int}{e:Int}{f:Int}{g:Int}{h:List UInt8}(i:ρ x = .ptr cs:=by exact rfl)(ht:Bl TL s=some td:=by exact rfl)(hk:td.kind = .struct gs:=by exact rfl)(hf:gs[f']? = some (off,z,nm,ft):=by exact rfl)(hz:Nat.blt 0 z=true:=by exact rfl)(hc:cs.drop off = [.int .i64 c,.int .i64 d1,.int .i64 e,.int .i64 f,.int .i64 g,.str h]:=by exact rfl):Db Tryz.prog ⟨d,.fieldAddr s x f',ty,pos,aft,gd⟩ ρ K (.ptr [.int .i64 c,.int .i64 d1,.int .i64 e,.int .i64 f,.int .i64 g,.str h]):=Ai tok i ht hk hf hz hc
theorem Qf3 {s f' off z ft:Nat}{nm:Bool}{x:Operand}{cs:List AV}{td:TD}{gs:List (Nat×Nat×Bool×Nat)}{d1:Int}{e:Int}{f:Int}{g:Int}{h:List UInt8}(i:ρ x = .ptr cs:=by exact rfl)(ht:Bl TL s=some td:=by exact rfl)(hk:td.kind = .struct gs:=by exact rfl)(hf:gs[f']? = some (off,z,nm,ft):=by exact rfl)(hz:Nat.blt 0 z=true:=by exact rfl)(hc:cs.drop off = [.int .i64 d1,.int .i64 e,.int .i64 f,.int .i64 g,.str h]:=by exact rfl):Db Tryz.prog ⟨d,.fieldAddr s x f',ty,pos,aft,gd⟩ ρ K (.ptr [.int .i64 d1,.int .i64 e,.int .i64 f,.int .i64 g,.str h]):=Ai tok i ht hk hf hz hc
theorem Qf4 {s f' off z ft:Nat}{nm:Bool}{x:Operand}{cs:List AV}{td:TD}{gs:List (Nat×Nat×Bool×Nat)}{e:Int}{f:Int}{g:Int}{h:List UInt8}(i:ρ x = .ptr cs:=by exact rfl)(ht:Bl TL s=some td:=by exact rfl)(hk:td.kind = .struct gs:=by exact rfl)(hf:gs[f']? = some (off,z,nm,ft):=by exact rfl)(hz:Nat.blt 0 z=true:=by exact rfl)(hc:cs.drop off = [.int .i64 e,.int .i64 f,.int .i64 g,.str h]:=by exact rfl):Db Tryz.prog ⟨d,.fieldAddr s x f',ty,pos,aft,gd⟩ ρ K (.ptr [.int .i64 e,.int .i64 f,.int .i64 g,.str h]):=Ai tok i ht hk hf hz hc
theorem tV {s f' off z ft:Nat}{nm:Bool}{x:Operand}{cs:List AV}{td:TD}{gs:List (Nat×Nat×Bool×Nat)}{f:Int}{g:Int}{h:List UInt8}(i:ρ x = .ptr cs:=by exact rfl)(ht:Bl TL s=some td:=by exact rfl)(hk:td.kind = .struct gs:=by exact rfl)(hf:gs[f']? = some (off,z,nm,ft):=by exact rfl)(hz:Nat.blt 0 z=true:=by exact rfl)(hc:cs.drop off = [.int .i64 f,.int .i64 g,.str h]:=by exact rfl):Db Tryz.prog ⟨d,.fieldAddr s x f',ty,pos,aft,gd⟩ ρ K (.ptr [.int .i64 f,.int .i64 g,.str h]):=Ai tok i ht hk hf hz hc
theorem Qf6 {s f' off z ft:Nat}{nm:Bool}{x:Operand}{cs:List AV}{td:TD}{gs:List (Nat×Nat×Bool×Nat)}{g:Int}{h:List UInt8}(i:ρ x = .ptr cs:=by exact rfl)(ht:Bl TL s=some td:=by exact rfl)(hk:td.kind = .struct gs:=by exact rfl)(hf:gs[f']? = some (off,z,nm,ft):=by exact rfl)(hz:Nat.blt 0 z=true:=by exact rfl)(hc:cs.drop off = [.int .i64 g,.str h]:=by exact rfl):Db Tryz.prog ⟨d,.fieldAddr s x f',ty,pos,aft,gd⟩ ρ K (.ptr [.int .i64 g,.str h]):=Ai tok i ht hk hf hz hc
theorem Qf7 {s f' off z ft:Nat}{nm:Bool}{x:Operand}{cs:List AV}{td:TD}{gs:List (Nat×Nat×Bool×Nat)}{h:List UInt8}(i:ρ x = .ptr cs:=by exact rfl)(ht:Bl TL s=some td:=by exact rfl)(hk:td.kind = .struct gs:=by exact rfl)(hf:gs[f']? = some (off,z,nm,ft):=by exact rfl)(hz:Nat.blt 0 z=true:=by exact rfl)(hc:cs.drop off = [.str h]:=by exact rfl):Db Tryz.prog ⟨d,.fieldAddr s x f',ty,pos,aft,gd⟩ ρ K (.ptr [.str h]):=Ai tok i ht hk hf hz hc
theorem Bq {x y:Operand}{t yt:TypeId}{k:IntKind}{n m:Int}(hx:ρ x = .int k n:=by exact rfl)(hy:ρ y = .int k m:=by exact rfl):Db Tryz.prog ⟨d,.binOp .eql t x y yt,ty,pos,aft,gd⟩ ρ K (.bool (n==m)):=aF hx hy
theorem C3 {x y:Operand}{t yt:TypeId}{k:IntKind}{n m:Int}(hx:ρ x = .int k n:=by exact rfl)(hy:ρ y = .int k m:=by exact rfl):Db Tryz.prog ⟨d,.binOp .neq t x y yt,ty,pos,aft,gd⟩ ρ K (.bool (n != m)):=Nq hx hy
theorem Cv {x y:Operand}{t yt:TypeId}{k:IntKind}{n m:Int}(hx:ρ x = .int k n:=by exact rfl)(hy:ρ y = .int k m:=by exact rfl):Db Tryz.prog ⟨d,.binOp .lss t x y yt,ty,pos,aft,gd⟩ ρ K (.bool (decide (n<m))):=Np hx hy
theorem Hc {x y:Operand}{t yt:TypeId}{k:IntKind}{n m:Int}(hx:ρ x = .int k n:=by exact rfl)(hy:ρ y = .int k m:=by exact rfl):Db Tryz.prog ⟨d,.binOp .gtr t x y yt,ty,pos,aft,gd⟩ ρ K (.bool (decide (m<n))):=zS hx hy
theorem fX {x y:Operand}{t yt:TypeId}{k:IntKind}{n m:Int}(hx:ρ x = .int k n:=by exact rfl)(hy:ρ y = .int k m:=by exact rfl):Db Tryz.prog ⟨d,.binOp .leq t x y yt,ty,pos,aft,gd⟩ ρ K (.bool (decide (n<=m))):=P_leq hx hy
theorem Jt {x y:Operand}{t yt:TypeId}{k:IntKind}{n m:Int}(hx:ρ x = .int k n:=by exact rfl)(hy:ρ y = .int k m:=by exact rfl):Db Tryz.prog ⟨d,.binOp .geq t x y yt,ty,pos,aft,gd⟩ ρ K (.bool (decide (m<=n))):=tS hx hy
theorem Hb {x y:Operand}{t yt:TypeId}{n m r:Int}(hx:ρ x = .int .i64 n:=by exact rfl)(hy:ρ y = .int .i64 m:=by exact rfl)(hr:n+m=r:=by exact rfl)(hb : -9223372036854775808<=r/\r<=9223372036854775807:=by constructor <;> omega):Db Tryz.prog ⟨d,.binOp .add t x y yt,ty,pos,aft,gd⟩ ρ K (.int .i64 r):=Js hx hy hr hb
theorem J4 {x:Operand}{t:TypeId}{b:Bool}(hx:ρ x = .bool b:=by exact rfl):Db Tryz.prog ⟨d,.unOp .not t x,ty,pos,aft,gd⟩ ρ K (.bool (!b)):=cB hx
theorem Ks {c a y:Operand}{b x:Bool}(hc:ρ c = .bool b:=by exact rfl)(ha:ρ a = .opt [(b,true)] (.bool x):=by exact rfl)(hy:ρ y = .bool false:=by exact rfl):Db Tryz.prog ⟨d,.pick c a y,ty,pos,aft,gd⟩ ρ K (.bool (b&&x)):=J7 hc ha hy
theorem Gv {c a y:Operand}{b x:Bool}(hc:ρ c = .bool b:=by exact rfl)(ha:ρ a = .bool true:=by exact rfl)(hy:ρ y = .opt [(b,false)] (.bool x):=by exact rfl):Db Tryz.prog ⟨d,.pick c a y,ty,pos,aft,gd⟩ ρ K (.bool (b||x)):=Ja hc ha hy
theorem Qc {f:FuncId}{args:Array Operand}{ats:Array TypeId}{l:List AV}{r:AV}(ha:args.toList.map ρ=l)(hc:Ap Tryz.prog f l r)(hf:Tn Tryz.prog f=true:=by kernel_rfl)(hcal:ρ (.func f) = .fn (.func f) [] []:=by exact rfl):Db Tryz.prog ⟨d,.call ⟨.value (.func f),args,ats⟩,ty,pos,aft,gd⟩ ρ K r:=Eg hf hcal ha hc
end
section
variable {ops:Array Oper} {K:St->Prop} {s:St} {d:Option Nat} {op:Op} {t:TypeId} {pos:String} {after:Array Edge} {r:List Oper} {x y:AV} {o:Oper} {G:List (Bool×Bool)} {b:Bool} {c1 c2:Code} {Q Q':Exit->St->Prop} {N:St->Prop} {id:Nat}
theorem Qp (h:Db Tryz.prog ⟨d,op,t,pos,after,none⟩ (El s.sl) (fun _=>True) x)(k:AOL Tryz.prog ops K r ⟨D9 d x s.sl,s.H,s.n⟩)(hd:Mx d s.n=true:=by exact rfl):AOL Tryz.prog ops K (⟨d,op,t,pos,after,none⟩::r) s:=AOL.p h hd k
theorem Bz (k:Nat)(cs':List AV)(H2:List HO){b o:Nat}{td:TD}{TT t':TypeId}{cs:List AV}{v:AV}{x1 y1:Operand}(kk:AOL Tryz.prog ops K r ⟨D9 d .junk s.sl,H2,s.n⟩)(h:El s.sl x1 = .val (.pointer (some ⟨b,o,none⟩)):=by exact rfl)(hv:El s.sl y1=v:=by exact rfl)(ht:Bl TL t'=some td:=by exact rfl)(hk:s.H[k]? = some (.box b TT cs):=by exact rfl)(hs:Au (Cl v)=true:=by exact rfl)(hl:Nat.beq (Cl v).length td.size=true:=by exact rfl)(hb:Nat.ble (o+td.size) cs.length=true:=by exact rfl)(hc:Gb cs o (Cl v)=cs':=by exact rfl)(hH2:s.H.set k (.box b TT cs')=H2:=by exact rfl)(hd:Mx d s.n=true:=by exact rfl):AOL Tryz.prog ops K (⟨d,.store t' x1 y1,t,pos,after,none⟩::r) s:=AOL.e (Dj (k:=k) tok h hv ht hk hs hl hb hc hH2) hd fun x' H' e=>by obtain ⟨e1,e2⟩:=e;subst e1;subst e2;exact kk
abbrev Iq (n:Int):AV:=.int .i64 n
theorem iN {α:Type}{b:Bool}[Decidable (b=true)]{x y:α}(h:b=false):(if b=true then x else y)=y:=if_neg (Oe.mp h)
theorem Qe {R:AV->List HO->Prop}(h:L7 Tryz.prog ⟨d,op,t,pos,after,none⟩ (El s.sl) s.H R)(k:∀x H',R x H'->AOL Tryz.prog ops K r ⟨D9 d x s.sl,H',s.n⟩)(hd:Mx d s.n=true:=by exact rfl):AOL Tryz.prog ops K (⟨d,op,t,pos,after,none⟩::r) s:=AOL.e h hd k
theorem Qw {sl:List (Nat×AV)}{L:List (Nat×AV)}(hw:F2 ops o sl=some G:=by exact rfl)(hL:bW G sl L:=by first | exact trivial | exact ⟨Ent.Aax _ _,trivial⟩ | exact ⟨Ent.Aax _ _,tQ.suf _ _ _,trivial⟩):F2 ops o sl=some G/\bW G sl L:=⟨hw,hL⟩
theorem Qg (L:List (Nat×AV))(w:F2 ops o s.sl=some G/\bW G s.sl L)(h:Db Tryz.prog o (El (L++s.sl)) (fun _=>True) y)(k:AOL Tryz.prog ops K r ⟨D9 o.dst (.opt G y) s.sl,s.H,s.n⟩)(hd:Mx o.dst s.n=true:=by exact rfl):AOL Tryz.prog ops K (o::r) s:=AOL.Aa1 G L w.1 (bW.all w.2) (fun _=>h) hd k
theorem Af (h:AOL Tryz.prog ops (Ej (AW Tryz.prog c2 Q) Q .normal) ops.toList s):AW Tryz.prog (.seq (.region id ops false) c2) Q s:=AW.seq (AW.region h)
theorem A2 (h:N s):AOL Tryz.prog ops (Ej N Q .normal) [] s:=AOL.nil (Aa h)
theorem B7 {ops':Array Oper}(h:AOL Tryz.prog ops' (Ej (AW Tryz.prog c2 Q) Q .normal) ops'.toList s):AOL Tryz.prog ops (Ej (AW Tryz.prog (.seq (.region id ops' false) c2) Q) Q' .normal) [] s:=AOL.nil (Aa (AW.seq (AW.region h)))
theorem Gn {c:Operand}{x y:Code}(ht:b=true->AW Tryz.prog x Q s)(hf:b=false->AW Tryz.prog y Q s)(hb:El s.sl c = .bool b:=by exact rfl):AW Tryz.prog (.cond c x y) Q s:=AW.cond hb ht hf
theorem B6 (h:N s):AW Tryz.prog .skip (Ej N Q) s:=AW.skip (Aa h)
theorem gH (h:Q .ret s):AW Tryz.prog .ret (Ej N Q) s:=AW.ret (A4 h)
theorem Qr {H:List HO}{l:List ResultVar}{r:AV}(x:AV)(h:Ah [x]=r)(hr:ResL Tryz.prog TL s l [x]:=by exact .cons (.tmp _ _ rfl) .nil)(hs:H.Sublist s.H:=by exact .refl _):(Exit.ret = .normal\/Exit.ret = .ret)/\∃xs,ResL Tryz.prog TL s l xs/\H.Sublist s.H/\Ah xs=r:=⟨.inr rfl,[x],hr,hs,h⟩
theorem Nb {H:List HO}{l:List ResultVar}{r:AV}(x y:AV)(h:Ah [x,y]=r)(hr:ResL Tryz.prog TL s l [x,y]:=by exact .cons (.tmp _ _ rfl) (.cons (.tmp _ _ rfl) .nil))(hs:H.Sublist s.H:=by exact .refl _):(Exit.ret = .normal\/Exit.ret = .ret)/\∃xs,ResL Tryz.prog TL s l xs/\H.Sublist s.H/\Ah xs=r:=⟨.inr rfl,[x,y],hr,hs,h⟩
end
section
variable {ops:Array Oper} {K:List HO->Prop} {Q:St->Prop} {s:St} {o:Oper} {x y:AV} {G:List (Bool×Bool)} {listed:Array Bool}
theorem Qn (i:Nat)(ho:ops[i]? = some o)(h:Db Tryz.prog o (El s.sl) K x)(k:F3 Tryz.prog ops K Q (listed.setIfInBounds i true) ⟨D9 o.dst x s.sl,s.H,s.n⟩)(hr:(Region.ready .any ops listed).contains i=true:=by kernel_rfl)(hf:Region.free .any ops listed i=true:=by kernel_rfl)(hd:Mx o.dst s.n=true:=by exact rfl)(hg:o.guard=none:=by exact rfl):F3 Tryz.prog ops K Q listed s:=F3.pure listed s i o x ho hr hf hd (.run hg h) k
theorem Qo (i:Nat)(ho:ops[i]? = some o)(L:List (Nat×AV))(w:F2 ops o s.sl=some G/\bW G s.sl L)(h:Db Tryz.prog o (El (L++s.sl)) K y)(k:F3 Tryz.prog ops K Q (listed.setIfInBounds i true) ⟨D9 o.dst (.opt G y) s.sl,s.H,s.n⟩)(hr:(Region.ready .any ops listed).contains i=true:=by kernel_rfl)(hf:Region.free .any ops listed i=true:=by kernel_rfl)(hd:Mx o.dst s.n=true:=by exact rfl):F3 Tryz.prog ops K Q listed s:=F3.pure listed s i o _ ho hr hf hd (.opt G y L w.1 (bW.all w.2) (fun _=>h) rfl) k
end
abbrev Ak {x0:Int}{x1 x2:List UInt8}{x3:Int}{x4:AV}{x5:Int}:List AV:=[Iq x0,.str x1,.str x2,Iq x3,x4,Iq x5]
abbrev Gq {x0:Int}{x1:AV}{x2 x3 x4 x5 x6:Int}{x7:AV}{x8 x9 x10 x11 x12:Int}{x13:List UInt8}:List AV:=[Iq x0,x1,Iq x2,Iq x3,Iq x4,Iq x5,Iq x6,x7,Iq x8,Iq x9,Iq x10,Iq x11,Iq x12,.str x13]
abbrev G5 {x0 x1:Int}:List AV:=[Iq x0,Iq x1]
abbrev In :List AV:=[.int .i64 0,.str [],.str [],.int .i64 0,.sl 6 [],.int .i64 0]
abbrev Iy {x0:List UInt8}{x1:Int}:List AV:=[.str x0,Iq x1]
abbrev Me {x0:Int}{x1:AV}{x2 x3 x4 x5 x6:Int}{x7:List UInt8}:List AV:=[Iq x0,x1,Iq x2,Iq x3,Iq x4,Iq x5,Iq x6,.str x7]
abbrev Mf {x0:Int}{x1:List UInt8}{x2 x3 x4 x5:Int}:List AV:=[Iq x0,.str x1,Iq x2,Iq x3,Iq x4,Iq x5]
abbrev gcy {x0 x1:AV}:List AV:=[x0,x1]
abbrev M7 {x0:List UInt8}{x1:AV}:List AV:=[.str x0,x1]
abbrev Oq {x0:AV}{x1:Int}:List AV:=[x0,Iq x1]
abbrev Ps {x0:List UInt8}{x1 x2:AV}{x3:Int}{x4:AV}{x5 x6 x7 x8 x9:Int}{x10:AV}{x11 x12 x13 x14 x15:Int}{x16:List UInt8}{x17:AV}:List AV:=[.str x0,x1,x2,Iq x3,x4,Iq x5,Iq x6,Iq x7,Iq x8,Iq x9,x10,Iq x11,Iq x12,Iq x13,Iq x14,Iq x15,.str x16,x17]
abbrev Vx {x0 x1:List UInt8}{x2:Int}{x3:AV}{x4:Int}:List AV:=[.str x0,.str x1,Iq x2,x3,Iq x4]
abbrev Xd {x0 x1:Int}{x2:List UInt8}:List AV:=[Iq x0,Iq x1,.str x2]
abbrev Yn {x0:Int}{x1:AV}{x2:Int}:List AV:=[Iq x0,x1,Iq x2]
abbrev fZ :List AV:=[.int .i64 0,.int .i64 0]
abbrev nA {x0:Int}{x1:List UInt8}{x2:Int}:List AV:=[Iq x0,.str x1,Iq x2]
abbrev nB {x0:List UInt8}{x1:Int}{x2:AV}{x3:Int}:List AV:=[.str x0,Iq x1,x2,Iq x3]
abbrev nC {x0:List UInt8}{x1:Int}{x2:AV}:List AV:=[.str x0,Iq x1,x2]
abbrev ggx :List AV:=[.int .i64 0,.sl 14 [],.int .i64 0,.int .i64 0,.int .i64 0,.int .i64 0,.int .i64 0,.sl 8 [],.int .i64 0,.int .i64 0,.int .i64 0,.int .i64 0,.int .i64 0,.str []]
abbrev ggy :List AV:=[.int .i64 0,.sl 8 [],.int .i64 0,.int .i64 0,.int .i64 0,.int .i64 0,.int .i64 0,.str []]
abbrev ggz :List AV:=[.int .i64 0,.str [],.int .i64 0,.int .i64 0,.int .i64 0,.int .i64 0]
abbrev ghx {x0:AV}{x1 x2 x3 x4 x5:Int}:List AV:=[x0,Iq x1,Iq x2,Iq x3,Iq x4,Iq x5]
abbrev ghy {x0:AV}{x1 x2 x3 x4 x5:Int}{x6:AV}{x7 x8 x9 x10 x11:Int}{x12:List UInt8}:List AV:=[x0,Iq x1,Iq x2,Iq x3,Iq x4,Iq x5,x6,Iq x7,Iq x8,Iq x9,Iq x10,Iq x11,.str x12]
abbrev ghz {x0 x1 x2 x3:Bool}:List AV:=[.bool x0,.bool x1,.bool x2,.bool x3]
abbrev gix :List AV:=[.str [],.int .i64 0]
abbrev giy {x0 x1:AV}{x2:Int}{x3:AV}{x4 x5 x6 x7 x8:Int}{x9:AV}{x10 x11 x12 x13 x14:Int}{x15:List UInt8}{x16:AV}:List AV:=[x0,x1,Iq x2,x3,Iq x4,Iq x5,Iq x6,Iq x7,Iq x8,x9,Iq x10,Iq x11,Iq x12,Iq x13,Iq x14,.str x15,x16]
abbrev giz {x0 x1 x2 x3:Int}{x4:AV}{x5 x6 x7 x8 x9:Int}{x10:List UInt8}:List AV:=[Iq x0,Iq x1,Iq x2,Iq x3,x4,Iq x5,Iq x6,Iq x7,Iq x8,Iq x9,.str x10]
abbrev gjx :List AV:=[.str [],.sl 2 [],.sl 1 [],.int .i64 0,.sl 14 [],.int .i64 0,.int .i64 0,.int .i64 0,.int .i64 0,.int .i64 0,.sl 8 [],.int .i64 0,.int .i64 0,.int .i64 0,.int .i64 0,.int .i64 0,.str [],.sl 8 []]
abbrev gjy {x0 x1:Int}{x2 x3 x4 x5:Bool}:List AV:=[Iq x0,Iq x1,.bool x2,.bool x3,.bool x4,.bool x5]
abbrev gjz {x0 x1 x2 x3 x4:Int}{x5:AV}{x6 x7 x8 x9 x10:Int}{x11:List UInt8}:List AV:=[Iq x0,Iq x1,Iq x2,Iq x3,Iq x4,x5,Iq x6,Iq x7,Iq x8,Iq x9,Iq x10,.str x11]
abbrev gkx {x0 x1 x2:Int}{x3:AV}{x4 x5 x6 x7 x8:Int}{x9:List UInt8}:List AV:=[Iq x0,Iq x1,Iq x2,x3,Iq x4,Iq x5,Iq x6,Iq x7,Iq x8,.str x9]
abbrev gky {x0:AV}{x1:Int}{x2:AV}{x3 x4 x5 x6 x7:Int}{x8:AV}{x9 x10 x11 x12 x13:Int}{x14:List UInt8}{x15:AV}:List AV:=[x0,Iq x1,x2,Iq x3,Iq x4,Iq x5,Iq x6,Iq x7,x8,Iq x9,Iq x10,Iq x11,Iq x12,Iq x13,.str x14,x15]
abbrev gkz {x0:Int}{x1:AV}{x2 x3 x4 x5 x6:Int}{x7:AV}{x8 x9 x10 x11 x12:Int}{x13:List UInt8}{x14:AV}:List AV:=[Iq x0,x1,Iq x2,Iq x3,Iq x4,Iq x5,Iq x6,x7,Iq x8,Iq x9,Iq x10,Iq x11,Iq x12,.str x13,x14]
section
variable {ops ops2:Array Oper} {K:St->Prop} {s:St} {d:Option Nat} {op:Op} {t:TypeId} {pos:String} {after:Array Edge} {r:List Oper} {x y:AV} {o:Oper} {c1 c2 c3:Code} {Q Q1 Q2:Exit->St->Prop} {N N1:St->Prop} {id id2:Nat}
theorem Ra (h:Q .ret s):AOL Tryz.prog ops (Ej (AW Tryz.prog .ret (Ji id (Ej N Q))) Q1 .normal) [] s:=A2 (AW.ret (Dw (A4 h)))
theorem Rf (h:N s):AW Tryz.prog .skip (Ji id (Ej N Q)) s:=AW.skip (Ff (Aa h))
theorem Ri (h:N s):Ej N1 (Ji id (Ej N Q)) (.exit id) s:=Br (Gp (Aa h))
theorem Rj {Q1:Exit->St->Prop}(h:Q1 .ret s):Ji id (Ej N (Ej N1 (Ji id2 Q1))) .ret s:=Dw (A4 (A4 (Dw h)))
theorem Rk (h:N s):AOL Tryz.prog ops (Ji id (Ej N Q) .normal) [] s:=AOL.nil (Ff (Aa h))
theorem Rc (h:Q .ret s):AOL Tryz.prog ops (Ej (AW Tryz.prog .ret (Ej N Q)) Q1 .normal) [] s:=A2 (gH h)
theorem Rb (h:Q .ret s):AOL Tryz.prog ops (Ej (AW Tryz.prog .ret Q) Q1 .normal) [] s:=A2 (AW.ret h)
theorem Cg (h:AOL Tryz.prog ops (Ej (AW Tryz.prog c2 (Ej (AW Tryz.prog c3 Q) Q)) (Ej (AW Tryz.prog c3 Q) Q) .normal) ops.toList s):AW Tryz.prog (.seq (.seq (.region id ops false) c2) c3) Q s:=AW.seq (Af h)
theorem Re (h:AW Tryz.prog c1 (Ej (AW Tryz.prog c2 Q) Q) s):AOL Tryz.prog ops (Ej (AW Tryz.prog (.seq c1 c2) Q) Q1 .normal) [] s:=A2 (AW.seq h)
theorem qD {f:FuncId}{args:Array Operand}{ats:Array TypeId}{l:List AV}{v:AV}{H2:List HO}(hc:Bt Tryz.prog f s.H l fun r' H'=>r'=v/\H'=H2)(k:AOL Tryz.prog ops K r ⟨D9 d v s.sl,H2,s.n⟩)(hf:Tn Tryz.prog f=true:=by kernel_rfl)(hcal:El s.sl (.func f) = .fn (.func f) [] []:=by exact rfl)(ha:args.toList.map (El s.sl)=l:=by exact rfl)(hd:Mx d s.n=true:=by exact rfl):AOL Tryz.prog ops K (⟨d,.call ⟨.value (.func f),args,ats⟩,t,pos,after,none⟩::r) s:=Qe (L6 hf hcal ha hc) (fun _ _ ⟨h1,h2⟩=>by subst h1;subst h2;exact k) hd
theorem Rt {v:AV}{H2:List HO}(h:L7 Tryz.prog ⟨d,op,t,pos,after,none⟩ (El s.sl) s.H fun r' H'=>r'=v/\H'=H2)(k:AOL Tryz.prog ops K r ⟨D9 d v s.sl,H2,s.n⟩)(hd:Mx d s.n=true:=by exact rfl):AOL Tryz.prog ops K (⟨d,op,t,pos,after,none⟩::r) s:=Qe h (fun _ _ ⟨h1,h2⟩=>by subst h1;subst h2;exact k) hd
theorem D7 {T:TypeId}(l:List AV)(k:∀b,AOL Tryz.prog ops K r ⟨D9 d (.val (.pointer (some ⟨b,0,none⟩))) s.sl,.box b T l::s.H,s.n⟩)(hz:zOK Tryz.prog T l=true:=by kernel_rfl)(hd:Mx d s.n=true:=by exact rfl):AOL Tryz.prog ops K (⟨d,.alloc T,t,pos,after,none⟩::r) s:=Qe (Dg hz) (fun _ _ ⟨b,h1,h2⟩=>by subst h1;subst h2;exact k b) hd
end
section
variable {ops:Array Oper} {s:St} {d:Option Nat} {t:TypeId} {pos:String} {aft:Array Edge} {gd:Option (Nat×Bool)} {ρ:Operand->AV}
theorem Dc {f:FuncId}{args:Array Operand}{ats:Array TypeId}{l:List AV}{G:List HO}{R:AV->List HO->Prop}(ha:args.toList.map ρ=l)(hc:Bt Tryz.prog f G l R)(hf:Tn Tryz.prog f=true:=by kernel_rfl)(hcal:ρ (.func f) = .fn (.func f) [] []:=by exact rfl):L7 Tryz.prog ⟨d,.call ⟨.value (.func f),args,ats⟩,t,pos,aft,gd⟩ ρ G R:=L6 hf hcal ha hc
theorem Ok {id:Nat}{Q:Exit->St->Prop}(h:F3 Tryz.prog ops (fun _=>True) (Q .normal) (Array.replicate ops.size false) s)(hdd:Em ops=true:=by kernel_rfl):AW Tryz.prog (.region id ops true) Q s:=AW.draw mixed (fun _=>True) trivial hdd h
theorem Iw {K:List HO->Prop}{Q:St->Prop}{listed:Array Bool}(h:Q s)(hr:Region.ready .any ops listed = []:=by kernel_rfl):F3 Tryz.prog ops K Q listed s:=F3.done listed s hr h
theorem qE {Q:St->Prop}{listed:Array Bool}{o:Oper}{R:AV->List HO->Prop}(i:Nat)(ho:ops[i]? = some o)(hp:L7 Tryz.prog o (El s.sl) s.H R)(h:∀x H',R x H'->F3 Tryz.prog ops (fun _=>True) Q (listed.setIfInBounds i true) ⟨D9 o.dst x s.sl,H',s.n⟩)(hr:Region.ready .any ops listed = [i]:=by kernel_rfl)(hd:Mx o.dst s.n=true:=by exact rfl)(hw:o.guard=none:=by exact rfl):F3 Tryz.prog ops (fun _=>True) Q listed s:=F3.eff listed s i o R ho hr hd hw hp (fun _ _ _=>trivial) h
theorem Ns {Q:St->Prop}{listed:Array Bool}{o:Oper}{v:AV}{G:List HO}(i:Nat)(ho:ops[i]? = some o)(hp:L7 Tryz.prog o (El s.sl) s.H fun x H'=>x=v/\H'=G)(h:F3 Tryz.prog ops (fun _=>True) Q (listed.setIfInBounds i true) ⟨D9 o.dst v s.sl,G,s.n⟩)(hr:Region.ready .any ops listed = [i]:=by kernel_rfl)(hd:Mx o.dst s.n=true:=by exact rfl)(hw:o.guard=none:=by exact rfl):F3 Tryz.prog ops (fun _=>True) Q listed s:=qE i ho hp (fun _ _ ⟨h1,h2⟩=>by subst h1;subst h2;exact h) hr hd hw
theorem Dh {sl sl':List (Nat×AV)}{G G':List HO}{n:Nat}(h:Wk sl sl':=by (repeat refine ⟨rfl,?_⟩);exact trivial)(hs:G'.Sublist G:=by exact .refl _):GS ⟨sl,G,n⟩ ⟨sl',G',n⟩:=GS.weaken h hs
end
section
variable {ops:Array Oper} {K:St->Prop} {s:St} {d:Option Nat} {op:Op} {t:TypeId} {pos:String} {after:Array Edge} {r:List Oper} {x y:AV} {o:Oper} {G:List (Bool×Bool)} {c1 c2 c3:Code} {Q Q1:Exit->St->Prop} {N:St->Prop} {id:Nat} {b ob:Nat} {td te:TD} {TT t1 e z m:Nat} {xo yo:Operand} {cs:List AV} {c:Operand} {bb:Bool}
theorem Yw {sl:List (Nat×AV)}{L:List (Nat×AV)}(hw:F2 ops o sl=some G:=by exact rfl)(hL:bW G sl L:=by exact ⟨Ent.Aax _ _,Ent.Aax _ _,trivial⟩):F2 ops o sl=some G/\bW G sl L:=⟨hw,hL⟩
theorem Es {G:List (Bool×Bool)}{v:AV}:tQ G (.opt G v) v:=Ent.Aax _ _
theorem Yv {sl:List (Nat×AV)}{i j:Nat}{v w:AV}(hw:F2 ops o sl=some G)(h:tQ G (get sl i) v)(k:tQ G (get sl j) w):F2 ops o sl=some G/\bW G sl [(i,v),(j,w)]:=⟨hw,h,k,trivial⟩
theorem Yh (L:List (Nat×AV))(w:F2 ops o s.sl=some G/\bW G s.sl L)(h:Mn G->Db Tryz.prog o (El (L++s.sl)) (fun _=>True) y)(k:AOL Tryz.prog ops K r ⟨D9 o.dst (.opt G y) s.sl,s.H,s.n⟩)(hd:Mx o.dst s.n=true:=by exact rfl):AOL Tryz.prog ops K (o::r) s:=AOL.Aa1 G L w.1 (bW.all w.2) h hd k
theorem Ye {α:Type}{a b:α}{c:AV}(f:α->AV)(h:a=b)(hc:c=f b:=by exact rfl):c=f a:=hc.trans (congrArg f h).symm
theorem Pq {h:HO}(i:Nat)(hi:s.H[i]? = some h)(k:F3 Tryz.prog ops (fun H'=>h∈H') (Q .normal) (Array.replicate ops.size false) s)(hdd:Em ops=true:=by kernel_rfl):AW Tryz.prog (.region id ops true) Q s:=AW.draw mixed (fun H'=>h∈H') (Aj hi) hdd k
theorem Yx {H:List HO}{l:List ResultVar}{q:AV}(xs:List AV)(hr:ResL Tryz.prog TL s l xs)(hs:H.Sublist s.H)(h:Ah xs=q):(Exit.ret = .normal\/Exit.ret = .ret)/\∃xs,ResL Tryz.prog TL s l xs/\H.Sublist s.H/\Ah xs=q:=⟨.inr rfl,xs,hr,hs,h⟩
theorem Yt {i:Nat}(h:get s.sl i=x:=by exact rfl):Res Tryz.prog TL s (.tmp i) x:=.tmp _ _ h
theorem Yb {a:Nat}{l:List AV}(k:Nat)(h:(get s.sl a,s.H[k]?,Bl TL t,td.agg,cs.take td.size,Nat.beq l.length td.size)=(.val (.pointer (some ⟨b,0,none⟩)),some (.box b TT cs),some td,true,l,true):=by exact rfl):Res Tryz.prog TL s (.cell a t) (.agg l):=by simp only [Prod.mk.injEq] at h;obtain ⟨q0,q1,q2,q3,q4,q5⟩:=h;exact .box _ _ _ k _ _ _ _ q0 q1 q2 q3 q4 q5
theorem Zb {a:Nat}{l:List AV}(k:Nat)(h:(get s.sl a,s.H[k]?,Bl TL t,td.agg,cs.take td.size,Nat.beq l.length td.size)=(.val (.pointer (some ⟨b,0,none⟩)),some (.box b TT cs),some td,true,l,true):=by exact rfl):ResL Tryz.prog TL s [.cell a t] [.agg l]:=.cons (Yb k h) .nil
theorem Zc {a:Nat}{l:List AV}(k:Nat)(h:(get s.sl a,s.H[k]?,Bl TL t,td.agg,cs.take td.size,Nat.beq l.length td.size)=(.val (.pointer (some ⟨b,0,none⟩)),some (.box b TT cs),some td,true,l,true):=by exact rfl){i:Nat}(hx:get s.sl i=x:=by exact rfl):ResL Tryz.prog TL s [.cell a t,.tmp i] [.agg l,x]:=.cons (Yb k h) (.cons (Yt hx) .nil)
theorem Zd {a:Nat}{l:List AV}(k:Nat)(h:(get s.sl a,s.H[k]?,Bl TL t,td.agg,cs.take td.size,Nat.beq l.length td.size)=(.val (.pointer (some ⟨b,0,none⟩)),some (.box b TT cs),some td,true,l,true):=by exact rfl){i j:Nat}(hx:get s.sl i=x:=by exact rfl)(hy:get s.sl j=y:=by exact rfl):ResL Tryz.prog TL s [.cell a t,.tmp i,.tmp j] [.agg l,x,y]:=.cons (Yb k h) (.cons (Yt hx) (.cons (Yt hy) .nil))
theorem Ze {i:Nat}(h:get s.sl i=x:=by exact rfl):ResL Tryz.prog TL s [.tmp i] [x]:=.cons (Yt h) .nil
theorem Zf {i j:Nat}(h:get s.sl i=x:=by exact rfl)(hy:get s.sl j=y:=by exact rfl):ResL Tryz.prog TL s [.tmp i,.tmp j] [x,y]:=.cons (Yt h) (Ze hy)
theorem Zg {z:AV}{i j k:Nat}(h:get s.sl i=x:=by exact rfl)(hy:get s.sl j=y:=by exact rfl)(hz:get s.sl k=z:=by exact rfl):ResL Tryz.prog TL s [.tmp i,.tmp j,.tmp k] [x,y,z]:=.cons (Yt h) (Zf hy hz)
theorem S0 {l:List HO}:l.Sublist (l):=.refl _
theorem S1 {l:List HO}{a:HO}:l.Sublist (a::l):=.cons _ (.refl _)
theorem S2 {l:List HO}{a b:HO}:l.Sublist (a::b::l):=.cons _ (.cons _ (.refl _))
theorem S3 {l:List HO}{a b c:HO}:l.Sublist (a::b::c::l):=.cons _ (.cons _ (.cons _ (.refl _)))
theorem S4 {l:List HO}{a b c d:HO}:l.Sublist (a::b::c::d::l):=.cons _ (.cons _ (.cons _ (.cons _ (.refl _))))
theorem S5 {l:List HO}{a b c d e:HO}:l.Sublist (a::b::c::d::e::l):=.cons _ (.cons _ (.cons _ (.cons _ (.cons _ (.refl _)))))
theorem S6 {l:List HO}{a b c d e f:HO}:l.Sublist (a::b::c::d::e::f::l):=.cons _ (.cons _ (.cons _ (.cons _ (.cons _ (.cons _ (.refl _))))))
theorem S7 {l:List HO}{a b c d e f g:HO}:l.Sublist (a::b::c::d::e::f::g::l):=.cons _ (.cons _ (.cons _ (.cons _ (.cons _ (.cons _ (.cons _ (.refl _)))))))
theorem Fl {f:FuncId}{fn:Func}{cc:Code}{args:List AV}{q:AV}(n:Nat)(hf:Tryz.prog.funcs[f]? = some fn)(hb:(fn.body,fn.ntmps,Nat.ble args.length n)=(some cc,n,true))(h:∀H,AW Tryz.prog cc (fun e s=>(e = .normal\/e = .ret)/\∃xs,ResL Tryz.prog TL s fn.results.toList xs/\H.Sublist s.H/\Ah xs=q) ⟨Gg 0 args,H,n⟩):Ap Tryz.prog f args q:=Ap.body tok hf (congrArg (·.1) hb) (congrArg (·.2.1) hb) (congrArg (·.2.2) hb) h
theorem H7 {f:FuncId}{fn:Func}{cc:Code}{args:List AV}{H:List HO}{q:AV->List HO->Prop}(n:Nat)(hf:Tryz.prog.funcs[f]? = some fn)(hb:(fn.body,fn.ntmps,Nat.ble args.length n)=(some cc,n,true))(h:AW Tryz.prog cc (fun e s=>(e = .normal\/e = .ret)/\∃xs,ResL Tryz.prog TL s fn.results.toList xs/\∃H',H'.Sublist s.H/\q (Ah xs) H') ⟨Gg 0 args,H,n⟩):Bt Tryz.prog f H args q:=Bt.body tok hf (congrArg (·.1) hb) (congrArg (·.2.1) hb) (congrArg (·.2.2) hb) h
theorem Bp {u v:Code}(ht:bb=true->AW Tryz.prog u Q s)(hf:bb=false->AW Tryz.prog v Q s)(hb:El s.sl c = .bool bb:=by exact rfl):AOL Tryz.prog ops (Ej (AW Tryz.prog (.cond c u v) Q) Q1 .normal) [] s:=A2 (Gn ht hf hb)
theorem O3 (k:Nat)(l:List AV)(h:(s.H[k]?,El s.sl xo,Bl TL t1,td.agg,(cs.drop ob).take td.size,Nat.beq l.length td.size,Mx d s.n)=(some (.box b TT cs),.val (.pointer (some ⟨b,ob,none⟩)),some td,true,l,true,true))(kk:AOL Tryz.prog ops K r ⟨D9 d (.agg l) s.sl,s.H,s.n⟩):AOL Tryz.prog ops K (⟨d,.load t1 xo,t,pos,after,none⟩::r) s:=by simp only [Prod.mk.injEq] at h;obtain ⟨q0,q1,q2,q3,q4,q5,q6⟩:=h;exact AOL.Aaz (Iu (k:=k) tok q1 q2 q3 q4 q5) q0 q6 kk
theorem Pz (k:Nat)(x:AV)(h:(s.H[k]?,El s.sl xo,Bl TL t1,td.agg,cs[ob]?,Mx d s.n)=(some (.box b TT cs),.val (.pointer (some ⟨b,ob,none⟩)),some td,false,some x,true))(kk:AOL Tryz.prog ops K r ⟨D9 d x s.sl,s.H,s.n⟩):AOL Tryz.prog ops K (⟨d,.load t1 xo,t,pos,after,none⟩::r) s:=by simp only [Prod.mk.injEq] at h;obtain ⟨q0,q1,q2,q3,q4,q5⟩:=h;exact AOL.Aaz (B8 (k:=k) tok q1 q2 q3 q4) q0 q5 kk
theorem Kh {sl:List (Nat×AV)}{H:List HO}{n:Nat}{l:List Oper}(t k:Nat)(h:(get sl t,H[k]?)=(.val (.pointer (some ⟨b,0,none⟩)),some (.box b TT cs)))(kk:AOL Tryz.prog ops K l ⟨(t,.ptr cs)::sl,H.eraseIdx k,n⟩):AOL Tryz.prog ops K l ⟨sl,H,n⟩:=AOL.ghost (GS.freeze k (congrArg (·.1) h) (congrArg (·.2) h)) kk
end
section
variable {ops:Array Oper} {K:List HO->Prop} {Q:St->Prop} {s:St} {o:Oper} {x y:AV} {G:List (Bool×Bool)} {listed:Array Bool}
theorem Yo (i:Nat)(ho:ops[i]? = some o)(L:List (Nat×AV))(w:F2 ops o s.sl=some G/\bW G s.sl L)(h:Mn G->Db Tryz.prog o (El (L++s.sl)) K y)(k:F3 Tryz.prog ops K Q (listed.setIfInBounds i true) ⟨D9 o.dst (.opt G y) s.sl,s.H,s.n⟩)(hr:(Region.ready .any ops listed).contains i=true:=by kernel_rfl)(hf:Region.free .any ops listed i=true:=by kernel_rfl)(hd:Mx o.dst s.n=true:=by exact rfl):F3 Tryz.prog ops K Q listed s:=F3.pure listed s i o _ ho hr hf hd (.opt G y L w.1 (bW.all w.2) h rfl) k
theorem Vr {R:AV->List HO->Prop}(i:Nat)(ho:ops[i]? = some o)(hp:L7 Tryz.prog o (El s.sl) s.H R)(hK:∀x H',R x H'->K H')(h:∀x H',R x H'->F3 Tryz.prog ops K Q (listed.setIfInBounds i true) ⟨D9 o.dst x s.sl,H',s.n⟩)(hr:Region.ready .any ops listed = [i]:=by kernel_rfl)(hd:Mx o.dst s.n=true:=by exact rfl)(hw:o.guard=none:=by exact rfl):F3 Tryz.prog ops K Q listed s:=F3.eff listed s i o R ho hr hd hw hp hK h
theorem bF {R:AV->List HO->Prop}(i:Nat)(ho:ops[i]? = some o)(hp:L7 Tryz.prog o (El s.sl) s.H R)(h:∀x H',R x H'->Q ⟨D9 o.dst x s.sl,H',s.n⟩)(hl:lastB ops listed o i=true:=by kernel_rfl)(hr:Region.ready .any ops listed = [i]:=by kernel_rfl)(hd:Mx o.dst s.n=true:=by exact rfl)(hw:o.guard=none:=by exact rfl):F3 Tryz.prog ops K Q listed s:=F3.last listed s i o R ho hr hd hw hp hl h
end
section
variable {d:Option Nat} {ty:TypeId} {pos:String} {aft:Array Edge} {gd:Option (Nat×Bool)} {ρ:Operand->AV} {K:List HO->Prop} {xo yo:Operand} {t e z b ob TT:Nat} {td te:TD} {cs:List AV} {es:List (List AV)}
theorem Lb (c:AV)(h:(ρ xo,Bl TL t,td.agg,cs[ob]?)=(.val (.pointer (some ⟨b,ob,none⟩)),some td,false,some c)):Db Tryz.prog ⟨d,.load t xo,ty,pos,aft,gd⟩ ρ (fun H=>HO.box b TT cs∈H) c:=by simp only [Prod.mk.injEq] at h;obtain ⟨q0,q1,q2,q3⟩:=h;exact Db.mem (fun k=>B8 (k:=k) tok q0 q1 q2 q3) (fun _ h=>h)
theorem G1 (n:Nat)(h0:ρ xo = .sl z es)(h:(Bl TL t,td.kind)=(some td,.slice e))(hn:es.length=n):Db Tryz.prog ⟨d,.call ⟨.builtin .len,#[xo],#[t]⟩,ty,pos,aft,gd⟩ ρ K (.int .i64 n):=by simp only [Prod.mk.injEq] at h;obtain ⟨q0,q1⟩:=h;exact Dz tok h0 q0 q1 hn
theorem E9 {k:IntKind}{n:Int}(c:List AV)(hs:ρ xo = .sl z es)(h:(ρ yo,Bl TL t,td.kind,Bl TL e,te.size)=(.int k n,some td,.slice e,some te,z))(h0:0<=n)(hc:es[n.toNat]? = some c):Db Tryz.prog ⟨d,.indexAddr t xo yo,ty,pos,aft,gd⟩ ρ K (.ptr c):=by simp only [Prod.mk.injEq] at h;obtain ⟨q0,q1,q2,q3,q4⟩:=h;exact Ec tok hs q0 q1 q2 q3 q4 h0 hc
theorem Ir {n:Nat}{parts:Array (Nat×Operand)}(es:List (List AV))(h:(Bl TL t,td.kind,Bl TL e,te.size,Nat.beq parts.toList.length n,Nat.ble (n*z) 16777216,Vm z ρ 0 parts.toList,Nat.blt 0 z,Qk ρ parts.toList)=(some td,.slice e,some te,z,true,true,true,true,es)):Db Tryz.prog ⟨d,.buildSlice t n parts,ty,pos,aft,gd⟩ ρ K (.sl z es):=by simp only [Prod.mk.injEq] at h;obtain ⟨q0,q1,q2,q3,q4,q5,q6,q7,q8⟩:=h;exact Mz tok q0 q1 q2 q3 q4 q5 q6 q7 q8
theorem Ki {H:List HO}(k:Nat)(v:AV)(cs':List AV)(H2:List HO)(h:(ρ xo,ρ yo,Bl TL t,H[k]?,Au (Cl v),Nat.beq (Cl v).length td.size,Nat.ble (ob+td.size) cs.length,Gb cs ob (Cl v),H.set k (.box b TT cs'))=(.val (.pointer (some ⟨b,ob,none⟩)),v,some td,some (.box b TT cs),true,true,true,cs',H2)):L7 Tryz.prog ⟨d,.store t xo yo,ty,pos,aft,gd⟩ ρ H (fun z H'=>z = .junk/\H'=H2):=by simp only [Prod.mk.injEq] at h;obtain ⟨q0,q1,q2,q3,q4,q5,q6,q7,q8⟩:=h;exact Dj tok q0 q1 q2 q3 q4 q5 q6 q7 q8
theorem Vc {H:List HO}{v:Value}{e2:List (List AV)}(k:Nat)(h:(ρ xo,ρ yo,Bl TL t,td.kind,Bl TL e,te.size,Nat.blt 0 z,H[k]?)=(.row v z es,.sl z e2,some td,.slice e,some te,z,true,some (.row v es.length e z)))(hs2:∀c∈e2,Au c=true)(hs1:∀c∈es,Au c=true)(hb:(es.length+e2.length)*te.bytes<=140737488355328)(hm:es.length+e2.length<=maxLen):L7 Tryz.prog ⟨d,.call ⟨.builtin .append,#[xo,yo],#[t,t]⟩,ty,pos,aft,gd⟩ ρ H (fun r H'=>∃v',r = .row v' z (es++e2)/\H'=H.set k (.row v' (es++e2).length e z)):=by simp only [Prod.mk.injEq] at h;obtain ⟨q0,q1,q2,q3,q4,q5,q6,q7⟩:=h;exact lR tok q0 q1 q2 q3 q4 q5 q6 q7 hs2 hs1 hb hm
end
end Go.Proofs.YtibcelnfkhdjaaaGreatDoor
namespace Go.Proofs
open Go.Shelf
def Tryz.lays137_ren:Go.Shelf.Ren:=⟨fun | 137=>144 | 217=>182 | 266=>210 | n=>n,fun | 9=>9 | 5=>5 | 3=>3 | n=>n,fun | n=>n⟩
theorem Tryz.lays137:Go.Proofs.Lays.n137 Tryz.prog Tryz.lays137_ren:={
 mixed:=by kernel_rfl
 f137:=Tryz.func144.trans (congrArg some (by kernel_rfl))
 f217:=Tryz.func182.trans (congrArg some (by kernel_rfl))
 f266:=Tryz.func210.trans (congrArg some (by kernel_rfl))
 t3:=Tryz.underlying3
 a3:=Tryz.isAgg3
 z3:=Tryz.sizeOf3
 v3:=Tryz.zeroValue3
 t5:=Tryz.underlying5
 a5:=Tryz.isAgg5
 z5:=Tryz.sizeOf5
 v5:=Tryz.zeroValue5
 t9:=Tryz.underlying9
 a9:=Tryz.isAgg9
 z9:=Tryz.sizeOf9
 v9:=Tryz.zeroValue9 }
open Go.RowKit in
theorem Tryz.strings_IndexByte (s:ByteArray)(c:Int)(w:World) :
 Calls Tryz.prog 144 #[.string s,.int .u8 c] w fun e w'=>e = .returned (.int .i64 (Lib.indexByte s.data.toList c.toNat.toUInt8))/\w'=w:=Any.strings_IndexByte Tryz.lays137 s c w
def Tryz.laysM171_ren:Go.Shelf.Ren:=⟨fun | 171=>175 | 243=>204 | 246=>217 | 283=>220 | 284=>221 | 285=>222 | 286=>223 | 129=>226 | 317=>225 | 318=>227 | 319=>228 | 320=>229 | 337=>233 | 338=>234 | n=>n,fun | 3=>3 | 9=>9 | 2=>2 | 4=>4 | 171=>269 | 0=>0 | 53=>252 | 37=>91 | 5=>5 | 173=>272 | 212=>276 | 51=>249 | 20=>20 | 213=>277 | 46=>221 | 232=>281 | 233=>282 | n=>n,fun | 17=>10 | 18=>12 | 19=>13 | n=>n⟩
theorem Tryz.laysM171:Go.Proofs.LaysM.n171 Tryz.prog Tryz.laysM171_ren:={
 mixed:=by kernel_rfl
 f129:=Tryz.func226.trans (congrArg some (by kernel_rfl))
 f171:=Tryz.func175.trans (congrArg some (by kernel_rfl))
 f243:=Tryz.func204.trans (congrArg some (by kernel_rfl))
 f246:=Tryz.func217.trans (congrArg some (by kernel_rfl))
 f283:=Tryz.func220.trans (congrArg some (by kernel_rfl))
 f284:=Tryz.func221.trans (congrArg some (by kernel_rfl))
 f285:=Tryz.func222.trans (congrArg some (by kernel_rfl))
 f286:=Tryz.func223.trans (congrArg some (by kernel_rfl))
 f317:=Tryz.func225.trans (congrArg some (by kernel_rfl))
 f318:=Tryz.func227.trans (congrArg some (by kernel_rfl))
 f319:=Tryz.func228.trans (congrArg some (by kernel_rfl))
 f320:=Tryz.func229.trans (congrArg some (by kernel_rfl))
 f337:=Tryz.func233.trans (congrArg some (by kernel_rfl))
 f338:=Tryz.func234.trans (congrArg some (by kernel_rfl))
 t0:=Tryz.underlying0
 a0:=Tryz.isAgg0
 z0:=Tryz.sizeOf0
 v0:=Tryz.zeroValue0
 t2:=Tryz.underlying2
 a2:=Tryz.isAgg2
 z2:=Tryz.sizeOf2
 v2:=Tryz.zeroValue2
 t3:=Tryz.underlying3
 a3:=Tryz.isAgg3
 z3:=Tryz.sizeOf3
 v3:=Tryz.zeroValue3
 t4:=Tryz.underlying4
 a4:=Tryz.isAgg4
 z4:=Tryz.sizeOf4
 v4:=Tryz.zeroValue4
 t5:=Tryz.underlying5
 a5:=Tryz.isAgg5
 z5:=Tryz.sizeOf5
 v5:=Tryz.zeroValue5
 t9:=Tryz.underlying9
 a9:=Tryz.isAgg9
 z9:=Tryz.sizeOf9
 v9:=Tryz.zeroValue9
 t20:=Tryz.underlying20
 a20:=Tryz.isAgg20
 z20:=Tryz.sizeOf20
 v20:=Tryz.zeroValue20
 t37:=Tryz.underlying91
 a37:=Tryz.isAgg91
 z37:=Tryz.sizeOf91
 v37:=Tryz.zeroValue91
 t46:=Tryz.underlying221
 a46:=Tryz.isAgg221
 z46:=Tryz.sizeOf221
 v46:=Tryz.zeroValue221
 t51:=Tryz.underlying249
 a51:=Tryz.isAgg249
 z51:=Tryz.sizeOf249
 v51:=Tryz.zeroValue249
 t53:=Tryz.underlying252
 a53:=Tryz.isAgg252
 z53:=Tryz.sizeOf252
 v53:=Tryz.zeroValue252
 t171:=Tryz.underlying269
 a171:=Tryz.isAgg269
 z171:=Tryz.sizeOf269
 v171:=Tryz.zeroValue269
 t173:=Tryz.underlying272
 a173:=Tryz.isAgg272
 z173:=Tryz.sizeOf272
 v173:=Tryz.zeroValue272
 t212:=Tryz.underlying276
 a212:=Tryz.isAgg276
 z212:=Tryz.sizeOf276
 v212:=Tryz.zeroValue276
 t213:=Tryz.underlying277
 a213:=Tryz.isAgg277
 z213:=Tryz.sizeOf277
 t232:=Tryz.underlying281
 a232:=Tryz.isAgg281
 z232:=Tryz.sizeOf281
 v232:=Tryz.zeroValue281
 t233:=Tryz.underlying282
 a233:=Tryz.isAgg282
 z233:=Tryz.sizeOf282
 v233:=Tryz.zeroValue282
 g17:=by kernel_rfl
 g18:=by kernel_rfl
 g19:=by kernel_rfl
 i0:=by kernel_rfl
 i2:=by kernel_rfl
 i3:=by kernel_rfl
 i4:=by kernel_rfl
 i5:=by kernel_rfl
 i9:=by kernel_rfl
 i20:=by kernel_rfl
 i37:=by kernel_rfl
 i46:=by kernel_rfl
 i51:=by kernel_rfl
 i53:=by kernel_rfl
 i171:=by kernel_rfl
 i173:=by kernel_rfl
 i212:=by kernel_rfl
 i232:=by kernel_rfl
 i233:=by kernel_rfl
 m17:=by kernel_rfl
 m18:=by kernel_rfl
 m19:=by kernel_rfl }
open Go.RowKit Go.Sort Go.Lib in
theorem Tryz.strconv_Itoa (n : Int) (h0 : -9223372036854775808 <= n) (h1 : n <= 9223372036854775807) (w : World) (htab : Lib.TabIs Tryz.prog w "internal/strconv.uint64pow10" .u64 Lib.pow10Tab) :
 Calls Tryz.prog 175 #[.int .i64 n] w fun e w'=>e = .returned (.string ⟨(Lib.itoa n).toArray⟩)/\∃k os,w'=grow (w.drewN k) os:=Any.strconv_Itoa Tryz.laysM171 n h0 h1 w htab
def Tryz.lays144_ren:Go.Shelf.Ren:=⟨fun | 144=>77 | 143=>138 | 219=>181 | 217=>182 | 225=>207 | 224=>208 | 267=>209 | 266=>210 | 314=>218 | n=>n,fun | 9=>9 | 4=>4 | 3=>3 | 5=>5 | 46=>221 | 146=>250 | 51=>249 | n=>n,fun | 1=>6 | n=>n⟩
theorem Tryz.lays144:Go.Proofs.Lays.n144 Tryz.prog Tryz.lays144_ren:={
 mixed:=by kernel_rfl
 f143:=Tryz.func138.trans (congrArg some (by kernel_rfl))
 f144:=Tryz.func77.trans (congrArg some (by kernel_rfl))
 f217:=Tryz.func182.trans (congrArg some (by kernel_rfl))
 f219:=Tryz.func181.trans (congrArg some (by kernel_rfl))
 f224:=Tryz.func208.trans (congrArg some (by kernel_rfl))
 f225:=Tryz.func207.trans (congrArg some (by kernel_rfl))
 f266:=Tryz.func210.trans (congrArg some (by kernel_rfl))
 f267:=Tryz.func209.trans (congrArg some (by kernel_rfl))
 f314:=Tryz.func218.trans (congrArg some (by kernel_rfl))
 t3:=Tryz.underlying3
 a3:=Tryz.isAgg3
 z3:=Tryz.sizeOf3
 v3:=Tryz.zeroValue3
 t4:=Tryz.underlying4
 a4:=Tryz.isAgg4
 z4:=Tryz.sizeOf4
 v4:=Tryz.zeroValue4
 t5:=Tryz.underlying5
 a5:=Tryz.isAgg5
 z5:=Tryz.sizeOf5
 v5:=Tryz.zeroValue5
 t9:=Tryz.underlying9
 a9:=Tryz.isAgg9
 z9:=Tryz.sizeOf9
 v9:=Tryz.zeroValue9
 t46:=Tryz.underlying221
 a46:=Tryz.isAgg221
 z46:=Tryz.sizeOf221
 v46:=Tryz.zeroValue221
 t51:=Tryz.underlying249
 a51:=Tryz.isAgg249
 z51:=Tryz.sizeOf249
 v51:=Tryz.zeroValue249
 t146:=Tryz.underlying250
 a146:=Tryz.isAgg250
 z146:=Tryz.sizeOf250
 v146:=Tryz.zeroValue250
 g1:=by kernel_rfl }
open Go.RowKit Go.Lib in
theorem Tryz.strings_Contains (s sub:ByteArray)(m:Int)(w:World)(hs:s.size<4294967281)(hm:w.cell? ⟨6,0,none⟩=some (.int .i64 m)) :
 Calls Tryz.prog 77 #[.string s,.string sub] w fun e w'=>e = .returned (.bool (Lib.contains s.data.toList sub.data.toList))/\w'=w:=Any.strings_Contains Tryz.lays144 s sub m w hs hm
def Tryz.laysM144_ren:Go.Shelf.Ren:=⟨fun | 144=>77 | 143=>138 | 219=>181 | 217=>182 | 225=>207 | 224=>208 | 267=>209 | 266=>210 | 314=>218 | n=>n,fun | 9=>9 | 4=>4 | 3=>3 | 5=>5 | 46=>221 | 146=>250 | 51=>249 | n=>n,fun | 1=>6 | n=>n⟩
theorem Tryz.laysM144:Go.Proofs.LaysM.n144 Tryz.prog Tryz.laysM144_ren:={
 mixed:=by kernel_rfl
 f143:=Tryz.func138.trans (congrArg some (by kernel_rfl))
 f144:=Tryz.func77.trans (congrArg some (by kernel_rfl))
 f217:=Tryz.func182.trans (congrArg some (by kernel_rfl))
 f219:=Tryz.func181.trans (congrArg some (by kernel_rfl))
 f224:=Tryz.func208.trans (congrArg some (by kernel_rfl))
 f225:=Tryz.func207.trans (congrArg some (by kernel_rfl))
 f266:=Tryz.func210.trans (congrArg some (by kernel_rfl))
 f267:=Tryz.func209.trans (congrArg some (by kernel_rfl))
 f314:=Tryz.func218.trans (congrArg some (by kernel_rfl))
 t3:=Tryz.underlying3
 a3:=Tryz.isAgg3
 z3:=Tryz.sizeOf3
 v3:=Tryz.zeroValue3
 t4:=Tryz.underlying4
 a4:=Tryz.isAgg4
 z4:=Tryz.sizeOf4
 v4:=Tryz.zeroValue4
 t5:=Tryz.underlying5
 a5:=Tryz.isAgg5
 z5:=Tryz.sizeOf5
 v5:=Tryz.zeroValue5
 t9:=Tryz.underlying9
 a9:=Tryz.isAgg9
 z9:=Tryz.sizeOf9
 v9:=Tryz.zeroValue9
 t46:=Tryz.underlying221
 a46:=Tryz.isAgg221
 z46:=Tryz.sizeOf221
 v46:=Tryz.zeroValue221
 t51:=Tryz.underlying249
 a51:=Tryz.isAgg249
 z51:=Tryz.sizeOf249
 v51:=Tryz.zeroValue249
 t146:=Tryz.underlying250
 a146:=Tryz.isAgg250
 z146:=Tryz.sizeOf250
 v146:=Tryz.zeroValue250
 g1:=by kernel_rfl
 i3:=by kernel_rfl
 i4:=by kernel_rfl
 i5:=by kernel_rfl
 i9:=by kernel_rfl
 i46:=by kernel_rfl
 i51:=by kernel_rfl
 i146:=by kernel_rfl
 m1:=by kernel_rfl
 s1_3:=fun w h=>Go.Proofs.cell_of_shapedOpen_int (zero:=#[.int .i64 0]) (t:=3) h (of_decide_eq_true (by kernel_rfl)) (by kernel_rfl) rfl (by kernel_rfl) (by kernel_rfl) Tryz.underlying3 }
def Tryz.lays99_ren:Go.Shelf.Ren:=⟨fun | 99=>186 | 206=>211 | n=>n,fun | 9=>9 | 4=>4 | 3=>3 | n=>n,fun | n=>n⟩
theorem Tryz.lays99:Go.Proofs.Lays.n99 Tryz.prog Tryz.lays99_ren:={
 mixed:=by kernel_rfl
 f99:=Tryz.func186.trans (congrArg some (by kernel_rfl))
 f206:=Tryz.func211.trans (congrArg some (by kernel_rfl))
 t3:=Tryz.underlying3
 a3:=Tryz.isAgg3
 z3:=Tryz.sizeOf3
 v3:=Tryz.zeroValue3
 t4:=Tryz.underlying4
 a4:=Tryz.isAgg4
 z4:=Tryz.sizeOf4
 v4:=Tryz.zeroValue4
 t9:=Tryz.underlying9
 a9:=Tryz.isAgg9
 z9:=Tryz.sizeOf9
 v9:=Tryz.zeroValue9 }
open Go.RowKit Go.Lib in
theorem Tryz.strings_HasPrefix (s p:ByteArray)(w:World) :
 Calls Tryz.prog 186 #[.string s,.string p] w fun e w'=>e = .returned (.bool (Lib.hasPrefix s.data.toList p.data.toList))/\w'=w:=Any.strings_HasPrefix Tryz.lays99 s p w
end Go.Proofs
namespace Go.Proofs.YtibcelnfkhdjaaaGreatDoor
open Go Go.Aw
theorem bG (s:Ag):(⟨s.toArray⟩:ByteArray).size=s.length:=by simp [ByteArray.size]
theorem k53 (s:Ag)(c:UInt8):Ap Tryz.prog 144 [.str s,.int .u8 (c.toNat:Int)] (.int .i64 (Lib.indexByte s c)):=
 .of_same fun g w vs _ ha=>by
  obtain ⟨u,v,rfl,h1,h2⟩:=ha.inv2;have e1:=h1.inv_str.1;have e2:=h2.inv_int;subst e1 e2;refine ⟨.int .i64 (Lib.indexByte s c),fun _ _=>.int _ _,?_⟩;have:=Tryz.strings_IndexByte ⟨s.toArray⟩ (c.toNat:Int) w;simpa using this
theorem k29 (s p:Ag)(hs:s.length<4294967281):Ap Tryz.prog 77 [.str s,.str p] (.bool (Lib.contains s p)):=
 .of_same fun g w vs hg ha=>by
  obtain ⟨u,v,rfl,h1,h2⟩:=ha.inv2;have e1:=h1.inv_str.1;have e2:=h2.inv_str.1;subst e1 e2;refine ⟨.bool (Lib.contains s p),fun _ _=>.bool _,?_⟩;obtain ⟨m,hm⟩:=hg.int (gl:=6) (k:=.i64) (by simp [globals]);exact Tryz.strings_Contains ⟨s.toArray⟩ ⟨p.toArray⟩ m w (by rw [bG];exact hs) hm
theorem k28 (s p:Ag):Ap Tryz.prog 186 [.str s,.str p] (.bool (Lib.hasPrefix s p)):=
 .of_same fun g w vs hg ha=>by
  obtain ⟨u,v,rfl,h1,h2⟩:=ha.inv2;have e1:=h1.inv_str.1;have e2:=h2.inv_str.1;subst e1 e2;exact ⟨.bool (Lib.hasPrefix s p),fun _ _=>.bool _,Tryz.strings_HasPrefix ⟨s.toArray⟩ ⟨p.toArray⟩ w⟩
theorem c39 (c:UInt8):Ap Tryz.prog 54 [.int .u8 (c.toNat:Int)] (.bool (A9 c)):=by
 refine Fl 9 Tryz.func54 rfl fun H=>?_
 refine Af (Qp Bh (B7 (Qp (Ab (v:=.int .u8 _) rfl) (Qp Jt (Qp Co (Qg [] Qw (Ab (v:=.int .u8 _) rfl) (Qg [(6,_)] Qw fX (Qp Ks (Qp Bh (Rb (Qr (.bool _) ?_)))))))))));rfl
theorem c43 (c:UInt8):Ap Tryz.prog 58 [.int .u8 (c.toNat:Int)] (.bool (C7 c)):=by
 refine Fl 21 Tryz.func58 rfl fun H=>?_
 refine Af (Qp Bh (B7 (Qp (Ab (v:=.int .u8 _) rfl) (Qp Bq (Qp Co (Qg [] Qw (Ab (v:=.int .u8 _) rfl) ?_))))));refine Qg [(6,_)] Qw Jt (Qg [(7,_)] Qw Co (Qg [] Qw (Ab (v:=.int .u8 _) rfl) (Qg [(9,_)] Qw fX (Qg [(8,_),(10,_)] Qw Ks (Qp Gv (Qp Co (Qg [] Qw (Ab (v:=.int .u8 _) rfl) (Qg [(14,_)] Qw Jt (Qg [(15,_)] Qw Co (Qg [] Qw (Ab (v:=.int .u8 _) rfl) (Qg [(17,_)] Qw fX (Qg [(16,_),(18,_)] Qw Ks (Qp Gv (Qp Bh (Rb (Qr (.bool _) ?_))))))))))))))));rfl
theorem c52 (c:UInt8):Ap Tryz.prog 143 [.int .u8 (c.toNat:Int)] (.bool (nR c)):=by
 refine Fl 5 Tryz.func143 rfl fun H=>?_
 refine Af (Qp Bh (B7 (Qp (Ab (v:=.int .u8 _) rfl) (Qp C3 (Qp Bh (Rb (Qr (.bool _) ?_)))))));rfl
theorem c69 (c:UInt8):Ap Tryz.prog 183 [.int .u8 (c.toNat:Int)] (.bool (Ek c)):=by
 refine Fl 9 Tryz.func183 rfl fun H=>?_
 refine Af (Qp Bh (B7 (Qp (Ab (v:=.int .u8 _) rfl) (Qp (Qc rfl (c43 _)) (Qp Co (Qg [] Qw (Ab (v:=.int .u8 _) rfl) (Qg [(6,_)] Qw (Qc rfl (c39 _)) (Qp Gv (Qp Bh (Rb (Qr (.bool _) ?_)))))))))));rfl
theorem c42 (c:UInt8):Ap Tryz.prog 57 [.int .u8 (c.toNat:Int)] (.bool (kO c)):=by
 refine Fl 11 Tryz.func57 rfl fun H=>?_
 refine Af (Qp Bh (B7 (Qp (Ab (v:=.int .u8 _) rfl) (Qp (Qc rfl (c43 _)) (Qp J4 (Qp Co (Qg [] Qw (Ab (v:=.int .u8 _) rfl) (Qg [(7,_)] Qw (Qc rfl (c39 _)) (Qg [(8,_)] Qw J4 (Qp Ks (Qp Bh (Rb (Qr (.bool _) ?_)))))))))))));rfl
theorem g1 {b w:Bool}{G:List (Bool×Bool)}(h:Mn ((b,w)::G)):b=w:=h _ (I7 ..)
theorem Rs {s:Ag}{k:Nat}(h:k<s.length):s.drop k=bt s k::s.drop (k+1):=by
 rw [L4 h];have:bt s k=s[k]:=by simp [bt,E6,List.getElem?_eq_getElem h]
 rw [this]
theorem zA {p:UInt8->Bool}{s:Ag}{k:Nat}(h:(decide ((k:Int)<(s.length:Int))&&p (bt s k))=true):k<s.length/\Bb p (s.drop k)=Bb p (s.drop (k+1))+1:=by
 simp only [Cy,Ea] at h;have hk:k<s.length:=by omega
 refine ⟨hk,?_⟩;rw [Rs hk,Bb,if_pos h.2]
theorem zC {p:UInt8->Bool}{s:Ag}{k:Nat}(h:(decide ((k:Int)<(s.length:Int))&&p (bt s k))=false):Bb p (s.drop k)=0:=by
 by_cases hk:k<s.length
 .
  have h2:p (bt s k)=false:=by
   have:decide ((k:Int)<(s.length:Int))=true:=by simp;omega
   cases hq:p (bt s k) with
   | false=>rfl
   | true=>rw [this,hq] at h;cases h
  rw [Rs hk,Bb,if_neg (by simp [h2])]
 rw [Ss (by omega)];rfl
theorem Io (p:UInt8->Bool):∀s:Ag,Bb p s<=s.length
  | []=>Bc _
  | c::r=>by
    unfold Bb;split
    . have:=Io p r;simp;omega
    simp
theorem qQ {s:Ag}{k:Nat}(h:k<s.length):(Dd s)[k]? = some [.int .u8 ((bt s k).toNat:Int)]:=by
 simp only [Dd,List.getElem?_map,Ib h];rfl
theorem idx_hit {p:UInt8->Bool}{s:Ag}{k:Nat}(h:k<s.length)(hp:p (bt s k)=true):J8 p (s.drop k)=0:=by rw [Rs h,J8,if_pos hp]
theorem idx_step {p:UInt8->Bool}{s:Ag}{k:Nat}(h:k<s.length)(hp:p (bt s k)=false):J8 p (s.drop k)=if J8 p (s.drop (k+1)) = -1 then -1 else J8 p (s.drop (k+1))+1:=by rw [Rs h,J8,if_neg (by simp [hp])]
theorem rK (p:UInt8->Bool):∀s:Ag,-1<=J8 p s
  | []=>Fr _
  | c::r=>by
    have:=rK p r;unfold J8;split
    . decide
    split <;> omega
theorem idx_zero (p:UInt8->Bool)(s:Ag):J8 p s=if J8 p (s.drop 0) = -1 then -1 else ((0:Nat):Int)+J8 p (s.drop 0):=by
 have:=rK p s;rw [Oi];split <;> simp_all
theorem idx_next {p:UInt8->Bool}{s:Ag}{k:Nat}(h:k<s.length)(hp:p (bt s k)=false)(h2:J8 p s=if J8 p (s.drop k) = -1 then -1 else (k:Int)+J8 p (s.drop k)) :
  J8 p s=if J8 p (s.drop (k+1)) = -1 then -1 else ((k+1:Nat):Int)+J8 p (s.drop (k+1)):=by
 rw [idx_step h hp] at h2;rw [h2];have:=rK p (s.drop (k+1));by_cases h3:J8 p (s.drop (k+1)) = -1
 . rw [if_pos h3,if_pos rfl,if_pos h3]
 rw [if_neg h3,if_neg h3,if_neg (by omega)];omega
theorem c38 (s:Ag)(hl:s.length<=1048576)(f:Nat)(p:UInt8->Bool)(hf:Tn Tryz.prog f=true)(hp:∀c,Ap Tryz.prog f [.int .u8 (c.toNat:Int)] (.bool (p c))):Ap Tryz.prog 142 [.str s,.fn (.func f) [] []] (.int .i64 (Bb p s:Int)):=by
 refine Fl 20 Tryz.func142 rfl fun H=>?_
 refine Af (Qp Ax (B7 (Qp Ax (Re (AW.block ?_)))));refine AW.loopS (fun (k:Nat)=>(⟨[(0,.str s),(1,.fn (.func f) [] []),(5,.int .i64 (k:Int))],H,20⟩:St)) (fun k=>k<=s.length/\Bb p s=k+Bb p (s.drop k)) (fun k=>s.length-k) (0) ?_ Dh ?_
 . exact ⟨A7 _,by simp⟩
 rintro k hR;refine Cg (Qp A0 (Qp Gu (Qp (Cz tok rfl rfl rfl rfl) (Qp Cv (Qp Co (Qg [] Qw (Ab (v:=.fn _ _ _) rfl) (Qg [] Qw Gu (Qg [] Qw A0 ?_))))))));refine Yh [(12,_),(13,_)] Yw (fun hG=>Cm tok rfl rfl rfl rfl (by omega) (Ib (i:=k) (by have h9:=g1 hG;simp at h9;exact h9))) ?_;refine Qg [(14,_),(11,_)] Yw (O1 hf rfl rfl rfl (hp _)) (Qp Ks (Bp (fun hc1=>?_) fun hc1=>?_))
 .
  have hst:=zA hc1;refine B6 (AW.block (AW.region (Qp A0 (Qp Hb (Qp Ax (Rk ?_))))));refine ⟨k+1,?_,?_,Dh⟩
  . exact ⟨hst.1,by rw [hR.2,hst.2];omega⟩
  have:=hst.1;omega
 have hst:=zC hc1;refine AW.exit ?_;refine Br (Ri (Af (Qp A0 (Qp Ax (Rb ?_)))));refine Qr (Iq _) ?_;have h2:=hR.2;rw [hst] at h2;rw [h2];rfl
theorem c64 (s:Ag)(hl:s.length<=1048576)(f:Nat)(p:UInt8->Bool)(hf:Tn Tryz.prog f=true)(hp:∀c,Ap Tryz.prog f [.int .u8 (c.toNat:Int)] (.bool (p c))):Ap Tryz.prog 105 [.sl 1 (Dd s),.fn (.func f) [] []] (.int .i64 (J8 p s)):=by
 refine Fl 19 Tryz.func105 rfl fun H=>?_
 refine Af (Qp Ax (A2 (Cg (Qp Mm ?_))));refine Qp (G1 s.length rfl rfl (by simp)) ?_;refine Qp A0 (A2 (AW.block ?_));refine AW.loopS (fun (k:Nat)=>(⟨[(0,.sl 1 (Dd s)),(1,.fn (.func f) [] []),(7,.int .i64 (s.length:Int)),(8,.int .i64 (k:Int))],H,19⟩:St)) (fun k=>k<=s.length/\J8 p s=if J8 p (s.drop k) = -1 then -1 else (k:Int)+J8 p (s.drop k)) (fun k=>s.length-k) (0) ?_ Dh ?_
 . exact ⟨A7 _,idx_zero p s⟩
 rintro k hR;refine Af (Qp Cv (Re (Gn (fun hc1=>?_) fun hc1=>?_)))
 .
  have hk:k<s.length:=by simp at hc1;omega
  refine B6 (AW.seq (AW.block (Af (Qp A0 (Qp Ax (B7 (Qp (Ab (v:=.fn _ _ _) rfl) (Qp Mm (Qp A0 ?_)))))))));refine Qp (E9 [.int .u8 _] rfl rfl (by omega) (qQ (k:=k) hk)) ?_;refine Qp (Aq (c:=.int .u8 _) tok rfl rfl rfl) (Qp (O1 hf rfl rfl rfl (hp _)) (Bp (fun hc2=>Af (Qp A0 (Qp Ax (Ra (A4 (Dw (A4 (Qr (Iq _) ?_)))))))) fun hc2=>Rf (AW.region (Qp Hb (Qp A0 (A2 ?_))))))
  .
   have h2:=hR.2;rw [idx_hit hk hc2,if_neg (by decide)] at h2;rw [h2,Int.add_zero];rfl
  refine ⟨k+1,?_,?_,Dh⟩
  . exact ⟨hk,idx_next hk hc2 hR.2⟩
  omega
 have hk:s.length<=k:=by simp at hc1;omega
 refine AW.exit ?_;refine Br (Ri (Af (Qp Ax (Rb ?_))));refine Qr (Iq _) ?_;have h2:=hR.2;rw [Ss hk] at h2;rw [h2];rfl
theorem c41 (s:Ag)(hl:s.length<=1048576)(f:Nat)(p:UInt8->Bool)(hf:Tn Tryz.prog f=true)(hp:∀c,Ap Tryz.prog f [.int .u8 (c.toNat:Int)] (.bool (p c))):Ap Tryz.prog 56 [.sl 1 (Dd s),.fn (.func f) [] []] (.bool (decide (0<=J8 p s))):=by
 refine Fl 9 Tryz.func56 rfl fun H=>?_
 refine Af (Qp Bh (B7 (Qp Mm (Qp (Ab (v:=.fn _ _ _) rfl) (Qp (Qc rfl (c64 s hl f p hf hp)) (Qp Jt (Qp Bh (Rb (Qr (.bool _) ?_)))))))));rfl
theorem c32 (s:Ag)(hl:s.length<=1048576)(h0:0<s.length):Ap Tryz.prog 81 [.str s] (.int .i64 (Lc s)):=by
 refine Fl 14 Tryz.func81 rfl fun H=>?_
 refine Af (Qp Ax (Re (AW.block (Af (Qp Gu ?_)))));refine Qp (Cm tok rfl rfl rfl rfl (by omega) (Ib (i:=0) h0)) ?_;refine Qp Bq (Qp Bh (Bp (fun hc1=>Af (Qp Gu ?_)) fun hc1=>Af (Qp Gu ?_)))
 .
  refine Qp (Qc rfl (c38 s hl 143 nR (by kernel_rfl) c52)) ?_;refine Qp Ax (Ra (Qr (Iq _) ?_));simp only [Ah,Lc];rw [if_pos hc1]
  done
 refine Qp (Cm tok rfl rfl rfl rfl (by omega) (Ib (i:=0) h0)) ?_;refine Qp (Qc rfl (k53 [32,9,13,10] _)) (Qp Jt (Qp Bh (Bp (fun hc2=>Af (Qp Ax (Ra (Qr (Iq _) ?_)))) fun hc2=>Rf (Af (Qp Ax (Rb (Qr (Iq _) ?_)))))))
 .
  simp only [Ah,Lc];rw [iN hc1];rw [if_pos hc2]
  done
 simp only [Ah,Lc];rw [iN hc1];rw [iN hc2]
 done
theorem fP (x:Int):0<=IntKind.u8.wrap x/\IntKind.u8.wrap x<=255:=by rw [IntKind.wrap_u8];omega
theorem wrap64_8 (x:Int):IntKind.i64.wrap (IntKind.u8.wrap x)=IntKind.u8.wrap x:=by
 have:=fP x;exact IntWalk.i64_in _ (by omega)
theorem dv_le (c:UInt8):0<=dvS c/\dvS c<=255:=fP _
theorem ne_len {s:Ag}{b:Bool}(h:((s == [])||b)=false):0<s.length:=by
 cases s with
 | nil=>simp at h
 | cons a r=>simp
theorem rW {s:Ag}{k:Nat}{n:Int}(h:k<s.length)(hc:decide (1099511627776<10*n+dvS (bt s k))=false):Qq (s.drop k) n=Qq (s.drop (k+1)) (10*n+dvS (bt s k)):=by
 rw [Rs h,Qq,if_neg (by simp [hc])]
theorem rX {s:Ag}{k:Nat}{n:Int}(h:k<s.length)(hc:decide (1099511627776<10*n+dvS (bt s k))=true):Qq (s.drop k) n=(0,2):=by
 rw [Rs h,Qq,if_pos hc]
theorem c22 (s:Ag)(hl:s.length<=1048576):Ap Tryz.prog 55 [.str s] (.bool (rM s)):=by
 refine Fl 16 Tryz.func55 rfl fun H=>?_
 refine Af (Qp Bh (B7 (Qp Gu (Qp (Ge rfl rfl) (Qp Co (Qg [] Qw Gu ?_))))));refine Qg [(6,_)] Qw (Qc rfl (k29 _ _ (by omega))) ?_;refine Qg [(7,_)] Qw J4 (Qp Ks (Qp Co (Qg [] Qw Gu ?_)));refine Yh [(11,_)] Qw (fun hG=>Pu rfl rfl rfl ((by simp [maxLen];omega))) ?_;refine Yh [(12,_)] Qw (fun hG=>Pu rfl rfl rfl ((by simp [maxLen];omega))) ?_;refine Qg [(13,_)] Qw (Qc rfl (k29 _ _ (by simp [dO]))) ?_;refine Qp Ks (Qp Bh (Rb (Qr (.bool _) ?_)));rfl
theorem oC {s:Ag}(h:((s == [])||decide ((Bb A9 s:Int)<(s.length:Int)))=false):Ve s=Qq s 0:=by unfold Ve;rw [iN h]
theorem T0:∀s:Ag,(Bx s).length<=4*s.length
  | []=>Bc _
  | c::r=>by
    have:=T0 r;have h:(Fm c).length<=4:=by unfold Fm;split <;> (try split) <;> simp
    simp only [Bx,Ao,A1];omega
theorem aP:∀a b:Ag,Bx (a++b)=Bx a++Bx b
 | [],b=>rfl
 | c::r,b=>by simp [Bx,aP r b]
theorem take_bt {s:Ag}{k:Nat}(h:k<s.length):s.take (k+1)=s.take k ++ [bt s k]:=by rw [List.take_add_one,Ib h];rfl
theorem Wl {s:Ag}{k:Nat}{es:List (List AV)}{x:Ag}(h:k<s.length)(he:es=Dd ([34]++Bx (s.take k)))(hx:Fm (bt s k)=x):es++Dd x=Dd ([34]++Bx (s.take (k+1))):=by
 rw [he,take_bt h,aP,<-O4];simp [Bx,hx]
theorem sI {s:Ag}{k:Nat}{es:List (List AV)}(hl:s.length<=64)(he:es=Dd ([34]++Bx (s.take k))):es.length<=257:=by
 have:=T0 (s.take k);rw [he,O5];rw [Df] at this;simp;omega
theorem nat8 (c:UInt8):c.toNat<=255:=by have:=c.toNat_lt;omega
theorem hex_hi (c:UInt8):0<=IntKind.u8.wrap ((c.toNat:Int).tdiv 16)/\bA[(IntKind.u8.wrap ((c.toNat:Int).tdiv 16)).toNat]? = some (bt bA (c.toNat / 16)):=by
 have h:=nat8 c
 have e:IntKind.u8.wrap ((c.toNat:Int).tdiv 16)=((c.toNat / 16:Nat):Int):=by
  rw [IntWalk.u8_quo _ _ (by omega)];omega
 rw [e];refine ⟨by omega,?_⟩;rw [Sq];exact Ib (by show c.toNat / 16<16;omega)
theorem hex_lo (c:UInt8):0<=(c.toNat:Int).tmod 16/\bA[((c.toNat:Int).tmod 16).toNat]? = some (bt bA (c.toNat % 16)):=by
 have e:(c.toNat:Int).tmod 16=((c.toNat % 16:Nat):Int):=by
  rw [Int.tmod_eq_emod_of_nonneg (by omega)];omega
 rw [e];refine ⟨by omega,?_⟩;rw [Sq];exact Ib (by show c.toNat % 16<16;omega)
theorem xA (n:Int):IntKind.u8.wrap n=((jL n).toNat:Int):=by
 have h:=fP n;unfold jL;rw [UInt8.toNat_ofNat_of_lt' (by show _<256;omega)];omega
theorem uV:∀(s:Ag) (c:UInt8),-1<=Lib.indexByte s c/\Lib.indexByte s c<s.length
  | [],c=>⟨by unfold Lib.indexByte;decide,by unfold Lib.indexByte;decide⟩
  | a::r,c=>by
    have:=uV r c;unfold Lib.indexByte;simp only [A1,beq_iff_eq];split
    . omega
    split <;> omega
theorem uU (c:UInt8) : -1<=kC c/\kC c<16:=uV bA c
theorem sc_two (a b:Int):∀c∈[[AV.int .u8 a],[AV.int .u8 b]],Au c=true:=by simp [Au,eV]
theorem sc_four (a b c d:Int):∀x∈[[AV.int .u8 a],[AV.int .u8 b],[AV.int .u8 c],[AV.int .u8 d]],Au x=true:=by simp [Au,eV]
theorem c18 (s:Ag)(hl:s.length<=1048576):Ap Tryz.prog 184 [.str s] (.tuple [.int .i64 (Ve s).1,.int .i64 (Ve s).2]):=by
 refine Fl 33 Tryz.func184 rfl fun H=>?_
 refine Af (Qp Ax (Qp Ax (A2 (Cg (Qp Gu (Qp (Dx rfl rfl) (Qp Co (Qg [] Qw Gu ?_))))))));refine Qg [(10,_)] Qw (Qc rfl (c38 s hl 54 A9 (by kernel_rfl) c39)) ?_;refine Qg [] Qw Gu (Qg [(12,_)] Qw (Cz tok rfl rfl rfl rfl) (Qg [(11,_),(13,_)] Yw Cv (Qp Gv (Bp (fun hc1=>Af (Qp Ax (Qp Ax (Rc (Nb (Iq _) (Iq _) ?_))))) fun hc1=>?_))))
 .
  simp only [Ah,Ve];rw [if_pos hc1]
  done
 have hn:=oC hc1;refine B6 (Af (Qp Ax (A2 (Cg (Qp Gu (Qp (Vp tok rfl rfl rfl rfl rfl rfl rfl) ?_))))));refine Qp (G1 s.length rfl rfl (by simp)) ?_;refine Qp A0 (A2 (AW.block ?_));refine AW.loopS (fun (p:Nat×Int)=>(⟨[(17,.sl 1 (Dd s)),(18,.int .i64 (s.length:Int)),(4,.int .i64 p.2),(19,.int .i64 (p.1:Int))],H,33⟩:St)) (fun p=>p.1<=s.length/\(0<=p.2/\p.2<=1099511627776)/\Qq s 0=Qq (s.drop p.1) p.2) (fun p=>s.length-p.1) ((0,0)) ?_ Dh ?_
 . exact ⟨A7 _,⟨by decide,by decide⟩,rfl⟩
 rintro p hR;have hb:=hR.2.1;have hdv:=dv_le (bt s p.1);refine Af (Qp Cv (Re (Gn (fun hc2=>?_) fun hc2=>?_)))
 .
  have hk:p.1<s.length:=by simp at hc2;omega
  refine B6 (AW.seq (AW.block (Af ?_)));refine Qp (E9 [.int .u8 _] rfl rfl (by omega) (qQ (k:=p.1) hk)) ?_;refine Qp (Aq (c:=.int .u8 _) tok rfl rfl rfl) (Qp (Ad (v:=.int .u8 _) rfl) (B7 (Qp A0 ?_)));refine Qp (P_mul rfl rfl rfl (by constructor <;> omega)) ?_;refine Qp (Ab (v:=.int .u8 _) rfl) (Qp (qK rfl rfl) (Qp (bZ (m:=dvS (bt s p.1)) tok rfl rfl rfl rfl rfl (wrap64_8 _)) (Qp Hb (Qp Ax (B7 (Qp A0 (Qp Hc (Bp (fun hc3=>Af (Qp Ax (Qp Ax (Ra (A4 (Dw (A4 (Nb (Iq _) (Iq _) ?_)))))))) fun hc3=>Rf (AW.region (Qp Hb (Qp A0 (A2 ?_))))))))))))
  . rw [hn,hR.2.2,rX hk hc3];rfl
  refine ⟨(p.1+1,10*p.2+dvS (bt s p.1)),?_,?_,Dh⟩
  . exact ⟨hk,⟨by simp only;omega,by simp only [I6] at hc3;simp only;omega⟩,hR.2.2.trans (rW hk hc3)⟩
  simp only;omega
 have hk:s.length<=p.1:=by simp at hc2;omega
 refine AW.exit ?_;refine Br (Ri (Af (Qp A0 (Qp Ax (Qp Ax (Rb ?_))))));refine Nb (Iq _) (Iq _) ?_;have h9:Ve s=(p.2,0):=by rw [hn,hR.2.2,Ss hk];rfl
 rw [h9];rfl
theorem c20 (s:Ag)(hl:s.length<=1048576):Ap Tryz.prog 22 [.str s] (.int .i64 (F7 s)):=by
 refine Fl 22 Tryz.func22 rfl fun H=>?_
 refine Af (Qp Ax (A2 (Cg (Qp Gu (Qp (Dx rfl rfl) (Qp Co (Qg [] Qw Gu (Qg [(6,_)] Qw (Cz tok rfl rfl rfl rfl) (Qg [(7,_)] Qw Hc (Qp Gv (Qp Co (Qg [] Qw Gu ?_))))))))))));refine Yh [(11,_)] Qw (fun hG=>Cm tok rfl rfl rfl rfl (by omega) (Ib (i:=0) (ne_len (g1 hG)))) ?_;refine Qg [(12,_)] Qw (Qc rfl (c39 _)) (Qp Gv (Qp Co (Qg [] Qw Gu (Qg [(16,_)] Qw (Qc rfl (c22 s hl)) (Qp Gv (Bp (fun hc1=>Af (Qp Ax (Rc (Qr (Iq _) ?_)))) fun hc1=>B6 (Cg (Qp Gu (Qp (Vp tok rfl rfl rfl rfl rfl rfl rfl) ?_)))))))))
 .
  simp only [Ah,F7];rw [if_pos hc1]
  done
 refine Qp (Qc rfl (c41 s hl 57 kO (by kernel_rfl) c42)) ?_;refine Bp (fun hc2=>Af (Qp Ax (Rc (Qr (Iq _) ?_)))) fun hc2=>B6 (Af (Qp Ax (Rb (Qr (Iq _) ?_))))
 .
  simp only [Ah,F7];rw [iN hc1];rw [if_pos hc2]
  done
 simp only [Ah,F7];rw [iN hc1];rw [iN hc2]
 done
theorem c24 (s:Ag)(hl:s.length<=1048576):Ap Tryz.prog 177 [.str s] (.tuple [.str (Pi s).1,.int .i64 (Pi s).2]):=by
 refine Fl 54 Tryz.func177 rfl fun H=>?_
 refine Af (Qp La (Qp Ax (A2 (Cg (Qp Gu (Qp (Cz tok rfl rfl rfl rfl) (Qp Hc (Bp (fun hc1=>Af (Qp La (Qp Ax (Rc (Nb (.str _) (Iq _) ?_))))) fun hc1=>B6 (Af (Qe (Hk (es:=[[.int .u8 _]]) tok rfl rfl rfl rfl rfl rfl rfl rfl rfl) ?_))))))))))
 .
  simp only [Ah,Pi];rw [if_pos hc1]
  done
 rintro _ _ ⟨v10,rfl,rfl⟩;refine Qp (Ad (v:=.row _ _ _) rfl) (A2 (Cg (Qp Gu (Qp (Vp tok rfl rfl rfl rfl rfl rfl rfl) ?_))));refine Qp (G1 s.length rfl rfl (by simp)) ?_;refine Qp A0 (A2 (AW.block ?_));refine AW.loopS (fun (p:Nat×List (List AV)×Value)=>(⟨[(4,.row p.2.2 1 p.2.1),(12,.sl 1 (Dd s)),(13,.int .i64 (s.length:Int)),(14,.int .i64 (p.1:Int))],.row p.2.2 p.2.1.length 5 1::H,54⟩:St)) (fun p=>p.1<=s.length/\p.2.1=Dd ([34]++Bx (s.take p.1))) (fun p=>s.length-p.1) ((0,_,v10)) ?_ Dh ?_
 . exact ⟨A7 _,rfl⟩
 rintro p hR;have hroom:=sI (by simp at hc1;omega) hR.2;have hsc:∀c∈p.2.1,Au c=true:=by rw [hR.2];exact pK _
 refine Af (Qp Cv (Re (Gn (fun hc2=>?_) fun hc2=>?_)))
 .
  have hk:p.1<s.length:=by simp at hc2;omega
  refine B6 (AW.seq (AW.block (Af ?_)));refine Qp (E9 [.int .u8 _] rfl rfl (by omega) (qQ (k:=p.1) hk)) ?_;refine Qp (Aq (c:=.int .u8 _) tok rfl rfl rfl) (Qp (Ad (v:=.int .u8 _) rfl) (A2 (AW.block (Af ?_))));refine Qp (Ab (v:=.int .u8 _) rfl) (Qp Bq (Qp Co (Qg [] Qw (Ab (v:=.int .u8 _) rfl) (Qg [(26,_)] Qw Bq (Qp Gv (Qp Bh (Bp (fun hc3=>AW.region (Qp (Ab (v:=.row _ _ _) rfl) (Qp (Ab (v:=.int .u8 _) rfl) (Qp (Ir ([[.int .u8 _],[.int .u8 _]]) rfl) ?_)))) fun hc3=>Af (Qp (Ab (v:=.int .u8 _) rfl) (Qp Cv (Qp Co (Qg [] Qw (Ab (v:=.int .u8 _) rfl) (Qg [(37,_)] Qw Hc (Qp Gv (Qp Bh (Bp (fun hc4=>?_) fun hc4=>AW.region (Qp (Ab (v:=.row _ _ _) rfl) (Qp (Ab (v:=.int .u8 _) rfl) (Qp (Ir ([[.int .u8 _]]) rfl) ?_))))))))))))))))))
  .
   refine Qe (Vc 0 rfl (sc_two _ _) (hsc) (by simp;omega) (by simp [maxLen];omega)) ?_;rintro _ _ ⟨v32,rfl,rfl⟩;refine Qp (Ad (v:=.row _ _ _) rfl) (AOL.nil (Ff (Ff (Aa (AW.region (Qp Hb (Qp A0 (A2 ?_))))))));refine ⟨(p.1+1,p.2.1++Dd [92,bt s p.1],v32),?_,?_,Dh⟩
   . exact ⟨hk,Wl hk hR.2 (by unfold Fm;rw [if_pos hc3])⟩
   simp only;omega
  .
   refine Ok ?_;refine Qn 0 rfl (Ab (v:=.row _ _ _) rfl) (Qn 1 rfl (Ab (v:=.int .u8 _) rfl) ?_);refine Qn 2 rfl (P_quow rfl rfl (by omega)) ?_;refine Qn 3 rfl (Cm tok rfl rfl rfl rfl ((hex_hi _).1) ((hex_hi _).2)) (Qn 4 rfl (Ab (v:=.int .u8 _) rfl) ?_);refine Qn 5 rfl (P_rem rfl rfl (by omega)) ?_;refine Qn 6 rfl (Cm tok rfl rfl rfl rfl ((hex_lo _).1) ((hex_lo _).2)) (Qn 7 rfl (Ir ([[.int .u8 _],[.int .u8 _],[.int .u8 _],[.int .u8 _]]) rfl) ?_);refine qE 8 rfl (Vc 0 rfl (sc_four _ _ _ _) (hsc) (by simp;omega) (by simp [maxLen];omega)) ?_;rintro _ _ ⟨v48,rfl,rfl⟩;refine Qn 9 rfl (Ad (v:=.row _ _ _) rfl) ?_;refine Iw ?_;refine Ff (Ff (Aa (AW.region (Qp Hb (Qp A0 (A2 ?_))))));refine ⟨(p.1+1,p.2.1++Dd [92,120,bt bA ((bt s p.1).toNat / 16),bt bA ((bt s p.1).toNat % 16)],v48),?_,?_,Dh⟩
   . exact ⟨hk,Wl hk hR.2 (by unfold Fm;rw [iN hc3,if_pos hc4])⟩
   simp only;omega
  refine Qe (Vc 0 rfl (D5 rfl) (hsc) (by simp;omega) (by simp [maxLen];omega)) ?_;rintro _ _ ⟨v21,rfl,rfl⟩;refine Qp (Ad (v:=.row _ _ _) rfl) (AOL.nil (Ff (Ff (Aa (AW.region (Qp Hb (Qp A0 (A2 ?_))))))));refine ⟨(p.1+1,p.2.1++Dd [bt s p.1],v21),?_,?_,Dh⟩
  . exact ⟨hk,Wl hk hR.2 (by unfold Fm;rw [iN hc3,iN hc4])⟩
  simp only;omega
 have hk:p.1=s.length:=by simp at hc2;have:=hR.1;omega
 have hfin:p.2.1 ++ [[.int .u8 34]]=Dd ([34]++Bx s ++ [34]):=by rw [hR.2,hk,Mu,O4 ([34]++Bx s) [34]];rfl
 have hfl:([34]++Bx s ++ [34]).length<=maxLen:=by have h1:=T0 s;simp at hc1;simp [maxLen];omega
 refine AW.exit ?_;refine Br (Ri (Af ?_));refine Qp (Ab (v:=.row _ _ _) rfl) (Qp (Ir ([[.int .u8 _]]) rfl) ?_);refine Qe (Vc 0 rfl (D5 rfl) (hsc) (by simp;omega) (by simp [maxLen];omega)) ?_;rintro _ _ ⟨v52,rfl,rfl⟩;refine Qp (bY (s:=[34]++Bx s ++ [34]) tok rfl rfl rfl rfl rfl rfl rfl (hfl) (zY hfin)) (Qp La (Qp Ax (Rb ?_)));refine Yx Iy Zf S1 ?_;simp only [Ah,Pi];rw [iN hc1]
 done
theorem c70 (s:Ag)(hl:s.length<=1048576):Ap Tryz.prog 185 [.str s] (.tuple [.int .u8 ((Is s).1.toNat:Int),.int .i64 (Is s).2]):=by
 refine Fl 48 Tryz.func185 rfl fun H=>?_
 refine Af ?_;refine Qp (Ad (v:=.int .u8 _) rfl) ?_;refine Qp Ax (Re (AW.block (Af (Qp Gu ?_))));refine Qp (Cz tok rfl rfl rfl rfl) ?_;refine Qp Jt (Qp Co (Qg [] Qw Gu ?_));refine Yh [(11,_)] Qw (fun hG=>Cm tok rfl rfl rfl rfl (by omega) (Ib (i:=1) (by have h9:=g1 hG;simp at h9;omega))) ?_;refine Qg [(12,_)] Qw Bq (Qg [(13,_)] Qw Co (Qg [] Qw Gu ?_));refine Yh [(15,_)] Qw (fun hG=>Cm tok rfl rfl rfl rfl (by omega) (Ib (i:=1) (by have h9:=g1 hG;simp at h9;omega))) ?_;refine Qg [(16,_)] Qw Bq (Qg [(14,_),(17,_)] Qw Gv (Qp Ks (Qp Bh (Bp (fun hc1=>?_) fun hc1=>?_))))
 .
  refine Af (Qp Gu ?_);refine Qp (Cm tok rfl rfl rfl rfl (by omega) (Ib (i:=1) (by simp at hc1;omega))) ?_;refine Qp (Ad (v:=.int .u8 _) rfl) ?_;refine Qp Ax (Ra ?_);refine Nb (.int .u8 _) (Iq _) ?_;simp only [Ah,Is];rw [if_pos hc1]
  done
 refine Af (Qp Gu ?_);refine Qp (Cz tok rfl rfl rfl rfl) ?_;refine Qp Jt (Qp Co (Qg [] Qw Gu ?_));refine Yh [(27,_)] Qw (fun hG=>Cm tok rfl rfl rfl rfl (by omega) (Ib (i:=1) (by have h9:=g1 hG;simp at h9;omega))) ?_;refine Qg [(28,_)] Qw Bq (Qp Ks (Qp Bh (Bp (fun hc2=>?_) fun hc2=>?_)))
 .
  refine AW.seq ?_;refine Ok ?_;refine Qn 0 rfl Gu ?_;refine Qn 1 rfl (Cm tok rfl rfl rfl rfl (by omega) (Ib (i:=2) (by simp at hc2;omega))) ?_;refine Qn 2 rfl (Qc rfl (k53 bA _)) ?_;refine Qn 3 rfl Gu ?_;refine Qn 4 rfl (Cm tok rfl rfl rfl rfl (by omega) (Ib (i:=3) (by simp at hc2;omega))) ?_;refine Qn 5 rfl (Qc rfl (k53 bA _)) ?_;refine Qn 6 rfl Ax (Qn 7 rfl Ax ?_);refine Iw ?_;refine Aa (Af (Qp A0 (Qp Jt (Qp Co (Qg [] Qw A0 (Qg [(40,_)] Qw Jt (Qp Ks (Bp (fun hc3=>?_) fun hc3=>?_))))))))
  .
   refine AW.seq ?_;have hh1:=uU (bt s 2);have hh2:=uU (bt s 3);unfold kC at hh1 hh2;refine AW.region (Qp A0 ?_);refine Qp (P_mul rfl rfl rfl (by constructor <;> omega)) ?_;refine Qp A0 (Qp Hb ?_);refine Qp (bZ (m:=((jL (16*kC (bt s 2)+kC (bt s 3))).toNat:Int)) tok rfl rfl rfl rfl rfl (xA _)) ?_;refine Qp (Ad (v:=.int .u8 _) rfl) ?_;refine Qp Ax (Ra ?_);refine Nb (.int .u8 _) (Iq _) ?_;simp only [Ah,Is];rw [iN hc1];rw [if_pos hc2];rw [if_pos hc3]
   done
  refine Rf (Af ?_);refine Qp (Ad (v:=.int .u8 _) rfl) ?_;refine Qp Ax (Rb ?_);refine Nb (.int .u8 _) (Iq _) ?_;simp only [Ah,Is];rw [iN hc1];rw [if_pos hc2];rw [iN hc3];rfl
 refine Rf (Af ?_);refine Qp (Ad (v:=.int .u8 _) rfl) ?_;refine Qp Ax (Rb ?_);refine Nb (.int .u8 _) (Iq _) ?_;simp only [Ah,Is];rw [iN hc1];rw [iN hc2];rfl
theorem sign_get (k:Nat)(h:k<17):Lv[k]? = some (.str (iV.getD k [])):=by
 have e:Lv=iV.map AV.str:=rfl;rw [e,List.getElem?_map];have h':k<iV.length:=h;simp [E6,List.getElem?_eq_getElem h']
theorem yX {s:Ag}{k:Nat}(h:k<17)(hc:Lib.hasPrefix s (iV.getD k [])=false):Gs s (iV.drop k)=Gs s (iV.drop (k+1)):=by
 have h':k<iV.length:=h;rw [L4 h'];have e:iV.getD k []=iV[k]:=by simp [E6,List.getElem?_eq_getElem h']
 rw [e] at hc;rw [Gs,iN hc]
theorem yY {s:Ag}{k:Nat}(h:k<17)(hc:Lib.hasPrefix s (iV.getD k [])=true):Gs s (iV.drop k)=Vw 3 (iV.getD k []) (iV.getD k []).length:=by
 have h':k<iV.length:=h;rw [L4 h'];have e:iV.getD k []=iV[k]:=by simp [E6,List.getElem?_eq_getElem h']
 rw [e] at hc ⊢;rw [Gs,if_pos hc]
theorem c54 (s:Ag)(hl:s.length<=1048576)(h0:0<s.length):Ap Tryz.prog 145 [.str s] (.agg (cFo (Jw s))):=by
 refine Fl 20 Tryz.func145 rfl fun H=>?_
 refine Af (D7 ggz fun b2=>A2 (Cg (Qp Gu ?_)));refine Qp (Cm tok rfl rfl rfl rfl (by omega) (Ib (i:=0) h0)) ?_;refine Qp (Qc rfl (c43 _)) (Qp J4 (Bp (fun hc1=>Af (Qp (E2 Mf) ?_)) fun hc1=>B6 (Af (Qp Gu ?_))))
 .
  refine Bz 0 Mf (_::_) (Rc ?_);refine Yx [.agg Mf] (Zb 0) S1 ?_;simp only [Ah,Jw];rw [if_pos hc1];rfl
 refine Qp (Qc rfl (c38 s hl 183 Ek (by kernel_rfl) c69)) ?_;refine Qp Ax (A2 (Cg (Qp A0 (Qp Hc (Bp (fun hc2=>Af (Qp (E2 Mf) ?_)) fun hc2=>B6 (Af (Qp Gu (Qp A0 (Qp (Iv (l:=0) (h:=Bb Ek s) tok rfl rfl rfl (rfl) (⟨_,rfl⟩) (A7 _) (Io _ _) (Oi)) (Qp (E2 nA) (Qp A0 (Qp (E2 Mf) ?_))))))))))))
 .
  refine Bz 0 Mf (_::_) (Rc ?_);refine Yx [.agg Mf] (Zb 0) S1 ?_;simp only [Ah,Jw];rw [iN hc1];rw [if_pos hc2];rfl
 refine Bz 0 Mf (_::_) (Rb ?_);refine Yx [.agg Mf] (Zb 0) S1 ?_;simp only [Ah,Jw];rw [iN hc1];rw [iN hc2];rfl
theorem c55 (s:Ag)(hl:s.length<=1048576)(h0:0<s.length):Ap Tryz.prog 146 [.str s] (.agg (cFo (E1 s))):=by
 refine Fl 40 Tryz.func146 rfl fun H=>?_
 refine Af (D7 ggz fun b2=>B7 (Qp Gu ?_));refine Qp (Qc rfl (c38 s hl 54 A9 (by kernel_rfl) c39)) ?_;refine Qp Ax (A2 (Cg (Qp A0 (Qp Bq (Bp (fun hc1=>Af (Qp (E2 Mf) ?_)) fun hc1=>B6 (Cg (Qp Gu (Qp A0 (Qp (Iv (l:=0) (h:=Bb A9 s) tok rfl rfl rfl (rfl) (⟨_,rfl⟩) (A7 _) (Io _ _) (Oi)) ?_)))))))))
 .
  refine Bz 0 Mf (_::_) (Rc ?_);refine Yx [.agg Mf] (Zb 0) S1 ?_;simp only [Ah,E1];rw [if_pos hc1];rfl
 refine Qp (Qc rfl (c18 (s.take (Bb A9 s)) (by rw [Df];omega))) ?_;refine Qp Th (Qp Td (Qp Td (Qp Ax (Qp Ax (B7 (Qp A0 (Qp C3 (Bp (fun hc2=>Af (Qp A0 (Qp (E2 Mf) ?_))) fun hc2=>B6 (Cg (Qp A0 (Qp Gu (Qp (Cz tok rfl rfl rfl rfl) (Qp Cv (Qp Co (Qg [] Qw Gu (Qg [] Qw A0 ?_))))))))))))))))
 .
  refine Bz 0 Mf (_::_) (Rc ?_);refine Yx [.agg Mf] (Zb 0) S1 ?_;simp only [Ah,E1];rw [iN hc1];rw [if_pos hc2];rfl
 refine Yh [(27,_),(28,_)] Yw (fun hG=>Cm tok rfl rfl rfl rfl (by omega) (Ib (i:=Bb A9 s) (by have h9:=g1 hG;simp at h9;exact h9))) ?_;refine Qg [(29,_)] Qw (Qc rfl (c43 _)) (Qp Ks (Bp (fun hc3=>Af (Qp A0 (Qp (E2 Mf) ?_))) fun hc3=>B6 (Af (Qp Gu (Qp A0 (Qp (Iv (l:=0) (h:=Bb A9 s) tok rfl rfl rfl (rfl) (⟨_,rfl⟩) (A7 _) (Io _ _) (Oi)) (Qp (E2 nA) (Qp A0 (Qp (E2 Mf) ?_)))))))))
 .
  refine Bz 0 Mf (_::_) (Rc ?_);refine Yx [.agg Mf] (Zb 0) S1 ?_;simp only [Ah,E1];rw [iN hc1];rw [iN hc2];rw [if_pos hc3];rfl
 refine Bz 0 Mf (_::_) (Rb ?_);refine Yx [.agg Mf] (Zb 0) S1 ?_;simp only [Ah,E1];rw [iN hc1];rw [iN hc2];rw [iN hc3];rfl
theorem c57 (s:Ag):Ap Tryz.prog 148 [.str s] (.agg (cFo (Lh s))):=by
 refine Fl 19 Tryz.func148 rfl fun H=>?_
 refine Af (D7 ggz fun b2=>A2 (Cg ?_));refine Qp (Oo (l:=Lv) tok (⟨_,by simp [globals],fun _ h=>h⟩) rfl rfl rfl rfl) ?_;refine Qp A0 (A2 (AW.block ?_));refine AW.loopS (fun (k:Nat)=>(⟨[(0,.str s),(2,.val (.pointer (some ⟨b2,0,none⟩))),(5,.agg Lv),(6,.int .i64 (k:Int))],.box b2 164 ggz::H,19⟩:St)) (fun k=>k<=17/\Lh s=Gs s (iV.drop k)) (fun k=>17-k) (0) ?_ Dh ?_
 . exact ⟨A7 _,rfl⟩
 rintro k hR;refine Af (Qp Cv (Re (Gn (fun hc1=>?_) fun hc1=>?_)))
 .
  have hk:k<17:=by simp at hc1;omega
  refine B6 (AW.seq (AW.block (Af ?_)));refine Qp (On (c:=.str (iV.getD k [])) tok rfl rfl rfl rfl rfl rfl rfl (by omega) (by omega) (sign_get k hk)) ?_;refine Qp La (B7 (Qp Gu (Qp Gu (Qp (Qc rfl (k28 _ _)) (Bp (fun hc2=>Af (Qp Gu (Qp (E2 nA) (Qp Gu (Qp (Cz tok rfl rfl rfl rfl) (Qp (E2 Mf) ?_)))))) fun hc2=>Rf (AW.region (Qp Hb (Qp A0 (A2 ?_)))))))))
  .
   refine Bz 0 Mf (_::_) (Ra (A4 (Dw (A4 ?_))));refine Yx [.agg Mf] (Zb 0) S1 ?_;have h9:=hR.2.trans (yY hk hc2);rw [h9];rfl
  refine ⟨k+1,?_,?_,Dh⟩
  . exact ⟨hk,hR.2.trans (yX hk hc2)⟩
  omega
 have hk:k=17:=by simp at hc1;have:=hR.1;omega
 refine AW.exit ?_;refine Br (Ri (Af (Qp (E2 Mf) ?_)));refine Bz 0 Mf (_::_) (Rb ?_);refine Yx [.agg Mf] (Zb 0) S1 ?_;have h9:Lh s=Jv 0 4:=by rw [hR.2,hk];rfl
 rw [h9];rfl
theorem N2 {s:Ag}{n i:Nat}{b:Ag}(h:0<n):Eh s n i b =
  if decide ((i:Int)<(s.length:Int)) then
   if (((bt s i).toNat:Int)==34) then
    if decide (64<(b.length:Int)) then Jv 0 13 else Vw 2 b ((i:Int)+1)
   else if (((bt s i).toNat:Int)==92) then
    if ((Is (s.drop i)).2==0) then Jv i 4 else Eh s (n-1) (i+(Is (s.drop i)).2.toNat) (b ++ [(Is (s.drop i)).1])
   else if (decide (((bt s i).toNat:Int)<32)||decide (126<((bt s i).toNat:Int))) then Jv i 4
   else Eh s (n-1) (i+1) (b ++ [bt s i])
  else Jv s.length 4:=by
 cases n with
 | zero=>omega
 | succ n=>rfl
theorem rE (t:Ag):0<=(Is t).2/\(Is t).2<=t.length:=by
 unfold Is;split
 . rename_i h;simp at h;simp;omega
 split
 .
  rename_i h;simp at h;split <;> simp;omega
 simp
theorem qR (b:Ag)(c:UInt8):Dd (b ++ [c])=Dd b ++ [[AV.int .u8 (c.toNat:Int)]]:=O4 b [c]
theorem pF {es:List (List AV)}{b:Ag}(h:es=Dd b)(c:UInt8):es ++ [[AV.int .u8 (c.toNat:Int)]]=Dd (b ++ [c]):=by rw [h,qR]
theorem nP {b:Ag}{n m:Nat}(h:b.length<=n)(hm:n<m)(c:UInt8):(b ++ [c]).length<=m:=by simp;omega
def recL:List (List AV):=[[.fn (.func 145) [] []],[.fn (.func 146) [] []],[.fn (.func 147) [] []]]
def yI:Nat->Ag->Fo
 | 0,s=>Jw s
 | 1,s=>E1 s
 | _,s=>Kp s
theorem rec_get (k:Nat)(h:k<3):recL[k]? = some [.fn (.func (145+k)) [] []]:=by
 match k,h with
 | 0,_=>rfl
 | 1,_=>rfl
 | 2,_=>rfl
theorem rec_fn (k:Nat)(h:k<3):Tn Tryz.prog (145+k)=true:=by
 match k,h with
 | 0,_=>exact (by kernel_rfl:Tn Tryz.prog 145=true)
 | 1,_=>exact (by kernel_rfl:Tn Tryz.prog 146=true)
 | 2,_=>exact (by kernel_rfl:Tn Tryz.prog 147=true)
theorem next_hit {s:Ag}{k:Nat}(h:k<3)(hk:∀j,j<k->Ky (yI j s)=false)(hc:Ky (yI k s)=true):B3 s=yI k s:=by
 unfold B3
 match k,h with
 | 0,_=>rw [if_pos (show Ky (Jw s)=true from hc)];rfl
 | 1,_=>rw [if_neg (Oe.mp (show Ky (Jw s)=false from hk 0 (by omega))),if_pos (show Ky (E1 s)=true from hc)];rfl
 | 2,_=>rw [if_neg (Oe.mp (show Ky (Jw s)=false from hk 0 (by omega))),if_neg (Oe.mp (show Ky (E1 s)=false from hk 1 (by omega))),if_pos (show Ky (Kp s)=true from hc)];rfl
theorem xS {s:Ag}(hk:∀j,j<3->Ky (yI j s)=false):B3 s=Lh s:=by
 unfold B3;rw [if_neg (Oe.mp (show Ky (Jw s)=false from hk 0 (by omega))),if_neg (Oe.mp (show Ky (E1 s)=false from hk 1 (by omega))),if_neg (Oe.mp (show Ky (Kp s)=false from hk 2 (by omega)))]
theorem c56 (s:Ag)(hl:s.length<=1048576)(h0:0<s.length):Ap Tryz.prog 147 [.str s] (.agg (cFo (Kp s))):=by
 refine Fl 71 Tryz.func147 rfl fun H=>?_
 refine Af (D7 ggz fun b2=>A2 (Cg (Qp Gu ?_)));refine Qp (Cm tok rfl rfl rfl rfl (by omega) (Ib (i:=0) h0)) ?_;refine Qp C3 (Bp (fun hc1=>Af (Qp (E2 Mf) ?_)) fun hc1=>B6 (Af (Qp O2 ?_)))
 .
  refine Bz 0 Mf (_::_) (Rc ?_);refine Yx [.agg Mf] (Zb 0) S1 ?_;simp only [Ah,Kp];rw [if_pos hc1];rfl
 refine AOL.ghost (GS.row (t:=3) 5 1 rfl) ?_;refine A2 (Cg (Qp Ax (A2 (AW.block ?_))));refine AW.loopS (fun (p:Nat×Nat×Ag×List (List AV)×Value)=>(⟨[(0,.str s),(2,.val (.pointer (some ⟨b2,0,none⟩))),(3,.row p.2.2.2.2 1 p.2.2.2.1),(4,.int .i64 (p.2.1:Int))],.row p.2.2.2.2 p.2.2.2.1.length 5 1 :: .box b2 164 ggz::H,71⟩:St)) (fun p=>p.2.1<=s.length/\s.length<p.1+p.2.1/\p.2.2.2.1=Dd p.2.2.1/\p.2.2.1.length<=p.2.1/\Eh s (s.length+1) 1 []=Eh s p.1 p.2.1 p.2.2.1) (fun p=>p.1) ((s.length+1,1,[],[],.slice none 0 0)) ?_ Dh ?_
 . exact ⟨h0,by simp only;omega,rfl,A7 _,rfl⟩
 rintro p hR;have hle:p.2.1<=s.length:=hR.1;have hfu:s.length<p.1+p.2.1:=hR.2.1;have hes:p.2.2.2.1=Dd p.2.2.1:=hR.2.2.1;have hbl:p.2.2.1.length<=p.2.1:=hR.2.2.2.1;have hn:0<p.1:=by omega
 have hsc:∀c∈p.2.2.2.1,Au c=true:=by rw [hes];exact pK _
 have hel:p.2.2.2.1.length<=s.length:=by rw [hes,O5];omega
 refine Cg (Qp A0 (Qp Gu (Qp (Cz tok rfl rfl rfl rfl) (Qp Cv (Bp (fun hc2=>?_) fun hc2=>AW.exit ?_)))))
 .
  have hi:p.2.1<s.length:=by simp at hc2;omega
  have hel2:=rE (s.drop p.2.1);rw [C4] at hel2;refine B6 (AW.block (Af (Qp Gu (Qp A0 ?_))));refine Qp (Cm tok rfl rfl rfl rfl (by omega) (Ib (i:=p.2.1) hi)) ?_;refine Qp (Ad (v:=.int .u8 _) rfl) (A2 (AW.block (Af (Qp (Ab (v:=.int .u8 _) rfl) (Qp Bq (Qp Bh (Bp (fun hc3=>Cg (Qp (Ab (v:=.row _ _ _) rfl) ?_)) fun hc3=>?_)))))))
  .
   refine Qp (E8 (n:=p.2.2.1.length) tok rfl rfl rfl (by rw [hes,O5])) ?_;refine Qp Hc (Bp (fun hc4=>Af (Qp (E2 Mf) ?_)) fun hc4=>B6 (Af (Qp (Ab (v:=.row _ _ _) rfl) ?_)))
   .
    refine Bz 1 Mf (_::_::_) (Rc (Dw (Dw (A4 (Dw (A4 ?_))))));refine Yx [.agg Mf] (Zb 1) S2 ?_
    have h9:Kp s=Jv 0 13:=by
     unfold Kp;rw [iN hc1,hR.2.2.2.2,N2 hn,if_pos hc2,if_pos hc3,if_pos hc4]
    rw [h9];rfl
   refine Qp (bY (s:=p.2.2.1) tok rfl rfl rfl rfl rfl rfl rfl (by simp [maxLen];omega) (zY hes)) ?_;refine Qp (E2 nA) (Qp A0 (Qp Hb (Qp (E2 Mf) ?_)));refine Bz 1 Mf (_::_::_) (Rb (Dw (Dw (A4 (Dw (A4 ?_))))));refine Yx [.agg Mf] (Zb 1) S2 ?_
   have h9:Kp s=Vw 2 p.2.2.1 ((p.2.1:Int)+1):=by
    unfold Kp;rw [iN hc1,hR.2.2.2.2,N2 hn,if_pos hc2,if_pos hc3,iN hc4]
   rw [h9];rfl
  refine Af (Qp (Ab (v:=.int .u8 _) rfl) (Qp Bq (Qp Bh (Bp (fun hc5=>Af (Qp Gu (Qp A0 (Qp (Iv (l:=p.2.1) (h:=s.length) tok rfl rfl rfl (⟨_,rfl⟩) (rfl) (hle) (Bc _) (congrArg (List.drop _) Mu)) ?_)))) fun hc5=>Af (Qp (Ab (v:=.int .u8 _) rfl) (Qp Cv (Qp Co (Qg [] Qw (Ab (v:=.int .u8 _) rfl) (Qg [(63,_)] Qw Hc (Qp Gv (Qp Bh (Bp (fun hc7=>Af (Qp A0 (Qp (E2 Mf) ?_))) fun hc7=>Af (Qp (Ab (v:=.row _ _ _) rfl) (Qp (Ab (v:=.int .u8 _) rfl) (Qp (Ir ([[.int .u8 _]]) rfl) ?_)))))))))))))))
  .
   refine Qp (Qc rfl (c70 (s.drop p.2.1) (by rw [C4];omega))) ?_;refine Qp Th (Qp (A6 (v:=.int .u8 _) rfl rfl) (Qp Td (Qp (Ad (v:=.int .u8 _) rfl) (Qp Ax (A2 (Cg (Qp A0 (Qp Bq (Bp (fun hc6=>Af (Qp A0 (Qp (E2 Mf) ?_))) fun hc6=>?_)))))))))
   .
    refine Bz 1 Mf (_::_::_) (Rc (Dw (Dw (A4 (Dw (A4 ?_))))));refine Yx [.agg Mf] (Zb 1) S2 ?_
    have h9:Kp s=Jv p.2.1 4:=by
     unfold Kp;rw [iN hc1,hR.2.2.2.2,N2 hn,if_pos hc2,iN hc3,if_pos hc5,if_pos hc6]
    rw [h9];rfl
   have hne:(Is (s.drop p.2.1)).2≠0:=by simpa using hc6
   refine B6 (Af (Qp (Ab (v:=.row _ _ _) rfl) (Qp (Ab (v:=.int .u8 _) rfl) (Qp (Ir ([[.int .u8 _]]) rfl) ?_))));refine Qe (Vc 0 rfl (D5 rfl) (hsc) (by simp;omega) (by simp [maxLen];omega)) ?_;rintro _ _ ⟨v55,rfl,rfl⟩;refine Qp (Ad (v:=.row _ _ _) rfl) (A2 (AW.region (Qp A0 (Qp A0 (Qp Hb (Qp Ax (AOL.nil (Ff (Ff (Aa ?_))))))))));refine ⟨(p.1-1,p.2.1+(Is (s.drop p.2.1)).2.toNat,p.2.2.1 ++ [(Is (s.drop p.2.1)).1],p.2.2.2.1 ++ [[.int .u8 ((Is (s.drop p.2.1)).1.toNat:Int)]],v55),?_,?_,GS.weaken ⟨rfl,rfl,rfl,congrArg (AV.int .i64) (by simp only;omega),trivial⟩ (.refl _)⟩
   . exact ⟨by simp only;omega,by simp only;omega,pF hes _,nP hbl (by simp only;omega) _,hR.2.2.2.2.trans (by rw [N2 hn,if_pos hc2,iN hc3,if_pos hc5,iN hc6])⟩
   simp only;omega
  .
   refine Bz 1 Mf (_::_::_) (Rb (Dw (Dw (A4 (Dw (A4 ?_))))));refine Yx [.agg Mf] (Zb 1) S2 ?_
   have h9:Kp s=Jv p.2.1 4:=by
    unfold Kp;rw [iN hc1,hR.2.2.2.2,N2 hn,if_pos hc2,iN hc3,iN hc5,if_pos hc7]
   rw [h9];rfl
  refine Qe (Vc 0 rfl (D5 rfl) (hsc) (by simp;omega) (by simp [maxLen];omega)) ?_;rintro _ _ ⟨v22,rfl,rfl⟩;refine Qp (Ad (v:=.row _ _ _) rfl) (A2 (AW.region (Qp A0 (Qp Hb (Qp Ax (AOL.nil (Ff (Ff (Aa ?_)))))))));refine ⟨(p.1-1,p.2.1+1,p.2.2.1 ++ [bt s p.2.1],p.2.2.2.1 ++ [[.int .u8 ((bt s p.2.1).toNat:Int)]],v22),?_,?_,Dh⟩
  . exact ⟨by simp only;omega,by simp only;omega,pF hes _,nP hbl (by simp only;omega) _,hR.2.2.2.2.trans (by rw [N2 hn,if_pos hc2,iN hc3,iN hc5,iN hc7])⟩
  simp only;omega
 refine Br (Ri (Af (Qp Gu ?_)));refine Qp (Cz tok rfl rfl rfl rfl) (Qp (E2 Mf) ?_);refine Bz 1 Mf (_::_::_) (Rb ?_);refine Yx [.agg Mf] (Zb 1) S2 ?_
 have h9:Kp s=Jv s.length 4:=by
  unfold Kp;rw [iN hc1,hR.2.2.2.2,N2 hn,iN hc2]
 rw [h9];rfl
theorem rec_call (s:Ag)(hl:s.length<=1048576)(h0:0<s.length)(k:Nat)(h:k<3):Ap Tryz.prog (145+k) [.str s] (.agg (cFo (yI k s))):=by
 match k,h with
 | 0,_=>exact c54 s hl h0
 | 1,_=>exact c55 s hl h0
 | 2,_=>exact c56 s hl h0
theorem c33 (s:Ag)(hl:s.length<=1048576)(h0:0<s.length):Ap Tryz.prog 82 [.str s] (.agg (cFo (B3 s))):=by
 refine Fl 27 Tryz.func82 rfl fun H=>?_
 refine Af (D7 ggz fun b2=>A2 (Cg (Qp (Ir ([[_],[_],[_]]) rfl) (Qp (Dz tok rfl rfl rfl rfl) (Qp A0 (A2 (AW.block ?_)))))));refine AW.loopS (fun (k:Nat)=>(⟨[(0,.str s),(2,.val (.pointer (some ⟨b2,0,none⟩))),(6,.sl 1 recL),(7,.int .i64 3),(8,.int .i64 (k:Int))],.box b2 164 ggz::H,27⟩:St)) (fun k=>k<=3/\∀j,j<k->Ky (yI j s)=false) (fun k=>3-k) (0) ?_ Dh ?_
 . exact ⟨A7 _,fun j hj=>absurd hj (Nat.not_lt_zero _)⟩
 rintro k hR;refine Af (Qp Cv (Re (Gn (fun hc1=>?_) fun hc1=>?_)))
 .
  have hk:k<3:=by simp at hc1;omega
  refine B6 (AW.seq (AW.block (Af ?_)));refine Qp (E9 ([.fn (.func (145+k)) [] []]) rfl rfl (by omega) (rec_get k hk)) ?_;refine Qp (Aq (c:=.fn _ _ _) tok rfl rfl rfl) (Qp (Ad (v:=.fn _ _ _) rfl) (B7 (Qp (Ab (v:=.fn _ _ _) rfl) (Qp Gu (Qp (O1 (rec_fn k hk) rfl rfl rfl (rec_call s hl h0 k hk)) (D7 ggz fun b5=>?_))))));refine Bz 0 Mf (_::_::_) ?_;refine Kh 5 0 rfl ?_;refine B7 (Qp (Qf [Iq _,Iq _,Iq _]) (Qp Cd (Qp Hc (Qp Co (Qg [] Qw (Qf [Iq _]) (Qg [(19,_)] Qw Cd (Qg [(20,_)] Qw C3 (Qp Gv (Bp (fun hc2=>Af (Qp (C1 Mf) ?_)) fun hc2=>Rf (AW.region (Qp Hb (Qp A0 (A2 ?_)))))))))))))
  .
   refine Bz 0 Mf (_::_) (Ra (A4 (Dw (A4 ?_))));refine Yx [.agg Mf] (Zb 0) S1 ?_;rw [next_hit hk hR.2 hc2];rfl
  refine ⟨k+1,?_,?_,Dh⟩
  . exact ⟨hk,fun j hj=>by rcases Ym.1 hj with h | rfl;exact hR.2 j h;exact hc2⟩
  omega
 have hk:k=3:=by simp at hc1;have:=hR.1;omega
 refine AW.exit ?_;refine Br (Ri (Af (Qp Gu ?_)));refine Qp (Qc rfl (c57 s)) ?_;refine Bz 0 Mf (_::_) (Rb ?_);refine Yx [.agg Mf] (Zb 0) S1 ?_;have h9:B3 s=Lh s:=by subst hk;exact xS hR.2
 rw [h9];rfl
theorem sU (t:Ag):0<=Lc t/\(0<t.length->Lc t<=t.length):=by
 unfold Lc;have:=Io nR t;split
 . omega
 split <;> omega
theorem wA (t:Ag):∀l:List Ag,(∀x∈l,0<x.length)->(Gs t l).err=4/\(Gs t l).pos=0/\(Gs t l).bytes=0\/(Gs t l).err=0/\(Gs t l).pos=0/\0<(Gs t l).bytes/\(Gs t l).bytes<=t.length
  | [],_=>.inl ⟨rfl,rfl,rfl⟩
  | x::r,h=>by
    unfold Gs;split
    . rename_i hp
      right;have hpre:x.isPrefixOf t=true:=hp;have:=(Z6.1 hpre).length_le;have h2:=h x (by simp);exact ⟨rfl,rfl,by show (0:Int)<(x.length:Int);omega,by show (x.length:Int)<=_;omega⟩
    exact wA t r fun y hy=>h y (by simp [hy])
theorem dS (s:Ag):∀(n i:Nat) (b:Ag),i<=s.length->0<=(Eh s n i b).pos/\(Eh s n i b).pos<=s.length/\0<=(Eh s n i b).bytes/\(Eh s n i b).bytes<=s.length
  | 0,i,b,_=>by simp [Eh,Jv]
  | n+1,i,b,hi=>by
    unfold Eh;split
    . rename_i h;simp at h
      split
      . split
        . simp [Jv]
        simp [Vw];omega
      . split
        . split
          . simp [Jv];omega
          . rename_i h3
            have he:=rE (s.drop i);rw [C4] at he;exact dS s n _ _ (by omega)
        . split
          . simp [Jv];omega
          exact dS s n _ _ (by omega)
    simp [Jv]
theorem Xy (t:Ag)(h0:0<t.length):0<=(B3 t).pos/\(B3 t).pos<=t.length/\0<=(B3 t).bytes/\(B3 t).bytes<=t.length/\((B3 t).err=0->0<(B3 t).bytes):=by
 have hit:∀f:Fo,Ky f=true->(f.err=0->0<f.bytes):=fun f h e=>by
  unfold Ky at h;rw [e] at h;simpa using h
 unfold B3;split
 .
  rename_i h;have:=Io Ek t;refine ⟨?_,?_,?_,?_,hit _ h⟩ <;> (unfold Jw;split <;> (try split) <;> simp [rI,Jv,Vw,M9] <;> omega)
 split
 .
  rename_i h;have:=Io A9 t;refine ⟨?_,?_,?_,?_,hit _ h⟩ <;> (unfold E1;split <;> (try split) <;> (try split) <;> simp [rI,Jv,Vw,M9] <;> omega)
 split
 .
  rename_i h
  have hl:0<=(Kp t).pos/\(Kp t).pos<=t.length/\0<=(Kp t).bytes/\(Kp t).bytes<=t.length:=by
   unfold Kp;split
   . simp [rI]
   exact dS t _ _ _ (by omega)
  exact ⟨hl.1,hl.2.1,hl.2.2.1,hl.2.2.2,hit _ h⟩
 rcases wA t iV (by decide) with h | h
 . unfold Lh;rw [h.1,h.2.1,h.2.2];simp
 unfold Lh;rw [h.1,h.2.1];omega
theorem U3 {s:Ag}{n i:Nat}{out:List Tok}(h:0<n):Jm s n i out =
  if decide ((i:Int)<(s.length:Int)) then
   if decide (0<Lc (s.drop i)) then Jm s (n-1) (i+(Lc (s.drop i)).toNat) out
   else if ((B3 (s.drop i)).err != 0) then (([],(i:Int)+(B3 (s.drop i)).pos,(B3 (s.drop i)).err):List Tok×Int×Int)
   else Jm s (n-1) (i+(B3 (s.drop i)).bytes.toNat) (out ++ [⟨(B3 (s.drop i)).tok.kind,(B3 (s.drop i)).tok.text,i⟩])
  else (out,0,0):=by
 cases n with
 | zero=>omega
 | succ n=>rfl
theorem tok_next {es:List (List AV)}{out:List Tok}(h:es=out.map nU)(t:Tok):es ++ [[AV.int .i64 t.kind,.str t.text,.int .i64 t.pos]]=(out ++ [t]).map nU:=by rw [h,E5];rfl
theorem sc_tok (l:List Tok):∀x∈l.map nU,Au x=true:=kZ fun _=>rfl
def cScan (p:List Tok×Int×Int):AV:=.tuple [.sl 3 (p.1.map nU),.int .i64 p.2.1,.int .i64 p.2.2]
theorem c13 (s:Ag)(hl:s.length<=1048576):Ap Tryz.prog 38 [.str s] (cScan (Dl s)):=by
 refine Fl 51 Tryz.func38 rfl fun H=>?_
 refine Af ?_;refine Qp (Cb (z:=3) rfl) ?_;refine Qp Ax (Qp Ax (A2 (Cg (Qp Gu ?_))));refine Qp (Cz tok rfl rfl rfl rfl) ?_;refine Qp Hc (Bp (fun hc1=>?_) fun hc1=>?_)
 .
  refine Af ?_;refine Qp (Cb (z:=3) rfl) ?_;refine Qp Ax (Qp Ax (Rc ?_));refine Yx [.sl _ _,Iq _,Iq _] Zg S0 ?_;have h9:Dl s=([],0,13):=by unfold Dl;rw [if_pos hc1]
  rw [h9];rfl
 refine B6 (Af (Qp O2 ?_));refine AOL.ghost (GS.row (t:=5) 162 3 rfl) ?_;refine A2 (Cg (Qp Ax (A2 (AW.block ?_))));refine AW.loopS (fun (p:Nat×Nat×List Tok×List (List AV)×Value)=>(⟨[(0,.str s),(5,.row p.2.2.2.2 3 p.2.2.2.1),(6,.int .i64 (p.2.1:Int))],.row p.2.2.2.2 p.2.2.2.1.length 162 3::H,51⟩:St)) (fun p=>p.2.1<=s.length/\s.length<p.1+p.2.1/\p.2.2.2.1=p.2.2.1.map nU/\p.2.2.1.length<=p.2.1/\Jm s (s.length+1) 0 []=Jm s p.1 p.2.1 p.2.2.1) (fun p=>p.1) ((s.length+1,0,[],[],.slice none 0 0)) ?_ Dh ?_
 . exact ⟨A7 _,by simp only;omega,rfl,A7 _,rfl⟩
 rintro p hR;have hle:p.2.1<=s.length:=hR.1;have hfu:s.length<p.1+p.2.1:=hR.2.1;have hes:p.2.2.2.1=p.2.2.1.map nU:=hR.2.2.1;have hbl:p.2.2.1.length<=p.2.1:=hR.2.2.2.1;have hn:0<p.1:=by omega
 have hsc:∀c∈p.2.2.2.1,Au c=true:=by rw [hes];exact sc_tok _
 have hel:p.2.2.2.1.length<=s.length:=by rw [hes,By];omega
 refine Cg (Qp A0 (Qp Gu ?_));refine Qp (Cz tok rfl rfl rfl rfl) ?_;refine Qp Cv (Bp (fun hc2=>?_) fun hc2=>?_)
 .
  have hi:p.2.1<s.length:=by simp at hc2;omega
  have hsp:=sU (s.drop p.2.1);have hnx:=Xy (s.drop p.2.1) (by rw [C4];omega);rw [C4] at hsp hnx;have hsp1:=hsp.1;have hsp2:=hsp.2 (by omega);have hn1:=hnx.1;have hn2:=hnx.2.1;have hn3:=hnx.2.2.1;have hn4:=hnx.2.2.2.1;refine B6 (AW.block (Cg (Qp Gu (Qp A0 ?_))));refine Qp (Iv (l:=p.2.1) (h:=s.length) tok rfl rfl rfl (⟨_,rfl⟩) (rfl) (hle) (Bc _) (congrArg (List.drop _) Mu)) ?_;refine Qp (Qc rfl (c32 (s.drop p.2.1) (by rw [C4];omega) (by rw [C4];omega))) ?_;refine Qp Ax (B7 (Qp A0 (Qp Hc (Bp (fun hc3=>?_) fun hc3=>?_))))
  .
   have hpos:0<(Lc (s.drop p.2.1)):=by simpa using hc3
   refine Af (Qp A0 (Qp A0 (Qp Hb (Qp Ax (A2 ?_)))));refine AW.exit ?_;refine Ri ?_;refine ⟨(p.1-1,p.2.1+(Lc (s.drop p.2.1)).toNat,p.2.2.1,p.2.2.2.1,p.2.2.2.2),?_,?_,GS.weaken ⟨rfl,rfl,congrArg (AV.int .i64) (by simp only;omega),trivial⟩ (.refl _)⟩
   . exact ⟨by simp only;omega,by simp only;omega,hes,by simp only;omega,hR.2.2.2.2.trans (by rw [U3 hn,if_pos hc2,if_pos hc3])⟩
   simp only;omega
  refine B6 (Af (Qp Gu (Qp A0 ?_)));refine Qp (Iv (l:=p.2.1) (h:=s.length) tok rfl rfl rfl (⟨_,rfl⟩) (rfl) (hle) (Bc _) (congrArg (List.drop _) Mu)) ?_;refine Qp (Qc rfl (c33 (s.drop p.2.1) (by rw [C4];omega) (by rw [C4];omega))) ?_;refine D7 ggz fun b8=>?_
  refine Bz 0 Mf (_::_::_) ?_;refine A2 (Cg (Qp Cw ?_));refine Pz 0 (Iq _) rfl ?_;refine Qp C3 (Bp (fun hc4=>?_) fun hc4=>?_)
  .
   refine AW.seq ?_;refine Pq 0 rfl ?_;refine Qn 0 rfl A0 (Qn 1 rfl Cw ?_);refine Qn 2 rfl (Lb (Iq _) rfl) ?_;refine Qn 3 rfl Hb (Qn 4 rfl Cw ?_);refine Qn 5 rfl (Lb (Iq _) rfl) ?_;refine Qn 6 rfl (Cb (z:=3) rfl) ?_;refine Qn 7 rfl Ax (Qn 8 rfl Ax ?_);refine Iw ?_;refine Aa (gH (Dw (A4 (Dw (A4 ?_)))));refine Yx [.sl _ _,Iq _,Iq _] Zg S2 ?_
   have h9:Dl s=([],(p.2.1:Int)+(B3 (s.drop p.2.1)).pos,(B3 (s.drop p.2.1)).err):=by
    unfold Dl;rw [iN hc1,hR.2.2.2.2,U3 hn,if_pos hc2,iN hc3,if_pos hc4]
   rw [h9];first | done | rfl
  have hpos:=hnx.2.2.2.2 (by simpa using hc4);refine B6 (Af (Qp A0 (Qp Cw (Qp Cw ?_))));refine Bz 0 Mf (_::_::_) ?_;refine B7 ?_;refine Qp (Ab (v:=.row _ _ _) rfl) ?_;refine Qp Cw ?_;refine O3 0 nA rfl ?_;refine Qp (Ir [nA] rfl) ?_;refine Qe (Vc 1 rfl (D5 rfl) (hsc) (by simp;omega) (by simp [maxLen];omega)) ?_;rintro _ _ ⟨v45,rfl,rfl⟩;refine Qp (Ad (v:=.row _ _ _) rfl) ?_;refine A2 (AW.region (Qp A0 (Qp Cw ?_)));refine Pz 0 (Iq _) rfl ?_;refine Qp Hb (Qp Ax (Rk ?_));refine ⟨(p.1-1,p.2.1+(B3 (s.drop p.2.1)).bytes.toNat,p.2.2.1 ++ [⟨(B3 (s.drop p.2.1)).tok.kind,(B3 (s.drop p.2.1)).tok.text,p.2.1⟩],p.2.2.2.1 ++ [[.int .i64 (B3 (s.drop p.2.1)).tok.kind,.str (B3 (s.drop p.2.1)).tok.text,.int .i64 (p.2.1:Int)]],v45),?_,?_,GS.weaken ⟨rfl,rfl,congrArg (AV.int .i64) (by simp only;omega),trivial⟩ (.cons _ (.refl _))⟩
  . exact ⟨by simp only;omega,by simp only;omega,tok_next hes ⟨(B3 (s.drop p.2.1)).tok.kind,(B3 (s.drop p.2.1)).tok.text,p.2.1⟩,by simp only [Ao,A1,Bi];omega,hR.2.2.2.2.trans (by rw [U3 hn,if_pos hc2,iN hc3,iN hc4])⟩
  simp only;omega
 refine AW.exit ?_;refine Br (Ri (Af ?_));refine AOL.ghost (GS.unrow 5 rfl) ?_;refine Qp Mm (Qp jF (Qp Ax (Qp Ax (Rb ?_))));refine Yx [.sl _ _,Iq _,Iq _] Zg S1 ?_
 have h9:Dl s=(p.2.2.1,0,0):=by
  unfold Dl;rw [iN hc1,hR.2.2.2.2,U3 hn,iN hc2]
 rw [h9];simp only [Ah,cScan,hes]
theorem Qx {p:UInt8->Bool}{s:Ag}{k:Nat}(hk:k<s.length)(h:p (bt s k)=true):0<Bb p (s.drop k):=by rw [Rs hk,Bb,if_pos h];omega
theorem get_ex {α:Type}{l:List α}{k:Nat}(h:k<l.length):∃x,l[k]? = some x:=⟨_,List.getElem?_eq_getElem h⟩
end Go.Proofs.YtibcelnfkhdjaaaGreatDoor
