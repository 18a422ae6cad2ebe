/-
  Several texts in one: EM7, EM8, EM9, Az, Shelf, C, W1, W2, W3, W4, W5, W6, W7, W8, W9. No condition.
-/
import Derived.Test.YtibcelnfkhdjaaaGreatDoorK01
import Derived.Test.YtibcelnfkhdjaaaGreatDoorAx
import Derived.Test.YtibcelnfkhdjaaaGreatDoorTab
import Derived.KernelRfl
import Derived.Shelf.Small.Strs
import Derived.Shelf.Strconv.Itoa0
import Derived.Shelf.Strconv.Itoa1
import Derived.Shelf.LaysM
import Derived.Shelf.Strconv.Itoa2
import Derived.Shelf.Strconv.Itoa3
import Derived.Shelf.Strings.Search1
import Derived.Shelf.Strings.Search2
import Derived.Shelf.Strings.Search3
import Derived.Shelf.Strings.Shaped
import Derived.Shelf.Strings.Prefix
import Derived.Test.YtibcelnfkhdjaaaGreatDoorProg
set_option linter.unusedVariables false
set_option linter.unusedSimpArgs false
set_option maxHeartbeats 800000
set_option maxRecDepth 100000
namespace Go.Proofs.YtibcelnfkhdjaaaGreatDoor
open Go Go.Aw
inductive Fd (f:Ex->Ex):Ex->Prop where
 | mk (e:Ex) (ha:∀a∈e.args,Fd f a) (h:f e=e):Fd f e
theorem S8 {e:Ex}(h:Gn e=0):Ef e<=64/\J5 e<=12/\Ip e=0:=by
 unfold Gn at h;split at h
 . cases h
 rename_i h1;split at h
 . cases h
 rename_i h2;simp at h1 h2;exact ⟨by omega,by omega,h⟩
section
variable {d:Option Nat} {ty:TypeId} {pos:String} {aft:Array Edge} {gd:Option (Nat×Bool)} {ρ:Operand->AV} {K:List HO->Prop}
theorem A3 {x:Operand}{n:Int}(h:ρ x = .int .i64 n:=by exact rfl):D1 Tryz.prog ⟨d,.assign x,ty,pos,aft,gd⟩ ρ K (.int .i64 n):=An h
theorem Ax {x:Operand}{n:Int}(h:ρ x = .int .i64 n:=by exact rfl):D1 Tryz.prog ⟨d,.move x,ty,pos,aft,gd⟩ ρ K (.int .i64 n):=Ai h
theorem B7 {t:TypeId}{td:TD}{x:Operand}{n:Int}{cs:List AV}(h:ρ x = .ptr (.int .i64 n::cs):=by exact rfl)(ht:Bt TL t=some td:=by exact rfl)(ha:td.agg=false:=by exact rfl):D1 Tryz.prog ⟨d,.load t x,ty,pos,aft,gd⟩ ρ K (.int .i64 n):=E1 tok h ht ha
theorem Wt {x:Operand}{i:Nat}{vs:List AV}{n:Int}(h:ρ x = .tuple vs:=by exact rfl)(hv:vs[i]? = some (.int .i64 n):=by exact rfl):D1 Tryz.prog ⟨d,.extract x i,ty,pos,aft,gd⟩ ρ K (.int .i64 n):=Bm h hv
theorem Bl {x:Operand}{b:Bool}(h:ρ x = .bool b:=by exact rfl):D1 Tryz.prog ⟨d,.assign x,ty,pos,aft,gd⟩ ρ K (.bool b):=An h
theorem Cw {x:Operand}{b:Bool}(h:ρ x = .bool b:=by exact rfl):D1 Tryz.prog ⟨d,.move x,ty,pos,aft,gd⟩ ρ K (.bool b):=Ai h
theorem uP {t:TypeId}{td:TD}{x:Operand}{b:Bool}{cs:List AV}(h:ρ x = .ptr (.bool b::cs):=by exact rfl)(ht:Bt TL t=some td:=by exact rfl)(ha:td.agg=false:=by exact rfl):D1 Tryz.prog ⟨d,.load t x,ty,pos,aft,gd⟩ ρ K (.bool b):=E1 tok h ht ha
theorem oB {x:Operand}{i:Nat}{vs:List AV}{b:Bool}(h:ρ x = .tuple vs:=by exact rfl)(hv:vs[i]? = some (.bool b):=by exact rfl):D1 Tryz.prog ⟨d,.extract x i,ty,pos,aft,gd⟩ ρ K (.bool b):=Bm h hv
theorem rL {x:Operand}{z:Nat}{es:List (List AV)}(h:ρ x = .sl z es:=by exact rfl):D1 Tryz.prog ⟨d,.assign x,ty,pos,aft,gd⟩ ρ K (.sl z es):=An h
theorem Ng {x:Operand}{z:Nat}{es:List (List AV)}(h:ρ x = .sl z es:=by exact rfl):D1 Tryz.prog ⟨d,.move x,ty,pos,aft,gd⟩ ρ K (.sl z es):=Ai h
theorem Eg {t:TypeId}{td:TD}{x:Operand}{z:Nat}{es:List (List AV)}{cs:List AV}(h:ρ x = .ptr (.sl z es::cs):=by exact rfl)(ht:Bt TL t=some td:=by exact rfl)(ha:td.agg=false:=by exact rfl):D1 Tryz.prog ⟨d,.load t x,ty,pos,aft,gd⟩ ρ K (.sl z es):=E1 tok h ht ha
theorem Qxs {x:Operand}{i:Nat}{vs:List AV}{z:Nat}{es:List (List AV)}(h:ρ x = .tuple vs:=by exact rfl)(hv:vs[i]? = some (.sl z es):=by exact rfl):D1 Tryz.prog ⟨d,.extract x i,ty,pos,aft,gd⟩ ρ K (.sl z es):=Bm h hv
theorem Tm {x:Operand}{v:Value}(h:ρ x = .val v:=by exact rfl):D1 Tryz.prog ⟨d,.assign x,ty,pos,aft,gd⟩ ρ K (.val v):=An h
theorem B3 {x:Operand}{v:Value}(h:ρ x = .val v:=by exact rfl):D1 Tryz.prog ⟨d,.move x,ty,pos,aft,gd⟩ ρ K (.val v):=Ai h
theorem Md {t:TypeId}{td:TD}{x:Operand}{v:Value}{cs:List AV}(h:ρ x = .ptr (.val v::cs):=by exact rfl)(ht:Bt TL t=some td:=by exact rfl)(ha:td.agg=false:=by exact rfl):D1 Tryz.prog ⟨d,.load t x,ty,pos,aft,gd⟩ ρ K (.val v):=E1 tok h ht ha
theorem Qxv {x:Operand}{i:Nat}{vs:List AV}{v:Value}(h:ρ x = .tuple vs:=by exact rfl)(hv:vs[i]? = some (.val v):=by exact rfl):D1 Tryz.prog ⟨d,.extract x i,ty,pos,aft,gd⟩ ρ K (.val v):=Bm h hv
theorem Qaa {x:Operand}{l:List AV}(h:ρ x = .agg l:=by exact rfl):D1 Tryz.prog ⟨d,.assign x,ty,pos,aft,gd⟩ ρ K (.agg l):=An h
theorem Qma {x:Operand}{l:List AV}(h:ρ x = .agg l:=by exact rfl):D1 Tryz.prog ⟨d,.move x,ty,pos,aft,gd⟩ ρ K (.agg l):=Ai h
theorem Qla {t:TypeId}{td:TD}{x:Operand}{l:List AV}{cs:List AV}(h:ρ x = .ptr (.agg l::cs):=by exact rfl)(ht:Bt TL t=some td:=by exact rfl)(ha:td.agg=false:=by exact rfl):D1 Tryz.prog ⟨d,.load t x,ty,pos,aft,gd⟩ ρ K (.agg l):=E1 tok h ht ha
theorem Qxa {x:Operand}{i:Nat}{vs:List AV}{l:List AV}(h:ρ x = .tuple vs:=by exact rfl)(hv:vs[i]? = some (.agg l):=by exact rfl):D1 Tryz.prog ⟨d,.extract x i,ty,pos,aft,gd⟩ ρ K (.agg l):=Bm h hv
theorem Nb {x:Operand}{s:List UInt8}(h:ρ x = .str s:=by exact rfl):D1 Tryz.prog ⟨d,.assign x,ty,pos,aft,gd⟩ ρ K (.str s):=An h
theorem Iw {x:Operand}{s:List UInt8}(h:ρ x = .str s:=by exact rfl):D1 Tryz.prog ⟨d,.move x,ty,pos,aft,gd⟩ ρ K (.str s):=Ai h
theorem Hn {t:TypeId}{td:TD}{x:Operand}{s:List UInt8}{cs:List AV}(h:ρ x = .ptr (.str s::cs):=by exact rfl)(ht:Bt TL t=some td:=by exact rfl)(ha:td.agg=false:=by exact rfl):D1 Tryz.prog ⟨d,.load t x,ty,pos,aft,gd⟩ ρ K (.str s):=E1 tok h ht ha
theorem Qxt {x:Operand}{i:Nat}{vs:List AV}{s:List UInt8}(h:ρ x = .tuple vs:=by exact rfl)(hv:vs[i]? = some (.str s):=by exact rfl):D1 Tryz.prog ⟨d,.extract x i,ty,pos,aft,gd⟩ ρ K (.str s):=Bm h hv
theorem Qau {x:Operand}{l:List AV}(h:ρ x = .tuple l:=by exact rfl):D1 Tryz.prog ⟨d,.assign x,ty,pos,aft,gd⟩ ρ K (.tuple l):=An h
theorem Wz {x:Operand}{l:List AV}(h:ρ x = .tuple l:=by exact rfl):D1 Tryz.prog ⟨d,.move x,ty,pos,aft,gd⟩ ρ K (.tuple l):=Ai h
theorem Qlu {t:TypeId}{td:TD}{x:Operand}{l:List AV}{cs:List AV}(h:ρ x = .ptr (.tuple l::cs):=by exact rfl)(ht:Bt TL t=some td:=by exact rfl)(ha:td.agg=false:=by exact rfl):D1 Tryz.prog ⟨d,.load t x,ty,pos,aft,gd⟩ ρ K (.tuple l):=E1 tok h ht ha
theorem Qxu {x:Operand}{i:Nat}{vs:List AV}{l:List AV}(h:ρ x = .tuple vs:=by exact rfl)(hv:vs[i]? = some (.tuple l):=by exact rfl):D1 Tryz.prog ⟨d,.extract x i,ty,pos,aft,gd⟩ ρ K (.tuple l):=Bm h hv
theorem Qap {x:Operand}{l:List AV}(h:ρ x = .ptr l:=by exact rfl):D1 Tryz.prog ⟨d,.assign x,ty,pos,aft,gd⟩ ρ K (.ptr l):=An h
theorem Qmp {x:Operand}{l:List AV}(h:ρ x = .ptr l:=by exact rfl):D1 Tryz.prog ⟨d,.move x,ty,pos,aft,gd⟩ ρ K (.ptr l):=Ai h
theorem Qlp {t:TypeId}{td:TD}{x:Operand}{l:List AV}{cs:List AV}(h:ρ x = .ptr (.ptr l::cs):=by exact rfl)(ht:Bt TL t=some td:=by exact rfl)(ha:td.agg=false:=by exact rfl):D1 Tryz.prog ⟨d,.load t x,ty,pos,aft,gd⟩ ρ K (.ptr l):=E1 tok h ht ha
theorem Qxp {x:Operand}{i:Nat}{vs:List AV}{l:List AV}(h:ρ x = .tuple vs:=by exact rfl)(hv:vs[i]? = some (.ptr l):=by exact rfl):D1 Tryz.prog ⟨d,.extract x i,ty,pos,aft,gd⟩ ρ K (.ptr l):=Bm h hv
theorem C8 (l:List AV){t:TypeId}{td:TD}{x:Operand}{cs:List AV}(h:ρ x = .ptr cs:=by exact rfl)(ht:Bt TL t=some td:=by exact rfl)(ha:td.agg=true:=by exact rfl)(hl:cs.take td.size=l:=by exact rfl)(hs:Nat.beq l.length td.size=true:=by exact rfl):D1 Tryz.prog ⟨d,.load t x,ty,pos,aft,gd⟩ ρ K (.agg l):=Cs tok h ht ha hl hs
theorem Qf (cs':List AV){s f off z ft:Nat}{nm:Bool}{x:Operand}{cs:List AV}{td:TD}{gs:List (Nat×Nat×Bool×Nat)}(h:ρ x = .ptr cs:=by exact rfl)(ht:Bt TL s=some td:=by exact rfl)(hk:td.kind = .struct gs:=by exact rfl)(hf:gs[f]? = some (off,z,nm,ft):=by exact rfl)(hz:Nat.blt 0 z=true:=by exact rfl)(hc:cs.drop off=cs':=by exact rfl):D1 Tryz.prog ⟨d,.fieldAddr s x f,ty,pos,aft,gd⟩ ρ K (.ptr cs'):=Do tok h ht hk hf hz hc
theorem Dg {s f off z ft b o:Nat}{nm:Bool}{x:Operand}{td:TD}{gs:List (Nat×Nat×Bool×Nat)}{o':Nat}(h:ρ x = .val (.pointer (some ⟨b,o,none⟩)):=by exact rfl)(ht:Bt TL s=some td:=by exact rfl)(hk:td.kind = .struct gs:=by exact rfl)(hf:gs[f]? = some (off,z,nm,ft):=by exact rfl)(hz:Nat.blt 0 z=true:=by exact rfl)(ho:o+off=o':=by exact rfl):D1 Tryz.prog ⟨d,.fieldAddr s x f,ty,pos,aft,gd⟩ ρ K (.val (.pointer (some ⟨b,o',none⟩))):=iF tok h ht hk hf hz ho
theorem Ji (cs:List AV){t:TypeId}{x:Operand}{l:List AV}(h:ρ x = .agg l:=by exact rfl)(hc:C1 (.agg l)=cs:=by exact rfl)(hs:Av cs=true:=by exact rfl):D1 Tryz.prog ⟨d,.box t x,ty,pos,aft,gd⟩ ρ K (.ptr cs):=Zx h hc hs
theorem Gz (l:List AV){t:TypeId}{td:TD}{gs:List (Nat×Nat×Bool×Nat)}{parts:Array (Nat×Operand)}(ht:Bt TL t=some td:=by exact rfl)(hk:td.kind = .struct gs:=by exact rfl)(h:gO gs td.zero (Tw ρ parts.toList)=some l:=by exact rfl):D1 Tryz.prog ⟨d,.build t parts,ty,pos,aft,gd⟩ ρ K (.agg l):=P_build tok ht hk h
theorem jY {s f' off z ft:Nat}{nm:Bool}{x:Operand}{cs:List AV}{td:TD}{gs:List (Nat×Nat×Bool×Nat)}{a:Int}{b:AV}{c:Int}{d1:Int}{e:Int}{f:Int}{g:Int}{h:List UInt8}(i:ρ x = .ptr cs:=by exact rfl)(ht:Bt TL s=some td:=by exact rfl)(hk:td.kind = .struct gs:=by exact rfl)(hf:gs[f']? = some (off,z,nm,ft):=by exact rfl)(hz:Nat.blt 0 z=true:=by exact rfl)(hc:cs.drop off = [.int .i64 a,b,.int .i64 c,.int .i64 d1,.int .i64 e,.int .i64 f,.int .i64 g,.str h]:=by exact rfl):D1 Tryz.prog ⟨d,.fieldAddr s x f',ty,pos,aft,gd⟩ ρ K (.ptr [.int .i64 a,b,.int .i64 c,.int .i64 d1,.int .i64 e,.int .i64 f,.int .i64 g,.str h]):=Do tok i ht hk hf hz hc
theorem Ws {t:TypeId}{td:TD}{x:Operand}{cs:List AV}{a:Int}{b:AV}{c:Int}{d1:Int}{e:Int}{f:Int}{g:Int}{h:List UInt8}(i:ρ x = .ptr cs:=by exact rfl)(ht:Bt TL t=some td:=by exact rfl)(ha:td.agg=true:=by exact rfl)(hl:cs.take td.size = [.int .i64 a,b,.int .i64 c,.int .i64 d1,.int .i64 e,.int .i64 f,.int .i64 g,.str h]:=by exact rfl)(hs:Nat.beq 8 td.size=true:=by exact rfl):D1 Tryz.prog ⟨d,.load t x,ty,pos,aft,gd⟩ ρ K (.agg [.int .i64 a,b,.int .i64 c,.int .i64 d1,.int .i64 e,.int .i64 f,.int .i64 g,.str h]):=Cs tok i ht ha hl hs
theorem Qbe {t:TypeId}{x:Operand}{l:List AV}{a:Int}{b:AV}{c:Int}{d1:Int}{e:Int}{f:Int}{g:Int}{h:List UInt8}(i:ρ x = .agg l:=by exact rfl)(hc:C1 (.agg l) = [.int .i64 a,b,.int .i64 c,.int .i64 d1,.int .i64 e,.int .i64 f,.int .i64 g,.str h]:=by exact rfl)(hs:Av [.int .i64 a,b,.int .i64 c,.int .i64 d1,.int .i64 e,.int .i64 f,.int .i64 g,.str h]=true:=by exact rfl):D1 Tryz.prog ⟨d,.box t x,ty,pos,aft,gd⟩ ρ K (.ptr [.int .i64 a,b,.int .i64 c,.int .i64 d1,.int .i64 e,.int .i64 f,.int .i64 g,.str h]):=Zx i hc hs
theorem Qf1 {s f' off z ft:Nat}{nm:Bool}{x:Operand}{cs:List AV}{td:TD}{gs:List (Nat×Nat×Bool×Nat)}{b:AV}{c:Int}{d1:Int}{e:Int}{f:Int}{g:Int}{h:List UInt8}(i:ρ x = .ptr cs:=by exact rfl)(ht:Bt TL s=some td:=by exact rfl)(hk:td.kind = .struct gs:=by exact rfl)(hf:gs[f']? = some (off,z,nm,ft):=by exact rfl)(hz:Nat.blt 0 z=true:=by exact rfl)(hc:cs.drop off = [b,.int .i64 c,.int .i64 d1,.int .i64 e,.int .i64 f,.int .i64 g,.str h]:=by exact rfl):D1 Tryz.prog ⟨d,.fieldAddr s x f',ty,pos,aft,gd⟩ ρ K (.ptr [b,.int .i64 c,.int .i64 d1,.int .i64 e,.int .i64 f,.int .i64 g,.str h]):=Do tok i ht hk hf hz hc
theorem Qf2 {s f' off z ft:Nat}{nm:Bool}{x:Operand}{cs:List AV}{td:TD}{gs:List (Nat×Nat×Bool×Nat)}{c:Int}{d1:Int}{e:Int}{f:Int}{g:Int}{h:List UInt8}(i:ρ x = .ptr cs:=by exact rfl)(ht:Bt TL s=some td:=by exact rfl)(hk:td.kind = .struct gs:=by exact rfl)(hf:gs[f']? = some (off,z,nm,ft):=by exact rfl)(hz:Nat.blt 0 z=true:=by exact rfl)(hc:cs.drop off = [.int .i64 c,.int .i64 d1,.int .i64 e,.int .i64 f,.int .i64 g,.str h]:=by exact rfl):D1 Tryz.prog ⟨d,.fieldAddr s x f',ty,pos,aft,gd⟩ ρ K (.ptr [.int .i64 c,.int .i64 d1,.int .i64 e,.int .i64 f,.int .i64 g,.str h]):=Do tok i ht hk hf hz hc
theorem Qf3 {s f' off z ft:Nat}{nm:Bool}{x:Operand}{cs:List AV}{td:TD}{gs:List (Nat×Nat×Bool×Nat)}{d1:Int}{e:Int}{f:Int}{g:Int}{h:List UInt8}(i:ρ x = .ptr cs:=by exact rfl)(ht:Bt TL s=some td:=by exact rfl)(hk:td.kind = .struct gs:=by exact rfl)(hf:gs[f']? = some (off,z,nm,ft):=by exact rfl)(hz:Nat.blt 0 z=true:=by exact rfl)(hc:cs.drop off = [.int .i64 d1,.int .i64 e,.int .i64 f,.int .i64 g,.str h]:=by exact rfl):D1 Tryz.prog ⟨d,.fieldAddr s x f',ty,pos,aft,gd⟩ ρ K (.ptr [.int .i64 d1,.int .i64 e,.int .i64 f,.int .i64 g,.str h]):=Do tok i ht hk hf hz hc
theorem Qf4 {s f' off z ft:Nat}{nm:Bool}{x:Operand}{cs:List AV}{td:TD}{gs:List (Nat×Nat×Bool×Nat)}{e:Int}{f:Int}{g:Int}{h:List UInt8}(i:ρ x = .ptr cs:=by exact rfl)(ht:Bt TL s=some td:=by exact rfl)(hk:td.kind = .struct gs:=by exact rfl)(hf:gs[f']? = some (off,z,nm,ft):=by exact rfl)(hz:Nat.blt 0 z=true:=by exact rfl)(hc:cs.drop off = [.int .i64 e,.int .i64 f,.int .i64 g,.str h]:=by exact rfl):D1 Tryz.prog ⟨d,.fieldAddr s x f',ty,pos,aft,gd⟩ ρ K (.ptr [.int .i64 e,.int .i64 f,.int .i64 g,.str h]):=Do tok i ht hk hf hz hc
theorem Qf5 {s f' off z ft:Nat}{nm:Bool}{x:Operand}{cs:List AV}{td:TD}{gs:List (Nat×Nat×Bool×Nat)}{f:Int}{g:Int}{h:List UInt8}(i:ρ x = .ptr cs:=by exact rfl)(ht:Bt TL s=some td:=by exact rfl)(hk:td.kind = .struct gs:=by exact rfl)(hf:gs[f']? = some (off,z,nm,ft):=by exact rfl)(hz:Nat.blt 0 z=true:=by exact rfl)(hc:cs.drop off = [.int .i64 f,.int .i64 g,.str h]:=by exact rfl):D1 Tryz.prog ⟨d,.fieldAddr s x f',ty,pos,aft,gd⟩ ρ K (.ptr [.int .i64 f,.int .i64 g,.str h]):=Do tok i ht hk hf hz hc
theorem Qf6 {s f' off z ft:Nat}{nm:Bool}{x:Operand}{cs:List AV}{td:TD}{gs:List (Nat×Nat×Bool×Nat)}{g:Int}{h:List UInt8}(i:ρ x = .ptr cs:=by exact rfl)(ht:Bt TL s=some td:=by exact rfl)(hk:td.kind = .struct gs:=by exact rfl)(hf:gs[f']? = some (off,z,nm,ft):=by exact rfl)(hz:Nat.blt 0 z=true:=by exact rfl)(hc:cs.drop off = [.int .i64 g,.str h]:=by exact rfl):D1 Tryz.prog ⟨d,.fieldAddr s x f',ty,pos,aft,gd⟩ ρ K (.ptr [.int .i64 g,.str h]):=Do tok i ht hk hf hz hc
theorem Qf7 {s f' off z ft:Nat}{nm:Bool}{x:Operand}{cs:List AV}{td:TD}{gs:List (Nat×Nat×Bool×Nat)}{h:List UInt8}(i:ρ x = .ptr cs:=by exact rfl)(ht:Bt TL s=some td:=by exact rfl)(hk:td.kind = .struct gs:=by exact rfl)(hf:gs[f']? = some (off,z,nm,ft):=by exact rfl)(hz:Nat.blt 0 z=true:=by exact rfl)(hc:cs.drop off = [.str h]:=by exact rfl):D1 Tryz.prog ⟨d,.fieldAddr s x f',ty,pos,aft,gd⟩ ρ K (.ptr [.str h]):=Do tok i ht hk hf hz hc
theorem Bv {x y:Operand}{t yt:TypeId}{k:IntKind}{n m:Int}(hx:ρ x = .int k n:=by exact rfl)(hy:ρ y = .int k m:=by exact rfl):D1 Tryz.prog ⟨d,.binOp .eql t x y yt,ty,pos,aft,gd⟩ ρ K (.bool (n==m)):=uZ hx hy
theorem Cq {x y:Operand}{t yt:TypeId}{k:IntKind}{n m:Int}(hx:ρ x = .int k n:=by exact rfl)(hy:ρ y = .int k m:=by exact rfl):D1 Tryz.prog ⟨d,.binOp .neq t x y yt,ty,pos,aft,gd⟩ ρ K (.bool (n != m)):=P_neq hx hy
theorem C5 {x y:Operand}{t yt:TypeId}{k:IntKind}{n m:Int}(hx:ρ x = .int k n:=by exact rfl)(hy:ρ y = .int k m:=by exact rfl):D1 Tryz.prog ⟨d,.binOp .lss t x y yt,ty,pos,aft,gd⟩ ρ K (.bool (decide (n<m))):=P_lss hx hy
theorem Jj {x y:Operand}{t yt:TypeId}{k:IntKind}{n m:Int}(hx:ρ x = .int k n:=by exact rfl)(hy:ρ y = .int k m:=by exact rfl):D1 Tryz.prog ⟨d,.binOp .gtr t x y yt,ty,pos,aft,gd⟩ ρ K (.bool (decide (m<n))):=P_gtr hx hy
theorem oE {x y:Operand}{t yt:TypeId}{k:IntKind}{n m:Int}(hx:ρ x = .int k n:=by exact rfl)(hy:ρ y = .int k m:=by exact rfl):D1 Tryz.prog ⟨d,.binOp .leq t x y yt,ty,pos,aft,gd⟩ ρ K (.bool (decide (n<=m))):=P_leq hx hy
theorem Lm {x y:Operand}{t yt:TypeId}{k:IntKind}{n m:Int}(hx:ρ x = .int k n:=by exact rfl)(hy:ρ y = .int k m:=by exact rfl):D1 Tryz.prog ⟨d,.binOp .geq t x y yt,ty,pos,aft,gd⟩ ρ K (.bool (decide (m<=n))):=P_geq hx hy
theorem Ii {x y:Operand}{t yt:TypeId}{n m r:Int}(hx:ρ x = .int .i64 n:=by exact rfl)(hy:ρ y = .int .i64 m:=by exact rfl)(hr:n+m=r:=by exact rfl)(hb : -9223372036854775808<=r/\r<=9223372036854775807:=by constructor <;> omega):D1 Tryz.prog ⟨d,.binOp .add t x y yt,ty,pos,aft,gd⟩ ρ K (.int .i64 r):=gL hx hy hr hb
theorem Ke {x:Operand}{t:TypeId}{b:Bool}(hx:ρ x = .bool b:=by exact rfl):D1 Tryz.prog ⟨d,.unOp .not t x,ty,pos,aft,gd⟩ ρ K (.bool (!b)):=P_not hx
theorem Mu {c a y:Operand}{b x:Bool}(hc:ρ c = .bool b:=by exact rfl)(ha:ρ a = .opt [(b,true)] (.bool x):=by exact rfl)(hy:ρ y = .bool false:=by exact rfl):D1 Tryz.prog ⟨d,.pick c a y,ty,pos,aft,gd⟩ ρ K (.bool (b&&x)):=Kk hc ha hy
theorem G4 {c a y:Operand}{b x:Bool}(hc:ρ c = .bool b:=by exact rfl)(ha:ρ a = .bool true:=by exact rfl)(hy:ρ y = .opt [(b,false)] (.bool x):=by exact rfl):D1 Tryz.prog ⟨d,.pick c a y,ty,pos,aft,gd⟩ ρ K (.bool (b||x)):=P_pick_or hc ha hy
theorem Qc {f:FuncId}{args:Array Operand}{ats:Array TypeId}{l:List AV}{r:AV}(ha:args.toList.map ρ=l)(hc:Au Tryz.prog f l r)(hf:Y0 Tryz.prog f=true:=by kernel_rfl)(hcal:ρ (.func f) = .fn (.func f) [] []:=by exact rfl):D1 Tryz.prog ⟨d,.call ⟨.value (.func f),args,ats⟩,ty,pos,aft,gd⟩ ρ K r:=I1 hf hcal ha hc
end
section
variable {ops:Array Oper} {K:St->Prop} {s:St} {d:Option Nat} {op:Op} {t:TypeId} {pos:String} {after:Array Edge} {r:List Oper} {x y:AV} {o:Oper} {G:List (Bool×Bool)} {b:Bool} {c1 c2:Code} {Q Q':Exit->St->Prop} {N:St->Prop} {id:Nat}
theorem Qp (h:D1 Tryz.prog ⟨d,op,t,pos,after,none⟩ (Gi s.sl) (fun _=>True) x)(k:AOL Tryz.prog ops K r ⟨Fe d x s.sl,s.H,s.n⟩)(hd:O9 d s.n=true:=by exact rfl):AOL Tryz.prog ops K (⟨d,op,t,pos,after,none⟩::r) s:=AOL.p h hd k
theorem B4 (k:Nat)(cs':List AV)(H2:List HO){b o:Nat}{td:TD}{TT t':TypeId}{cs:List AV}{v:AV}{x1 y1:Operand}(kk:AOL Tryz.prog ops K r ⟨Fe d .junk s.sl,H2,s.n⟩)(h:Gi s.sl x1 = .val (.pointer (some ⟨b,o,none⟩)):=by exact rfl)(hv:Gi s.sl y1=v:=by exact rfl)(ht:Bt TL t'=some td:=by exact rfl)(hk:s.H[k]? = some (.box b TT cs):=by exact rfl)(hs:Av (C1 v)=true:=by exact rfl)(hl:Nat.beq (C1 v).length td.size=true:=by exact rfl)(hb:Nat.ble (o+td.size) cs.length=true:=by exact rfl)(hc:Kt cs o (C1 v)=cs':=by exact rfl)(hH2:s.H.set k (.box b TT cs')=H2:=by exact rfl)(hd:O9 d s.n=true:=by exact rfl):AOL Tryz.prog ops K (⟨d,.store t' x1 y1,t,pos,after,none⟩::r) s:=AOL.e (I0 (k:=k) tok h hv ht hk hs hl hb hc hH2) hd fun x' H' e=>by obtain ⟨e1,e2⟩:=e;subst e1;subst e2;exact kk
abbrev Iq (n:Int):AV:=.int .i64 n
theorem iN {α:Type}{b:Bool}[Decidable (b=true)]{x y:α}(h:b=false):(if b=true then x else y)=y:=if_neg (zqal52.mp h)
theorem Qe {R:AV->List HO->Prop}(h:Od Tryz.prog ⟨d,op,t,pos,after,none⟩ (Gi s.sl) s.H R)(k:∀x H',R x H'->AOL Tryz.prog ops K r ⟨Fe d x s.sl,H',s.n⟩)(hd:O9 d s.n=true:=by exact rfl):AOL Tryz.prog ops K (⟨d,op,t,pos,after,none⟩::r) s:=AOL.e h hd k
theorem Qw {sl:List (Nat×AV)}{L:List (Nat×AV)}(hw:H7 ops o sl=some G:=by exact rfl)(hL:jS G sl L:=by first | exact trivial | exact ⟨Ent.Aas _ _,trivial⟩ | exact ⟨Ent.Aas _ _,Ent.suf _ _ _,trivial⟩):H7 ops o sl=some G/\jS G sl L:=⟨hw,hL⟩
theorem Qg (L:List (Nat×AV))(w:H7 ops o s.sl=some G/\jS G s.sl L)(h:D1 Tryz.prog o (Gi (L++s.sl)) (fun _=>True) y)(k:AOL Tryz.prog ops K r ⟨Fe o.dst (.opt G y) s.sl,s.H,s.n⟩)(hd:O9 o.dst s.n=true:=by exact rfl):AOL Tryz.prog ops K (o::r) s:=AOL.g G L w.1 (jS.all w.2) (fun _=>h) hd k
theorem Ab (h:AOL Tryz.prog ops (G7 (AW Tryz.prog c2 Q) Q .normal) ops.toList s):AW Tryz.prog (.seq (.region id ops false) c2) Q s:=AW.seq (AW.region h)
theorem A7 (h:N s):AOL Tryz.prog ops (G7 N Q .normal) [] s:=AOL.nil (Ap h)
theorem Cf {ops':Array Oper}(h:AOL Tryz.prog ops' (G7 (AW Tryz.prog c2 Q) Q .normal) ops'.toList s):AOL Tryz.prog ops (G7 (AW Tryz.prog (.seq (.region id ops' false) c2) Q) Q' .normal) [] s:=AOL.nil (Ap (AW.seq (AW.region h)))
theorem Hs {c:Operand}{x y:Code}(ht:b=true->AW Tryz.prog x Q s)(hf:b=false->AW Tryz.prog y Q s)(hb:Gi s.sl c = .bool b:=by exact rfl):AW Tryz.prog (.cond c x y) Q s:=AW.cond hb ht hf
theorem B8 (h:N s):AW Tryz.prog .skip (G7 N Q) s:=AW.skip (Ap h)
theorem oN (h:Q .ret s):AW Tryz.prog .ret (G7 N Q) s:=AW.ret (Bc h)
theorem Qr {H:List HO}{l:List ResultVar}{r:AV}(x:AV)(h:Af [x]=r)(hr:ResL Tryz.prog TL s l [x]:=by exact .cons (.tmp _ _ rfl) .nil)(hs:H.Sublist s.H:=by exact .refl _):(Exit.ret = .normal\/Exit.ret = .ret)/\∃xs,ResL Tryz.prog TL s l xs/\H.Sublist s.H/\Af xs=r:=⟨.inr rfl,[x],hr,hs,h⟩
theorem Py {H:List HO}{l:List ResultVar}{r:AV}(x y:AV)(h:Af [x,y]=r)(hr:ResL Tryz.prog TL s l [x,y]:=by exact .cons (.tmp _ _ rfl) (.cons (.tmp _ _ rfl) .nil))(hs:H.Sublist s.H:=by exact .refl _):(Exit.ret = .normal\/Exit.ret = .ret)/\∃xs,ResL Tryz.prog TL s l xs/\H.Sublist s.H/\Af xs=r:=⟨.inr rfl,[x,y],hr,hs,h⟩
end
section
variable {ops:Array Oper} {K:List HO->Prop} {Q:St->Prop} {s:St} {o:Oper} {x y:AV} {G:List (Bool×Bool)} {listed:Array Bool}
theorem Qn (i:Nat)(ho:ops[i]? = some o)(h:D1 Tryz.prog o (Gi s.sl) K x)(k:H9 Tryz.prog ops K Q (listed.setIfInBounds i true) ⟨Fe o.dst x s.sl,s.H,s.n⟩)(hr:(Region.ready .any ops listed).contains i=true:=by kernel_rfl)(hf:Region.free .any ops listed i=true:=by kernel_rfl)(hd:O9 o.dst s.n=true:=by exact rfl)(hg:o.guard=none:=by exact rfl):H9 Tryz.prog ops K Q listed s:=H9.pure listed s i o x ho hr hf hd (.run hg h) k
theorem Qo (i:Nat)(ho:ops[i]? = some o)(L:List (Nat×AV))(w:H7 ops o s.sl=some G/\jS G s.sl L)(h:D1 Tryz.prog o (Gi (L++s.sl)) K y)(k:H9 Tryz.prog ops K Q (listed.setIfInBounds i true) ⟨Fe o.dst (.opt G y) s.sl,s.H,s.n⟩)(hr:(Region.ready .any ops listed).contains i=true:=by kernel_rfl)(hf:Region.free .any ops listed i=true:=by kernel_rfl)(hd:O9 o.dst s.n=true:=by exact rfl):H9 Tryz.prog ops K Q listed s:=H9.pure listed s i o _ ho hr hf hd (.opt G y L w.1 (jS.all w.2) (fun _=>h) rfl) k
end
abbrev Aj {x0:Int}{x1 x2:List UInt8}{x3:Int}{x4:AV}{x5:Int}:List AV:=[Iq x0,.str x1,.str x2,Iq x3,x4,Iq x5]
abbrev Hp {x0:Int}{x1:AV}{x2 x3 x4 x5 x6:Int}{x7:AV}{x8 x9 x10 x11 x12:Int}{x13:List UInt8}:List AV:=[Iq x0,x1,Iq x2,Iq x3,Iq x4,Iq x5,Iq x6,x7,Iq x8,Iq x9,Iq x10,Iq x11,Iq x12,.str x13]
abbrev Jb {x0 x1:Int}:List AV:=[Iq x0,Iq x1]
abbrev J6 {x0:List UInt8}{x1:Int}:List AV:=[.str x0,Iq x1]
abbrev Kb :List AV:=[.int .i64 0,.str [],.str [],.int .i64 0,.sl 6 [],.int .i64 0]
abbrev Nd {x0:Int}{x1:AV}{x2 x3 x4 x5 x6:Int}{x7:List UInt8}:List AV:=[Iq x0,x1,Iq x2,Iq x3,Iq x4,Iq x5,Iq x6,.str x7]
abbrev gcx {x0 x1:AV}:List AV:=[x0,x1]
abbrev Oj {x0:Int}{x1:List UInt8}{x2 x3 x4 x5:Int}:List AV:=[Iq x0,.str x1,Iq x2,Iq x3,Iq x4,Iq x5]
abbrev O8 {x0:List UInt8}{x1 x2:AV}{x3:Int}{x4:AV}{x5 x6 x7 x8 x9:Int}{x10:AV}{x11 x12 x13 x14 x15:Int}{x16:List UInt8}{x17:AV}:List AV:=[.str x0,x1,x2,Iq x3,x4,Iq x5,Iq x6,Iq x7,Iq x8,Iq x9,x10,Iq x11,Iq x12,Iq x13,Iq x14,Iq x15,.str x16,x17]
abbrev Pn {x0:List UInt8}{x1:AV}:List AV:=[.str x0,x1]
abbrev Po {x0:AV}{x1:Int}:List AV:=[x0,Iq x1]
abbrev Zr {x0 x1:List UInt8}{x2:Int}{x3:AV}{x4:Int}:List AV:=[.str x0,.str x1,Iq x2,x3,Iq x4]
abbrev Z0 {x0 x1:Int}{x2:List UInt8}:List AV:=[Iq x0,Iq x1,.str x2]
abbrev bK {x0:Int}{x1:AV}{x2:Int}:List AV:=[Iq x0,x1,Iq x2]
abbrev oF :List AV:=[.int .i64 0,.int .i64 0]
abbrev sR {x0:List UInt8}{x1:Int}{x2:AV}{x3:Int}:List AV:=[.str x0,Iq x1,x2,Iq x3]
abbrev wP {x0:Int}{x1:List UInt8}{x2:Int}:List AV:=[Iq x0,.str x1,Iq x2]
abbrev wQ {x0:List UInt8}{x1:Int}{x2:AV}:List AV:=[.str x0,Iq x1,x2]
abbrev ggx {x0:AV}{x1 x2 x3 x4 x5:Int}{x6:AV}{x7 x8 x9 x10 x11:Int}{x12:List UInt8}:List AV:=[x0,Iq x1,Iq x2,Iq x3,Iq x4,Iq x5,x6,Iq x7,Iq x8,Iq x9,Iq x10,Iq x11,.str x12]
abbrev ggy {x0 x1:AV}{x2:Int}{x3:AV}{x4 x5 x6 x7 x8:Int}{x9:AV}{x10 x11 x12 x13 x14:Int}{x15:List UInt8}{x16:AV}:List AV:=[x0,x1,Iq x2,x3,Iq x4,Iq x5,Iq x6,Iq x7,Iq x8,x9,Iq x10,Iq x11,Iq x12,Iq x13,Iq x14,.str x15,x16]
abbrev ggz :List AV:=[.int .i64 0,.sl 14 [],.int .i64 0,.int .i64 0,.int .i64 0,.int .i64 0,.int .i64 0,.sl 8 [],.int .i64 0,.int .i64 0,.int .i64 0,.int .i64 0,.int .i64 0,.str []]
abbrev ghx :List AV:=[.int .i64 0,.sl 8 [],.int .i64 0,.int .i64 0,.int .i64 0,.int .i64 0,.int .i64 0,.str []]
abbrev ghy :List AV:=[.int .i64 0,.str [],.int .i64 0,.int .i64 0,.int .i64 0,.int .i64 0]
abbrev ghz {x0:AV}{x1 x2 x3 x4 x5:Int}:List AV:=[x0,Iq x1,Iq x2,Iq x3,Iq x4,Iq x5]
abbrev gix {x0 x1 x2 x3:Int}{x4:AV}{x5 x6 x7 x8 x9:Int}{x10:List UInt8}:List AV:=[Iq x0,Iq x1,Iq x2,Iq x3,x4,Iq x5,Iq x6,Iq x7,Iq x8,Iq x9,.str x10]
abbrev giy {x0 x1 x2 x3:Bool}:List AV:=[.bool x0,.bool x1,.bool x2,.bool x3]
abbrev giz {x0 x1 x2 x3 x4:Int}{x5:AV}{x6 x7 x8 x9 x10:Int}{x11:List UInt8}:List AV:=[Iq x0,Iq x1,Iq x2,Iq x3,Iq x4,x5,Iq x6,Iq x7,Iq x8,Iq x9,Iq x10,.str x11]
abbrev gjx {x0 x1 x2:Int}{x3:AV}{x4 x5 x6 x7 x8:Int}{x9:List UInt8}:List AV:=[Iq x0,Iq x1,Iq x2,x3,Iq x4,Iq x5,Iq x6,Iq x7,Iq x8,.str x9]
abbrev gjy :List AV:=[.str [],.int .i64 0]
abbrev gjz {x0:AV}{x1:Int}{x2:AV}{x3 x4 x5 x6 x7:Int}{x8:AV}{x9 x10 x11 x12 x13:Int}{x14:List UInt8}{x15:AV}:List AV:=[x0,Iq x1,x2,Iq x3,Iq x4,Iq x5,Iq x6,Iq x7,x8,Iq x9,Iq x10,Iq x11,Iq x12,Iq x13,.str x14,x15]
abbrev gkx {x0 x1:Int}{x2:AV}{x3 x4 x5 x6 x7:Int}{x8:List UInt8}:List AV:=[Iq x0,Iq x1,x2,Iq x3,Iq x4,Iq x5,Iq x6,Iq x7,.str x8]
abbrev gky :List AV:=[.str [],.sl 2 [],.sl 1 [],.int .i64 0,.sl 14 [],.int .i64 0,.int .i64 0,.int .i64 0,.int .i64 0,.int .i64 0,.sl 8 [],.int .i64 0,.int .i64 0,.int .i64 0,.int .i64 0,.int .i64 0,.str [],.sl 8 []]
abbrev gkz {x0:Int}{x1:AV}{x2 x3 x4 x5 x6:Int}{x7:AV}{x8 x9 x10 x11 x12:Int}{x13:List UInt8}{x14:AV}:List AV:=[Iq x0,x1,Iq x2,Iq x3,Iq x4,Iq x5,Iq x6,x7,Iq x8,Iq x9,Iq x10,Iq x11,Iq x12,.str x13,x14]
abbrev glx {x0 x1:Int}{x2 x3 x4 x5:Bool}:List AV:=[Iq x0,Iq x1,.bool x2,.bool x3,.bool x4,.bool x5]
section
variable {ops ops2:Array Oper} {K:St->Prop} {s:St} {d:Option Nat} {op:Op} {t:TypeId} {pos:String} {after:Array Edge} {r:List Oper} {x y:AV} {o:Oper} {c1 c2 c3:Code} {Q Q1 Q2:Exit->St->Prop} {N N1:St->Prop} {id id2:Nat}
theorem Ra (h:Q .ret s):AOL Tryz.prog ops (G7 (AW Tryz.prog .ret (Mw id (G7 N Q))) Q1 .normal) [] s:=A7 (AW.ret (Ep (Bc h)))
theorem Rf (h:N s):AW Tryz.prog .skip (Mw id (G7 N Q)) s:=AW.skip (Km (Ap h))
theorem Ri (h:N s):G7 N1 (Mw id (G7 N Q)) (.exit id) s:=B9 (W0 (Ap h))
theorem Rj {Q1:Exit->St->Prop}(h:Q1 .ret s):Mw id (G7 N (G7 N1 (Mw id2 Q1))) .ret s:=Ep (Bc (Bc (Ep h)))
theorem Rk (h:N s):AOL Tryz.prog ops (Mw id (G7 N Q) .normal) [] s:=AOL.nil (Km (Ap h))
theorem Rc (h:Q .ret s):AOL Tryz.prog ops (G7 (AW Tryz.prog .ret (G7 N Q)) Q1 .normal) [] s:=A7 (oN h)
theorem Rb (h:Q .ret s):AOL Tryz.prog ops (G7 (AW Tryz.prog .ret Q) Q1 .normal) [] s:=A7 (AW.ret h)
theorem Cj (h:AOL Tryz.prog ops (G7 (AW Tryz.prog c2 (G7 (AW Tryz.prog c3 Q) Q)) (G7 (AW Tryz.prog c3 Q) Q) .normal) ops.toList s):AW Tryz.prog (.seq (.seq (.region id ops false) c2) c3) Q s:=AW.seq (Ab h)
theorem Re (h:AW Tryz.prog c1 (G7 (AW Tryz.prog c2 Q) Q) s):AOL Tryz.prog ops (G7 (AW Tryz.prog (.seq c1 c2) Q) Q1 .normal) [] s:=A7 (AW.seq h)
theorem Rcl {f:FuncId}{args:Array Operand}{ats:Array TypeId}{l:List AV}{v:AV}{H2:List HO}(hc:Cc Tryz.prog f s.H l fun r' H'=>r'=v/\H'=H2)(k:AOL Tryz.prog ops K r ⟨Fe d v s.sl,H2,s.n⟩)(hf:Y0 Tryz.prog f=true:=by kernel_rfl)(hcal:Gi s.sl (.func f) = .fn (.func f) [] []:=by exact rfl)(ha:args.toList.map (Gi s.sl)=l:=by exact rfl)(hd:O9 d s.n=true:=by exact rfl):AOL Tryz.prog ops K (⟨d,.call ⟨.value (.func f),args,ats⟩,t,pos,after,none⟩::r) s:=Qe (rG hf hcal ha hc) (fun _ _ ⟨h1,h2⟩=>by subst h1;subst h2;exact k) hd
theorem Rt {v:AV}{H2:List HO}(h:Od Tryz.prog ⟨d,op,t,pos,after,none⟩ (Gi s.sl) s.H fun r' H'=>r'=v/\H'=H2)(k:AOL Tryz.prog ops K r ⟨Fe d v s.sl,H2,s.n⟩)(hd:O9 d s.n=true:=by exact rfl):AOL Tryz.prog ops K (⟨d,op,t,pos,after,none⟩::r) s:=Qe h (fun _ _ ⟨h1,h2⟩=>by subst h1;subst h2;exact k) hd
theorem E8 {T:TypeId}(l:List AV)(k:∀b,AOL Tryz.prog ops K r ⟨Fe d (.val (.pointer (some ⟨b,0,none⟩))) s.sl,.box b T l::s.H,s.n⟩)(hz:zOK Tryz.prog T l=true:=by kernel_rfl)(hd:O9 d s.n=true:=by exact rfl):AOL Tryz.prog ops K (⟨d,.alloc T,t,pos,after,none⟩::r) s:=Qe (G5 hz) (fun _ _ ⟨b,h1,h2⟩=>by subst h1;subst h2;exact k b) hd
end
section
variable {ops:Array Oper} {s:St} {d:Option Nat} {t:TypeId} {pos:String} {aft:Array Edge} {gd:Option (Nat×Bool)} {ρ:Operand->AV}
theorem D2 {f:FuncId}{args:Array Operand}{ats:Array TypeId}{l:List AV}{G:List HO}{R:AV->List HO->Prop}(ha:args.toList.map ρ=l)(hc:Cc Tryz.prog f G l R)(hf:Y0 Tryz.prog f=true:=by kernel_rfl)(hcal:ρ (.func f) = .fn (.func f) [] []:=by exact rfl):Od Tryz.prog ⟨d,.call ⟨.value (.func f),args,ats⟩,t,pos,aft,gd⟩ ρ G R:=rG hf hcal ha hc
theorem Oe {id:Nat}{Q:Exit->St->Prop}(h:H9 Tryz.prog ops (fun _=>True) (Q .normal) (Array.replicate ops.size false) s)(hdd:F8 ops=true:=by kernel_rfl):AW Tryz.prog (.region id ops true) Q s:=AW.draw mixed (fun _=>True) trivial hdd h
theorem Jr {K:List HO->Prop}{Q:St->Prop}{listed:Array Bool}(h:Q s)(hr:Region.ready .any ops listed = []:=by kernel_rfl):H9 Tryz.prog ops K Q listed s:=H9.done listed s hr h
theorem Sef {Q:St->Prop}{listed:Array Bool}{o:Oper}{R:AV->List HO->Prop}(i:Nat)(ho:ops[i]? = some o)(hp:Od Tryz.prog o (Gi s.sl) s.H R)(h:∀x H',R x H'->H9 Tryz.prog ops (fun _=>True) Q (listed.setIfInBounds i true) ⟨Fe o.dst x s.sl,H',s.n⟩)(hr:Region.ready .any ops listed = [i]:=by kernel_rfl)(hd:O9 o.dst s.n=true:=by exact rfl)(hw:o.guard=none:=by exact rfl):H9 Tryz.prog ops (fun _=>True) Q listed s:=H9.eff listed s i o R ho hr hd hw hp (fun _ _ _=>trivial) h
theorem Qz {Q:St->Prop}{listed:Array Bool}{o:Oper}{v:AV}{G:List HO}(i:Nat)(ho:ops[i]? = some o)(hp:Od Tryz.prog o (Gi s.sl) s.H fun x H'=>x=v/\H'=G)(h:H9 Tryz.prog ops (fun _=>True) Q (listed.setIfInBounds i true) ⟨Fe o.dst v s.sl,G,s.n⟩)(hr:Region.ready .any ops listed = [i]:=by kernel_rfl)(hd:O9 o.dst s.n=true:=by exact rfl)(hw:o.guard=none:=by exact rfl):H9 Tryz.prog ops (fun _=>True) Q listed s:=Sef i ho hp (fun _ _ ⟨h1,h2⟩=>by subst h1;subst h2;exact h) hr hd hw
theorem Dp {sl sl':List (Nat×AV)}{G G':List HO}{n:Nat}(h:Wk sl sl':=by (repeat refine ⟨rfl,?_⟩);exact trivial)(hs:G'.Sublist G:=by exact .refl _):GS ⟨sl,G,n⟩ ⟨sl',G',n⟩:=GS.weaken h hs
end
section
variable {ops:Array Oper} {K:St->Prop} {s:St} {d:Option Nat} {op:Op} {t:TypeId} {pos:String} {after:Array Edge} {r:List Oper} {x y:AV} {o:Oper} {G:List (Bool×Bool)} {c1 c2 c3:Code} {Q Q1:Exit->St->Prop} {N:St->Prop} {id:Nat} {b ob:Nat} {td te:TD} {TT t1 e z m:Nat} {xo yo:Operand} {cs:List AV} {c:Operand} {bb:Bool}
theorem Yw {sl:List (Nat×AV)}{L:List (Nat×AV)}(hw:H7 ops o sl=some G:=by exact rfl)(hL:jS G sl L:=by exact ⟨Ent.Aas _ _,Ent.Aas _ _,trivial⟩):H7 ops o sl=some G/\jS G sl L:=⟨hw,hL⟩
theorem Es {G:List (Bool×Bool)}{v:AV}:Ent G (.opt G v) v:=Ent.Aas _ _
theorem Yv {sl:List (Nat×AV)}{i j:Nat}{v w:AV}(hw:H7 ops o sl=some G)(h:Ent G (get sl i) v)(k:Ent G (get sl j) w):H7 ops o sl=some G/\jS G sl [(i,v),(j,w)]:=⟨hw,h,k,trivial⟩
theorem Yh (L:List (Nat×AV))(w:H7 ops o s.sl=some G/\jS G s.sl L)(h:Ow G->D1 Tryz.prog o (Gi (L++s.sl)) (fun _=>True) y)(k:AOL Tryz.prog ops K r ⟨Fe o.dst (.opt G y) s.sl,s.H,s.n⟩)(hd:O9 o.dst s.n=true:=by exact rfl):AOL Tryz.prog ops K (o::r) s:=AOL.g G L w.1 (jS.all w.2) h hd k
theorem Ye {α:Type}{a b:α}{c:AV}(f:α->AV)(h:a=b)(hc:c=f b:=by exact rfl):c=f a:=hc.trans (congrArg f h).symm
theorem T6 {h:HO}(i:Nat)(hi:s.H[i]? = some h)(k:H9 Tryz.prog ops (fun H'=>h∈H') (Q .normal) (Array.replicate ops.size false) s)(hdd:F8 ops=true:=by kernel_rfl):AW Tryz.prog (.region id ops true) Q s:=AW.draw mixed (fun H'=>h∈H') (Ak hi) hdd k
theorem Yx {H:List HO}{l:List ResultVar}{q:AV}(xs:List AV)(hr:ResL Tryz.prog TL s l xs)(hs:H.Sublist s.H)(h:Af xs=q):(Exit.ret = .normal\/Exit.ret = .ret)/\∃xs,ResL Tryz.prog TL s l xs/\H.Sublist s.H/\Af xs=q:=⟨.inr rfl,xs,hr,hs,h⟩
theorem Yt {i:Nat}(h:get s.sl i=x:=by exact rfl):Res Tryz.prog TL s (.tmp i) x:=.tmp _ _ h
theorem Yb {a:Nat}{l:List AV}(k:Nat)(h:(get s.sl a,s.H[k]?,Bt TL t,td.agg,cs.take td.size,Nat.beq l.length td.size)=(.val (.pointer (some ⟨b,0,none⟩)),some (.box b TT cs),some td,true,l,true):=by exact rfl):Res Tryz.prog TL s (.cell a t) (.agg l):=by simp only [Prod.mk.injEq] at h;obtain ⟨q0,q1,q2,q3,q4,q5⟩:=h;exact .box _ _ _ k _ _ _ _ q0 q1 q2 q3 q4 q5
theorem Zb {a:Nat}{l:List AV}(k:Nat)(h:(get s.sl a,s.H[k]?,Bt TL t,td.agg,cs.take td.size,Nat.beq l.length td.size)=(.val (.pointer (some ⟨b,0,none⟩)),some (.box b TT cs),some td,true,l,true):=by exact rfl):ResL Tryz.prog TL s [.cell a t] [.agg l]:=.cons (Yb k h) .nil
theorem Zc {a:Nat}{l:List AV}(k:Nat)(h:(get s.sl a,s.H[k]?,Bt TL t,td.agg,cs.take td.size,Nat.beq l.length td.size)=(.val (.pointer (some ⟨b,0,none⟩)),some (.box b TT cs),some td,true,l,true):=by exact rfl){i:Nat}(hx:get s.sl i=x:=by exact rfl):ResL Tryz.prog TL s [.cell a t,.tmp i] [.agg l,x]:=.cons (Yb k h) (.cons (Yt hx) .nil)
theorem Zd {a:Nat}{l:List AV}(k:Nat)(h:(get s.sl a,s.H[k]?,Bt TL t,td.agg,cs.take td.size,Nat.beq l.length td.size)=(.val (.pointer (some ⟨b,0,none⟩)),some (.box b TT cs),some td,true,l,true):=by exact rfl){i j:Nat}(hx:get s.sl i=x:=by exact rfl)(hy:get s.sl j=y:=by exact rfl):ResL Tryz.prog TL s [.cell a t,.tmp i,.tmp j] [.agg l,x,y]:=.cons (Yb k h) (.cons (Yt hx) (.cons (Yt hy) .nil))
theorem Ze {i:Nat}(h:get s.sl i=x:=by exact rfl):ResL Tryz.prog TL s [.tmp i] [x]:=.cons (Yt h) .nil
theorem Zf {i j:Nat}(h:get s.sl i=x:=by exact rfl)(hy:get s.sl j=y:=by exact rfl):ResL Tryz.prog TL s [.tmp i,.tmp j] [x,y]:=.cons (Yt h) (Ze hy)
theorem Zg {z:AV}{i j k:Nat}(h:get s.sl i=x:=by exact rfl)(hy:get s.sl j=y:=by exact rfl)(hz:get s.sl k=z:=by exact rfl):ResL Tryz.prog TL s [.tmp i,.tmp j,.tmp k] [x,y,z]:=.cons (Yt h) (Zf hy hz)
theorem S0 {l:List HO}:l.Sublist (l):=.refl _
theorem S1 {l:List HO}{a:HO}:l.Sublist (a::l):=.cons _ (.refl _)
theorem S2 {l:List HO}{a b:HO}:l.Sublist (a::b::l):=.cons _ (.cons _ (.refl _))
theorem S3 {l:List HO}{a b c:HO}:l.Sublist (a::b::c::l):=.cons _ (.cons _ (.cons _ (.refl _)))
theorem S4 {l:List HO}{a b c d:HO}:l.Sublist (a::b::c::d::l):=.cons _ (.cons _ (.cons _ (.cons _ (.refl _))))
theorem S5 {l:List HO}{a b c d e:HO}:l.Sublist (a::b::c::d::e::l):=.cons _ (.cons _ (.cons _ (.cons _ (.cons _ (.refl _)))))
theorem S6 {l:List HO}{a b c d e f:HO}:l.Sublist (a::b::c::d::e::f::l):=.cons _ (.cons _ (.cons _ (.cons _ (.cons _ (.cons _ (.refl _))))))
theorem S7 {l:List HO}{a b c d e f g:HO}:l.Sublist (a::b::c::d::e::f::g::l):=.cons _ (.cons _ (.cons _ (.cons _ (.cons _ (.cons _ (.cons _ (.refl _)))))))
theorem G3 {f:FuncId}{fn:Func}{cc:Code}{args:List AV}{q:AV}(n:Nat)(hf:Tryz.prog.funcs[f]? = some fn)(hb:(fn.body,fn.ntmps,Nat.ble args.length n)=(some cc,n,true))(h:∀H,AW Tryz.prog cc (fun e s=>(e = .normal\/e = .ret)/\∃xs,ResL Tryz.prog TL s fn.results.toList xs/\H.Sublist s.H/\Af xs=q) ⟨Ju 0 args,H,n⟩):Au Tryz.prog f args q:=Au.body tok hf (congrArg (·.1) hb) (congrArg (·.2.1) hb) (congrArg (·.2.2) hb) h
theorem Jz {f:FuncId}{fn:Func}{cc:Code}{args:List AV}{H:List HO}{q:AV->List HO->Prop}(n:Nat)(hf:Tryz.prog.funcs[f]? = some fn)(hb:(fn.body,fn.ntmps,Nat.ble args.length n)=(some cc,n,true))(h:AW Tryz.prog cc (fun e s=>(e = .normal\/e = .ret)/\∃xs,ResL Tryz.prog TL s fn.results.toList xs/\∃H',H'.Sublist s.H/\q (Af xs) H') ⟨Ju 0 args,H,n⟩):Cc Tryz.prog f H args q:=Cc.body tok hf (congrArg (·.1) hb) (congrArg (·.2.1) hb) (congrArg (·.2.2) hb) h
theorem Br {u v:Code}(ht:bb=true->AW Tryz.prog u Q s)(hf:bb=false->AW Tryz.prog v Q s)(hb:Gi s.sl c = .bool bb:=by exact rfl):AOL Tryz.prog ops (G7 (AW Tryz.prog (.cond c u v) Q) Q1 .normal) [] s:=A7 (Hs ht hf hb)
theorem Tn (k:Nat)(l:List AV)(h:(s.H[k]?,Gi s.sl xo,Bt TL t1,td.agg,(cs.drop ob).take td.size,Nat.beq l.length td.size,O9 d s.n)=(some (.box b TT cs),.val (.pointer (some ⟨b,ob,none⟩)),some td,true,l,true,true))(kk:AOL Tryz.prog ops K r ⟨Fe d (.agg l) s.sl,s.H,s.n⟩):AOL Tryz.prog ops K (⟨d,.load t1 xo,t,pos,after,none⟩::r) s:=by simp only [Prod.mk.injEq] at h;obtain ⟨q0,q1,q2,q3,q4,q5,q6⟩:=h;exact AOL.Aaq (Mt (k:=k) tok q1 q2 q3 q4 q5) q0 q6 kk
theorem Ua (k:Nat)(x:AV)(h:(s.H[k]?,Gi s.sl xo,Bt TL t1,td.agg,cs[ob]?,O9 d s.n)=(some (.box b TT cs),.val (.pointer (some ⟨b,ob,none⟩)),some td,false,some x,true))(kk:AOL Tryz.prog ops K r ⟨Fe d x s.sl,s.H,s.n⟩):AOL Tryz.prog ops K (⟨d,.load t1 xo,t,pos,after,none⟩::r) s:=by simp only [Prod.mk.injEq] at h;obtain ⟨q0,q1,q2,q3,q4,q5⟩:=h;exact AOL.Aaq (Fb (k:=k) tok q1 q2 q3 q4) q0 q5 kk
theorem Me {sl:List (Nat×AV)}{H:List HO}{n:Nat}{l:List Oper}(t k:Nat)(h:(get sl t,H[k]?)=(.val (.pointer (some ⟨b,0,none⟩)),some (.box b TT cs)))(kk:AOL Tryz.prog ops K l ⟨(t,.ptr cs)::sl,H.eraseIdx k,n⟩):AOL Tryz.prog ops K l ⟨sl,H,n⟩:=AOL.ghost (GS.freeze k (congrArg (·.1) h) (congrArg (·.2) h)) kk
end
section
variable {ops:Array Oper} {K:List HO->Prop} {Q:St->Prop} {s:St} {o:Oper} {x y:AV} {G:List (Bool×Bool)} {listed:Array Bool}
theorem Yo (i:Nat)(ho:ops[i]? = some o)(L:List (Nat×AV))(w:H7 ops o s.sl=some G/\jS G s.sl L)(h:Ow G->D1 Tryz.prog o (Gi (L++s.sl)) K y)(k:H9 Tryz.prog ops K Q (listed.setIfInBounds i true) ⟨Fe o.dst (.opt G y) s.sl,s.H,s.n⟩)(hr:(Region.ready .any ops listed).contains i=true:=by kernel_rfl)(hf:Region.free .any ops listed i=true:=by kernel_rfl)(hd:O9 o.dst s.n=true:=by exact rfl):H9 Tryz.prog ops K Q listed s:=H9.pure listed s i o _ ho hr hf hd (.opt G y L w.1 (jS.all w.2) h rfl) k
theorem aB {R:AV->List HO->Prop}(i:Nat)(ho:ops[i]? = some o)(hp:Od Tryz.prog o (Gi s.sl) s.H R)(hK:∀x H',R x H'->K H')(h:∀x H',R x H'->H9 Tryz.prog ops K Q (listed.setIfInBounds i true) ⟨Fe o.dst x s.sl,H',s.n⟩)(hr:Region.ready .any ops listed = [i]:=by kernel_rfl)(hd:O9 o.dst s.n=true:=by exact rfl)(hw:o.guard=none:=by exact rfl):H9 Tryz.prog ops K Q listed s:=H9.eff listed s i o R ho hr hd hw hp hK h
theorem iR {R:AV->List HO->Prop}(i:Nat)(ho:ops[i]? = some o)(hp:Od Tryz.prog o (Gi s.sl) s.H R)(h:∀x H',R x H'->Q ⟨Fe o.dst x s.sl,H',s.n⟩)(hl:lastB ops listed o i=true:=by kernel_rfl)(hr:Region.ready .any ops listed = [i]:=by kernel_rfl)(hd:O9 o.dst s.n=true:=by exact rfl)(hw:o.guard=none:=by exact rfl):H9 Tryz.prog ops K Q listed s:=H9.last listed s i o R ho hr hd hw hp hl h
end
section
variable {d:Option Nat} {ty:TypeId} {pos:String} {aft:Array Edge} {gd:Option (Nat×Bool)} {ρ:Operand->AV} {K:List HO->Prop} {xo yo:Operand} {t e z b ob TT:Nat} {td te:TD} {cs:List AV} {es:List (List AV)}
theorem Nc (c:AV)(h:(ρ xo,Bt TL t,td.agg,cs[ob]?)=(.val (.pointer (some ⟨b,ob,none⟩)),some td,false,some c)):D1 Tryz.prog ⟨d,.load t xo,ty,pos,aft,gd⟩ ρ (fun H=>HO.box b TT cs∈H) c:=by simp only [Prod.mk.injEq] at h;obtain ⟨q0,q1,q2,q3⟩:=h;exact D1.mem (fun k=>Fb (k:=k) tok q0 q1 q2 q3) (fun _ h=>h)
theorem G6 (n:Nat)(h0:ρ xo = .sl z es)(h:(Bt TL t,td.kind)=(some td,.slice e))(hn:es.length=n):D1 Tryz.prog ⟨d,.call ⟨.builtin .len,#[xo],#[t]⟩,ty,pos,aft,gd⟩ ρ K (.int .i64 n):=by simp only [Prod.mk.injEq] at h;obtain ⟨q0,q1⟩:=h;exact bN tok h0 q0 q1 hn
theorem F5 {k:IntKind}{n:Int}(c:List AV)(hs:ρ xo = .sl z es)(h:(ρ yo,Bt TL t,td.kind,Bt TL e,te.size)=(.int k n,some td,.slice e,some te,z))(h0:0<=n)(hc:es[n.toNat]? = some c):D1 Tryz.prog ⟨d,.indexAddr t xo yo,ty,pos,aft,gd⟩ ρ K (.ptr c):=by simp only [Prod.mk.injEq] at h;obtain ⟨q0,q1,q2,q3,q4⟩:=h;exact gM tok hs q0 q1 q2 q3 q4 h0 hc
theorem Kf {n:Nat}{parts:Array (Nat×Operand)}(es:List (List AV))(h:(Bt TL t,td.kind,Bt TL e,te.size,Nat.beq parts.toList.length n,Nat.ble (n*z) 16777216,Z3 z ρ 0 parts.toList,Nat.blt 0 z,Ul ρ parts.toList)=(some td,.slice e,some te,z,true,true,true,true,es)):D1 Tryz.prog ⟨d,.buildSlice t n parts,ty,pos,aft,gd⟩ ρ K (.sl z es):=by simp only [Prod.mk.injEq] at h;obtain ⟨q0,q1,q2,q3,q4,q5,q6,q7,q8⟩:=h;exact bM tok q0 q1 q2 q3 q4 q5 q6 q7 q8
theorem Mf {H:List HO}(k:Nat)(v:AV)(cs':List AV)(H2:List HO)(h:(ρ xo,ρ yo,Bt TL t,H[k]?,Av (C1 v),Nat.beq (C1 v).length td.size,Nat.ble (ob+td.size) cs.length,Kt cs ob (C1 v),H.set k (.box b TT cs'))=(.val (.pointer (some ⟨b,ob,none⟩)),v,some td,some (.box b TT cs),true,true,true,cs',H2)):Od Tryz.prog ⟨d,.store t xo yo,ty,pos,aft,gd⟩ ρ H (fun z H'=>z = .junk/\H'=H2):=by simp only [Prod.mk.injEq] at h;obtain ⟨q0,q1,q2,q3,q4,q5,q6,q7,q8⟩:=h;exact I0 tok q0 q1 q2 q3 q4 q5 q6 q7 q8
theorem Zq {H:List HO}{v:Value}{e2:List (List AV)}(k:Nat)(h:(ρ xo,ρ yo,Bt TL t,td.kind,Bt TL e,te.size,Nat.blt 0 z,H[k]?)=(.row v z es,.sl z e2,some td,.slice e,some te,z,true,some (.row v es.length e z)))(hs2:∀c∈e2,Av c=true)(hs1:∀c∈es,Av c=true)(hb:(es.length+e2.length)*te.bytes<=140737488355328)(hm:es.length+e2.length<=maxLen):Od Tryz.prog ⟨d,.call ⟨.builtin .append,#[xo,yo],#[t,t]⟩,ty,pos,aft,gd⟩ ρ H (fun r H'=>∃v',r = .row v' z (es++e2)/\H'=H.set k (.row v' (es++e2).length e z)):=by simp only [Prod.mk.injEq] at h;obtain ⟨q0,q1,q2,q3,q4,q5,q6,q7⟩:=h;exact E_append tok q0 q1 q2 q3 q4 q5 q6 q7 hs2 hs1 hb hm
end
end Go.Proofs.YtibcelnfkhdjaaaGreatDoor
namespace Go.Proofs
open Go.Shelf
def Tryz.lays137_ren:Go.Shelf.Ren:=⟨fun | 137=>144 | 217=>182 | 266=>210 | n=>n,fun | 9=>9 | 5=>5 | 3=>3 | n=>n,fun | n=>n⟩
theorem Tryz.lays137:Go.Proofs.Lays.n137 Tryz.prog Tryz.lays137_ren:={
 mixed:=by kernel_rfl
 f137:=Tryz.func144.trans (congrArg some (by kernel_rfl))
 f217:=Tryz.func182.trans (congrArg some (by kernel_rfl))
 f266:=Tryz.func210.trans (congrArg some (by kernel_rfl))
 t3:=Tryz.underlying3
 a3:=Tryz.isAgg3
 z3:=Tryz.sizeOf3
 v3:=Tryz.zeroValue3
 t5:=Tryz.underlying5
 a5:=Tryz.isAgg5
 z5:=Tryz.sizeOf5
 v5:=Tryz.zeroValue5
 t9:=Tryz.underlying9
 a9:=Tryz.isAgg9
 z9:=Tryz.sizeOf9
 v9:=Tryz.zeroValue9 }
open Go.RowKit in
theorem Tryz.strings_IndexByte (s:ByteArray)(c:Int)(w:World) :
 Calls Tryz.prog 144 #[.string s,.int .u8 c] w fun e w'=>e = .returned (.int .i64 (Lib.indexByte s.data.toList c.toNat.toUInt8))/\w'=w:=Any.strings_IndexByte Tryz.lays137 s c w
def Tryz.laysM171_ren:Go.Shelf.Ren:=⟨fun | 171=>175 | 243=>204 | 246=>217 | 283=>220 | 284=>221 | 285=>222 | 286=>223 | 129=>226 | 317=>225 | 318=>227 | 319=>228 | 320=>229 | 337=>233 | 338=>234 | n=>n,fun | 3=>3 | 9=>9 | 2=>2 | 4=>4 | 171=>269 | 0=>0 | 53=>252 | 37=>91 | 5=>5 | 173=>272 | 212=>276 | 51=>249 | 20=>20 | 213=>277 | 46=>221 | 232=>281 | 233=>282 | n=>n,fun | 17=>10 | 18=>12 | 19=>13 | n=>n⟩
theorem Tryz.laysM171:Go.Proofs.LaysM.n171 Tryz.prog Tryz.laysM171_ren:={
 mixed:=by kernel_rfl
 f129:=Tryz.func226.trans (congrArg some (by kernel_rfl))
 f171:=Tryz.func175.trans (congrArg some (by kernel_rfl))
 f243:=Tryz.func204.trans (congrArg some (by kernel_rfl))
 f246:=Tryz.func217.trans (congrArg some (by kernel_rfl))
 f283:=Tryz.func220.trans (congrArg some (by kernel_rfl))
 f284:=Tryz.func221.trans (congrArg some (by kernel_rfl))
 f285:=Tryz.func222.trans (congrArg some (by kernel_rfl))
 f286:=Tryz.func223.trans (congrArg some (by kernel_rfl))
 f317:=Tryz.func225.trans (congrArg some (by kernel_rfl))
 f318:=Tryz.func227.trans (congrArg some (by kernel_rfl))
 f319:=Tryz.func228.trans (congrArg some (by kernel_rfl))
 f320:=Tryz.func229.trans (congrArg some (by kernel_rfl))
 f337:=Tryz.func233.trans (congrArg some (by kernel_rfl))
 f338:=Tryz.func234.trans (congrArg some (by kernel_rfl))
 t0:=Tryz.underlying0
 a0:=Tryz.isAgg0
 z0:=Tryz.sizeOf0
 v0:=Tryz.zeroValue0
 t2:=Tryz.underlying2
 a2:=Tryz.isAgg2
 z2:=Tryz.sizeOf2
 v2:=Tryz.zeroValue2
 t3:=Tryz.underlying3
 a3:=Tryz.isAgg3
 z3:=Tryz.sizeOf3
 v3:=Tryz.zeroValue3
 t4:=Tryz.underlying4
 a4:=Tryz.isAgg4
 z4:=Tryz.sizeOf4
 v4:=Tryz.zeroValue4
 t5:=Tryz.underlying5
 a5:=Tryz.isAgg5
 z5:=Tryz.sizeOf5
 v5:=Tryz.zeroValue5
 t9:=Tryz.underlying9
 a9:=Tryz.isAgg9
 z9:=Tryz.sizeOf9
 v9:=Tryz.zeroValue9
 t20:=Tryz.underlying20
 a20:=Tryz.isAgg20
 z20:=Tryz.sizeOf20
 v20:=Tryz.zeroValue20
 t37:=Tryz.underlying91
 a37:=Tryz.isAgg91
 z37:=Tryz.sizeOf91
 v37:=Tryz.zeroValue91
 t46:=Tryz.underlying221
 a46:=Tryz.isAgg221
 z46:=Tryz.sizeOf221
 v46:=Tryz.zeroValue221
 t51:=Tryz.underlying249
 a51:=Tryz.isAgg249
 z51:=Tryz.sizeOf249
 v51:=Tryz.zeroValue249
 t53:=Tryz.underlying252
 a53:=Tryz.isAgg252
 z53:=Tryz.sizeOf252
 v53:=Tryz.zeroValue252
 t171:=Tryz.underlying269
 a171:=Tryz.isAgg269
 z171:=Tryz.sizeOf269
 v171:=Tryz.zeroValue269
 t173:=Tryz.underlying272
 a173:=Tryz.isAgg272
 z173:=Tryz.sizeOf272
 v173:=Tryz.zeroValue272
 t212:=Tryz.underlying276
 a212:=Tryz.isAgg276
 z212:=Tryz.sizeOf276
 v212:=Tryz.zeroValue276
 t213:=Tryz.underlying277
 a213:=Tryz.isAgg277
 z213:=Tryz.sizeOf277
 t232:=Tryz.underlying281
 a232:=Tryz.isAgg281
 z232:=Tryz.sizeOf281
 v232:=Tryz.zeroValue281
 t233:=Tryz.underlying282
 a233:=Tryz.isAgg282
 z233:=Tryz.sizeOf282
 v233:=Tryz.zeroValue282
 g17:=by kernel_rfl
 g18:=by kernel_rfl
 g19:=by kernel_rfl
 i0:=by kernel_rfl
 i2:=by kernel_rfl
 i3:=by kernel_rfl
 i4:=by kernel_rfl
 i5:=by kernel_rfl
 i9:=by kernel_rfl
 i20:=by kernel_rfl
 i37:=by kernel_rfl
 i46:=by kernel_rfl
 i51:=by kernel_rfl
 i53:=by kernel_rfl
 i171:=by kernel_rfl
 i173:=by kernel_rfl
 i212:=by kernel_rfl
 i232:=by kernel_rfl
 i233:=by kernel_rfl
 m17:=by kernel_rfl
 m18:=by kernel_rfl
 m19:=by kernel_rfl }
open Go.RowKit Go.Sort Go.Lib in
theorem Tryz.strconv_Itoa (n : Int) (h0 : -9223372036854775808 <= n) (h1 : n <= 9223372036854775807) (w : World) (htab : Lib.TabIs Tryz.prog w "internal/strconv.uint64pow10" .u64 Lib.pow10Tab) :
 Calls Tryz.prog 175 #[.int .i64 n] w fun e w'=>e = .returned (.string ⟨(Lib.itoa n).toArray⟩)/\∃k os,w'=grow (w.drewN k) os:=Any.strconv_Itoa Tryz.laysM171 n h0 h1 w htab
def Tryz.lays144_ren:Go.Shelf.Ren:=⟨fun | 144=>77 | 143=>138 | 219=>181 | 217=>182 | 225=>207 | 224=>208 | 267=>209 | 266=>210 | 314=>218 | n=>n,fun | 9=>9 | 4=>4 | 3=>3 | 5=>5 | 46=>221 | 146=>250 | 51=>249 | n=>n,fun | 1=>6 | n=>n⟩
theorem Tryz.lays144:Go.Proofs.Lays.n144 Tryz.prog Tryz.lays144_ren:={
 mixed:=by kernel_rfl
 f143:=Tryz.func138.trans (congrArg some (by kernel_rfl))
 f144:=Tryz.func77.trans (congrArg some (by kernel_rfl))
 f217:=Tryz.func182.trans (congrArg some (by kernel_rfl))
 f219:=Tryz.func181.trans (congrArg some (by kernel_rfl))
 f224:=Tryz.func208.trans (congrArg some (by kernel_rfl))
 f225:=Tryz.func207.trans (congrArg some (by kernel_rfl))
 f266:=Tryz.func210.trans (congrArg some (by kernel_rfl))
 f267:=Tryz.func209.trans (congrArg some (by kernel_rfl))
 f314:=Tryz.func218.trans (congrArg some (by kernel_rfl))
 t3:=Tryz.underlying3
 a3:=Tryz.isAgg3
 z3:=Tryz.sizeOf3
 v3:=Tryz.zeroValue3
 t4:=Tryz.underlying4
 a4:=Tryz.isAgg4
 z4:=Tryz.sizeOf4
 v4:=Tryz.zeroValue4
 t5:=Tryz.underlying5
 a5:=Tryz.isAgg5
 z5:=Tryz.sizeOf5
 v5:=Tryz.zeroValue5
 t9:=Tryz.underlying9
 a9:=Tryz.isAgg9
 z9:=Tryz.sizeOf9
 v9:=Tryz.zeroValue9
 t46:=Tryz.underlying221
 a46:=Tryz.isAgg221
 z46:=Tryz.sizeOf221
 v46:=Tryz.zeroValue221
 t51:=Tryz.underlying249
 a51:=Tryz.isAgg249
 z51:=Tryz.sizeOf249
 v51:=Tryz.zeroValue249
 t146:=Tryz.underlying250
 a146:=Tryz.isAgg250
 z146:=Tryz.sizeOf250
 v146:=Tryz.zeroValue250
 g1:=by kernel_rfl }
open Go.RowKit Go.Lib in
theorem Tryz.strings_Contains (s sub:ByteArray)(m:Int)(w:World)(hs:s.size<4294967281)(hm:w.cell? ⟨6,0,none⟩=some (.int .i64 m)) :
 Calls Tryz.prog 77 #[.string s,.string sub] w fun e w'=>e = .returned (.bool (Lib.contains s.data.toList sub.data.toList))/\w'=w:=Any.strings_Contains Tryz.lays144 s sub m w hs hm
def Tryz.laysM144_ren:Go.Shelf.Ren:=⟨fun | 144=>77 | 143=>138 | 219=>181 | 217=>182 | 225=>207 | 224=>208 | 267=>209 | 266=>210 | 314=>218 | n=>n,fun | 9=>9 | 4=>4 | 3=>3 | 5=>5 | 46=>221 | 146=>250 | 51=>249 | n=>n,fun | 1=>6 | n=>n⟩
theorem Tryz.laysM144:Go.Proofs.LaysM.n144 Tryz.prog Tryz.laysM144_ren:={
 mixed:=by kernel_rfl
 f143:=Tryz.func138.trans (congrArg some (by kernel_rfl))
 f144:=Tryz.func77.trans (congrArg some (by kernel_rfl))
 f217:=Tryz.func182.trans (congrArg some (by kernel_rfl))
 f219:=Tryz.func181.trans (congrArg some (by kernel_rfl))
 f224:=Tryz.func208.trans (congrArg some (by kernel_rfl))
 f225:=Tryz.func207.trans (congrArg some (by kernel_rfl))
 f266:=Tryz.func210.trans (congrArg some (by kernel_rfl))
 f267:=Tryz.func209.trans (congrArg some (by kernel_rfl))
 f314:=Tryz.func218.trans (congrArg some (by kernel_rfl))
 t3:=Tryz.underlying3
 a3:=Tryz.isAgg3
 z3:=Tryz.sizeOf3
 v3:=Tryz.zeroValue3
 t4:=Tryz.underlying4
 a4:=Tryz.isAgg4
 z4:=Tryz.sizeOf4
 v4:=Tryz.zeroValue4
 t5:=Tryz.underlying5
 a5:=Tryz.isAgg5
 z5:=Tryz.sizeOf5
 v5:=Tryz.zeroValue5
 t9:=Tryz.underlying9
 a9:=Tryz.isAgg9
 z9:=Tryz.sizeOf9
 v9:=Tryz.zeroValue9
 t46:=Tryz.underlying221
 a46:=Tryz.isAgg221
 z46:=Tryz.sizeOf221
 v46:=Tryz.zeroValue221
 t51:=Tryz.underlying249
 a51:=Tryz.isAgg249
 z51:=Tryz.sizeOf249
 v51:=Tryz.zeroValue249
 t146:=Tryz.underlying250
 a146:=Tryz.isAgg250
 z146:=Tryz.sizeOf250
 v146:=Tryz.zeroValue250
 g1:=by kernel_rfl
 i3:=by kernel_rfl
 i4:=by kernel_rfl
 i5:=by kernel_rfl
 i9:=by kernel_rfl
 i46:=by kernel_rfl
 i51:=by kernel_rfl
 i146:=by kernel_rfl
 m1:=by kernel_rfl
 s1_3:=fun w h=>Go.Proofs.cell_of_shapedOpen_int (zero:=#[.int .i64 0]) (t:=3) h (of_decide_eq_true (by kernel_rfl)) (by kernel_rfl) rfl (by kernel_rfl) (by kernel_rfl) Tryz.underlying3 }
def Tryz.lays99_ren:Go.Shelf.Ren:=⟨fun | 99=>186 | 206=>211 | n=>n,fun | 9=>9 | 4=>4 | 3=>3 | n=>n,fun | n=>n⟩
theorem Tryz.lays99:Go.Proofs.Lays.n99 Tryz.prog Tryz.lays99_ren:={
 mixed:=by kernel_rfl
 f99:=Tryz.func186.trans (congrArg some (by kernel_rfl))
 f206:=Tryz.func211.trans (congrArg some (by kernel_rfl))
 t3:=Tryz.underlying3
 a3:=Tryz.isAgg3
 z3:=Tryz.sizeOf3
 v3:=Tryz.zeroValue3
 t4:=Tryz.underlying4
 a4:=Tryz.isAgg4
 z4:=Tryz.sizeOf4
 v4:=Tryz.zeroValue4
 t9:=Tryz.underlying9
 a9:=Tryz.isAgg9
 z9:=Tryz.sizeOf9
 v9:=Tryz.zeroValue9 }
open Go.RowKit Go.Lib in
theorem Tryz.strings_HasPrefix (s p:ByteArray)(w:World) :
 Calls Tryz.prog 186 #[.string s,.string p] w fun e w'=>e = .returned (.bool (Lib.hasPrefix s.data.toList p.data.toList))/\w'=w:=Any.strings_HasPrefix Tryz.lays99 s p w
end Go.Proofs
namespace Go.Proofs.YtibcelnfkhdjaaaGreatDoor
open Go Go.Aw
theorem ba_size (s:Ac):(⟨s.toArray⟩:ByteArray).size=s.length:=by simp [ByteArray.size]
theorem k53 (s:Ac)(c:UInt8):Au Tryz.prog 144 [.str s,.int .u8 (c.toNat:Int)] (.int .i64 (Lib.indexByte s c)):=
 .of_same fun g w vs _ ha=>by
  obtain ⟨u,v,rfl,h1,h2⟩:=ha.inv2;have e1:=h1.inv_str.1;have e2:=h2.inv_int;subst e1 e2;refine ⟨.int .i64 (Lib.indexByte s c),fun _ _=>.int _ _,?_⟩;have:=Tryz.strings_IndexByte ⟨s.toArray⟩ (c.toNat:Int) w;simpa using this
theorem k29 (s p:Ac)(hs:s.length<4294967281):Au Tryz.prog 77 [.str s,.str p] (.bool (Lib.contains s p)):=
 .of_same fun g w vs hg ha=>by
  obtain ⟨u,v,rfl,h1,h2⟩:=ha.inv2;have e1:=h1.inv_str.1;have e2:=h2.inv_str.1;subst e1 e2;refine ⟨.bool (Lib.contains s p),fun _ _=>.bool _,?_⟩;obtain ⟨m,hm⟩:=hg.int (gl:=6) (k:=.i64) (by simp [globals]);exact Tryz.strings_Contains ⟨s.toArray⟩ ⟨p.toArray⟩ m w (by rw [ba_size];exact hs) hm
theorem k28 (s p:Ac):Au Tryz.prog 186 [.str s,.str p] (.bool (Lib.hasPrefix s p)):=
 .of_same fun g w vs hg ha=>by
  obtain ⟨u,v,rfl,h1,h2⟩:=ha.inv2;have e1:=h1.inv_str.1;have e2:=h2.inv_str.1;subst e1 e2;exact ⟨.bool (Lib.hasPrefix s p),fun _ _=>.bool _,Tryz.strings_HasPrefix ⟨s.toArray⟩ ⟨p.toArray⟩ w⟩
theorem c39 (c:UInt8):Au Tryz.prog 54 [.int .u8 (c.toNat:Int)] (.bool (A5 c)):=by
 refine G3 9 Tryz.func54 rfl fun H=>?_
 refine Ab (Qp Bl (Cf (Qp (Ai (v:=.int .u8 _) rfl) (Qp Lm (Qp Cw (Qg [] Qw (Ai (v:=.int .u8 _) rfl) (Qg [(6,_)] Qw oE (Qp Mu (Qp Bl (Rb (Qr (.bool _) ?_)))))))))));rfl
theorem c43 (c:UInt8):Au Tryz.prog 58 [.int .u8 (c.toNat:Int)] (.bool (C6 c)):=by
 refine G3 21 Tryz.func58 rfl fun H=>?_
 refine Ab (Qp Bl (Cf (Qp (Ai (v:=.int .u8 _) rfl) (Qp Bv (Qp Cw (Qg [] Qw (Ai (v:=.int .u8 _) rfl) ?_))))));refine Qg [(6,_)] Qw Lm (Qg [(7,_)] Qw Cw (Qg [] Qw (Ai (v:=.int .u8 _) rfl) (Qg [(9,_)] Qw oE (Qg [(8,_),(10,_)] Qw Mu (Qp G4 (Qp Cw (Qg [] Qw (Ai (v:=.int .u8 _) rfl) (Qg [(14,_)] Qw Lm (Qg [(15,_)] Qw Cw (Qg [] Qw (Ai (v:=.int .u8 _) rfl) (Qg [(17,_)] Qw oE (Qg [(16,_),(18,_)] Qw Mu (Qp G4 (Qp Bl (Rb (Qr (.bool _) ?_))))))))))))))));rfl
theorem c52 (c:UInt8):Au Tryz.prog 143 [.int .u8 (c.toNat:Int)] (.bool (xH c)):=by
 refine G3 5 Tryz.func143 rfl fun H=>?_
 refine Ab (Qp Bl (Cf (Qp (Ai (v:=.int .u8 _) rfl) (Qp Cq (Qp Bl (Rb (Qr (.bool _) ?_)))))));rfl
theorem c69 (c:UInt8):Au Tryz.prog 183 [.int .u8 (c.toNat:Int)] (.bool (E4 c)):=by
 refine G3 9 Tryz.func183 rfl fun H=>?_
 refine Ab (Qp Bl (Cf (Qp (Ai (v:=.int .u8 _) rfl) (Qp (Qc rfl (c43 _)) (Qp Cw (Qg [] Qw (Ai (v:=.int .u8 _) rfl) (Qg [(6,_)] Qw (Qc rfl (c39 _)) (Qp G4 (Qp Bl (Rb (Qr (.bool _) ?_)))))))))));rfl
theorem c42 (c:UInt8):Au Tryz.prog 57 [.int .u8 (c.toNat:Int)] (.bool (tM c)):=by
 refine G3 11 Tryz.func57 rfl fun H=>?_
 refine Ab (Qp Bl (Cf (Qp (Ai (v:=.int .u8 _) rfl) (Qp (Qc rfl (c43 _)) (Qp Ke (Qp Cw (Qg [] Qw (Ai (v:=.int .u8 _) rfl) (Qg [(7,_)] Qw (Qc rfl (c39 _)) (Qg [(8,_)] Qw Ke (Qp Mu (Qp Bl (Rb (Qr (.bool _) ?_)))))))))))));rfl
theorem g1 {b w:Bool}{G:List (Bool×Bool)}(h:Ow ((b,w)::G)):b=w:=h _ (Jg ..)
theorem U9 {s:Ac}{k:Nat}(h:k<s.length):s.drop k=bt s k::s.drop (k+1):=by
 rw [Sr h];have:bt s k=s[k]:=by simp [bt,Dm,List.getElem?_eq_getElem h]
 rw [this]
theorem span_step {p:UInt8->Bool}{s:Ac}{k:Nat}(h:(decide ((k:Int)<(s.length:Int))&&p (bt s k))=true):k<s.length/\Bd p (s.drop k)=Bd p (s.drop (k+1))+1:=by
 simp only [Ce,Cb] at h;have hk:k<s.length:=by omega
 refine ⟨hk,?_⟩;rw [U9 hk,Bd,if_pos h.2]
theorem span_stop {p:UInt8->Bool}{s:Ac}{k:Nat}(h:(decide ((k:Int)<(s.length:Int))&&p (bt s k))=false):Bd p (s.drop k)=0:=by
 by_cases hk:k<s.length
 .
  have h2:p (bt s k)=false:=by
   have:decide ((k:Int)<(s.length:Int))=true:=by simp;omega
   cases hq:p (bt s k) with
   | false=>rfl
   | true=>rw [this,hq] at h;cases h
  rw [U9 hk,Bd,if_neg (by simp [h2])]
 rw [Ss (by omega)];rfl
theorem Kc (p:UInt8->Bool):∀s:Ac,Bd p s<=s.length
  | []=>Be _
  | c::r=>by
    unfold Bd;split
    . have:=Kc p r;simp;omega
    simp
theorem bc_get {s:Ac}{k:Nat}(h:k<s.length):(D3 s)[k]? = some [.int .u8 ((bt s k).toNat:Int)]:=by
 simp only [D3,List.getElem?_map,J4 h];rfl
theorem idx_hit {p:UInt8->Bool}{s:Ac}{k:Nat}(h:k<s.length)(hp:p (bt s k)=true):L7 p (s.drop k)=0:=by rw [U9 h,L7,if_pos hp]
theorem idx_step {p:UInt8->Bool}{s:Ac}{k:Nat}(h:k<s.length)(hp:p (bt s k)=false):L7 p (s.drop k)=if L7 p (s.drop (k+1)) = -1 then -1 else L7 p (s.drop (k+1))+1:=by rw [U9 h,L7,if_neg (by simp [hp])]
theorem idx_ge (p:UInt8->Bool):∀s:Ac,-1<=L7 p s
  | []=>D6 _
  | c::r=>by
    have:=idx_ge p r;unfold L7;split
    . decide
    split <;> omega
theorem idx_zero (p:UInt8->Bool)(s:Ac):L7 p s=if L7 p (s.drop 0) = -1 then -1 else ((0:Nat):Int)+L7 p (s.drop 0):=by
 have:=idx_ge p s;rw [T3];split <;> simp_all
theorem idx_next {p:UInt8->Bool}{s:Ac}{k:Nat}(h:k<s.length)(hp:p (bt s k)=false)(h2:L7 p s=if L7 p (s.drop k) = -1 then -1 else (k:Int)+L7 p (s.drop k)) :
  L7 p s=if L7 p (s.drop (k+1)) = -1 then -1 else ((k+1:Nat):Int)+L7 p (s.drop (k+1)):=by
 rw [idx_step h hp] at h2;rw [h2];have:=idx_ge p (s.drop (k+1));by_cases h3:L7 p (s.drop (k+1)) = -1
 . rw [if_pos h3,if_pos rfl,if_pos h3]
 rw [if_neg h3,if_neg h3,if_neg (by omega)];omega
theorem c38 (s:Ac)(hl:s.length<=1048576)(f:Nat)(p:UInt8->Bool)(hf:Y0 Tryz.prog f=true)(hp:∀c,Au Tryz.prog f [.int .u8 (c.toNat:Int)] (.bool (p c))):Au Tryz.prog 142 [.str s,.fn (.func f) [] []] (.int .i64 (Bd p s:Int)):=by
 refine G3 20 Tryz.func142 rfl fun H=>?_
 refine Ab (Qp A3 (Cf (Qp A3 (Re (AW.block ?_)))));refine AW.Aan (fun (k:Nat)=>(⟨[(0,.str s),(1,.fn (.func f) [] []),(5,.int .i64 (k:Int))],H,20⟩:St)) (fun k=>k<=s.length/\Bd p s=k+Bd p (s.drop k)) (fun k=>s.length-k) (0) ?_ Dp ?_
 . exact ⟨Bk _,by simp⟩
 rintro k hR;refine Cj (Qp Ax (Qp Iw (Qp (D7 tok rfl rfl rfl rfl) (Qp C5 (Qp Cw (Qg [] Qw (Ai (v:=.fn _ _ _) rfl) (Qg [] Qw Iw (Qg [] Qw Ax ?_))))))));refine Yh [(12,_),(13,_)] Yw (fun hG=>Dd tok rfl rfl rfl rfl (by omega) (J4 (i:=k) (by have h9:=g1 hG;simp at h9;exact h9))) ?_;refine Qg [(14,_),(11,_)] Yw (Tl hf rfl rfl rfl (hp _)) (Qp Mu (Br (fun hc1=>?_) fun hc1=>?_))
 .
  have hst:=span_step hc1;refine B8 (AW.block (AW.region (Qp Ax (Qp Ii (Qp A3 (Rk ?_))))));refine ⟨k+1,?_,?_,Dp⟩
  . exact ⟨hst.1,by rw [hR.2,hst.2];omega⟩
  have:=hst.1;omega
 have hst:=span_stop hc1;refine AW.exit ?_;refine B9 (Ri (Ab (Qp Ax (Qp A3 (Rb ?_)))));refine Qr (Iq _) ?_;have h2:=hR.2;rw [hst] at h2;rw [h2];rfl
theorem c64 (s:Ac)(hl:s.length<=1048576)(f:Nat)(p:UInt8->Bool)(hf:Y0 Tryz.prog f=true)(hp:∀c,Au Tryz.prog f [.int .u8 (c.toNat:Int)] (.bool (p c))):Au Tryz.prog 105 [.sl 1 (D3 s),.fn (.func f) [] []] (.int .i64 (L7 p s)):=by
 refine G3 19 Tryz.func105 rfl fun H=>?_
 refine Ab (Qp A3 (A7 (Cj (Qp Ng ?_))));refine Qp (G6 s.length rfl rfl (by simp)) ?_;refine Qp Ax (A7 (AW.block ?_));refine AW.Aan (fun (k:Nat)=>(⟨[(0,.sl 1 (D3 s)),(1,.fn (.func f) [] []),(7,.int .i64 (s.length:Int)),(8,.int .i64 (k:Int))],H,19⟩:St)) (fun k=>k<=s.length/\L7 p s=if L7 p (s.drop k) = -1 then -1 else (k:Int)+L7 p (s.drop k)) (fun k=>s.length-k) (0) ?_ Dp ?_
 . exact ⟨Bk _,idx_zero p s⟩
 rintro k hR;refine Ab (Qp C5 (Re (Hs (fun hc1=>?_) fun hc1=>?_)))
 .
  have hk:k<s.length:=by simp at hc1;omega
  refine B8 (AW.seq (AW.block (Ab (Qp Ax (Qp A3 (Cf (Qp (Ai (v:=.fn _ _ _) rfl) (Qp Ng (Qp Ax ?_)))))))));refine Qp (F5 [.int .u8 _] rfl rfl (by omega) (bc_get (k:=k) hk)) ?_;refine Qp (E1 (c:=.int .u8 _) tok rfl rfl rfl) (Qp (Tl hf rfl rfl rfl (hp _)) (Br (fun hc2=>Ab (Qp Ax (Qp A3 (Ra (Bc (Ep (Bc (Qr (Iq _) ?_)))))))) fun hc2=>Rf (AW.region (Qp Ii (Qp Ax (A7 ?_))))))
  .
   have h2:=hR.2;rw [idx_hit hk hc2,if_neg (by decide)] at h2;rw [h2,Int.add_zero];rfl
  refine ⟨k+1,?_,?_,Dp⟩
  . exact ⟨hk,idx_next hk hc2 hR.2⟩
  omega
 have hk:s.length<=k:=by simp at hc1;omega
 refine AW.exit ?_;refine B9 (Ri (Ab (Qp A3 (Rb ?_))));refine Qr (Iq _) ?_;have h2:=hR.2;rw [Ss hk] at h2;rw [h2];rfl
theorem c41 (s:Ac)(hl:s.length<=1048576)(f:Nat)(p:UInt8->Bool)(hf:Y0 Tryz.prog f=true)(hp:∀c,Au Tryz.prog f [.int .u8 (c.toNat:Int)] (.bool (p c))):Au Tryz.prog 56 [.sl 1 (D3 s),.fn (.func f) [] []] (.bool (decide (0<=L7 p s))):=by
 refine G3 9 Tryz.func56 rfl fun H=>?_
 refine Ab (Qp Bl (Cf (Qp Ng (Qp (Ai (v:=.fn _ _ _) rfl) (Qp (Qc rfl (c64 s hl f p hf hp)) (Qp Lm (Qp Bl (Rb (Qr (.bool _) ?_)))))))));rfl
theorem c32 (s:Ac)(hl:s.length<=1048576)(h0:0<s.length):Au Tryz.prog 81 [.str s] (.int .i64 (Jw s)):=by
 refine G3 14 Tryz.func81 rfl fun H=>?_
 refine Ab (Qp A3 (Re (AW.block (Ab (Qp Iw ?_)))));refine Qp (Dd tok rfl rfl rfl rfl (by omega) (J4 (i:=0) h0)) ?_;refine Qp Bv (Qp Bl (Br (fun hc1=>Ab (Qp Iw ?_)) fun hc1=>Ab (Qp Iw ?_)))
 .
  refine Qp (Qc rfl (c38 s hl 143 xH (by kernel_rfl) c52)) ?_;refine Qp A3 (Ra (Qr (Iq _) ?_));simp only [Af,Jw];rw [if_pos hc1]
  done
 refine Qp (Dd tok rfl rfl rfl rfl (by omega) (J4 (i:=0) h0)) ?_;refine Qp (Qc rfl (k53 [32,9,13,10] _)) (Qp Lm (Qp Bl (Br (fun hc2=>Ab (Qp A3 (Ra (Qr (Iq _) ?_)))) fun hc2=>Rf (Ab (Qp A3 (Rb (Qr (Iq _) ?_)))))))
 .
  simp only [Af,Jw];rw [iN hc1];rw [if_pos hc2]
  done
 simp only [Af,Jw];rw [iN hc1];rw [iN hc2]
 done
theorem nW (x:Int):0<=IntKind.u8.wrap x/\IntKind.u8.wrap x<=255:=by rw [IntKind.wrap_u8];omega
theorem wrap64_8 (x:Int):IntKind.i64.wrap (IntKind.u8.wrap x)=IntKind.u8.wrap x:=by
 have:=nW x;exact IntWalk.i64_in _ (by omega)
theorem dv_le (c:UInt8):0<=dvS c/\dvS c<=255:=nW _
theorem ne_len {s:Ac}{b:Bool}(h:((s == [])||b)=false):0<s.length:=by
 cases s with
 | nil=>simp at h
 | cons a r=>simp
theorem numGo_step {s:Ac}{k:Nat}{n:Int}(h:k<s.length)(hc:decide (1099511627776<10*n+dvS (bt s k))=false):Jv (s.drop k) n=Jv (s.drop (k+1)) (10*n+dvS (bt s k)):=by
 rw [U9 h,Jv,if_neg (by simp [hc])]
theorem numGo_stop {s:Ac}{k:Nat}{n:Int}(h:k<s.length)(hc:decide (1099511627776<10*n+dvS (bt s k))=true):Jv (s.drop k) n=(0,2):=by
 rw [U9 h,Jv,if_pos hc]
theorem c22 (s:Ac)(hl:s.length<=1048576):Au Tryz.prog 55 [.str s] (.bool (Ro s)):=by
 refine G3 16 Tryz.func55 rfl fun H=>?_
 refine Ab (Qp Bl (Cf (Qp Iw (Qp (Gl rfl rfl) (Qp Cw (Qg [] Qw Iw ?_))))));refine Qg [(6,_)] Qw (Qc rfl (k29 _ _ (by omega))) ?_;refine Qg [(7,_)] Qw Ke (Qp Mu (Qp Cw (Qg [] Qw Iw ?_)));refine Yh [(11,_)] Qw (fun hG=>oL rfl rfl rfl ((by simp [maxLen];omega))) ?_;refine Yh [(12,_)] Qw (fun hG=>oL rfl rfl rfl ((by simp [maxLen];omega))) ?_;refine Qg [(13,_)] Qw (Qc rfl (k29 _ _ (by simp [lR]))) ?_;refine Qp Mu (Qp Bl (Rb (Qr (.bool _) ?_)));rfl
theorem xT {s:Ac}(h:((s == [])||decide ((Bd A5 s:Int)<(s.length:Int)))=false):Tu s=Jv s 0:=by unfold Tu;rw [iN h]
theorem Xt:∀s:Ac,(Bw s).length<=4*s.length
  | []=>Be _
  | c::r=>by
    have:=Xt r;have h:(Hl c).length<=4:=by unfold Hl;split <;> (try split) <;> simp
    simp only [Bw,Al,A8];omega
theorem gY:∀a b:Ac,Bw (a++b)=Bw a++Bw b
 | [],b=>rfl
 | c::r,b=>by simp [Bw,gY r b]
theorem take_bt {s:Ac}{k:Nat}(h:k<s.length):s.take (k+1)=s.take k ++ [bt s k]:=by rw [List.take_add_one,J4 h];rfl
theorem aU {s:Ac}{k:Nat}{es:List (List AV)}{x:Ac}(h:k<s.length)(he:es=D3 ([34]++Bw (s.take k)))(hx:Hl (bt s k)=x):es++D3 x=D3 ([34]++Bw (s.take (k+1))):=by
 rw [he,take_bt h,gY,<-To];simp [Bw,hx]
theorem quote_room {s:Ac}{k:Nat}{es:List (List AV)}(hl:s.length<=64)(he:es=D3 ([34]++Bw (s.take k))):es.length<=257:=by
 have:=Xt (s.take k);rw [he,Tp];rw [Gv] at this;simp;omega
theorem nat8 (c:UInt8):c.toNat<=255:=by have:=c.toNat_lt;omega
theorem hex_hi (c:UInt8):0<=IntKind.u8.wrap ((c.toNat:Int).tdiv 16)/\iK[(IntKind.u8.wrap ((c.toNat:Int).tdiv 16)).toNat]? = some (bt iK (c.toNat / 16)):=by
 have h:=nat8 c
 have e:IntKind.u8.wrap ((c.toNat:Int).tdiv 16)=((c.toNat / 16:Nat):Int):=by
  rw [IntWalk.u8_quo _ _ (by omega)];omega
 rw [e];refine ⟨by omega,?_⟩;rw [Ma];exact J4 (by show c.toNat / 16<16;omega)
theorem hex_lo (c:UInt8):0<=(c.toNat:Int).tmod 16/\iK[((c.toNat:Int).tmod 16).toNat]? = some (bt iK (c.toNat % 16)):=by
 have e:(c.toNat:Int).tmod 16=((c.toNat % 16:Nat):Int):=by
  rw [Int.tmod_eq_emod_of_nonneg (by omega)];omega
 rw [e];refine ⟨by omega,?_⟩;rw [Ma];exact J4 (by show c.toNat % 16<16;omega)
theorem byteOf_eq (n:Int):IntKind.u8.wrap n=((rQ n).toNat:Int):=by
 have h:=nW n;unfold rQ;rw [UInt8.toNat_ofNat_of_lt' (by show _<256;omega)];omega
theorem idxB_le:∀(s:Ac) (c:UInt8),-1<=Lib.indexByte s c/\Lib.indexByte s c<s.length
  | [],c=>⟨by unfold Lib.indexByte;decide,by unfold Lib.indexByte;decide⟩
  | a::r,c=>by
    have:=idxB_le r c;unfold Lib.indexByte;simp only [A8,beq_iff_eq];split
    . omega
    split <;> omega
theorem hexI_le (c:UInt8) : -1<=sU c/\sU c<16:=idxB_le iK c
theorem sc_two (a b:Int):∀c∈[[AV.int .u8 a],[AV.int .u8 b]],Av c=true:=by simp [Av,nD]
theorem sc_four (a b c d:Int):∀x∈[[AV.int .u8 a],[AV.int .u8 b],[AV.int .u8 c],[AV.int .u8 d]],Av x=true:=by simp [Av,nD]
theorem c18 (s:Ac)(hl:s.length<=1048576):Au Tryz.prog 184 [.str s] (.tuple [.int .i64 (Tu s).1,.int .i64 (Tu s).2]):=by
 refine G3 33 Tryz.func184 rfl fun H=>?_
 refine Ab (Qp A3 (Qp A3 (A7 (Cj (Qp Iw (Qp (Gk rfl rfl) (Qp Cw (Qg [] Qw Iw ?_))))))));refine Qg [(10,_)] Qw (Qc rfl (c38 s hl 54 A5 (by kernel_rfl) c39)) ?_;refine Qg [] Qw Iw (Qg [(12,_)] Qw (D7 tok rfl rfl rfl rfl) (Qg [(11,_),(13,_)] Yw C5 (Qp G4 (Br (fun hc1=>Ab (Qp A3 (Qp A3 (Rc (Py (Iq _) (Iq _) ?_))))) fun hc1=>?_))))
 .
  simp only [Af,Tu];rw [if_pos hc1]
  done
 have hn:=xT hc1;refine B8 (Ab (Qp A3 (A7 (Cj (Qp Iw (Qp (Z9 tok rfl rfl rfl rfl rfl rfl rfl) ?_))))));refine Qp (G6 s.length rfl rfl (by simp)) ?_;refine Qp Ax (A7 (AW.block ?_));refine AW.Aan (fun (p:Nat×Int)=>(⟨[(17,.sl 1 (D3 s)),(18,.int .i64 (s.length:Int)),(4,.int .i64 p.2),(19,.int .i64 (p.1:Int))],H,33⟩:St)) (fun p=>p.1<=s.length/\(0<=p.2/\p.2<=1099511627776)/\Jv s 0=Jv (s.drop p.1) p.2) (fun p=>s.length-p.1) ((0,0)) ?_ Dp ?_
 . exact ⟨Bk _,⟨by decide,by decide⟩,rfl⟩
 rintro p hR;have hb:=hR.2.1;have hdv:=dv_le (bt s p.1);refine Ab (Qp C5 (Re (Hs (fun hc2=>?_) fun hc2=>?_)))
 .
  have hk:p.1<s.length:=by simp at hc2;omega
  refine B8 (AW.seq (AW.block (Ab ?_)));refine Qp (F5 [.int .u8 _] rfl rfl (by omega) (bc_get (k:=p.1) hk)) ?_;refine Qp (E1 (c:=.int .u8 _) tok rfl rfl rfl) (Qp (An (v:=.int .u8 _) rfl) (Cf (Qp Ax ?_)));refine Qp (P_mul rfl rfl rfl (by constructor <;> omega)) ?_;refine Qp (Ai (v:=.int .u8 _) rfl) (Qp (P_subw rfl rfl) (Qp (jV (m:=dvS (bt s p.1)) tok rfl rfl rfl rfl rfl (wrap64_8 _)) (Qp Ii (Qp A3 (Cf (Qp Ax (Qp Jj (Br (fun hc3=>Ab (Qp A3 (Qp A3 (Ra (Bc (Ep (Bc (Py (Iq _) (Iq _) ?_)))))))) fun hc3=>Rf (AW.region (Qp Ii (Qp Ax (A7 ?_))))))))))))
  . rw [hn,hR.2.2,numGo_stop hk hc3];rfl
  refine ⟨(p.1+1,10*p.2+dvS (bt s p.1)),?_,?_,Dp⟩
  . exact ⟨hk,⟨by simp only;omega,by simp only [Jh] at hc3;simp only;omega⟩,hR.2.2.trans (numGo_step hk hc3)⟩
  simp only;omega
 have hk:s.length<=p.1:=by simp at hc2;omega
 refine AW.exit ?_;refine B9 (Ri (Ab (Qp Ax (Qp A3 (Qp A3 (Rb ?_))))));refine Py (Iq _) (Iq _) ?_;have h9:Tu s=(p.2,0):=by rw [hn,hR.2.2,Ss hk];rfl
 rw [h9];rfl
theorem c20 (s:Ac)(hl:s.length<=1048576):Au Tryz.prog 22 [.str s] (.int .i64 (Ib s)):=by
 refine G3 22 Tryz.func22 rfl fun H=>?_
 refine Ab (Qp A3 (A7 (Cj (Qp Iw (Qp (Gk rfl rfl) (Qp Cw (Qg [] Qw Iw (Qg [(6,_)] Qw (D7 tok rfl rfl rfl rfl) (Qg [(7,_)] Qw Jj (Qp G4 (Qp Cw (Qg [] Qw Iw ?_))))))))))));refine Yh [(11,_)] Qw (fun hG=>Dd tok rfl rfl rfl rfl (by omega) (J4 (i:=0) (ne_len (g1 hG)))) ?_;refine Qg [(12,_)] Qw (Qc rfl (c39 _)) (Qp G4 (Qp Cw (Qg [] Qw Iw (Qg [(16,_)] Qw (Qc rfl (c22 s hl)) (Qp G4 (Br (fun hc1=>Ab (Qp A3 (Rc (Qr (Iq _) ?_)))) fun hc1=>B8 (Cj (Qp Iw (Qp (Z9 tok rfl rfl rfl rfl rfl rfl rfl) ?_)))))))))
 .
  simp only [Af,Ib];rw [if_pos hc1]
  done
 refine Qp (Qc rfl (c41 s hl 57 tM (by kernel_rfl) c42)) ?_;refine Br (fun hc2=>Ab (Qp A3 (Rc (Qr (Iq _) ?_)))) fun hc2=>B8 (Ab (Qp A3 (Rb (Qr (Iq _) ?_))))
 .
  simp only [Af,Ib];rw [iN hc1];rw [if_pos hc2]
  done
 simp only [Af,Ib];rw [iN hc1];rw [iN hc2]
 done
theorem c24 (s:Ac)(hl:s.length<=1048576):Au Tryz.prog 177 [.str s] (.tuple [.str (Rz s).1,.int .i64 (Rz s).2]):=by
 refine G3 54 Tryz.func177 rfl fun H=>?_
 refine Ab (Qp Nb (Qp A3 (A7 (Cj (Qp Iw (Qp (D7 tok rfl rfl rfl rfl) (Qp Jj (Br (fun hc1=>Ab (Qp Nb (Qp A3 (Rc (Py (.str _) (Iq _) ?_))))) fun hc1=>B8 (Ab (Qe (Jl (es:=[[.int .u8 _]]) tok rfl rfl rfl rfl rfl rfl rfl rfl rfl) ?_))))))))))
 .
  simp only [Af,Rz];rw [if_pos hc1]
  done
 rintro _ _ ⟨v10,rfl,rfl⟩;refine Qp (An (v:=.row _ _ _) rfl) (A7 (Cj (Qp Iw (Qp (Z9 tok rfl rfl rfl rfl rfl rfl rfl) ?_))));refine Qp (G6 s.length rfl rfl (by simp)) ?_;refine Qp Ax (A7 (AW.block ?_));refine AW.Aan (fun (p:Nat×List (List AV)×Value)=>(⟨[(4,.row p.2.2 1 p.2.1),(12,.sl 1 (D3 s)),(13,.int .i64 (s.length:Int)),(14,.int .i64 (p.1:Int))],.row p.2.2 p.2.1.length 5 1::H,54⟩:St)) (fun p=>p.1<=s.length/\p.2.1=D3 ([34]++Bw (s.take p.1))) (fun p=>s.length-p.1) ((0,_,v10)) ?_ Dp ?_
 . exact ⟨Bk _,rfl⟩
 rintro p hR;have hroom:=quote_room (by simp at hc1;omega) hR.2;have hsc:∀c∈p.2.1,Av c=true:=by rw [hR.2];exact zH _
 refine Ab (Qp C5 (Re (Hs (fun hc2=>?_) fun hc2=>?_)))
 .
  have hk:p.1<s.length:=by simp at hc2;omega
  refine B8 (AW.seq (AW.block (Ab ?_)));refine Qp (F5 [.int .u8 _] rfl rfl (by omega) (bc_get (k:=p.1) hk)) ?_;refine Qp (E1 (c:=.int .u8 _) tok rfl rfl rfl) (Qp (An (v:=.int .u8 _) rfl) (A7 (AW.block (Ab ?_))));refine Qp (Ai (v:=.int .u8 _) rfl) (Qp Bv (Qp Cw (Qg [] Qw (Ai (v:=.int .u8 _) rfl) (Qg [(26,_)] Qw Bv (Qp G4 (Qp Bl (Br (fun hc3=>AW.region (Qp (Ai (v:=.row _ _ _) rfl) (Qp (Ai (v:=.int .u8 _) rfl) (Qp (Kf ([[.int .u8 _],[.int .u8 _]]) rfl) ?_)))) fun hc3=>Ab (Qp (Ai (v:=.int .u8 _) rfl) (Qp C5 (Qp Cw (Qg [] Qw (Ai (v:=.int .u8 _) rfl) (Qg [(37,_)] Qw Jj (Qp G4 (Qp Bl (Br (fun hc4=>?_) fun hc4=>AW.region (Qp (Ai (v:=.row _ _ _) rfl) (Qp (Ai (v:=.int .u8 _) rfl) (Qp (Kf ([[.int .u8 _]]) rfl) ?_))))))))))))))))))
  .
   refine Qe (Zq 0 rfl (sc_two _ _) (hsc) (by simp;omega) (by simp [maxLen];omega)) ?_;rintro _ _ ⟨v32,rfl,rfl⟩;refine Qp (An (v:=.row _ _ _) rfl) (AOL.nil (Km (Km (Ap (AW.region (Qp Ii (Qp Ax (A7 ?_))))))));refine ⟨(p.1+1,p.2.1++D3 [92,bt s p.1],v32),?_,?_,Dp⟩
   . exact ⟨hk,aU hk hR.2 (by unfold Hl;rw [if_pos hc3])⟩
   simp only;omega
  .
   refine Oe ?_;refine Qn 0 rfl (Ai (v:=.row _ _ _) rfl) (Qn 1 rfl (Ai (v:=.int .u8 _) rfl) ?_);refine Qn 2 rfl (P_quow rfl rfl (by omega)) ?_;refine Qn 3 rfl (Dd tok rfl rfl rfl rfl ((hex_hi _).1) ((hex_hi _).2)) (Qn 4 rfl (Ai (v:=.int .u8 _) rfl) ?_);refine Qn 5 rfl (P_rem rfl rfl (by omega)) ?_;refine Qn 6 rfl (Dd tok rfl rfl rfl rfl ((hex_lo _).1) ((hex_lo _).2)) (Qn 7 rfl (Kf ([[.int .u8 _],[.int .u8 _],[.int .u8 _],[.int .u8 _]]) rfl) ?_);refine Sef 8 rfl (Zq 0 rfl (sc_four _ _ _ _) (hsc) (by simp;omega) (by simp [maxLen];omega)) ?_;rintro _ _ ⟨v48,rfl,rfl⟩;refine Qn 9 rfl (An (v:=.row _ _ _) rfl) ?_;refine Jr ?_;refine Km (Km (Ap (AW.region (Qp Ii (Qp Ax (A7 ?_))))));refine ⟨(p.1+1,p.2.1++D3 [92,120,bt iK ((bt s p.1).toNat / 16),bt iK ((bt s p.1).toNat % 16)],v48),?_,?_,Dp⟩
   . exact ⟨hk,aU hk hR.2 (by unfold Hl;rw [iN hc3,if_pos hc4])⟩
   simp only;omega
  refine Qe (Zq 0 rfl (Ff rfl) (hsc) (by simp;omega) (by simp [maxLen];omega)) ?_;rintro _ _ ⟨v21,rfl,rfl⟩;refine Qp (An (v:=.row _ _ _) rfl) (AOL.nil (Km (Km (Ap (AW.region (Qp Ii (Qp Ax (A7 ?_))))))));refine ⟨(p.1+1,p.2.1++D3 [bt s p.1],v21),?_,?_,Dp⟩
  . exact ⟨hk,aU hk hR.2 (by unfold Hl;rw [iN hc3,iN hc4])⟩
  simp only;omega
 have hk:p.1=s.length:=by simp at hc2;have:=hR.1;omega
 have hfin:p.2.1 ++ [[.int .u8 34]]=D3 ([34]++Bw s ++ [34]):=by rw [hR.2,hk,Sm,To ([34]++Bw s) [34]];rfl
 have hfl:([34]++Bw s ++ [34]).length<=maxLen:=by have h1:=Xt s;simp at hc1;simp [maxLen];omega
 refine AW.exit ?_;refine B9 (Ri (Ab ?_));refine Qp (Ai (v:=.row _ _ _) rfl) (Qp (Kf ([[.int .u8 _]]) rfl) ?_);refine Qe (Zq 0 rfl (Ff rfl) (hsc) (by simp;omega) (by simp [maxLen];omega)) ?_;rintro _ _ ⟨v52,rfl,rfl⟩;refine Qp (jU (s:=[34]++Bw s ++ [34]) tok rfl rfl rfl rfl rfl rfl rfl (hfl) (as_row hfin)) (Qp Nb (Qp A3 (Rb ?_)));refine Yx J6 Zf S1 ?_;simp only [Af,Rz];rw [iN hc1]
 done
theorem c70 (s:Ac)(hl:s.length<=1048576):Au Tryz.prog 185 [.str s] (.tuple [.int .u8 ((Kg s).1.toNat:Int),.int .i64 (Kg s).2]):=by
 refine G3 48 Tryz.func185 rfl fun H=>?_
 refine Ab ?_;refine Qp (An (v:=.int .u8 _) rfl) ?_;refine Qp A3 (Re (AW.block (Ab (Qp Iw ?_))));refine Qp (D7 tok rfl rfl rfl rfl) ?_;refine Qp Lm (Qp Cw (Qg [] Qw Iw ?_));refine Yh [(11,_)] Qw (fun hG=>Dd tok rfl rfl rfl rfl (by omega) (J4 (i:=1) (by have h9:=g1 hG;simp at h9;omega))) ?_;refine Qg [(12,_)] Qw Bv (Qg [(13,_)] Qw Cw (Qg [] Qw Iw ?_));refine Yh [(15,_)] Qw (fun hG=>Dd tok rfl rfl rfl rfl (by omega) (J4 (i:=1) (by have h9:=g1 hG;simp at h9;omega))) ?_;refine Qg [(16,_)] Qw Bv (Qg [(14,_),(17,_)] Qw G4 (Qp Mu (Qp Bl (Br (fun hc1=>?_) fun hc1=>?_))))
 .
  refine Ab (Qp Iw ?_);refine Qp (Dd tok rfl rfl rfl rfl (by omega) (J4 (i:=1) (by simp at hc1;omega))) ?_;refine Qp (An (v:=.int .u8 _) rfl) ?_;refine Qp A3 (Ra ?_);refine Py (.int .u8 _) (Iq _) ?_;simp only [Af,Kg];rw [if_pos hc1]
  done
 refine Ab (Qp Iw ?_);refine Qp (D7 tok rfl rfl rfl rfl) ?_;refine Qp Lm (Qp Cw (Qg [] Qw Iw ?_));refine Yh [(27,_)] Qw (fun hG=>Dd tok rfl rfl rfl rfl (by omega) (J4 (i:=1) (by have h9:=g1 hG;simp at h9;omega))) ?_;refine Qg [(28,_)] Qw Bv (Qp Mu (Qp Bl (Br (fun hc2=>?_) fun hc2=>?_)))
 .
  refine AW.seq ?_;refine Oe ?_;refine Qn 0 rfl Iw ?_;refine Qn 1 rfl (Dd tok rfl rfl rfl rfl (by omega) (J4 (i:=2) (by simp at hc2;omega))) ?_;refine Qn 2 rfl (Qc rfl (k53 iK _)) ?_;refine Qn 3 rfl Iw ?_;refine Qn 4 rfl (Dd tok rfl rfl rfl rfl (by omega) (J4 (i:=3) (by simp at hc2;omega))) ?_;refine Qn 5 rfl (Qc rfl (k53 iK _)) ?_;refine Qn 6 rfl A3 (Qn 7 rfl A3 ?_);refine Jr ?_;refine Ap (Ab (Qp Ax (Qp Lm (Qp Cw (Qg [] Qw Ax (Qg [(40,_)] Qw Lm (Qp Mu (Br (fun hc3=>?_) fun hc3=>?_))))))))
  .
   refine AW.seq ?_;have hh1:=hexI_le (bt s 2);have hh2:=hexI_le (bt s 3);unfold sU at hh1 hh2;refine AW.region (Qp Ax ?_);refine Qp (P_mul rfl rfl rfl (by constructor <;> omega)) ?_;refine Qp Ax (Qp Ii ?_);refine Qp (jV (m:=((rQ (16*sU (bt s 2)+sU (bt s 3))).toNat:Int)) tok rfl rfl rfl rfl rfl (byteOf_eq _)) ?_;refine Qp (An (v:=.int .u8 _) rfl) ?_;refine Qp A3 (Ra ?_);refine Py (.int .u8 _) (Iq _) ?_;simp only [Af,Kg];rw [iN hc1];rw [if_pos hc2];rw [if_pos hc3]
   done
  refine Rf (Ab ?_);refine Qp (An (v:=.int .u8 _) rfl) ?_;refine Qp A3 (Rb ?_);refine Py (.int .u8 _) (Iq _) ?_;simp only [Af,Kg];rw [iN hc1];rw [if_pos hc2];rw [iN hc3];rfl
 refine Rf (Ab ?_);refine Qp (An (v:=.int .u8 _) rfl) ?_;refine Qp A3 (Rb ?_);refine Py (.int .u8 _) (Iq _) ?_;simp only [Af,Kg];rw [iN hc1];rw [iN hc2];rfl
theorem sign_get (k:Nat)(h:k<17):Nz[k]? = some (.str (qX.getD k [])):=by
 have e:Nz=qX.map AV.str:=rfl;rw [e,List.getElem?_map];have h':k<qX.length:=h;simp [Dm,List.getElem?_eq_getElem h']
theorem sign_step {s:Ac}{k:Nat}(h:k<17)(hc:Lib.hasPrefix s (qX.getD k [])=false):It s (qX.drop k)=It s (qX.drop (k+1)):=by
 have h':k<qX.length:=h;rw [Sr h'];have e:qX.getD k []=qX[k]:=by simp [Dm,List.getElem?_eq_getElem h']
 rw [e] at hc;rw [It,iN hc]
theorem sign_stop {s:Ac}{k:Nat}(h:k<17)(hc:Lib.hasPrefix s (qX.getD k [])=true):It s (qX.drop k)=Xf 3 (qX.getD k []) (qX.getD k []).length:=by
 have h':k<qX.length:=h;rw [Sr h'];have e:qX.getD k []=qX[k]:=by simp [Dm,List.getElem?_eq_getElem h']
 rw [e] at hc ⊢;rw [It,if_pos hc]
theorem c54 (s:Ac)(hl:s.length<=1048576)(h0:0<s.length):Au Tryz.prog 145 [.str s] (.agg (cFo (Lq s))):=by
 refine G3 20 Tryz.func145 rfl fun H=>?_
 refine Ab (E8 ghy fun b2=>A7 (Cj (Qp Iw ?_)));refine Qp (Dd tok rfl rfl rfl rfl (by omega) (J4 (i:=0) h0)) ?_;refine Qp (Qc rfl (c43 _)) (Qp Ke (Br (fun hc1=>Ab (Qp (Gz Oj) ?_)) fun hc1=>B8 (Ab (Qp Iw ?_))))
 .
  refine B4 0 Oj (_::_) (Rc ?_);refine Yx [.agg Oj] (Zb 0) S1 ?_;simp only [Af,Lq];rw [if_pos hc1];rfl
 refine Qp (Qc rfl (c38 s hl 183 E4 (by kernel_rfl) c69)) ?_;refine Qp A3 (A7 (Cj (Qp Ax (Qp Jj (Br (fun hc2=>Ab (Qp (Gz Oj) ?_)) fun hc2=>B8 (Ab (Qp Iw (Qp Ax (Qp (Mc (l:=0) (h:=Bd E4 s) tok rfl rfl rfl (rfl) (⟨_,rfl⟩) (Bk _) (Kc _ _) (T3)) (Qp (Gz wP) (Qp Ax (Qp (Gz Oj) ?_))))))))))))
 .
  refine B4 0 Oj (_::_) (Rc ?_);refine Yx [.agg Oj] (Zb 0) S1 ?_;simp only [Af,Lq];rw [iN hc1];rw [if_pos hc2];rfl
 refine B4 0 Oj (_::_) (Rb ?_);refine Yx [.agg Oj] (Zb 0) S1 ?_;simp only [Af,Lq];rw [iN hc1];rw [iN hc2];rfl
theorem c55 (s:Ac)(hl:s.length<=1048576)(h0:0<s.length):Au Tryz.prog 146 [.str s] (.agg (cFo (Gy s))):=by
 refine G3 40 Tryz.func146 rfl fun H=>?_
 refine Ab (E8 ghy fun b2=>Cf (Qp Iw ?_));refine Qp (Qc rfl (c38 s hl 54 A5 (by kernel_rfl) c39)) ?_;refine Qp A3 (A7 (Cj (Qp Ax (Qp Bv (Br (fun hc1=>Ab (Qp (Gz Oj) ?_)) fun hc1=>B8 (Cj (Qp Iw (Qp Ax (Qp (Mc (l:=0) (h:=Bd A5 s) tok rfl rfl rfl (rfl) (⟨_,rfl⟩) (Bk _) (Kc _ _) (T3)) ?_)))))))))
 .
  refine B4 0 Oj (_::_) (Rc ?_);refine Yx [.agg Oj] (Zb 0) S1 ?_;simp only [Af,Gy];rw [if_pos hc1];rfl
 refine Qp (Qc rfl (c18 (s.take (Bd A5 s)) (by rw [Gv];omega))) ?_;refine Qp Wz (Qp Wt (Qp Wt (Qp A3 (Qp A3 (Cf (Qp Ax (Qp Cq (Br (fun hc2=>Ab (Qp Ax (Qp (Gz Oj) ?_))) fun hc2=>B8 (Cj (Qp Ax (Qp Iw (Qp (D7 tok rfl rfl rfl rfl) (Qp C5 (Qp Cw (Qg [] Qw Iw (Qg [] Qw Ax ?_))))))))))))))))
 .
  refine B4 0 Oj (_::_) (Rc ?_);refine Yx [.agg Oj] (Zb 0) S1 ?_;simp only [Af,Gy];rw [iN hc1];rw [if_pos hc2];rfl
 refine Yh [(27,_),(28,_)] Yw (fun hG=>Dd tok rfl rfl rfl rfl (by omega) (J4 (i:=Bd A5 s) (by have h9:=g1 hG;simp at h9;exact h9))) ?_;refine Qg [(29,_)] Qw (Qc rfl (c43 _)) (Qp Mu (Br (fun hc3=>Ab (Qp Ax (Qp (Gz Oj) ?_))) fun hc3=>B8 (Ab (Qp Iw (Qp Ax (Qp (Mc (l:=0) (h:=Bd A5 s) tok rfl rfl rfl (rfl) (⟨_,rfl⟩) (Bk _) (Kc _ _) (T3)) (Qp (Gz wP) (Qp Ax (Qp (Gz Oj) ?_)))))))))
 .
  refine B4 0 Oj (_::_) (Rc ?_);refine Yx [.agg Oj] (Zb 0) S1 ?_;simp only [Af,Gy];rw [iN hc1];rw [iN hc2];rw [if_pos hc3];rfl
 refine B4 0 Oj (_::_) (Rb ?_);refine Yx [.agg Oj] (Zb 0) S1 ?_;simp only [Af,Gy];rw [iN hc1];rw [iN hc2];rw [iN hc3];rfl
theorem c57 (s:Ac):Au Tryz.prog 148 [.str s] (.agg (cFo (Ni s))):=by
 refine G3 19 Tryz.func148 rfl fun H=>?_
 refine Ab (E8 ghy fun b2=>A7 (Cj ?_));refine Qp (Wy (l:=Nz) tok (⟨_,by simp [globals],fun _ h=>h⟩) rfl rfl rfl rfl) ?_;refine Qp Ax (A7 (AW.block ?_));refine AW.Aan (fun (k:Nat)=>(⟨[(0,.str s),(2,.val (.pointer (some ⟨b2,0,none⟩))),(5,.agg Nz),(6,.int .i64 (k:Int))],.box b2 164 ghy::H,19⟩:St)) (fun k=>k<=17/\Ni s=It s (qX.drop k)) (fun k=>17-k) (0) ?_ Dp ?_
 . exact ⟨Bk _,rfl⟩
 rintro k hR;refine Ab (Qp C5 (Re (Hs (fun hc1=>?_) fun hc1=>?_)))
 .
  have hk:k<17:=by simp at hc1;omega
  refine B8 (AW.seq (AW.block (Ab ?_)));refine Qp (Wx (c:=.str (qX.getD k [])) tok rfl rfl rfl rfl rfl rfl rfl (by omega) (by omega) (sign_get k hk)) ?_;refine Qp Nb (Cf (Qp Iw (Qp Iw (Qp (Qc rfl (k28 _ _)) (Br (fun hc2=>Ab (Qp Iw (Qp (Gz wP) (Qp Iw (Qp (D7 tok rfl rfl rfl rfl) (Qp (Gz Oj) ?_)))))) fun hc2=>Rf (AW.region (Qp Ii (Qp Ax (A7 ?_)))))))))
  .
   refine B4 0 Oj (_::_) (Ra (Bc (Ep (Bc ?_))));refine Yx [.agg Oj] (Zb 0) S1 ?_;have h9:=hR.2.trans (sign_stop hk hc2);rw [h9];rfl
  refine ⟨k+1,?_,?_,Dp⟩
  . exact ⟨hk,hR.2.trans (sign_step hk hc2)⟩
  omega
 have hk:k=17:=by simp at hc1;have:=hR.1;omega
 refine AW.exit ?_;refine B9 (Ri (Ab (Qp (Gz Oj) ?_)));refine B4 0 Oj (_::_) (Rb ?_);refine Yx [.agg Oj] (Zb 0) S1 ?_;have h9:Ni s=Lp 0 4:=by rw [hR.2,hk];rfl
 rw [h9];rfl
theorem Rr {s:Ac}{n i:Nat}{b:Ac}(h:0<n):Fz s n i b =
  if decide ((i:Int)<(s.length:Int)) then
   if (((bt s i).toNat:Int)==34) then
    if decide (64<(b.length:Int)) then Lp 0 13 else Xf 2 b ((i:Int)+1)
   else if (((bt s i).toNat:Int)==92) then
    if ((Kg (s.drop i)).2==0) then Lp i 4 else Fz s (n-1) (i+(Kg (s.drop i)).2.toNat) (b ++ [(Kg (s.drop i)).1])
   else if (decide (((bt s i).toNat:Int)<32)||decide (126<((bt s i).toNat:Int))) then Lp i 4
   else Fz s (n-1) (i+1) (b ++ [bt s i])
  else Lp s.length 4:=by
 cases n with
 | zero=>omega
 | succ n=>rfl
theorem esc_le (t:Ac):0<=(Kg t).2/\(Kg t).2<=t.length:=by
 unfold Kg;split
 . rename_i h;simp at h;simp;omega
 split
 .
  rename_i h;simp at h;split <;> simp;omega
 simp
theorem bcells_one (b:Ac)(c:UInt8):D3 (b ++ [c])=D3 b ++ [[AV.int .u8 (c.toNat:Int)]]:=To b [c]
theorem yZ {es:List (List AV)}{b:Ac}(h:es=D3 b)(c:UInt8):es ++ [[AV.int .u8 (c.toNat:Int)]]=D3 (b ++ [c]):=by rw [h,bcells_one]
theorem xF {b:Ac}{n m:Nat}(h:b.length<=n)(hm:n<m)(c:UInt8):(b ++ [c]).length<=m:=by simp;omega
def recL:List (List AV):=[[.fn (.func 145) [] []],[.fn (.func 146) [] []],[.fn (.func 147) [] []]]
def recF:Nat->Ac->Fo
 | 0,s=>Lq s
 | 1,s=>Gy s
 | _,s=>Mq s
theorem rec_get (k:Nat)(h:k<3):recL[k]? = some [.fn (.func (145+k)) [] []]:=by
 match k,h with
 | 0,_=>rfl
 | 1,_=>rfl
 | 2,_=>rfl
theorem rec_fn (k:Nat)(h:k<3):Y0 Tryz.prog (145+k)=true:=by
 match k,h with
 | 0,_=>exact (by kernel_rfl:Y0 Tryz.prog 145=true)
 | 1,_=>exact (by kernel_rfl:Y0 Tryz.prog 146=true)
 | 2,_=>exact (by kernel_rfl:Y0 Tryz.prog 147=true)
theorem next_hit {s:Ac}{k:Nat}(h:k<3)(hk:∀j,j<k->M0 (recF j s)=false)(hc:M0 (recF k s)=true):By s=recF k s:=by
 unfold By
 match k,h with
 | 0,_=>rw [if_pos (show M0 (Lq s)=true from hc)];rfl
 | 1,_=>rw [if_neg (zqal52.mp (show M0 (Lq s)=false from hk 0 (by omega))),if_pos (show M0 (Gy s)=true from hc)];rfl
 | 2,_=>rw [if_neg (zqal52.mp (show M0 (Lq s)=false from hk 0 (by omega))),if_neg (zqal52.mp (show M0 (Gy s)=false from hk 1 (by omega))),if_pos (show M0 (Mq s)=true from hc)];rfl
theorem next_none {s:Ac}(hk:∀j,j<3->M0 (recF j s)=false):By s=Ni s:=by
 unfold By;rw [if_neg (zqal52.mp (show M0 (Lq s)=false from hk 0 (by omega))),if_neg (zqal52.mp (show M0 (Gy s)=false from hk 1 (by omega))),if_neg (zqal52.mp (show M0 (Mq s)=false from hk 2 (by omega)))]
theorem c56 (s:Ac)(hl:s.length<=1048576)(h0:0<s.length):Au Tryz.prog 147 [.str s] (.agg (cFo (Mq s))):=by
 refine G3 71 Tryz.func147 rfl fun H=>?_
 refine Ab (E8 ghy fun b2=>A7 (Cj (Qp Iw ?_)));refine Qp (Dd tok rfl rfl rfl rfl (by omega) (J4 (i:=0) h0)) ?_;refine Qp Cq (Br (fun hc1=>Ab (Qp (Gz Oj) ?_)) fun hc1=>B8 (Ab (Qp Tm ?_)))
 .
  refine B4 0 Oj (_::_) (Rc ?_);refine Yx [.agg Oj] (Zb 0) S1 ?_;simp only [Af,Mq];rw [if_pos hc1];rfl
 refine AOL.ghost (GS.row (t:=3) 5 1 rfl) ?_;refine A7 (Cj (Qp A3 (A7 (AW.block ?_))));refine AW.Aan (fun (p:Nat×Nat×Ac×List (List AV)×Value)=>(⟨[(0,.str s),(2,.val (.pointer (some ⟨b2,0,none⟩))),(3,.row p.2.2.2.2 1 p.2.2.2.1),(4,.int .i64 (p.2.1:Int))],.row p.2.2.2.2 p.2.2.2.1.length 5 1 :: .box b2 164 ghy::H,71⟩:St)) (fun p=>p.2.1<=s.length/\s.length<p.1+p.2.1/\p.2.2.2.1=D3 p.2.2.1/\p.2.2.1.length<=p.2.1/\Fz s (s.length+1) 1 []=Fz s p.1 p.2.1 p.2.2.1) (fun p=>p.1) ((s.length+1,1,[],[],.slice none 0 0)) ?_ Dp ?_
 . exact ⟨h0,by simp only;omega,rfl,Bk _,rfl⟩
 rintro p hR;have hle:p.2.1<=s.length:=hR.1;have hfu:s.length<p.1+p.2.1:=hR.2.1;have hes:p.2.2.2.1=D3 p.2.2.1:=hR.2.2.1;have hbl:p.2.2.1.length<=p.2.1:=hR.2.2.2.1;have hn:0<p.1:=by omega
 have hsc:∀c∈p.2.2.2.1,Av c=true:=by rw [hes];exact zH _
 have hel:p.2.2.2.1.length<=s.length:=by rw [hes,Tp];omega
 refine Cj (Qp Ax (Qp Iw (Qp (D7 tok rfl rfl rfl rfl) (Qp C5 (Br (fun hc2=>?_) fun hc2=>AW.exit ?_)))))
 .
  have hi:p.2.1<s.length:=by simp at hc2;omega
  have hel2:=esc_le (s.drop p.2.1);rw [Eh] at hel2;refine B8 (AW.block (Ab (Qp Iw (Qp Ax ?_))));refine Qp (Dd tok rfl rfl rfl rfl (by omega) (J4 (i:=p.2.1) hi)) ?_;refine Qp (An (v:=.int .u8 _) rfl) (A7 (AW.block (Ab (Qp (Ai (v:=.int .u8 _) rfl) (Qp Bv (Qp Bl (Br (fun hc3=>Cj (Qp (Ai (v:=.row _ _ _) rfl) ?_)) fun hc3=>?_)))))))
  .
   refine Qp (Ho (n:=p.2.2.1.length) tok rfl rfl rfl (by rw [hes,Tp])) ?_;refine Qp Jj (Br (fun hc4=>Ab (Qp (Gz Oj) ?_)) fun hc4=>B8 (Ab (Qp (Ai (v:=.row _ _ _) rfl) ?_)))
   .
    refine B4 1 Oj (_::_::_) (Rc (Ep (Ep (Bc (Ep (Bc ?_))))));refine Yx [.agg Oj] (Zb 1) S2 ?_
    have h9:Mq s=Lp 0 13:=by
     unfold Mq;rw [iN hc1,hR.2.2.2.2,Rr hn,if_pos hc2,if_pos hc3,if_pos hc4]
    rw [h9];rfl
   refine Qp (jU (s:=p.2.2.1) tok rfl rfl rfl rfl rfl rfl rfl (by simp [maxLen];omega) (as_row hes)) ?_;refine Qp (Gz wP) (Qp Ax (Qp Ii (Qp (Gz Oj) ?_)));refine B4 1 Oj (_::_::_) (Rb (Ep (Ep (Bc (Ep (Bc ?_))))));refine Yx [.agg Oj] (Zb 1) S2 ?_
   have h9:Mq s=Xf 2 p.2.2.1 ((p.2.1:Int)+1):=by
    unfold Mq;rw [iN hc1,hR.2.2.2.2,Rr hn,if_pos hc2,if_pos hc3,iN hc4]
   rw [h9];rfl
  refine Ab (Qp (Ai (v:=.int .u8 _) rfl) (Qp Bv (Qp Bl (Br (fun hc5=>Ab (Qp Iw (Qp Ax (Qp (Mc (l:=p.2.1) (h:=s.length) tok rfl rfl rfl (⟨_,rfl⟩) (rfl) (hle) (Be _) (congrArg (List.drop _) Sm)) ?_)))) fun hc5=>Ab (Qp (Ai (v:=.int .u8 _) rfl) (Qp C5 (Qp Cw (Qg [] Qw (Ai (v:=.int .u8 _) rfl) (Qg [(63,_)] Qw Jj (Qp G4 (Qp Bl (Br (fun hc7=>Ab (Qp Ax (Qp (Gz Oj) ?_))) fun hc7=>Ab (Qp (Ai (v:=.row _ _ _) rfl) (Qp (Ai (v:=.int .u8 _) rfl) (Qp (Kf ([[.int .u8 _]]) rfl) ?_)))))))))))))))
  .
   refine Qp (Qc rfl (c70 (s.drop p.2.1) (by rw [Eh];omega))) ?_;refine Qp Wz (Qp (Bm (v:=.int .u8 _) rfl rfl) (Qp Wt (Qp (An (v:=.int .u8 _) rfl) (Qp A3 (A7 (Cj (Qp Ax (Qp Bv (Br (fun hc6=>Ab (Qp Ax (Qp (Gz Oj) ?_))) fun hc6=>?_)))))))))
   .
    refine B4 1 Oj (_::_::_) (Rc (Ep (Ep (Bc (Ep (Bc ?_))))));refine Yx [.agg Oj] (Zb 1) S2 ?_
    have h9:Mq s=Lp p.2.1 4:=by
     unfold Mq;rw [iN hc1,hR.2.2.2.2,Rr hn,if_pos hc2,iN hc3,if_pos hc5,if_pos hc6]
    rw [h9];rfl
   have hne:(Kg (s.drop p.2.1)).2≠0:=by simpa using hc6
   refine B8 (Ab (Qp (Ai (v:=.row _ _ _) rfl) (Qp (Ai (v:=.int .u8 _) rfl) (Qp (Kf ([[.int .u8 _]]) rfl) ?_))));refine Qe (Zq 0 rfl (Ff rfl) (hsc) (by simp;omega) (by simp [maxLen];omega)) ?_;rintro _ _ ⟨v55,rfl,rfl⟩;refine Qp (An (v:=.row _ _ _) rfl) (A7 (AW.region (Qp Ax (Qp Ax (Qp Ii (Qp A3 (AOL.nil (Km (Km (Ap ?_))))))))));refine ⟨(p.1-1,p.2.1+(Kg (s.drop p.2.1)).2.toNat,p.2.2.1 ++ [(Kg (s.drop p.2.1)).1],p.2.2.2.1 ++ [[.int .u8 ((Kg (s.drop p.2.1)).1.toNat:Int)]],v55),?_,?_,GS.weaken ⟨rfl,rfl,rfl,congrArg (AV.int .i64) (by simp only;omega),trivial⟩ (.refl _)⟩
   . exact ⟨by simp only;omega,by simp only;omega,yZ hes _,xF hbl (by simp only;omega) _,hR.2.2.2.2.trans (by rw [Rr hn,if_pos hc2,iN hc3,if_pos hc5,iN hc6])⟩
   simp only;omega
  .
   refine B4 1 Oj (_::_::_) (Rb (Ep (Ep (Bc (Ep (Bc ?_))))));refine Yx [.agg Oj] (Zb 1) S2 ?_
   have h9:Mq s=Lp p.2.1 4:=by
    unfold Mq;rw [iN hc1,hR.2.2.2.2,Rr hn,if_pos hc2,iN hc3,iN hc5,if_pos hc7]
   rw [h9];rfl
  refine Qe (Zq 0 rfl (Ff rfl) (hsc) (by simp;omega) (by simp [maxLen];omega)) ?_;rintro _ _ ⟨v22,rfl,rfl⟩;refine Qp (An (v:=.row _ _ _) rfl) (A7 (AW.region (Qp Ax (Qp Ii (Qp A3 (AOL.nil (Km (Km (Ap ?_)))))))));refine ⟨(p.1-1,p.2.1+1,p.2.2.1 ++ [bt s p.2.1],p.2.2.2.1 ++ [[.int .u8 ((bt s p.2.1).toNat:Int)]],v22),?_,?_,Dp⟩
  . exact ⟨by simp only;omega,by simp only;omega,yZ hes _,xF hbl (by simp only;omega) _,hR.2.2.2.2.trans (by rw [Rr hn,if_pos hc2,iN hc3,iN hc5,iN hc7])⟩
  simp only;omega
 refine B9 (Ri (Ab (Qp Iw ?_)));refine Qp (D7 tok rfl rfl rfl rfl) (Qp (Gz Oj) ?_);refine B4 1 Oj (_::_::_) (Rb ?_);refine Yx [.agg Oj] (Zb 1) S2 ?_
 have h9:Mq s=Lp s.length 4:=by
  unfold Mq;rw [iN hc1,hR.2.2.2.2,Rr hn,iN hc2]
 rw [h9];rfl
theorem rec_call (s:Ac)(hl:s.length<=1048576)(h0:0<s.length)(k:Nat)(h:k<3):Au Tryz.prog (145+k) [.str s] (.agg (cFo (recF k s))):=by
 match k,h with
 | 0,_=>exact c54 s hl h0
 | 1,_=>exact c55 s hl h0
 | 2,_=>exact c56 s hl h0
theorem c33 (s:Ac)(hl:s.length<=1048576)(h0:0<s.length):Au Tryz.prog 82 [.str s] (.agg (cFo (By s))):=by
 refine G3 27 Tryz.func82 rfl fun H=>?_
 refine Ab (E8 ghy fun b2=>A7 (Cj (Qp (Kf ([[_],[_],[_]]) rfl) (Qp (bN tok rfl rfl rfl rfl) (Qp Ax (A7 (AW.block ?_)))))));refine AW.Aan (fun (k:Nat)=>(⟨[(0,.str s),(2,.val (.pointer (some ⟨b2,0,none⟩))),(6,.sl 1 recL),(7,.int .i64 3),(8,.int .i64 (k:Int))],.box b2 164 ghy::H,27⟩:St)) (fun k=>k<=3/\∀j,j<k->M0 (recF j s)=false) (fun k=>3-k) (0) ?_ Dp ?_
 . exact ⟨Bk _,fun j hj=>absurd hj (Nat.not_lt_zero _)⟩
 rintro k hR;refine Ab (Qp C5 (Re (Hs (fun hc1=>?_) fun hc1=>?_)))
 .
  have hk:k<3:=by simp at hc1;omega
  refine B8 (AW.seq (AW.block (Ab ?_)));refine Qp (F5 ([.fn (.func (145+k)) [] []]) rfl rfl (by omega) (rec_get k hk)) ?_;refine Qp (E1 (c:=.fn _ _ _) tok rfl rfl rfl) (Qp (An (v:=.fn _ _ _) rfl) (Cf (Qp (Ai (v:=.fn _ _ _) rfl) (Qp Iw (Qp (Tl (rec_fn k hk) rfl rfl rfl (rec_call s hl h0 k hk)) (E8 ghy fun b5=>?_))))));refine B4 0 Oj (_::_::_) ?_;refine Me 5 0 rfl ?_;refine Cf (Qp (Qf [Iq _,Iq _,Iq _]) (Qp B7 (Qp Jj (Qp Cw (Qg [] Qw (Qf [Iq _]) (Qg [(19,_)] Qw B7 (Qg [(20,_)] Qw Cq (Qp G4 (Br (fun hc2=>Ab (Qp (C8 Oj) ?_)) fun hc2=>Rf (AW.region (Qp Ii (Qp Ax (A7 ?_)))))))))))))
  .
   refine B4 0 Oj (_::_) (Ra (Bc (Ep (Bc ?_))));refine Yx [.agg Oj] (Zb 0) S1 ?_;rw [next_hit hk hR.2 hc2];rfl
  refine ⟨k+1,?_,?_,Dp⟩
  . exact ⟨hk,fun j hj=>by rcases dQ.1 hj with h | rfl;exact hR.2 j h;exact hc2⟩
  omega
 have hk:k=3:=by simp at hc1;have:=hR.1;omega
 refine AW.exit ?_;refine B9 (Ri (Ab (Qp Iw ?_)));refine Qp (Qc rfl (c57 s)) ?_;refine B4 0 Oj (_::_) (Rb ?_);refine Yx [.agg Oj] (Zb 0) S1 ?_;have h9:By s=Ni s:=by subst hk;exact next_none hR.2
 rw [h9];rfl
theorem uB (t:Ac):0<=Jw t/\(0<t.length->Jw t<=t.length):=by
 unfold Jw;have:=Kc xH t;split
 . omega
 split <;> omega
theorem sign_le (t:Ac):∀l:List Ac,(∀x∈l,0<x.length)->(It t l).err=4/\(It t l).pos=0/\(It t l).bytes=0\/(It t l).err=0/\(It t l).pos=0/\0<(It t l).bytes/\(It t l).bytes<=t.length
  | [],_=>.inl ⟨rfl,rfl,rfl⟩
  | x::r,h=>by
    unfold It;split
    . rename_i hp
      right;have hpre:x.isPrefixOf t=true:=hp;have:=(gG.1 hpre).length_le;have h2:=h x (by simp);exact ⟨rfl,rfl,by show (0:Int)<(x.length:Int);omega,by show (x.length:Int)<=_;omega⟩
    exact sign_le t r fun y hy=>h y (by simp [hy])
theorem lW (s:Ac):∀(n i:Nat) (b:Ac),i<=s.length->0<=(Fz s n i b).pos/\(Fz s n i b).pos<=s.length/\0<=(Fz s n i b).bytes/\(Fz s n i b).bytes<=s.length
  | 0,i,b,_=>by simp [Fz,Lp]
  | n+1,i,b,hi=>by
    unfold Fz;split
    . rename_i h;simp at h
      split
      . split
        . simp [Lp]
        simp [Xf];omega
      . split
        . split
          . simp [Lp];omega
          . rename_i h3
            have he:=esc_le (s.drop i);rw [Eh] at he;exact lW s n _ _ (by omega)
        . split
          . simp [Lp];omega
          exact lW s n _ _ (by omega)
    simp [Lp]
theorem Y5 (t:Ac)(h0:0<t.length):0<=(By t).pos/\(By t).pos<=t.length/\0<=(By t).bytes/\(By t).bytes<=t.length/\((By t).err=0->0<(By t).bytes):=by
 have hit:∀f:Fo,M0 f=true->(f.err=0->0<f.bytes):=fun f h e=>by
  unfold M0 at h;rw [e] at h;simpa using h
 unfold By;split
 .
  rename_i h;have:=Kc E4 t;refine ⟨?_,?_,?_,?_,hit _ h⟩ <;> (unfold Lq;split <;> (try split) <;> simp [foZ,Lp,Xf,Pw] <;> omega)
 split
 .
  rename_i h;have:=Kc A5 t;refine ⟨?_,?_,?_,?_,hit _ h⟩ <;> (unfold Gy;split <;> (try split) <;> (try split) <;> simp [foZ,Lp,Xf,Pw] <;> omega)
 split
 .
  rename_i h
  have hl:0<=(Mq t).pos/\(Mq t).pos<=t.length/\0<=(Mq t).bytes/\(Mq t).bytes<=t.length:=by
   unfold Mq;split
   . simp [foZ]
   exact lW t _ _ _ (by omega)
  exact ⟨hl.1,hl.2.1,hl.2.2.1,hl.2.2.2,hit _ h⟩
 rcases sign_le t qX (by decide) with h | h
 . unfold Ni;rw [h.1,h.2.1,h.2.2];simp
 unfold Ni;rw [h.1,h.2.1];omega
theorem Zi {s:Ac}{n i:Nat}{out:List Tok}(h:0<n):Ks s n i out =
  if decide ((i:Int)<(s.length:Int)) then
   if decide (0<Jw (s.drop i)) then Ks s (n-1) (i+(Jw (s.drop i)).toNat) out
   else if ((By (s.drop i)).err != 0) then (([],(i:Int)+(By (s.drop i)).pos,(By (s.drop i)).err):List Tok×Int×Int)
   else Ks s (n-1) (i+(By (s.drop i)).bytes.toNat) (out ++ [⟨(By (s.drop i)).tok.kind,(By (s.drop i)).tok.text,i⟩])
  else (out,0,0):=by
 cases n with
 | zero=>omega
 | succ n=>rfl
theorem tok_next {es:List (List AV)}{out:List Tok}(h:es=out.map xK)(t:Tok):es ++ [[AV.int .i64 t.kind,.str t.text,.int .i64 t.pos]]=(out ++ [t]).map xK:=by rw [h,Di];rfl
theorem sc_tok (l:List Tok):∀x∈l.map xK,Av x=true:=sc_map fun _=>rfl
def cScan (p:List Tok×Int×Int):AV:=.tuple [.sl 3 (p.1.map xK),.int .i64 p.2.1,.int .i64 p.2.2]
theorem c13 (s:Ac)(hl:s.length<=1048576):Au Tryz.prog 38 [.str s] (cScan (Cy s)):=by
 refine G3 51 Tryz.func38 rfl fun H=>?_
 refine Ab ?_;refine Qp (Ck (z:=3) rfl) ?_;refine Qp A3 (Qp A3 (A7 (Cj (Qp Iw ?_))));refine Qp (D7 tok rfl rfl rfl rfl) ?_;refine Qp Jj (Br (fun hc1=>?_) fun hc1=>?_)
 .
  refine Ab ?_;refine Qp (Ck (z:=3) rfl) ?_;refine Qp A3 (Qp A3 (Rc ?_));refine Yx [.sl _ _,Iq _,Iq _] Zg S0 ?_;have h9:Cy s=([],0,13):=by unfold Cy;rw [if_pos hc1]
  rw [h9];rfl
 refine B8 (Ab (Qp Tm ?_));refine AOL.ghost (GS.row (t:=5) 162 3 rfl) ?_;refine A7 (Cj (Qp A3 (A7 (AW.block ?_))));refine AW.Aan (fun (p:Nat×Nat×List Tok×List (List AV)×Value)=>(⟨[(0,.str s),(5,.row p.2.2.2.2 3 p.2.2.2.1),(6,.int .i64 (p.2.1:Int))],.row p.2.2.2.2 p.2.2.2.1.length 162 3::H,51⟩:St)) (fun p=>p.2.1<=s.length/\s.length<p.1+p.2.1/\p.2.2.2.1=p.2.2.1.map xK/\p.2.2.1.length<=p.2.1/\Ks s (s.length+1) 0 []=Ks s p.1 p.2.1 p.2.2.1) (fun p=>p.1) ((s.length+1,0,[],[],.slice none 0 0)) ?_ Dp ?_
 . exact ⟨Bk _,by simp only;omega,rfl,Bk _,rfl⟩
 rintro p hR;have hle:p.2.1<=s.length:=hR.1;have hfu:s.length<p.1+p.2.1:=hR.2.1;have hes:p.2.2.2.1=p.2.2.1.map xK:=hR.2.2.1;have hbl:p.2.2.1.length<=p.2.1:=hR.2.2.2.1;have hn:0<p.1:=by omega
 have hsc:∀c∈p.2.2.2.1,Av c=true:=by rw [hes];exact sc_tok _
 have hel:p.2.2.2.1.length<=s.length:=by rw [hes,Bg];omega
 refine Cj (Qp Ax (Qp Iw ?_));refine Qp (D7 tok rfl rfl rfl rfl) ?_;refine Qp C5 (Br (fun hc2=>?_) fun hc2=>?_)
 .
  have hi:p.2.1<s.length:=by simp at hc2;omega
  have hsp:=uB (s.drop p.2.1);have hnx:=Y5 (s.drop p.2.1) (by rw [Eh];omega);rw [Eh] at hsp hnx;have hsp1:=hsp.1;have hsp2:=hsp.2 (by omega);have hn1:=hnx.1;have hn2:=hnx.2.1;have hn3:=hnx.2.2.1;have hn4:=hnx.2.2.2.1;refine B8 (AW.block (Cj (Qp Iw (Qp Ax ?_))));refine Qp (Mc (l:=p.2.1) (h:=s.length) tok rfl rfl rfl (⟨_,rfl⟩) (rfl) (hle) (Be _) (congrArg (List.drop _) Sm)) ?_;refine Qp (Qc rfl (c32 (s.drop p.2.1) (by rw [Eh];omega) (by rw [Eh];omega))) ?_;refine Qp A3 (Cf (Qp Ax (Qp Jj (Br (fun hc3=>?_) fun hc3=>?_))))
  .
   have hpos:0<(Jw (s.drop p.2.1)):=by simpa using hc3
   refine Ab (Qp Ax (Qp Ax (Qp Ii (Qp A3 (A7 ?_)))));refine AW.exit ?_;refine Ri ?_;refine ⟨(p.1-1,p.2.1+(Jw (s.drop p.2.1)).toNat,p.2.2.1,p.2.2.2.1,p.2.2.2.2),?_,?_,GS.weaken ⟨rfl,rfl,congrArg (AV.int .i64) (by simp only;omega),trivial⟩ (.refl _)⟩
   . exact ⟨by simp only;omega,by simp only;omega,hes,by simp only;omega,hR.2.2.2.2.trans (by rw [Zi hn,if_pos hc2,if_pos hc3])⟩
   simp only;omega
  refine B8 (Ab (Qp Iw (Qp Ax ?_)));refine Qp (Mc (l:=p.2.1) (h:=s.length) tok rfl rfl rfl (⟨_,rfl⟩) (rfl) (hle) (Be _) (congrArg (List.drop _) Sm)) ?_;refine Qp (Qc rfl (c33 (s.drop p.2.1) (by rw [Eh];omega) (by rw [Eh];omega))) ?_;refine E8 ghy fun b8=>?_
  refine B4 0 Oj (_::_::_) ?_;refine A7 (Cj (Qp Dg ?_));refine Ua 0 (Iq _) rfl ?_;refine Qp Cq (Br (fun hc4=>?_) fun hc4=>?_)
  .
   refine AW.seq ?_;refine T6 0 rfl ?_;refine Qn 0 rfl Ax (Qn 1 rfl Dg ?_);refine Qn 2 rfl (Nc (Iq _) rfl) ?_;refine Qn 3 rfl Ii (Qn 4 rfl Dg ?_);refine Qn 5 rfl (Nc (Iq _) rfl) ?_;refine Qn 6 rfl (Ck (z:=3) rfl) ?_;refine Qn 7 rfl A3 (Qn 8 rfl A3 ?_);refine Jr ?_;refine Ap (oN (Ep (Bc (Ep (Bc ?_)))));refine Yx [.sl _ _,Iq _,Iq _] Zg S2 ?_
   have h9:Cy s=([],(p.2.1:Int)+(By (s.drop p.2.1)).pos,(By (s.drop p.2.1)).err):=by
    unfold Cy;rw [iN hc1,hR.2.2.2.2,Zi hn,if_pos hc2,iN hc3,if_pos hc4]
   rw [h9];first | done | rfl
  have hpos:=hnx.2.2.2.2 (by simpa using hc4);refine B8 (Ab (Qp Ax (Qp Dg (Qp Dg ?_))));refine B4 0 Oj (_::_::_) ?_;refine Cf ?_;refine Qp (Ai (v:=.row _ _ _) rfl) ?_;refine Qp Dg ?_;refine Tn 0 wP rfl ?_;refine Qp (Kf [wP] rfl) ?_;refine Qe (Zq 1 rfl (Ff rfl) (hsc) (by simp;omega) (by simp [maxLen];omega)) ?_;rintro _ _ ⟨v45,rfl,rfl⟩;refine Qp (An (v:=.row _ _ _) rfl) ?_;refine A7 (AW.region (Qp Ax (Qp Dg ?_)));refine Ua 0 (Iq _) rfl ?_;refine Qp Ii (Qp A3 (Rk ?_));refine ⟨(p.1-1,p.2.1+(By (s.drop p.2.1)).bytes.toNat,p.2.2.1 ++ [⟨(By (s.drop p.2.1)).tok.kind,(By (s.drop p.2.1)).tok.text,p.2.1⟩],p.2.2.2.1 ++ [[.int .i64 (By (s.drop p.2.1)).tok.kind,.str (By (s.drop p.2.1)).tok.text,.int .i64 (p.2.1:Int)]],v45),?_,?_,GS.weaken ⟨rfl,rfl,congrArg (AV.int .i64) (by simp only;omega),trivial⟩ (.cons _ (.refl _))⟩
  . exact ⟨by simp only;omega,by simp only;omega,tok_next hes ⟨(By (s.drop p.2.1)).tok.kind,(By (s.drop p.2.1)).tok.text,p.2.1⟩,by simp only [Al,A8,Bn];omega,hR.2.2.2.2.trans (by rw [Zi hn,if_pos hc2,iN hc3,iN hc4])⟩
  simp only;omega
 refine AW.exit ?_;refine B9 (Ri (Ab ?_));refine AOL.ghost (GS.unrow 5 rfl) ?_;refine Qp Ng (Qp rL (Qp A3 (Qp A3 (Rb ?_))));refine Yx [.sl _ _,Iq _,Iq _] Zg S1 ?_
 have h9:Cy s=(p.2.2.1,0,0):=by
  unfold Cy;rw [iN hc1,hR.2.2.2.2,Zi hn,iN hc2]
 rw [h9];simp only [Af,cScan,hes]
theorem Uv {p:UInt8->Bool}{s:Ac}{k:Nat}(hk:k<s.length)(h:p (bt s k)=true):0<Bd p (s.drop k):=by rw [U9 hk,Bd,if_pos h];omega
theorem get_ex {α:Type}{l:List α}{k:Nat}(h:k<l.length):∃x,l[k]? = some x:=⟨_,List.getElem?_eq_getElem h⟩
end Go.Proofs.YtibcelnfkhdjaaaGreatDoor
