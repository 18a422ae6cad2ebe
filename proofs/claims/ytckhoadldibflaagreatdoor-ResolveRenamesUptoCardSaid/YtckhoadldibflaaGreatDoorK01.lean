/-
  Several texts in one: Az, M. No condition.
-/
import Derived.Test.YtckhoadldibflaaGreatDoorAx
import Derived.Test.YtckhoadldibflaaGreatDoorTab
import Derived.KernelRfl
import Derived.Test.YtckhoadldibflaaGreatDoorAw
import Derived.Lib.IndexMore
import Derived.Lib.LastIndexLaws
import Derived.Lib.Join
set_option linter.unusedVariables false
set_option linter.unusedSimpArgs false
namespace Go.Proofs.YtckhoadldibflaaGreatDoor
open Go Go.Aw
set_option maxRecDepth 100000

section
variable {d:Option Nat} {ty:TypeId} {pos:String} {aft:Array Edge} {gd:Option (Nat×Bool)} {ρ:Operand→AV} {K:List HO→Prop}
theorem Al {x:Operand}{n:Int}(h:ρ x = .int .i64 n:=by exact rfl):Cm Tryz.prog ⟨d,.assign x,ty,pos,aft,gd⟩ ρ K (.int .i64 n):=A6 h
theorem Ao {x:Operand}{n:Int}(h:ρ x = .int .i64 n:=by exact rfl):Cm Tryz.prog ⟨d,.move x,ty,pos,aft,gd⟩ ρ K (.int .i64 n):=A1 h
theorem Bi {t:TypeId}{td:TD}{x:Operand}{n:Int}{cs:List AV}(h:ρ x = .ptr (.int .i64 n::cs):=by exact rfl)(ht:Bj TL t=some td:=by exact rfl)(ha:td.agg=false:=by exact rfl):Cm Tryz.prog ⟨d,.load t x,ty,pos,aft,gd⟩ ρ K (.int .i64 n):=Dj tok h ht ha
theorem Iu {x:Operand}{i:Nat}{vs:List AV}{n:Int}(h:ρ x = .tuple vs:=by exact rfl)(hv:vs[i]? = some (.int .i64 n):=by exact rfl):Cm Tryz.prog ⟨d,.extract x i,ty,pos,aft,gd⟩ ρ K (.int .i64 n):=B5 h hv
theorem A0 {x:Operand}{b:Bool}(h:ρ x = .bool b:=by exact rfl):Cm Tryz.prog ⟨d,.assign x,ty,pos,aft,gd⟩ ρ K (.bool b):=A6 h
theorem A9 {x:Operand}{b:Bool}(h:ρ x = .bool b:=by exact rfl):Cm Tryz.prog ⟨d,.move x,ty,pos,aft,gd⟩ ρ K (.bool b):=A1 h
theorem eV {t:TypeId}{td:TD}{x:Operand}{b:Bool}{cs:List AV}(h:ρ x = .ptr (.bool b::cs):=by exact rfl)(ht:Bj TL t=some td:=by exact rfl)(ha:td.agg=false:=by exact rfl):Cm Tryz.prog ⟨d,.load t x,ty,pos,aft,gd⟩ ρ K (.bool b):=Dj tok h ht ha
theorem eU {x:Operand}{i:Nat}{vs:List AV}{b:Bool}(h:ρ x = .tuple vs:=by exact rfl)(hv:vs[i]? = some (.bool b):=by exact rfl):Cm Tryz.prog ⟨d,.extract x i,ty,pos,aft,gd⟩ ρ K (.bool b):=B5 h hv
theorem eN {x:Operand}{z:Nat}{es:List (List AV)}(h:ρ x = .sl z es:=by exact rfl):Cm Tryz.prog ⟨d,.assign x,ty,pos,aft,gd⟩ ρ K (.sl z es):=A6 h
theorem G4 {x:Operand}{z:Nat}{es:List (List AV)}(h:ρ x = .sl z es:=by exact rfl):Cm Tryz.prog ⟨d,.move x,ty,pos,aft,gd⟩ ρ K (.sl z es):=A1 h
theorem Cw {t:TypeId}{td:TD}{x:Operand}{z:Nat}{es:List (List AV)}{cs:List AV}(h:ρ x = .ptr (.sl z es::cs):=by exact rfl)(ht:Bj TL t=some td:=by exact rfl)(ha:td.agg=false:=by exact rfl):Cm Tryz.prog ⟨d,.load t x,ty,pos,aft,gd⟩ ρ K (.sl z es):=Dj tok h ht ha
theorem Qxs {x:Operand}{i:Nat}{vs:List AV}{z:Nat}{es:List (List AV)}(h:ρ x = .tuple vs:=by exact rfl)(hv:vs[i]? = some (.sl z es):=by exact rfl):Cm Tryz.prog ⟨d,.extract x i,ty,pos,aft,gd⟩ ρ K (.sl z es):=B5 h hv
theorem Ua {x:Operand}{v:Value}(h:ρ x = .val v:=by exact rfl):Cm Tryz.prog ⟨d,.assign x,ty,pos,aft,gd⟩ ρ K (.val v):=A6 h
theorem Bm {x:Operand}{v:Value}(h:ρ x = .val v:=by exact rfl):Cm Tryz.prog ⟨d,.move x,ty,pos,aft,gd⟩ ρ K (.val v):=A1 h
theorem Il {t:TypeId}{td:TD}{x:Operand}{v:Value}{cs:List AV}(h:ρ x = .ptr (.val v::cs):=by exact rfl)(ht:Bj TL t=some td:=by exact rfl)(ha:td.agg=false:=by exact rfl):Cm Tryz.prog ⟨d,.load t x,ty,pos,aft,gd⟩ ρ K (.val v):=Dj tok h ht ha
theorem Qxv {x:Operand}{i:Nat}{vs:List AV}{v:Value}(h:ρ x = .tuple vs:=by exact rfl)(hv:vs[i]? = some (.val v):=by exact rfl):Cm Tryz.prog ⟨d,.extract x i,ty,pos,aft,gd⟩ ρ K (.val v):=B5 h hv
theorem Qaa {x:Operand}{l:List AV}(h:ρ x = .agg l:=by exact rfl):Cm Tryz.prog ⟨d,.assign x,ty,pos,aft,gd⟩ ρ K (.agg l):=A6 h
theorem Qma {x:Operand}{l:List AV}(h:ρ x = .agg l:=by exact rfl):Cm Tryz.prog ⟨d,.move x,ty,pos,aft,gd⟩ ρ K (.agg l):=A1 h
theorem Qla {t:TypeId}{td:TD}{x:Operand}{l:List AV}{cs:List AV}(h:ρ x = .ptr (.agg l::cs):=by exact rfl)(ht:Bj TL t=some td:=by exact rfl)(ha:td.agg=false:=by exact rfl):Cm Tryz.prog ⟨d,.load t x,ty,pos,aft,gd⟩ ρ K (.agg l):=Dj tok h ht ha
theorem Qxa {x:Operand}{i:Nat}{vs:List AV}{l:List AV}(h:ρ x = .tuple vs:=by exact rfl)(hv:vs[i]? = some (.agg l):=by exact rfl):Cm Tryz.prog ⟨d,.extract x i,ty,pos,aft,gd⟩ ρ K (.agg l):=B5 h hv
theorem Tu {x:Operand}{s:List UInt8}(h:ρ x = .str s:=by exact rfl):Cm Tryz.prog ⟨d,.assign x,ty,pos,aft,gd⟩ ρ K (.str s):=A6 h
theorem Gj {x:Operand}{s:List UInt8}(h:ρ x = .str s:=by exact rfl):Cm Tryz.prog ⟨d,.move x,ty,pos,aft,gd⟩ ρ K (.str s):=A1 h
theorem Hc {t:TypeId}{td:TD}{x:Operand}{s:List UInt8}{cs:List AV}(h:ρ x = .ptr (.str s::cs):=by exact rfl)(ht:Bj TL t=some td:=by exact rfl)(ha:td.agg=false:=by exact rfl):Cm Tryz.prog ⟨d,.load t x,ty,pos,aft,gd⟩ ρ K (.str s):=Dj tok h ht ha
theorem Qxt {x:Operand}{i:Nat}{vs:List AV}{s:List UInt8}(h:ρ x = .tuple vs:=by exact rfl)(hv:vs[i]? = some (.str s):=by exact rfl):Cm Tryz.prog ⟨d,.extract x i,ty,pos,aft,gd⟩ ρ K (.str s):=B5 h hv
theorem Qau {x:Operand}{l:List AV}(h:ρ x = .tuple l:=by exact rfl):Cm Tryz.prog ⟨d,.assign x,ty,pos,aft,gd⟩ ρ K (.tuple l):=A6 h
theorem N4 {x:Operand}{l:List AV}(h:ρ x = .tuple l:=by exact rfl):Cm Tryz.prog ⟨d,.move x,ty,pos,aft,gd⟩ ρ K (.tuple l):=A1 h
theorem Qlu {t:TypeId}{td:TD}{x:Operand}{l:List AV}{cs:List AV}(h:ρ x = .ptr (.tuple l::cs):=by exact rfl)(ht:Bj TL t=some td:=by exact rfl)(ha:td.agg=false:=by exact rfl):Cm Tryz.prog ⟨d,.load t x,ty,pos,aft,gd⟩ ρ K (.tuple l):=Dj tok h ht ha
theorem Qxu {x:Operand}{i:Nat}{vs:List AV}{l:List AV}(h:ρ x = .tuple vs:=by exact rfl)(hv:vs[i]? = some (.tuple l):=by exact rfl):Cm Tryz.prog ⟨d,.extract x i,ty,pos,aft,gd⟩ ρ K (.tuple l):=B5 h hv
theorem Qap {x:Operand}{l:List AV}(h:ρ x = .ptr l:=by exact rfl):Cm Tryz.prog ⟨d,.assign x,ty,pos,aft,gd⟩ ρ K (.ptr l):=A6 h
theorem Qmp {x:Operand}{l:List AV}(h:ρ x = .ptr l:=by exact rfl):Cm Tryz.prog ⟨d,.move x,ty,pos,aft,gd⟩ ρ K (.ptr l):=A1 h
theorem Qlp {t:TypeId}{td:TD}{x:Operand}{l:List AV}{cs:List AV}(h:ρ x = .ptr (.ptr l::cs):=by exact rfl)(ht:Bj TL t=some td:=by exact rfl)(ha:td.agg=false:=by exact rfl):Cm Tryz.prog ⟨d,.load t x,ty,pos,aft,gd⟩ ρ K (.ptr l):=Dj tok h ht ha
theorem Qxp {x:Operand}{i:Nat}{vs:List AV}{l:List AV}(h:ρ x = .tuple vs:=by exact rfl)(hv:vs[i]? = some (.ptr l):=by exact rfl):Cm Tryz.prog ⟨d,.extract x i,ty,pos,aft,gd⟩ ρ K (.ptr l):=B5 h hv
theorem B0 (l:List AV){t:TypeId}{td:TD}{x:Operand}{cs:List AV}(h:ρ x = .ptr cs:=by exact rfl)(ht:Bj TL t=some td:=by exact rfl)(ha:td.agg=true:=by exact rfl)(hl:cs.take td.size=l:=by exact rfl)(hs:Nat.beq l.length td.size=true:=by exact rfl):Cm Tryz.prog ⟨d,.load t x,ty,pos,aft,gd⟩ ρ K (.agg l):=Ph tok h ht ha hl hs
theorem Qf (cs':List AV){s f off z ft:Nat}{nm:Bool}{x:Operand}{cs:List AV}{td:TD}{gs:List (Nat×Nat×Bool×Nat)}(h:ρ x = .ptr cs:=by exact rfl)(ht:Bj TL s=some td:=by exact rfl)(hk:td.kind = .struct gs:=by exact rfl)(hf:gs[f]? = some (off,z,nm,ft):=by exact rfl)(hz:Nat.blt 0 z=true:=by exact rfl)(hc:cs.drop off=cs':=by exact rfl):Cm Tryz.prog ⟨d,.fieldAddr s x f,ty,pos,aft,gd⟩ ρ K (.ptr cs'):=C1 tok h ht hk hf hz hc
theorem B7 {s f off z ft b o:Nat}{nm:Bool}{x:Operand}{td:TD}{gs:List (Nat×Nat×Bool×Nat)}{o':Nat}(h:ρ x = .val (.pointer (some ⟨b,o,none⟩)):=by exact rfl)(ht:Bj TL s=some td:=by exact rfl)(hk:td.kind = .struct gs:=by exact rfl)(hf:gs[f]? = some (off,z,nm,ft):=by exact rfl)(hz:Nat.blt 0 z=true:=by exact rfl)(ho:o+off=o':=by exact rfl):Cm Tryz.prog ⟨d,.fieldAddr s x f,ty,pos,aft,gd⟩ ρ K (.val (.pointer (some ⟨b,o',none⟩))):=Ws tok h ht hk hf hz ho
theorem Gc (cs:List AV){t:TypeId}{x:Operand}{l:List AV}(h:ρ x = .agg l:=by exact rfl)(hc:B2 (.agg l)=cs:=by exact rfl)(hs:Bb cs=true:=by exact rfl):Cm Tryz.prog ⟨d,.box t x,ty,pos,aft,gd⟩ ρ K (.ptr cs):=Tr h hc hs
theorem E4 (l:List AV){t:TypeId}{td:TD}{gs:List (Nat×Nat×Bool×Nat)}{parts:Array (Nat×Operand)}(ht:Bj TL t=some td:=by exact rfl)(hk:td.kind = .struct gs:=by exact rfl)(h:Vz gs td.zero (Mh ρ parts.toList)=some l:=by exact rfl):Cm Tryz.prog ⟨d,.build t parts,ty,pos,aft,gd⟩ ρ K (.agg l):=P_build tok ht hk h
theorem S4 {s f' off z ft:Nat}{nm:Bool}{x:Operand}{cs:List AV}{td:TD}{gs:List (Nat×Nat×Bool×Nat)}{a:Int}{b:AV}{c:Int}{d1:Int}{e:Int}{f:Int}{g:Int}{h:List UInt8}(i:ρ x = .ptr cs:=by exact rfl)(ht:Bj TL s=some td:=by exact rfl)(hk:td.kind = .struct gs:=by exact rfl)(hf:gs[f']? = some (off,z,nm,ft):=by exact rfl)(hz:Nat.blt 0 z=true:=by exact rfl)(hc:cs.drop off = [.int .i64 a,b,.int .i64 c,.int .i64 d1,.int .i64 e,.int .i64 f,.int .i64 g,.str h]:=by exact rfl):Cm Tryz.prog ⟨d,.fieldAddr s x f',ty,pos,aft,gd⟩ ρ K (.ptr [.int .i64 a,b,.int .i64 c,.int .i64 d1,.int .i64 e,.int .i64 f,.int .i64 g,.str h]):=C1 tok i ht hk hf hz hc
theorem Nh {t:TypeId}{td:TD}{x:Operand}{cs:List AV}{a:Int}{b:AV}{c:Int}{d1:Int}{e:Int}{f:Int}{g:Int}{h:List UInt8}(i:ρ x = .ptr cs:=by exact rfl)(ht:Bj TL t=some td:=by exact rfl)(ha:td.agg=true:=by exact rfl)(hl:cs.take td.size = [.int .i64 a,b,.int .i64 c,.int .i64 d1,.int .i64 e,.int .i64 f,.int .i64 g,.str h]:=by exact rfl)(hs:Nat.beq 8 td.size=true:=by exact rfl):Cm Tryz.prog ⟨d,.load t x,ty,pos,aft,gd⟩ ρ K (.agg [.int .i64 a,b,.int .i64 c,.int .i64 d1,.int .i64 e,.int .i64 f,.int .i64 g,.str h]):=Ph tok i ht ha hl hs
theorem jP {t:TypeId}{x:Operand}{l:List AV}{a:Int}{b:AV}{c:Int}{d1:Int}{e:Int}{f:Int}{g:Int}{h:List UInt8}(i:ρ x = .agg l:=by exact rfl)(hc:B2 (.agg l) = [.int .i64 a,b,.int .i64 c,.int .i64 d1,.int .i64 e,.int .i64 f,.int .i64 g,.str h]:=by exact rfl)(hs:Bb [.int .i64 a,b,.int .i64 c,.int .i64 d1,.int .i64 e,.int .i64 f,.int .i64 g,.str h]=true:=by exact rfl):Cm Tryz.prog ⟨d,.box t x,ty,pos,aft,gd⟩ ρ K (.ptr [.int .i64 a,b,.int .i64 c,.int .i64 d1,.int .i64 e,.int .i64 f,.int .i64 g,.str h]):=Tr i hc hs
theorem Zy {s f' off z ft:Nat}{nm:Bool}{x:Operand}{cs:List AV}{td:TD}{gs:List (Nat×Nat×Bool×Nat)}{b:AV}{c:Int}{d1:Int}{e:Int}{f:Int}{g:Int}{h:List UInt8}(i:ρ x = .ptr cs:=by exact rfl)(ht:Bj TL s=some td:=by exact rfl)(hk:td.kind = .struct gs:=by exact rfl)(hf:gs[f']? = some (off,z,nm,ft):=by exact rfl)(hz:Nat.blt 0 z=true:=by exact rfl)(hc:cs.drop off = [b,.int .i64 c,.int .i64 d1,.int .i64 e,.int .i64 f,.int .i64 g,.str h]:=by exact rfl):Cm Tryz.prog ⟨d,.fieldAddr s x f',ty,pos,aft,gd⟩ ρ K (.ptr [b,.int .i64 c,.int .i64 d1,.int .i64 e,.int .i64 f,.int .i64 g,.str h]):=C1 tok i ht hk hf hz hc
theorem nP {s f' off z ft:Nat}{nm:Bool}{x:Operand}{cs:List AV}{td:TD}{gs:List (Nat×Nat×Bool×Nat)}{c:Int}{d1:Int}{e:Int}{f:Int}{g:Int}{h:List UInt8}(i:ρ x = .ptr cs:=by exact rfl)(ht:Bj TL s=some td:=by exact rfl)(hk:td.kind = .struct gs:=by exact rfl)(hf:gs[f']? = some (off,z,nm,ft):=by exact rfl)(hz:Nat.blt 0 z=true:=by exact rfl)(hc:cs.drop off = [.int .i64 c,.int .i64 d1,.int .i64 e,.int .i64 f,.int .i64 g,.str h]:=by exact rfl):Cm Tryz.prog ⟨d,.fieldAddr s x f',ty,pos,aft,gd⟩ ρ K (.ptr [.int .i64 c,.int .i64 d1,.int .i64 e,.int .i64 f,.int .i64 g,.str h]):=C1 tok i ht hk hf hz hc
theorem nU {s f' off z ft:Nat}{nm:Bool}{x:Operand}{cs:List AV}{td:TD}{gs:List (Nat×Nat×Bool×Nat)}{d1:Int}{e:Int}{f:Int}{g:Int}{h:List UInt8}(i:ρ x = .ptr cs:=by exact rfl)(ht:Bj TL s=some td:=by exact rfl)(hk:td.kind = .struct gs:=by exact rfl)(hf:gs[f']? = some (off,z,nm,ft):=by exact rfl)(hz:Nat.blt 0 z=true:=by exact rfl)(hc:cs.drop off = [.int .i64 d1,.int .i64 e,.int .i64 f,.int .i64 g,.str h]:=by exact rfl):Cm Tryz.prog ⟨d,.fieldAddr s x f',ty,pos,aft,gd⟩ ρ K (.ptr [.int .i64 d1,.int .i64 e,.int .i64 f,.int .i64 g,.str h]):=C1 tok i ht hk hf hz hc
theorem dN {s f' off z ft:Nat}{nm:Bool}{x:Operand}{cs:List AV}{td:TD}{gs:List (Nat×Nat×Bool×Nat)}{e:Int}{f:Int}{g:Int}{h:List UInt8}(i:ρ x = .ptr cs:=by exact rfl)(ht:Bj TL s=some td:=by exact rfl)(hk:td.kind = .struct gs:=by exact rfl)(hf:gs[f']? = some (off,z,nm,ft):=by exact rfl)(hz:Nat.blt 0 z=true:=by exact rfl)(hc:cs.drop off = [.int .i64 e,.int .i64 f,.int .i64 g,.str h]:=by exact rfl):Cm Tryz.prog ⟨d,.fieldAddr s x f',ty,pos,aft,gd⟩ ρ K (.ptr [.int .i64 e,.int .i64 f,.int .i64 g,.str h]):=C1 tok i ht hk hf hz hc
theorem S5 {s f' off z ft:Nat}{nm:Bool}{x:Operand}{cs:List AV}{td:TD}{gs:List (Nat×Nat×Bool×Nat)}{f:Int}{g:Int}{h:List UInt8}(i:ρ x = .ptr cs:=by exact rfl)(ht:Bj TL s=some td:=by exact rfl)(hk:td.kind = .struct gs:=by exact rfl)(hf:gs[f']? = some (off,z,nm,ft):=by exact rfl)(hz:Nat.blt 0 z=true:=by exact rfl)(hc:cs.drop off = [.int .i64 f,.int .i64 g,.str h]:=by exact rfl):Cm Tryz.prog ⟨d,.fieldAddr s x f',ty,pos,aft,gd⟩ ρ K (.ptr [.int .i64 f,.int .i64 g,.str h]):=C1 tok i ht hk hf hz hc
theorem uH {s f' off z ft:Nat}{nm:Bool}{x:Operand}{cs:List AV}{td:TD}{gs:List (Nat×Nat×Bool×Nat)}{g:Int}{h:List UInt8}(i:ρ x = .ptr cs:=by exact rfl)(ht:Bj TL s=some td:=by exact rfl)(hk:td.kind = .struct gs:=by exact rfl)(hf:gs[f']? = some (off,z,nm,ft):=by exact rfl)(hz:Nat.blt 0 z=true:=by exact rfl)(hc:cs.drop off = [.int .i64 g,.str h]:=by exact rfl):Cm Tryz.prog ⟨d,.fieldAddr s x f',ty,pos,aft,gd⟩ ρ K (.ptr [.int .i64 g,.str h]):=C1 tok i ht hk hf hz hc
theorem Qf7 {s f' off z ft:Nat}{nm:Bool}{x:Operand}{cs:List AV}{td:TD}{gs:List (Nat×Nat×Bool×Nat)}{h:List UInt8}(i:ρ x = .ptr cs:=by exact rfl)(ht:Bj TL s=some td:=by exact rfl)(hk:td.kind = .struct gs:=by exact rfl)(hf:gs[f']? = some (off,z,nm,ft):=by exact rfl)(hz:Nat.blt 0 z=true:=by exact rfl)(hc:cs.drop off = [.str h]:=by exact rfl):Cm Tryz.prog ⟨d,.fieldAddr s x f',ty,pos,aft,gd⟩ ρ K (.ptr [.str h]):=C1 tok i ht hk hf hz hc
theorem Av {x y:Operand}{t yt:TypeId}{k:IntKind}{n m:Int}(hx:ρ x = .int k n:=by exact rfl)(hy:ρ y = .int k m:=by exact rfl):Cm Tryz.prog ⟨d,.binOp .eql t x y yt,ty,pos,aft,gd⟩ ρ K (.bool (n==m)):=bO hx hy
theorem Br {x y:Operand}{t yt:TypeId}{k:IntKind}{n m:Int}(hx:ρ x = .int k n:=by exact rfl)(hy:ρ y = .int k m:=by exact rfl):Cm Tryz.prog ⟨d,.binOp .neq t x y yt,ty,pos,aft,gd⟩ ρ K (.bool (n != m)):=Ik hx hy
theorem Bx {x y:Operand}{t yt:TypeId}{k:IntKind}{n m:Int}(hx:ρ x = .int k n:=by exact rfl)(hy:ρ y = .int k m:=by exact rfl):Cm Tryz.prog ⟨d,.binOp .lss t x y yt,ty,pos,aft,gd⟩ ρ K (.bool (decide (n<m))):=P_lss hx hy
theorem Ej {x y:Operand}{t yt:TypeId}{k:IntKind}{n m:Int}(hx:ρ x = .int k n:=by exact rfl)(hy:ρ y = .int k m:=by exact rfl):Cm Tryz.prog ⟨d,.binOp .gtr t x y yt,ty,pos,aft,gd⟩ ρ K (.bool (decide (m<n))):=Rw hx hy
theorem Z5 {x y:Operand}{t yt:TypeId}{k:IntKind}{n m:Int}(hx:ρ x = .int k n:=by exact rfl)(hy:ρ y = .int k m:=by exact rfl):Cm Tryz.prog ⟨d,.binOp .leq t x y yt,ty,pos,aft,gd⟩ ρ K (.bool (decide (n≤m))):=jF hx hy
theorem H6 {x y:Operand}{t yt:TypeId}{k:IntKind}{n m:Int}(hx:ρ x = .int k n:=by exact rfl)(hy:ρ y = .int k m:=by exact rfl):Cm Tryz.prog ⟨d,.binOp .geq t x y yt,ty,pos,aft,gd⟩ ρ K (.bool (decide (m≤n))):=aK hx hy
theorem E9 {x y:Operand}{t yt:TypeId}{n m r:Int}(hx:ρ x = .int .i64 n:=by exact rfl)(hy:ρ y = .int .i64 m:=by exact rfl)(hr:n+m=r:=by exact rfl)(hb : -9223372036854775808≤r∧r≤9223372036854775807:=by constructor <;> omega):Cm Tryz.prog ⟨d,.binOp .add t x y yt,ty,pos,aft,gd⟩ ρ K (.int .i64 r):=oE hx hy hr hb
theorem Et {x:Operand}{t:TypeId}{b:Bool}(hx:ρ x = .bool b:=by exact rfl):Cm Tryz.prog ⟨d,.unOp .not t x,ty,pos,aft,gd⟩ ρ K (.bool (!b)):=P_not hx
theorem E0 {c a y:Operand}{b x:Bool}(hc:ρ c = .bool b:=by exact rfl)(ha:ρ a = .opt [(b,true)] (.bool x):=by exact rfl)(hy:ρ y = .bool false:=by exact rfl):Cm Tryz.prog ⟨d,.pick c a y,ty,pos,aft,gd⟩ ρ K (.bool (b&&x)):=lO hc ha hy
theorem B9 {c a y:Operand}{b x:Bool}(hc:ρ c = .bool b:=by exact rfl)(ha:ρ a = .bool true:=by exact rfl)(hy:ρ y = .opt [(b,false)] (.bool x):=by exact rfl):Cm Tryz.prog ⟨d,.pick c a y,ty,pos,aft,gd⟩ ρ K (.bool (b||x)):=qM hc ha hy
theorem Qc {f:FuncId}{args:Array Operand}{ats:Array TypeId}{l:List AV}{r:AV}(ha:args.toList.map ρ=l)(hc:Ap Tryz.prog f l r)(hf:Sj Tryz.prog f=true:=by kernel_rfl)(hcal:ρ (.func f) = .fn (.func f) [] []:=by exact rfl):Cm Tryz.prog ⟨d,.call ⟨.value (.func f),args,ats⟩,ty,pos,aft,gd⟩ ρ K r:=P_callf hf hcal ha hc
end
section
variable {ops:Array Oper} {K:St→Prop} {s:St} {d:Option Nat} {op:Op} {t:TypeId} {pos:String} {after:Array Edge} {r:List Oper} {x y:AV} {o:Oper} {G:List (Bool×Bool)} {b:Bool} {c1 c2:Code} {Q Q':Exit→St→Prop} {N:St→Prop} {id:Nat}
theorem Qp (h:Cm Tryz.prog ⟨d,op,t,pos,after,none⟩ (Es s.sl) (fun _=>True) x)(k:AOL Tryz.prog ops K r ⟨Dz d x s.sl,s.H,s.n⟩)(hd:Ms d s.n=true:=by exact rfl):AOL Tryz.prog ops K (⟨d,op,t,pos,after,none⟩::r) s:=AOL.p h hd k
theorem Bt (k:Nat)(cs':List AV)(H2:List HO){b o:Nat}{td:TD}{TT t':TypeId}{cs:List AV}{v:AV}{x1 y1:Operand}(kk:AOL Tryz.prog ops K r ⟨Dz d .junk s.sl,H2,s.n⟩)(h:Es s.sl x1 = .val (.pointer (some ⟨b,o,none⟩)):=by exact rfl)(hv:Es s.sl y1=v:=by exact rfl)(ht:Bj TL t'=some td:=by exact rfl)(hk:s.H[k]? = some (.box b TT cs):=by exact rfl)(hs:Bb (B2 v)=true:=by exact rfl)(hl:Nat.beq (B2 v).length td.size=true:=by exact rfl)(hb:Nat.ble (o+td.size) cs.length=true:=by exact rfl)(hc:Hq cs o (B2 v)=cs':=by exact rfl)(hH2:s.H.set k (.box b TT cs')=H2:=by exact rfl)(hd:Ms d s.n=true:=by exact rfl):AOL Tryz.prog ops K (⟨d,.store t' x1 y1,t,pos,after,none⟩::r) s:=AOL.e (Bf (k:=k) tok h hv ht hk hs hl hb hc hH2) hd fun x' H' e=>by obtain ⟨e1,e2⟩:=e;subst e1;subst e2;exact kk
abbrev Iq (n:Int):AV:=.int .i64 n
theorem iN {α:Type}{b:Bool}[Decidable (b=true)]{x y:α}(h:b=false):(if b=true then x else y)=y:=if_neg (zz53.mp h)
theorem Qe {R:AV→List HO→Prop}(h:Lu Tryz.prog ⟨d,op,t,pos,after,none⟩ (Es s.sl) s.H R)(k:∀x H',R x H'→AOL Tryz.prog ops K r ⟨Dz d x s.sl,H',s.n⟩)(hd:Ms d s.n=true:=by exact rfl):AOL Tryz.prog ops K (⟨d,op,t,pos,after,none⟩::r) s:=AOL.e h hd k
theorem Qw {sl:List (Nat×AV)}{L:List (Nat×AV)}(hw:Hx ops o sl=some G:=by exact rfl)(hL:qZ G sl L:=by first | exact trivial | exact ⟨Ent.Aad _ _,trivial⟩ | exact ⟨Ent.Aad _ _,tS.suf _ _ _,trivial⟩):Hx ops o sl=some G∧qZ G sl L:=⟨hw,hL⟩
theorem Qg (L:List (Nat×AV))(w:Hx ops o s.sl=some G∧qZ G s.sl L)(h:Cm Tryz.prog o (Es (L++s.sl)) (fun _=>True) y)(k:AOL Tryz.prog ops K r ⟨Dz o.dst (.opt G y) s.sl,s.H,s.n⟩)(hd:Ms o.dst s.n=true:=by exact rfl):AOL Tryz.prog ops K (o::r) s:=AOL.g G L w.1 (qZ.all w.2) (fun _=>h) hd k
theorem Ae (h:AOL Tryz.prog ops (Ea (AW Tryz.prog c2 Q) Q .normal) ops.toList s):AW Tryz.prog (.seq (.region id ops false) c2) Q s:=AW.seq (AW.region h)
theorem Ag (h:N s):AOL Tryz.prog ops (Ea N Q .normal) [] s:=AOL.nil (Bh h)
theorem Bs {ops':Array Oper}(h:AOL Tryz.prog ops' (Ea (AW Tryz.prog c2 Q) Q .normal) ops'.toList s):AOL Tryz.prog ops (Ea (AW Tryz.prog (.seq (.region id ops' false) c2) Q) Q' .normal) [] s:=AOL.nil (Bh (AW.seq (AW.region h)))
theorem Aq {c:Operand}{x y:Code}(ht:b=true→AW Tryz.prog x Q s)(hf:b=false→AW Tryz.prog y Q s)(hb:Es s.sl c = .bool b:=by exact rfl):AW Tryz.prog (.cond c x y) Q s:=AW.cond hb ht hf
theorem Bg (h:N s):AW Tryz.prog .skip (Ea N Q) s:=AW.skip (Bh h)
theorem rX (h:Q .ret s):AW Tryz.prog .ret (Ea N Q) s:=AW.ret (Be h)
theorem Qr {H:List HO}{l:List ResultVar}{r:AV}(x:AV)(h:Ai [x]=r)(hr:ResL Tryz.prog TL s l [x]:=by exact .cons (.tmp _ _ rfl) .nil)(hs:H.Sublist s.H:=by exact .refl _):(Exit.ret = .normal∨Exit.ret = .ret)∧∃xs,ResL Tryz.prog TL s l xs∧H.Sublist s.H∧Ai xs=r:=⟨.inr rfl,[x],hr,hs,h⟩
theorem Mf {H:List HO}{l:List ResultVar}{r:AV}(x y:AV)(h:Ai [x,y]=r)(hr:ResL Tryz.prog TL s l [x,y]:=by exact .cons (.tmp _ _ rfl) (.cons (.tmp _ _ rfl) .nil))(hs:H.Sublist s.H:=by exact .refl _):(Exit.ret = .normal∨Exit.ret = .ret)∧∃xs,ResL Tryz.prog TL s l xs∧H.Sublist s.H∧Ai xs=r:=⟨.inr rfl,[x,y],hr,hs,h⟩
end
section
variable {ops:Array Oper} {K:List HO→Prop} {Q:St→Prop} {s:St} {o:Oper} {x y:AV} {G:List (Bool×Bool)} {listed:Array Bool}
theorem Qn (i:Nat)(ho:ops[i]? = some o)(h:Cm Tryz.prog o (Es s.sl) K x)(k:Gz Tryz.prog ops K Q (listed.setIfInBounds i true) ⟨Dz o.dst x s.sl,s.H,s.n⟩)(hr:(Region.ready .any ops listed).contains i=true:=by kernel_rfl)(hf:Region.free .any ops listed i=true:=by kernel_rfl)(hd:Ms o.dst s.n=true:=by exact rfl)(hg:o.guard=none:=by exact rfl):Gz Tryz.prog ops K Q listed s:=Gz.pure listed s i o x ho hr hf hd (.run hg h) k
theorem Qo (i:Nat)(ho:ops[i]? = some o)(L:List (Nat×AV))(w:Hx ops o s.sl=some G∧qZ G s.sl L)(h:Cm Tryz.prog o (Es (L++s.sl)) K y)(k:Gz Tryz.prog ops K Q (listed.setIfInBounds i true) ⟨Dz o.dst (.opt G y) s.sl,s.H,s.n⟩)(hr:(Region.ready .any ops listed).contains i=true:=by kernel_rfl)(hf:Region.free .any ops listed i=true:=by kernel_rfl)(hd:Ms o.dst s.n=true:=by exact rfl):Gz Tryz.prog ops K Q listed s:=Gz.pure listed s i o _ ho hr hf hd (.opt G y L w.1 (qZ.all w.2) (fun _=>h) rfl) k
end
abbrev Au {x0:Int}{x1 x2:List UInt8}{x3:Int}{x4:AV}{x5:Int}:List AV:=[Iq x0,.str x1,.str x2,Iq x3,x4,Iq x5]
abbrev C5 {x0:Int}{x1:AV}{x2 x3 x4 x5 x6:Int}{x7:AV}{x8 x9 x10 x11 x12:Int}{x13:List UInt8}:List AV:=[Iq x0,x1,Iq x2,Iq x3,Iq x4,Iq x5,Iq x6,x7,Iq x8,Iq x9,Iq x10,Iq x11,Iq x12,.str x13]
abbrev He {x0 x1:Int}:List AV:=[Iq x0,Iq x1]
abbrev Ie {x0:Int}{x1:AV}{x2 x3 x4 x5 x6:Int}{x7:List UInt8}:List AV:=[Iq x0,x1,Iq x2,Iq x3,Iq x4,Iq x5,Iq x6,.str x7]
abbrev It {x0:List UInt8}{x1 x2:AV}{x3:Int}{x4:AV}{x5 x6 x7 x8 x9:Int}{x10:AV}{x11 x12 x13 x14 x15:Int}{x16:List UInt8}{x17:AV}:List AV:=[.str x0,x1,x2,Iq x3,x4,Iq x5,Iq x6,Iq x7,Iq x8,Iq x9,x10,Iq x11,Iq x12,Iq x13,Iq x14,Iq x15,.str x16,x17]
abbrev Jw {x0:Int}{x1:List UInt8}{x2 x3 x4 x5:Int}:List AV:=[Iq x0,.str x1,Iq x2,Iq x3,Iq x4,Iq x5]
abbrev Jz {x0:List UInt8}{x1:Int}:List AV:=[.str x0,Iq x1]
abbrev Kg {x0:AV}{x1:Int}:List AV:=[x0,Iq x1]
abbrev Kz :List AV:=[.int .i64 0,.str [],.str [],.int .i64 0,.sl 6 [],.int .i64 0]
abbrev Mj {x0 x1:Int}{x2:List UInt8}:List AV:=[Iq x0,Iq x1,.str x2]
abbrev Ub {x0:List UInt8}{x1:AV}:List AV:=[.str x0,x1]
abbrev Uw {x0:Int}{x1:AV}{x2:Int}:List AV:=[Iq x0,x1,Iq x2]
abbrev Wf {x0:AV}{x1 x2 x3 x4 x5:Int}{x6:AV}{x7 x8 x9 x10 x11:Int}{x12:List UInt8}:List AV:=[x0,Iq x1,Iq x2,Iq x3,Iq x4,Iq x5,x6,Iq x7,Iq x8,Iq x9,Iq x10,Iq x11,.str x12]
abbrev Wv {x0 x1:List UInt8}{x2:Int}{x3:AV}{x4:Int}:List AV:=[.str x0,.str x1,Iq x2,x3,Iq x4]
abbrev eX {x0:List UInt8}{x1:Int}{x2:AV}{x3:Int}:List AV:=[.str x0,Iq x1,x2,Iq x3]
abbrev jB {x0:Int}{x1:List UInt8}{x2:Int}:List AV:=[Iq x0,.str x1,Iq x2]
abbrev gT :List AV:=[.int .i64 0,.int .i64 0]
abbrev jH {x0:List UInt8}{x1:Int}{x2:AV}:List AV:=[.str x0,Iq x1,x2]
abbrev pB {x0 x1:AV}{x2:Int}{x3:AV}{x4 x5 x6 x7 x8:Int}{x9:AV}{x10 x11 x12 x13 x14:Int}{x15:List UInt8}{x16:AV}:List AV:=[x0,x1,Iq x2,x3,Iq x4,Iq x5,Iq x6,Iq x7,Iq x8,x9,Iq x10,Iq x11,Iq x12,Iq x13,Iq x14,.str x15,x16]
abbrev rW {x0 x1 x2:Int}{x3:AV}{x4 x5 x6 x7 x8:Int}{x9:List UInt8}:List AV:=[Iq x0,Iq x1,Iq x2,x3,Iq x4,Iq x5,Iq x6,Iq x7,Iq x8,.str x9]
abbrev rY :List AV:=[.str [],.sl 2 [],.sl 1 [],.int .i64 0,.sl 14 [],.int .i64 0,.int .i64 0,.int .i64 0,.int .i64 0,.int .i64 0,.sl 8 [],.int .i64 0,.int .i64 0,.int .i64 0,.int .i64 0,.int .i64 0,.str [],.sl 8 []]
abbrev wQ {x0 x1 x2 x3:Int}{x4:AV}{x5 x6 x7 x8 x9:Int}{x10:List UInt8}:List AV:=[Iq x0,Iq x1,Iq x2,Iq x3,x4,Iq x5,Iq x6,Iq x7,Iq x8,Iq x9,.str x10]
abbrev yZ :List AV:=[.int .i64 0,.str [],.int .i64 0,.int .i64 0,.int .i64 0,.int .i64 0]
abbrev ghz {x0:AV}{x1 x2 x3 x4 x5:Int}:List AV:=[x0,Iq x1,Iq x2,Iq x3,Iq x4,Iq x5]
abbrev gix :List AV:=[.int .i64 0,.sl 8 [],.int .i64 0,.int .i64 0,.int .i64 0,.int .i64 0,.int .i64 0,.str []]
abbrev giy {x0 x1 x2 x3 x4:Int}{x5:AV}{x6 x7 x8 x9 x10:Int}{x11:List UInt8}:List AV:=[Iq x0,Iq x1,Iq x2,Iq x3,Iq x4,x5,Iq x6,Iq x7,Iq x8,Iq x9,Iq x10,.str x11]
abbrev giz {x0 x1:Int}{x2:AV}{x3 x4 x5 x6 x7:Int}{x8:List UInt8}:List AV:=[Iq x0,Iq x1,x2,Iq x3,Iq x4,Iq x5,Iq x6,Iq x7,.str x8]
abbrev gjx :List AV:=[.int .i64 0,.sl 14 [],.int .i64 0,.int .i64 0,.int .i64 0,.int .i64 0,.int .i64 0,.sl 8 [],.int .i64 0,.int .i64 0,.int .i64 0,.int .i64 0,.int .i64 0,.str []]
abbrev gjy {x0:AV}{x1:Int}{x2:AV}{x3 x4 x5 x6 x7:Int}{x8:AV}{x9 x10 x11 x12 x13:Int}{x14:List UInt8}{x15:AV}:List AV:=[x0,Iq x1,x2,Iq x3,Iq x4,Iq x5,Iq x6,Iq x7,x8,Iq x9,Iq x10,Iq x11,Iq x12,Iq x13,.str x14,x15]
abbrev gjz {x0 x1 x2 x3:Bool}:List AV:=[.bool x0,.bool x1,.bool x2,.bool x3]
abbrev gkx {x0 x1:Int}{x2 x3 x4 x5:Bool}:List AV:=[Iq x0,Iq x1,.bool x2,.bool x3,.bool x4,.bool x5]
abbrev gky {x0:Int}{x1:AV}{x2 x3 x4 x5 x6:Int}{x7:AV}{x8 x9 x10 x11 x12:Int}{x13:List UInt8}{x14:AV}:List AV:=[Iq x0,x1,Iq x2,Iq x3,Iq x4,Iq x5,Iq x6,x7,Iq x8,Iq x9,Iq x10,Iq x11,Iq x12,.str x13,x14]
section
variable {ops ops2:Array Oper} {K:St→Prop} {s:St} {d:Option Nat} {op:Op} {t:TypeId} {pos:String} {after:Array Edge} {r:List Oper} {x y:AV} {o:Oper} {c1 c2 c3:Code} {Q Q1 Q2:Exit→St→Prop} {N N1:St→Prop} {id id2:Nat}
theorem Ra (h:Q .ret s):AOL Tryz.prog ops (Ea (AW Tryz.prog .ret (I1 id (Ea N Q))) Q1 .normal) [] s:=Ag (AW.ret (Db (Be h)))
theorem Rf (h:N s):AW Tryz.prog .skip (I1 id (Ea N Q)) s:=AW.skip (I6 (Bh h))
theorem Ri (h:N s):Ea N1 (I1 id (Ea N Q)) (.exit id) s:=Bq (Sm (Bh h))
theorem Rj {Q1:Exit→St→Prop}(h:Q1 .ret s):I1 id (Ea N (Ea N1 (I1 id2 Q1))) .ret s:=Db (Be (Be (Db h)))
theorem Rk (h:N s):AOL Tryz.prog ops (I1 id (Ea N Q) .normal) [] s:=AOL.nil (I6 (Bh h))
theorem Rc (h:Q .ret s):AOL Tryz.prog ops (Ea (AW Tryz.prog .ret (Ea N Q)) Q1 .normal) [] s:=Ag (rX h)
theorem Rb (h:Q .ret s):AOL Tryz.prog ops (Ea (AW Tryz.prog .ret Q) Q1 .normal) [] s:=Ag (AW.ret h)
theorem Bk (h:AOL Tryz.prog ops (Ea (AW Tryz.prog c2 (Ea (AW Tryz.prog c3 Q) Q)) (Ea (AW Tryz.prog c3 Q) Q) .normal) ops.toList s):AW Tryz.prog (.seq (.seq (.region id ops false) c2) c3) Q s:=AW.seq (Ae h)
theorem Re (h:AW Tryz.prog c1 (Ea (AW Tryz.prog c2 Q) Q) s):AOL Tryz.prog ops (Ea (AW Tryz.prog (.seq c1 c2) Q) Q1 .normal) [] s:=Ag (AW.seq h)
theorem lV {f:FuncId}{args:Array Operand}{ats:Array TypeId}{l:List AV}{v:AV}{H2:List HO}(hc:Bp Tryz.prog f s.H l fun r' H'=>r'=v∧H'=H2)(k:AOL Tryz.prog ops K r ⟨Dz d v s.sl,H2,s.n⟩)(hf:Sj Tryz.prog f=true:=by kernel_rfl)(hcal:Es s.sl (.func f) = .fn (.func f) [] []:=by exact rfl)(ha:args.toList.map (Es s.sl)=l:=by exact rfl)(hd:Ms d s.n=true:=by exact rfl):AOL Tryz.prog ops K (⟨d,.call ⟨.value (.func f),args,ats⟩,t,pos,after,none⟩::r) s:=Qe (dG hf hcal ha hc) (fun _ _ ⟨h1,h2⟩=>by subst h1;subst h2;exact k) hd
theorem Rt {v:AV}{H2:List HO}(h:Lu Tryz.prog ⟨d,op,t,pos,after,none⟩ (Es s.sl) s.H fun r' H'=>r'=v∧H'=H2)(k:AOL Tryz.prog ops K r ⟨Dz d v s.sl,H2,s.n⟩)(hd:Ms d s.n=true:=by exact rfl):AOL Tryz.prog ops K (⟨d,op,t,pos,after,none⟩::r) s:=Qe h (fun _ _ ⟨h1,h2⟩=>by subst h1;subst h2;exact k) hd
theorem Ed {T:TypeId}(l:List AV)(k:∀b,AOL Tryz.prog ops K r ⟨Dz d (.val (.pointer (some ⟨b,0,none⟩))) s.sl,.box b T l::s.H,s.n⟩)(hz:zOK Tryz.prog T l=true:=by kernel_rfl)(hd:Ms d s.n=true:=by exact rfl):AOL Tryz.prog ops K (⟨d,.alloc T,t,pos,after,none⟩::r) s:=Qe (Kq hz) (fun _ _ ⟨b,h1,h2⟩=>by subst h1;subst h2;exact k b) hd
end
section
variable {ops:Array Oper} {s:St} {d:Option Nat} {t:TypeId} {pos:String} {aft:Array Edge} {gd:Option (Nat×Bool)} {ρ:Operand→AV}
theorem Cu {f:FuncId}{args:Array Operand}{ats:Array TypeId}{l:List AV}{G:List HO}{R:AV→List HO→Prop}(ha:args.toList.map ρ=l)(hc:Bp Tryz.prog f G l R)(hf:Sj Tryz.prog f=true:=by kernel_rfl)(hcal:ρ (.func f) = .fn (.func f) [] []:=by exact rfl):Lu Tryz.prog ⟨d,.call ⟨.value (.func f),args,ats⟩,t,pos,aft,gd⟩ ρ G R:=dG hf hcal ha hc
theorem Ol {id:Nat}{Q:Exit→St→Prop}(h:Gz Tryz.prog ops (fun _=>True) (Q .normal) (Array.replicate ops.size false) s)(hdd:Du ops=true:=by kernel_rfl):AW Tryz.prog (.region id ops true) Q s:=AW.draw mixed (fun _=>True) trivial hdd h
theorem Hs {K:List HO→Prop}{Q:St→Prop}{listed:Array Bool}(h:Q s)(hr:Region.ready .any ops listed = []:=by kernel_rfl):Gz Tryz.prog ops K Q listed s:=Gz.done listed s hr h
theorem uT {Q:St→Prop}{listed:Array Bool}{o:Oper}{R:AV→List HO→Prop}(i:Nat)(ho:ops[i]? = some o)(hp:Lu Tryz.prog o (Es s.sl) s.H R)(h:∀x H',R x H'→Gz Tryz.prog ops (fun _=>True) Q (listed.setIfInBounds i true) ⟨Dz o.dst x s.sl,H',s.n⟩)(hr:Region.ready .any ops listed = [i]:=by kernel_rfl)(hd:Ms o.dst s.n=true:=by exact rfl)(hw:o.guard=none:=by exact rfl):Gz Tryz.prog ops (fun _=>True) Q listed s:=Gz.eff listed s i o R ho hr hd hw hp (fun _ _ _=>trivial) h
theorem O0 {Q:St→Prop}{listed:Array Bool}{o:Oper}{v:AV}{G:List HO}(i:Nat)(ho:ops[i]? = some o)(hp:Lu Tryz.prog o (Es s.sl) s.H fun x H'=>x=v∧H'=G)(h:Gz Tryz.prog ops (fun _=>True) Q (listed.setIfInBounds i true) ⟨Dz o.dst v s.sl,G,s.n⟩)(hr:Region.ready .any ops listed = [i]:=by kernel_rfl)(hd:Ms o.dst s.n=true:=by exact rfl)(hw:o.guard=none:=by exact rfl):Gz Tryz.prog ops (fun _=>True) Q listed s:=uT i ho hp (fun _ _ ⟨h1,h2⟩=>by subst h1;subst h2;exact h) hr hd hw
theorem Cs {sl sl':List (Nat×AV)}{G G':List HO}{n:Nat}(h:Wk sl sl':=by (repeat refine ⟨rfl,?_⟩);exact trivial)(hs:G'.Sublist G:=by exact .refl _):GS ⟨sl,G,n⟩ ⟨sl',G',n⟩:=GS.weaken h hs
end

abbrev Am:=List UInt8

def bt (s:Am)(i:Nat):UInt8:=s.getD i 0
theorem Gt {s:Am}{i:Nat}(h:i<s.length):s[i]? = some (bt s i):=by simp [bt,N2,List.getElem?_eq_getElem h]

def Da (c:UInt8):Bool:=decide (48≤(c.toNat:Int))&&decide ((c.toNat:Int)≤57)
def Gw (c:UInt8):Bool:=(((c.toNat:Int)==95)||(decide (97≤(c.toNat:Int))&&decide ((c.toNat:Int)≤122)))||(decide (65≤(c.toNat:Int))&&decide ((c.toNat:Int)≤90))
def Kn (c:UInt8):Bool:=Gw c||Da c
def eQ (c:UInt8):Bool:=!Gw c && !Da c
def nI (c:UInt8):Bool:=(c.toNat:Int) != 10

def Di (p:UInt8→Bool):Am→Nat
 | []=>0
 | c::r=>if p c then Di p r+1 else 0

structure Tok where
 kind:Int
 text:Am
 pos:Int
deriving DecidableEq
structure Fo where
 tok:Tok
 bytes:Int
 pos:Int
 err:Int
deriving DecidableEq
def Ll:Tok:=⟨0,[],0⟩
def foZ:Fo:=⟨Ll,0,0,0⟩
def Oo (pos err:Int):Fo:=⟨Ll,0,pos,err⟩
def kK (kind:Int)(text:Am)(bytes:Int):Fo:=⟨⟨kind,text,0⟩,bytes,0,0⟩

def L2 (s:Am):Fo:=if !Gw (bt s 0) then foZ else if decide (24<(Di Kn s:Int)) then Oo 0 8 else kK 0 (s.take (Di Kn s)) (Di Kn s)

def rV (c:UInt8):Int:=IntKind.u8.wrap ((c.toNat:Int)-48)
def L6:Am→Int→Int×Int
 | [],n=>(n,0)
 | c::r,n=>if decide (1099511627776<10*n+rV c) then (0,2) else L6 r (10*n+rV c)
def Z9 (s:Am):Int×Int:=if (s == [])||decide ((Di Da s:Int)<(s.length:Int)) then (0,4) else L6 s 0

def Gy (s:Am):Fo:=
 if ((Di Da s:Int)==0) then foZ
 else if ((Z9 (s.take (Di Da s))).2 != 0) then Oo 0 (Z9 (s.take (Di Da s))).2
 else if (decide ((Di Da s:Int)<(s.length:Int))&&Gw (bt s (Di Da s))) then Oo (Di Da s) 4
 else kK 1 (s.take (Di Da s)) (Di Da s)

def Tx:Am:=[48,49,50,51,52,53,54,55,56,57,97,98,99,100,101,102]
abbrev dR (c:UInt8):Int:=Lib.indexByte Tx c
def Yu (n:Int):UInt8:=UInt8.ofNat (IntKind.u8.wrap n).toNat

def Kf (s:Am):UInt8×Int:=
 if decide (2≤(s.length:Int))&&(((bt s 1).toNat:Int)==34||((bt s 1).toNat:Int)==92) then (bt s 1,2)
 else if decide (4≤(s.length:Int))&&(((bt s 1).toNat:Int)==120) then
  if decide (0≤dR (bt s 2))&&decide (0≤dR (bt s 3)) then (Yu (16*dR (bt s 2)+dR (bt s 3)),4) else (0,0)
 else (0,0)

def If (s:Am):Nat→Nat→Am→Fo
  | 0,_,_=>Oo s.length 4
  | n+1,i,b=>
    if decide ((i:Int)<(s.length:Int)) then
      if (((bt s i).toNat:Int)==34) then
        if decide (64<(b.length:Int)) then Oo 0 13 else kK 2 b ((i:Int)+1)
      else if (((bt s i).toNat:Int)==92) then
        if ((Kf (s.drop i)).2==0) then Oo i 4 else If s n (i+(Kf (s.drop i)).2.toNat) (b ++ [(Kf (s.drop i)).1])
      else if (decide (((bt s i).toNat:Int)<32)||decide (126<((bt s i).toNat:Int))) then Oo i 4
      else If s n (i+1) (b ++ [bt s i])
    else Oo s.length 4
def Kw (s:Am):Fo:=if (((bt s 0).toNat:Int) != 34) then foZ else If s (s.length+1) 1 []

def gV:List Am:=[[60,61],[62,61],[61,61],[33,61],[40],[41],[123],[125],[44],[46],[58],[59],[43],[45],[60],[62],[61]]
def F3 (s:Am):List Am→Fo
 | []=>Oo 0 4
 | x::r=>if Lib.hasPrefix s x then kK 3 x x.length else F3 s r
def Wc (s:Am):Fo:=F3 s gV

def N3 (s:Am):Int:=if (((bt s 0).toNat:Int)==35) then Di nI s else if decide (0≤Lib.indexByte [32,9,13,10] (bt s 0)) then 1 else 0

def Ov (f:Fo):Bool:=decide (0<f.bytes)||(f.err != 0)
def Cr (s:Am):Fo:=if Ov (L2 s) then L2 s else if Ov (Gy s) then Gy s else if Ov (Kw s) then Kw s else Wc s

def Iy (s:Am):Nat→Nat→List Tok→List Tok×Int×Int
  | 0,_,_=>([],0,0)
  | n+1,i,out=>
    if decide ((i:Int)<(s.length:Int)) then
      if decide (0<N3 (s.drop i)) then Iy s n (i+(N3 (s.drop i)).toNat) out
      else if ((Cr (s.drop i)).err != 0) then ([],(i:Int)+(Cr (s.drop i)).pos,(Cr (s.drop i)).err)
      else Iy s n (i+(Cr (s.drop i)).bytes.toNat) (out ++ [⟨(Cr (s.drop i)).tok.kind,(Cr (s.drop i)).tok.text,i⟩])
    else (out,0,0)
def G0 (s:Am):List Tok×Int×Int:=if decide (65536<(s.length:Int)) then ([],0,13) else Iy s (s.length+1) 0 []

def posS (s:Am)(k:Int):Int×Int×Int:=
 if decide (65536<(s.length:Int)) then (0,0,13)
 else if (decide (k<0)||decide ((s.length:Int)<k)) then (0,0,2)
 else ((Lib.countByte (s.take k.toNat) 10:Int)+1,k-Lib.lastIndex (s.take k.toNat) [10],0)

def Xw:Am:=[32,97,108,108,32,97,108,116,32,97,110,100,32,98,111,111,108,32,98,121,32,99,111,117,110,116,32,102,97,108,115,101,32,102,105,114,115,116,32,105,102,32,105,110,116,32,108,97,99,107,115,32,108,97,115,116,32,109,97,116,99,104,32,109,97,120,32,109,105,110,32,110,111,116,32,111,114,32,112,108,117,115,32,113,117,101,114,121,32,114,101,116,117,114,110,32,115,101,113,32,115,116,114,105,110,103,32,115,117,109,32,116,105,109,101,32,116,114,117,101,32,116,121,112,101,32,119,104,101,114,101,32,119,105,116,104,105,110,32]
def lM (s:Am):Bool:=(!(s == []) && !Lib.contains s [32])&&Lib.contains Xw ([32]++s ++ [32])

def H1 (p:UInt8→Bool):Am→Int
 | []=>-1
 | c::r=>if p c then 0 else if H1 p r = -1 then -1 else H1 p r+1
def Ze (s:Am):Int:=
 if (((s == [])||decide (24<(s.length:Int)))||Da (bt s 0))||lM s then 8 else if decide (0≤H1 eQ s) then 8 else 0

def Og (c:UInt8):Am:=
 if (((c.toNat:Int)==34)||((c.toNat:Int)==92)) then [92,c]
 else if (decide ((c.toNat:Int)<32)||decide (126<(c.toNat:Int))) then [92,120,bt Tx (c.toNat / 16),bt Tx (c.toNat % 16)]
 else [c]
def D6:Am→Am
 | []=>[]
 | c::r=>Og c++D6 r
def N8 (s:Am):Am×Int:=if decide (64<(s.length:Int)) then ([],13) else ([34]++D6 s ++ [34],0)

def kJ (s:Am):Bool:=
 (s == [97,108,108])||(s == [97,108,116])||(s == [97,110,100])||(s == [98,111,111,108])||(s == [98,121])||(s == [99,111,117,110,116])||(s == [102,97,108,115,101])||(s == [102,105,114,115,116])||(s == [105,102])||(s == [105,110,116])||(s == [108,97,99,107,115])||(s == [108,97,115,116])||(s == [109,97,116,99,104])||(s == [109,97,120])||(s == [109,105,110])||(s == [110,111,116])||(s == [111,114])||(s == [112,108,117,115])||(s == [113,117,101,114,121])||(s == [114,101,116,117,114,110])||(s == [115,101,113])||(s == [115,116,114,105,110,103])||(s == [115,117,109])||(s == [116,105,109,101])||(s == [116,114,117,101])||(s == [116,121,112,101])||(s == [119,104,101,114,101])||(s == [119,105,116,104,105,110])
def vO (c:UInt8):Bool:=((((c.toNat:Int)==32)||((c.toNat:Int)==9))||((c.toNat:Int)==13))||((c.toNat:Int)==10)
def mN (c:UInt8):Bool:=((decide (32≤(c.toNat:Int))&&decide ((c.toNat:Int)≤126))&&((c.toNat:Int) != 34))&&((c.toNat:Int) != 92)
def hexR (c:UInt8):Int:=if Da c then rV c else if decide (97≤(c.toNat:Int))&&decide ((c.toNat:Int)≤102) then IntKind.u8.wrap ((c.toNat:Int)-97)+10 else -1
def nO (s:Am):Int:=
 if ((((s == [])||decide (24<(s.length:Int))) || !Gw (bt s 0))||((Di Kn s:Int) != (s.length:Int)))||kJ s then 8 else 0
def numR (s:Am):Int×Int:=if (s == []) then (0,4) else if s.all Da then L6 s 0 else (0,4)
def quoteBR (c:UInt8):Am:=
 if mN c then [c] else if (((c.toNat:Int)==34)||((c.toNat:Int)==92)) then [92,c] else [92,120,bt Tx (c.toNat / 16),bt Tx (c.toNat % 16)]
def fA:Am→Am
 | []=>[]
 | c::r=>quoteBR c++fA r
def quoteR (s:Am):Am×Int:=if decide (64<(s.length:Int)) then ([],13) else ([34]++fA s ++ [34],0)

def qY (s:Am)(i:Nat):UInt8×Int:=
 if decide ((s.length:Int)≤(i:Int)+1) then (0,0)
 else if (((bt s (i+1)).toNat:Int)==34||((bt s (i+1)).toNat:Int)==92) then (bt s (i+1),(i:Int)+2)
 else if ((((bt s (i+1)).toNat:Int) != 120||decide ((s.length:Int)≤(i:Int)+3))||decide (hexR (bt s (i+2))<0))||decide (hexR (bt s (i+3))<0) then (0,0)
 else (Yu (16*hexR (bt s (i+2))+hexR (bt s (i+3))),(i:Int)+4)

def Uy (s:Am)(k:Nat):Nat→Nat→Am→Am×Int×Int
  | 0,_,_=>([],s.length,4)
  | n+1,i,b=>
    if decide ((s.length:Int)≤(i:Int)) then ([],s.length,4)
    else if (((bt s i).toNat:Int)==34) then if decide (64<(b.length:Int)) then ([],k,13) else (b,(i:Int)+1,0)
    else if mN (bt s i) then Uy s k n (i+1) (b ++ [bt s i])
    else if (((bt s i).toNat:Int) != 92)||((qY s i).2==0) then ([],i,4)
    else Uy s k n (qY s i).2.toNat (b ++ [(qY s i).1])
def xI (s:Am)(k:Nat):Am×Int×Int:=Uy s k (s.length+1) (k+1) []

def sign1 (c:UInt8):Bool:=
 ((c.toNat:Int)==40)||((c.toNat:Int)==41)||((c.toNat:Int)==123)||((c.toNat:Int)==125)||((c.toNat:Int)==44)||((c.toNat:Int)==46)||((c.toNat:Int)==58)||((c.toNat:Int)==59)||((c.toNat:Int)==43)||((c.toNat:Int)==45)||((c.toNat:Int)==60)||((c.toNat:Int)==62)||((c.toNat:Int)==61)
abbrev sign2 (c:UInt8):Bool:=((((c.toNat:Int)==60)||((c.toNat:Int)==62))||((c.toNat:Int)==61))||((c.toNat:Int)==33)
def yF (s:Am)(k:Nat):Int:=
 if (sign2 (bt s k)&&decide ((k:Int)+1<(s.length:Int)))&&(((bt s (k+1)).toNat:Int)==61) then 2 else if sign1 (bt s k) then 1 else 0

def wZ (s:Am)(k:Nat):Nat:=k+Di Kn (s.drop k)
def Oj (s:Am)(k:Nat):Nat:=k+Di Da (s.drop k)

def Mn (s:Am)(k:Nat):Tok×Int×Int:=
 if Gw (bt s k) then
  if decide (24<(wZ s k:Int)-(k:Int)) then (Ll,k,8) else (⟨0,(s.take (wZ s k)).drop k,k⟩,wZ s k,0)
 else if Da (bt s k) then
  if ((numR ((s.take (Oj s k)).drop k)).2 != 0) then (Ll,k,(numR ((s.take (Oj s k)).drop k)).2)
  else if (decide ((Oj s k:Int)<(s.length:Int))&&Gw (bt s (Oj s k))) then (Ll,Oj s k,4)
  else (⟨1,(s.take (Oj s k)).drop k,k⟩,Oj s k,0)
 else if (((bt s k).toNat:Int)==34) then
  if ((xI s k).2.2 != 0) then (Ll,(xI s k).2.1,(xI s k).2.2) else (⟨2,(xI s k).1,k⟩,(xI s k).2.1,0)
 else if (yF s k==0) then (Ll,k,4)
 else (⟨3,(s.take (k+(yF s k).toNat)).drop k,k⟩,(k:Int)+yF s k,0)

def Q9 (s:Am):Nat→Nat→Bool→List Tok→List Tok×Int×Int
  | 0,_,_,_=>([],0,0)
  | n+1,i,comment,out=>
    if decide ((i:Int)<(s.length:Int)) then
      if ((comment||vO (bt s i))||(((bt s i).toNat:Int)==35)) then Q9 s n (i+1) ((comment||(((bt s i).toNat:Int)==35))&&(((bt s i).toNat:Int) != 10)) out
      else if ((Mn s i).2.2 != 0) then ([],(Mn s i).2.1,(Mn s i).2.2)
      else Q9 s n (Mn s i).2.1.toNat false (out ++ [(Mn s i).1])
    else (out,0,0)
def oN (s:Am):List Tok×Int×Int:=if decide (65536<(s.length:Int)) then ([],0,13) else Q9 s (s.length+1) 0 false []

def kV:Am→Int×Int→Int×Int
 | [],p=>p
 | c::r,p=>kV r (if ((c.toNat:Int)==10) then (p.1+1,1) else (p.1,p.2+1))
def posR (s:Am)(k:Int):Int×Int×Int:=
 if decide (65536<(s.length:Int)) then (0,0,13)
 else if (decide (k<0)||decide ((s.length:Int)<k)) then (0,0,2)
 else ((kV (s.take k.toNat) (1,1)).1,(kV (s.take k.toNat) (1,1)).2,0)

@[reducible] def cTok (t : Tok) : List AV := [.int .i64 t.kind, .str t.text, .int .i64 t.pos]
@[reducible] def cFo (f : Fo) : List AV := [.int .i64 f.tok.kind, .str f.tok.text, .int .i64 f.tok.pos, .int .i64 f.bytes, .int .i64 f.pos, .int .i64 f.err]
def fV (t:Tok):List AV:=cTok t

end Go.Proofs.YtckhoadldibflaaGreatDoor
