/-
  Several texts in one: Az, M, M2, M3, M4, M5, M7, M6, M8, M9. No condition.
-/
import Derived.Test.YtkddpedfbicbeaaGreatDoorAx
import Derived.Test.YtkddpedfbicbeaaGreatDoorTab
import Derived.KernelRfl
import Derived.Test.YtkddpedfbicbeaaGreatDoorAw
import Derived.IntWalk
set_option linter.unusedVariables false
set_option linter.unusedSimpArgs false
namespace Go.Proofs.YtkddpedfbicbeaaGreatDoor
open Go Go.Aw
set_option maxRecDepth 100000

section
variable {d:Option Nat} {ty:TypeId} {pos:String} {aft:Array Edge} {gd:Option (Nat×Bool)} {ρ:Operand→AV} {K:List HO→Prop}
theorem Av {x:Operand}{n:Int}(h:ρ x = .int .i64 n:=by exact rfl):Dl Tryz.prog ⟨d,.assign x,ty,pos,aft,gd⟩ ρ K (.int .i64 n):=C3 h
theorem A2 {x:Operand}{n:Int}(h:ρ x = .int .i64 n:=by exact rfl):Dl Tryz.prog ⟨d,.move x,ty,pos,aft,gd⟩ ρ K (.int .i64 n):=Bl h
theorem Bt {t:TypeId}{td:TD}{x:Operand}{n:Int}{cs:List AV}(h:ρ x = .ptr (.int .i64 n::cs):=by exact rfl)(ht:Bu TL t=some td:=by exact rfl)(ha:td.agg=false:=by exact rfl):Dl Tryz.prog ⟨d,.load t x,ty,pos,aft,gd⟩ ρ K (.int .i64 n):=Eh Ai h ht ha
theorem Jq {x:Operand}{i:Nat}{vs:List AV}{n:Int}(h:ρ x = .tuple vs:=by exact rfl)(hv:vs[i]? = some (.int .i64 n):=by exact rfl):Dl Tryz.prog ⟨d,.extract x i,ty,pos,aft,gd⟩ ρ K (.int .i64 n):=Cd h hv
theorem Bg {x:Operand}{b:Bool}(h:ρ x = .bool b:=by exact rfl):Dl Tryz.prog ⟨d,.assign x,ty,pos,aft,gd⟩ ρ K (.bool b):=C3 h
theorem Br {x:Operand}{b:Bool}(h:ρ x = .bool b:=by exact rfl):Dl Tryz.prog ⟨d,.move x,ty,pos,aft,gd⟩ ρ K (.bool b):=Bl h
theorem kE {t:TypeId}{td:TD}{x:Operand}{b:Bool}{cs:List AV}(h:ρ x = .ptr (.bool b::cs):=by exact rfl)(ht:Bu TL t=some td:=by exact rfl)(ha:td.agg=false:=by exact rfl):Dl Tryz.prog ⟨d,.load t x,ty,pos,aft,gd⟩ ρ K (.bool b):=Eh Ai h ht ha
theorem kA {x:Operand}{i:Nat}{vs:List AV}{b:Bool}(h:ρ x = .tuple vs:=by exact rfl)(hv:vs[i]? = some (.bool b):=by exact rfl):Dl Tryz.prog ⟨d,.extract x i,ty,pos,aft,gd⟩ ρ K (.bool b):=Cd h hv
theorem Vy {x:Operand}{z:Nat}{es:List (List AV)}(h:ρ x = .sl z es:=by exact rfl):Dl Tryz.prog ⟨d,.assign x,ty,pos,aft,gd⟩ ρ K (.sl z es):=C3 h
theorem C6 {x:Operand}{z:Nat}{es:List (List AV)}(h:ρ x = .sl z es:=by exact rfl):Dl Tryz.prog ⟨d,.move x,ty,pos,aft,gd⟩ ρ K (.sl z es):=Bl h
theorem Dm {t:TypeId}{td:TD}{x:Operand}{z:Nat}{es:List (List AV)}{cs:List AV}(h:ρ x = .ptr (.sl z es::cs):=by exact rfl)(ht:Bu TL t=some td:=by exact rfl)(ha:td.agg=false:=by exact rfl):Dl Tryz.prog ⟨d,.load t x,ty,pos,aft,gd⟩ ρ K (.sl z es):=Eh Ai h ht ha
theorem Qxs {x:Operand}{i:Nat}{vs:List AV}{z:Nat}{es:List (List AV)}(h:ρ x = .tuple vs:=by exact rfl)(hv:vs[i]? = some (.sl z es):=by exact rfl):Dl Tryz.prog ⟨d,.extract x i,ty,pos,aft,gd⟩ ρ K (.sl z es):=Cd h hv
theorem N8 {x:Operand}{v:Value}(h:ρ x = .val v:=by exact rfl):Dl Tryz.prog ⟨d,.assign x,ty,pos,aft,gd⟩ ρ K (.val v):=C3 h
theorem H4 {x:Operand}{v:Value}(h:ρ x = .val v:=by exact rfl):Dl Tryz.prog ⟨d,.move x,ty,pos,aft,gd⟩ ρ K (.val v):=Bl h
theorem Qlv {t:TypeId}{td:TD}{x:Operand}{v:Value}{cs:List AV}(h:ρ x = .ptr (.val v::cs):=by exact rfl)(ht:Bu TL t=some td:=by exact rfl)(ha:td.agg=false:=by exact rfl):Dl Tryz.prog ⟨d,.load t x,ty,pos,aft,gd⟩ ρ K (.val v):=Eh Ai h ht ha
theorem Qxv {x:Operand}{i:Nat}{vs:List AV}{v:Value}(h:ρ x = .tuple vs:=by exact rfl)(hv:vs[i]? = some (.val v):=by exact rfl):Dl Tryz.prog ⟨d,.extract x i,ty,pos,aft,gd⟩ ρ K (.val v):=Cd h hv
theorem Qaa {x:Operand}{l:List AV}(h:ρ x = .agg l:=by exact rfl):Dl Tryz.prog ⟨d,.assign x,ty,pos,aft,gd⟩ ρ K (.agg l):=C3 h
theorem Qma {x:Operand}{l:List AV}(h:ρ x = .agg l:=by exact rfl):Dl Tryz.prog ⟨d,.move x,ty,pos,aft,gd⟩ ρ K (.agg l):=Bl h
theorem Qla {t:TypeId}{td:TD}{x:Operand}{l:List AV}{cs:List AV}(h:ρ x = .ptr (.agg l::cs):=by exact rfl)(ht:Bu TL t=some td:=by exact rfl)(ha:td.agg=false:=by exact rfl):Dl Tryz.prog ⟨d,.load t x,ty,pos,aft,gd⟩ ρ K (.agg l):=Eh Ai h ht ha
theorem Qxa {x:Operand}{i:Nat}{vs:List AV}{l:List AV}(h:ρ x = .tuple vs:=by exact rfl)(hv:vs[i]? = some (.agg l):=by exact rfl):Dl Tryz.prog ⟨d,.extract x i,ty,pos,aft,gd⟩ ρ K (.agg l):=Cd h hv
theorem Qat {x:Operand}{s:List UInt8}(h:ρ x = .str s:=by exact rfl):Dl Tryz.prog ⟨d,.assign x,ty,pos,aft,gd⟩ ρ K (.str s):=C3 h
theorem eM {x:Operand}{s:List UInt8}(h:ρ x = .str s:=by exact rfl):Dl Tryz.prog ⟨d,.move x,ty,pos,aft,gd⟩ ρ K (.str s):=Bl h
theorem Vu {t:TypeId}{td:TD}{x:Operand}{s:List UInt8}{cs:List AV}(h:ρ x = .ptr (.str s::cs):=by exact rfl)(ht:Bu TL t=some td:=by exact rfl)(ha:td.agg=false:=by exact rfl):Dl Tryz.prog ⟨d,.load t x,ty,pos,aft,gd⟩ ρ K (.str s):=Eh Ai h ht ha
theorem Qxt {x:Operand}{i:Nat}{vs:List AV}{s:List UInt8}(h:ρ x = .tuple vs:=by exact rfl)(hv:vs[i]? = some (.str s):=by exact rfl):Dl Tryz.prog ⟨d,.extract x i,ty,pos,aft,gd⟩ ρ K (.str s):=Cd h hv
theorem Qau {x:Operand}{l:List AV}(h:ρ x = .tuple l:=by exact rfl):Dl Tryz.prog ⟨d,.assign x,ty,pos,aft,gd⟩ ρ K (.tuple l):=C3 h
theorem Mx {x:Operand}{l:List AV}(h:ρ x = .tuple l:=by exact rfl):Dl Tryz.prog ⟨d,.move x,ty,pos,aft,gd⟩ ρ K (.tuple l):=Bl h
theorem Qlu {t:TypeId}{td:TD}{x:Operand}{l:List AV}{cs:List AV}(h:ρ x = .ptr (.tuple l::cs):=by exact rfl)(ht:Bu TL t=some td:=by exact rfl)(ha:td.agg=false:=by exact rfl):Dl Tryz.prog ⟨d,.load t x,ty,pos,aft,gd⟩ ρ K (.tuple l):=Eh Ai h ht ha
theorem Qxu {x:Operand}{i:Nat}{vs:List AV}{l:List AV}(h:ρ x = .tuple vs:=by exact rfl)(hv:vs[i]? = some (.tuple l):=by exact rfl):Dl Tryz.prog ⟨d,.extract x i,ty,pos,aft,gd⟩ ρ K (.tuple l):=Cd h hv
theorem Qap {x:Operand}{l:List AV}(h:ρ x = .ptr l:=by exact rfl):Dl Tryz.prog ⟨d,.assign x,ty,pos,aft,gd⟩ ρ K (.ptr l):=C3 h
theorem zQ {x:Operand}{l:List AV}(h:ρ x = .ptr l:=by exact rfl):Dl Tryz.prog ⟨d,.move x,ty,pos,aft,gd⟩ ρ K (.ptr l):=Bl h
theorem Qlp {t:TypeId}{td:TD}{x:Operand}{l:List AV}{cs:List AV}(h:ρ x = .ptr (.ptr l::cs):=by exact rfl)(ht:Bu TL t=some td:=by exact rfl)(ha:td.agg=false:=by exact rfl):Dl Tryz.prog ⟨d,.load t x,ty,pos,aft,gd⟩ ρ K (.ptr l):=Eh Ai h ht ha
theorem Qxp {x:Operand}{i:Nat}{vs:List AV}{l:List AV}(h:ρ x = .tuple vs:=by exact rfl)(hv:vs[i]? = some (.ptr l):=by exact rfl):Dl Tryz.prog ⟨d,.extract x i,ty,pos,aft,gd⟩ ρ K (.ptr l):=Cd h hv
theorem Cm (l:List AV){t:TypeId}{td:TD}{x:Operand}{cs:List AV}(h:ρ x = .ptr cs:=by exact rfl)(ht:Bu TL t=some td:=by exact rfl)(ha:td.agg=true:=by exact rfl)(hl:cs.take td.size=l:=by exact rfl)(hs:Nat.beq l.length td.size=true:=by exact rfl):Dl Tryz.prog ⟨d,.load t x,ty,pos,aft,gd⟩ ρ K (.agg l):=Ey Ai h ht ha hl hs
theorem Qf (cs':List AV){s f off z ft:Nat}{nm:Bool}{x:Operand}{cs:List AV}{td:TD}{gs:List (Nat×Nat×Bool×Nat)}(h:ρ x = .ptr cs:=by exact rfl)(ht:Bu TL s=some td:=by exact rfl)(hk:td.kind = .struct gs:=by exact rfl)(hf:gs[f]? = some (off,z,nm,ft):=by exact rfl)(hz:Nat.blt 0 z=true:=by exact rfl)(hc:cs.drop off=cs':=by exact rfl):Dl Tryz.prog ⟨d,.fieldAddr s x f,ty,pos,aft,gd⟩ ρ K (.ptr cs'):=B9 Ai h ht hk hf hz hc
theorem Ir {s f off z ft b o:Nat}{nm:Bool}{x:Operand}{td:TD}{gs:List (Nat×Nat×Bool×Nat)}{o':Nat}(h:ρ x = .val (.pointer (some ⟨b,o,none⟩)):=by exact rfl)(ht:Bu TL s=some td:=by exact rfl)(hk:td.kind = .struct gs:=by exact rfl)(hf:gs[f]? = some (off,z,nm,ft):=by exact rfl)(hz:Nat.blt 0 z=true:=by exact rfl)(ho:o+off=o':=by exact rfl):Dl Tryz.prog ⟨d,.fieldAddr s x f,ty,pos,aft,gd⟩ ρ K (.val (.pointer (some ⟨b,o',none⟩))):=Vw Ai h ht hk hf hz ho
theorem F5 (cs:List AV){t:TypeId}{x:Operand}{l:List AV}(h:ρ x = .agg l:=by exact rfl)(hc:De (.agg l)=cs:=by exact rfl)(hs:Bh cs=true:=by exact rfl):Dl Tryz.prog ⟨d,.box t x,ty,pos,aft,gd⟩ ρ K (.ptr cs):=bC h hc hs
theorem Et (l:List AV){t:TypeId}{td:TD}{gs:List (Nat×Nat×Bool×Nat)}{parts:Array (Nat×Operand)}(ht:Bu TL t=some td:=by exact rfl)(hk:td.kind = .struct gs:=by exact rfl)(h:Uz gs td.zero (L6 ρ parts.toList)=some l:=by exact rfl):Dl Tryz.prog ⟨d,.build t parts,ty,pos,aft,gd⟩ ρ K (.agg l):=Aam Ai ht hk h
theorem Kv {s f' off z ft:Nat}{nm:Bool}{x:Operand}{cs:List AV}{td:TD}{gs:List (Nat×Nat×Bool×Nat)}{a:Int}{b:AV}{c:Int}{d1:Int}{e:Int}{f:Int}{g:Int}{h:List UInt8}(i:ρ x = .ptr cs:=by exact rfl)(ht:Bu TL s=some td:=by exact rfl)(hk:td.kind = .struct gs:=by exact rfl)(hf:gs[f']? = some (off,z,nm,ft):=by exact rfl)(hz:Nat.blt 0 z=true:=by exact rfl)(hc:cs.drop off = [.int .i64 a,b,.int .i64 c,.int .i64 d1,.int .i64 e,.int .i64 f,.int .i64 g,.str h]:=by exact rfl):Dl Tryz.prog ⟨d,.fieldAddr s x f',ty,pos,aft,gd⟩ ρ K (.ptr [.int .i64 a,b,.int .i64 c,.int .i64 d1,.int .i64 e,.int .i64 f,.int .i64 g,.str h]):=B9 Ai i ht hk hf hz hc
theorem D1 {t:TypeId}{td:TD}{x:Operand}{cs:List AV}{a:Int}{b:AV}{c:Int}{d1:Int}{e:Int}{f:Int}{g:Int}{h:List UInt8}(i:ρ x = .ptr cs:=by exact rfl)(ht:Bu TL t=some td:=by exact rfl)(ha:td.agg=true:=by exact rfl)(hl:cs.take td.size = [.int .i64 a,b,.int .i64 c,.int .i64 d1,.int .i64 e,.int .i64 f,.int .i64 g,.str h]:=by exact rfl)(hs:Nat.beq 8 td.size=true:=by exact rfl):Dl Tryz.prog ⟨d,.load t x,ty,pos,aft,gd⟩ ρ K (.agg [.int .i64 a,b,.int .i64 c,.int .i64 d1,.int .i64 e,.int .i64 f,.int .i64 g,.str h]):=Ey Ai i ht ha hl hs
theorem La {t:TypeId}{x:Operand}{l:List AV}{a:Int}{b:AV}{c:Int}{d1:Int}{e:Int}{f:Int}{g:Int}{h:List UInt8}(i:ρ x = .agg l:=by exact rfl)(hc:De (.agg l) = [.int .i64 a,b,.int .i64 c,.int .i64 d1,.int .i64 e,.int .i64 f,.int .i64 g,.str h]:=by exact rfl)(hs:Bh [.int .i64 a,b,.int .i64 c,.int .i64 d1,.int .i64 e,.int .i64 f,.int .i64 g,.str h]=true:=by exact rfl):Dl Tryz.prog ⟨d,.box t x,ty,pos,aft,gd⟩ ρ K (.ptr [.int .i64 a,b,.int .i64 c,.int .i64 d1,.int .i64 e,.int .i64 f,.int .i64 g,.str h]):=bC i hc hs
theorem K7 {s f' off z ft:Nat}{nm:Bool}{x:Operand}{cs:List AV}{td:TD}{gs:List (Nat×Nat×Bool×Nat)}{b:AV}{c:Int}{d1:Int}{e:Int}{f:Int}{g:Int}{h:List UInt8}(i:ρ x = .ptr cs:=by exact rfl)(ht:Bu TL s=some td:=by exact rfl)(hk:td.kind = .struct gs:=by exact rfl)(hf:gs[f']? = some (off,z,nm,ft):=by exact rfl)(hz:Nat.blt 0 z=true:=by exact rfl)(hc:cs.drop off = [b,.int .i64 c,.int .i64 d1,.int .i64 e,.int .i64 f,.int .i64 g,.str h]:=by exact rfl):Dl Tryz.prog ⟨d,.fieldAddr s x f',ty,pos,aft,gd⟩ ρ K (.ptr [b,.int .i64 c,.int .i64 d1,.int .i64 e,.int .i64 f,.int .i64 g,.str h]):=B9 Ai i ht hk hf hz hc
theorem Yy {s f' off z ft:Nat}{nm:Bool}{x:Operand}{cs:List AV}{td:TD}{gs:List (Nat×Nat×Bool×Nat)}{c:Int}{d1:Int}{e:Int}{f:Int}{g:Int}{h:List UInt8}(i:ρ x = .ptr cs:=by exact rfl)(ht:Bu TL s=some td:=by exact rfl)(hk:td.kind = .struct gs:=by exact rfl)(hf:gs[f']? = some (off,z,nm,ft):=by exact rfl)(hz:Nat.blt 0 z=true:=by exact rfl)(hc:cs.drop off = [.int .i64 c,.int .i64 d1,.int .i64 e,.int .i64 f,.int .i64 g,.str h]:=by exact rfl):Dl Tryz.prog ⟨d,.fieldAddr s x f',ty,pos,aft,gd⟩ ρ K (.ptr [.int .i64 c,.int .i64 d1,.int .i64 e,.int .i64 f,.int .i64 g,.str h]):=B9 Ai i ht hk hf hz hc
theorem Qt {s f' off z ft:Nat}{nm:Bool}{x:Operand}{cs:List AV}{td:TD}{gs:List (Nat×Nat×Bool×Nat)}{d1:Int}{e:Int}{f:Int}{g:Int}{h:List UInt8}(i:ρ x = .ptr cs:=by exact rfl)(ht:Bu TL s=some td:=by exact rfl)(hk:td.kind = .struct gs:=by exact rfl)(hf:gs[f']? = some (off,z,nm,ft):=by exact rfl)(hz:Nat.blt 0 z=true:=by exact rfl)(hc:cs.drop off = [.int .i64 d1,.int .i64 e,.int .i64 f,.int .i64 g,.str h]:=by exact rfl):Dl Tryz.prog ⟨d,.fieldAddr s x f',ty,pos,aft,gd⟩ ρ K (.ptr [.int .i64 d1,.int .i64 e,.int .i64 f,.int .i64 g,.str h]):=B9 Ai i ht hk hf hz hc
theorem R0 {s f' off z ft:Nat}{nm:Bool}{x:Operand}{cs:List AV}{td:TD}{gs:List (Nat×Nat×Bool×Nat)}{e:Int}{f:Int}{g:Int}{h:List UInt8}(i:ρ x = .ptr cs:=by exact rfl)(ht:Bu TL s=some td:=by exact rfl)(hk:td.kind = .struct gs:=by exact rfl)(hf:gs[f']? = some (off,z,nm,ft):=by exact rfl)(hz:Nat.blt 0 z=true:=by exact rfl)(hc:cs.drop off = [.int .i64 e,.int .i64 f,.int .i64 g,.str h]:=by exact rfl):Dl Tryz.prog ⟨d,.fieldAddr s x f',ty,pos,aft,gd⟩ ρ K (.ptr [.int .i64 e,.int .i64 f,.int .i64 g,.str h]):=B9 Ai i ht hk hf hz hc
theorem Jr {s f' off z ft:Nat}{nm:Bool}{x:Operand}{cs:List AV}{td:TD}{gs:List (Nat×Nat×Bool×Nat)}{f:Int}{g:Int}{h:List UInt8}(i:ρ x = .ptr cs:=by exact rfl)(ht:Bu TL s=some td:=by exact rfl)(hk:td.kind = .struct gs:=by exact rfl)(hf:gs[f']? = some (off,z,nm,ft):=by exact rfl)(hz:Nat.blt 0 z=true:=by exact rfl)(hc:cs.drop off = [.int .i64 f,.int .i64 g,.str h]:=by exact rfl):Dl Tryz.prog ⟨d,.fieldAddr s x f',ty,pos,aft,gd⟩ ρ K (.ptr [.int .i64 f,.int .i64 g,.str h]):=B9 Ai i ht hk hf hz hc
theorem Wn {s f' off z ft:Nat}{nm:Bool}{x:Operand}{cs:List AV}{td:TD}{gs:List (Nat×Nat×Bool×Nat)}{g:Int}{h:List UInt8}(i:ρ x = .ptr cs:=by exact rfl)(ht:Bu TL s=some td:=by exact rfl)(hk:td.kind = .struct gs:=by exact rfl)(hf:gs[f']? = some (off,z,nm,ft):=by exact rfl)(hz:Nat.blt 0 z=true:=by exact rfl)(hc:cs.drop off = [.int .i64 g,.str h]:=by exact rfl):Dl Tryz.prog ⟨d,.fieldAddr s x f',ty,pos,aft,gd⟩ ρ K (.ptr [.int .i64 g,.str h]):=B9 Ai i ht hk hf hz hc
theorem Qf7 {s f' off z ft:Nat}{nm:Bool}{x:Operand}{cs:List AV}{td:TD}{gs:List (Nat×Nat×Bool×Nat)}{h:List UInt8}(i:ρ x = .ptr cs:=by exact rfl)(ht:Bu TL s=some td:=by exact rfl)(hk:td.kind = .struct gs:=by exact rfl)(hf:gs[f']? = some (off,z,nm,ft):=by exact rfl)(hz:Nat.blt 0 z=true:=by exact rfl)(hc:cs.drop off = [.str h]:=by exact rfl):Dl Tryz.prog ⟨d,.fieldAddr s x f',ty,pos,aft,gd⟩ ρ K (.ptr [.str h]):=B9 Ai i ht hk hf hz hc
theorem A7 {x y:Operand}{t yt:TypeId}{k:IntKind}{n m:Int}(hx:ρ x = .int k n:=by exact rfl)(hy:ρ y = .int k m:=by exact rfl):Dl Tryz.prog ⟨d,.binOp .eql t x y yt,ty,pos,aft,gd⟩ ρ K (.bool (n==m)):=P_eql hx hy
theorem Ct {x y:Operand}{t yt:TypeId}{k:IntKind}{n m:Int}(hx:ρ x = .int k n:=by exact rfl)(hy:ρ y = .int k m:=by exact rfl):Dl Tryz.prog ⟨d,.binOp .neq t x y yt,ty,pos,aft,gd⟩ ρ K (.bool (n != m)):=Ou hx hy
theorem Cl {x y:Operand}{t yt:TypeId}{k:IntKind}{n m:Int}(hx:ρ x = .int k n:=by exact rfl)(hy:ρ y = .int k m:=by exact rfl):Dl Tryz.prog ⟨d,.binOp .lss t x y yt,ty,pos,aft,gd⟩ ρ K (.bool (decide (n<m))):=P_lss hx hy
theorem Hi {x y:Operand}{t yt:TypeId}{k:IntKind}{n m:Int}(hx:ρ x = .int k n:=by exact rfl)(hy:ρ y = .int k m:=by exact rfl):Dl Tryz.prog ⟨d,.binOp .gtr t x y yt,ty,pos,aft,gd⟩ ρ K (.bool (decide (m<n))):=P_gtr hx hy
theorem Ng {x y:Operand}{t yt:TypeId}{k:IntKind}{n m:Int}(hx:ρ x = .int k n:=by exact rfl)(hy:ρ y = .int k m:=by exact rfl):Dl Tryz.prog ⟨d,.binOp .leq t x y yt,ty,pos,aft,gd⟩ ρ K (.bool (decide (n≤m))):=yA hx hy
theorem N7 {x y:Operand}{t yt:TypeId}{k:IntKind}{n m:Int}(hx:ρ x = .int k n:=by exact rfl)(hy:ρ y = .int k m:=by exact rfl):Dl Tryz.prog ⟨d,.binOp .geq t x y yt,ty,pos,aft,gd⟩ ρ K (.bool (decide (m≤n))):=Uo hx hy
theorem Fx {x y:Operand}{t yt:TypeId}{n m r:Int}(hx:ρ x = .int .i64 n:=by exact rfl)(hy:ρ y = .int .i64 m:=by exact rfl)(hr:n+m=r:=by exact rfl)(hb : -9223372036854775808≤r∧r≤9223372036854775807:=by constructor <;> omega):Dl Tryz.prog ⟨d,.binOp .add t x y yt,ty,pos,aft,gd⟩ ρ K (.int .i64 r):=fF hx hy hr hb
theorem Gt {x:Operand}{t:TypeId}{b:Bool}(hx:ρ x = .bool b:=by exact rfl):Dl Tryz.prog ⟨d,.unOp .not t x,ty,pos,aft,gd⟩ ρ K (.bool (!b)):=P_not hx
theorem E3 {c a y:Operand}{b x:Bool}(hc:ρ c = .bool b:=by exact rfl)(ha:ρ a = .opt [(b,true)] (.bool x):=by exact rfl)(hy:ρ y = .bool false:=by exact rfl):Dl Tryz.prog ⟨d,.pick c a y,ty,pos,aft,gd⟩ ρ K (.bool (b&&x)):=Nk hc ha hy
theorem E5 {c a y:Operand}{b x:Bool}(hc:ρ c = .bool b:=by exact rfl)(ha:ρ a = .bool true:=by exact rfl)(hy:ρ y = .opt [(b,false)] (.bool x):=by exact rfl):Dl Tryz.prog ⟨d,.pick c a y,ty,pos,aft,gd⟩ ρ K (.bool (b||x)):=rQ hc ha hy
theorem Qc {f:FuncId}{args:Array Operand}{ats:Array TypeId}{l:List AV}{r:AV}(ha:args.toList.map ρ=l)(hc:Ax Tryz.prog f l r)(hf:vE Tryz.prog f=true:=by kernel_rfl)(hcal:ρ (.func f) = .fn (.func f) [] []:=by exact rfl):Dl Tryz.prog ⟨d,.call ⟨.value (.func f),args,ats⟩,ty,pos,aft,gd⟩ ρ K r:=C8 hf hcal ha hc
end
section
variable {ops:Array Oper} {K:St→Prop} {s:St} {d:Option Nat} {op:Op} {t:TypeId} {pos:String} {after:Array Edge} {r:List Oper} {x y:AV} {o:Oper} {G:List (Bool×Bool)} {b:Bool} {c1 c2:Code} {Q Q':Exit→St→Prop} {N:St→Prop} {id:Nat}
theorem Qp (h:Dl Tryz.prog ⟨d,op,t,pos,after,none⟩ (Hb s.sl) (fun _=>True) x)(k:AOL Tryz.prog ops K r ⟨Fs d x s.sl,s.H,s.n⟩)(hd:Od d s.n=true:=by exact rfl):AOL Tryz.prog ops K (⟨d,op,t,pos,after,none⟩::r) s:=AOL.p h hd k
theorem Co (k:Nat)(cs':List AV)(H2:List HO){b o:Nat}{td:TD}{TT t':TypeId}{cs:List AV}{v:AV}{x1 y1:Operand}(kk:AOL Tryz.prog ops K r ⟨Fs d .junk s.sl,H2,s.n⟩)(h:Hb s.sl x1 = .val (.pointer (some ⟨b,o,none⟩)):=by exact rfl)(hv:Hb s.sl y1=v:=by exact rfl)(ht:Bu TL t'=some td:=by exact rfl)(hk:s.H[k]? = some (.box b TT cs):=by exact rfl)(hs:Bh (De v)=true:=by exact rfl)(hl:Nat.beq (De v).length td.size=true:=by exact rfl)(hb:Nat.ble (o+td.size) cs.length=true:=by exact rfl)(hc:Fw cs o (De v)=cs':=by exact rfl)(hH2:s.H.set k (.box b TT cs')=H2:=by exact rfl)(hd:Od d s.n=true:=by exact rfl):AOL Tryz.prog ops K (⟨d,.store t' x1 y1,t,pos,after,none⟩::r) s:=AOL.e (C7 (k:=k) Ai h hv ht hk hs hl hb hc hH2) hd fun x' H' e=>by obtain ⟨e1,e2⟩:=e;subst e1;subst e2;exact kk
abbrev Iq (n:Int):AV:=.int .i64 n
theorem iN {α:Type}{b:Bool}[Decidable (b=true)]{x y:α}(h:b=false):(if b=true then x else y)=y:=if_neg (Bool.eq_false_iff.mp h)
theorem Qe {R:AV→List HO→Prop}(h:Le Tryz.prog ⟨d,op,t,pos,after,none⟩ (Hb s.sl) s.H R)(k:∀x H',R x H'→AOL Tryz.prog ops K r ⟨Fs d x s.sl,H',s.n⟩)(hd:Od d s.n=true:=by exact rfl):AOL Tryz.prog ops K (⟨d,op,t,pos,after,none⟩::r) s:=AOL.e h hd k
theorem Qw {sl:List (Nat×AV)}{L:List (Nat×AV)}(hw:Ih ops o sl=some G:=by exact rfl)(hL:sF G sl L:=by first | exact trivial | exact ⟨Ent.Aa3 _ _,trivial⟩ | exact ⟨Ent.Aa3 _ _,tZ.suf _ _ _,trivial⟩):Ih ops o sl=some G∧sF G sl L:=⟨hw,hL⟩
theorem Qg (L:List (Nat×AV))(w:Ih ops o s.sl=some G∧sF G s.sl L)(h:Dl Tryz.prog o (Hb (L++s.sl)) (fun _=>True) y)(k:AOL Tryz.prog ops K r ⟨Fs o.dst (.opt G y) s.sl,s.H,s.n⟩)(hd:Od o.dst s.n=true:=by exact rfl):AOL Tryz.prog ops K (o::r) s:=AOL.Aa6 G L w.1 (sF.all w.2) (fun _=>h) hd k
theorem Ah (h:AOL Tryz.prog ops (Kd (AW Tryz.prog c2 Q) Q .normal) ops.toList s):AW Tryz.prog (.seq (.region id ops false) c2) Q s:=AW.seq (AW.region h)
theorem Ag (h:N s):AOL Tryz.prog ops (Kd N Q .normal) [] s:=AOL.nil (Ae h)
theorem Dh {ops':Array Oper}(h:AOL Tryz.prog ops' (Kd (AW Tryz.prog c2 Q) Q .normal) ops'.toList s):AOL Tryz.prog ops (Kd (AW Tryz.prog (.seq (.region id ops' false) c2) Q) Q' .normal) [] s:=AOL.nil (Ae (AW.seq (AW.region h)))
theorem A5 {c:Operand}{x y:Code}(ht:b=true→AW Tryz.prog x Q s)(hf:b=false→AW Tryz.prog y Q s)(hb:Hb s.sl c = .bool b:=by exact rfl):AW Tryz.prog (.cond c x y) Q s:=AW.cond hb ht hf
theorem Bz (h:N s):AW Tryz.prog .skip (Kd N Q) s:=AW.skip (Ae h)
theorem Du (h:Q .ret s):AW Tryz.prog .ret (Kd N Q) s:=AW.ret (Aj h)
theorem Qr {H:List HO}{l:List ResultVar}{r:AV}(x:AV)(h:Ad [x]=r)(hr:ResL Tryz.prog TL s l [x]:=by exact .cons (.tmp _ _ rfl) .nil)(hs:H.Sublist s.H:=by exact .refl _):(Exit.ret = .normal∨Exit.ret = .ret)∧∃xs,ResL Tryz.prog TL s l xs∧H.Sublist s.H∧Ad xs=r:=⟨.inr rfl,[x],hr,hs,h⟩
theorem Ko {H:List HO}{l:List ResultVar}{r:AV}(x y:AV)(h:Ad [x,y]=r)(hr:ResL Tryz.prog TL s l [x,y]:=by exact .cons (.tmp _ _ rfl) (.cons (.tmp _ _ rfl) .nil))(hs:H.Sublist s.H:=by exact .refl _):(Exit.ret = .normal∨Exit.ret = .ret)∧∃xs,ResL Tryz.prog TL s l xs∧H.Sublist s.H∧Ad xs=r:=⟨.inr rfl,[x,y],hr,hs,h⟩
end
section
variable {ops:Array Oper} {K:List HO→Prop} {Q:St→Prop} {s:St} {o:Oper} {x y:AV} {G:List (Bool×Bool)} {listed:Array Bool}
theorem Qn (i:Nat)(ho:ops[i]? = some o)(h:Dl Tryz.prog o (Hb s.sl) K x)(k:Jx Tryz.prog ops K Q (listed.setIfInBounds i true) ⟨Fs o.dst x s.sl,s.H,s.n⟩)(hr:(Region.ready .any ops listed).contains i=true:=by kernel_rfl)(hf:Region.free .any ops listed i=true:=by kernel_rfl)(hd:Od o.dst s.n=true:=by exact rfl)(hg:o.guard=none:=by exact rfl):Jx Tryz.prog ops K Q listed s:=Jx.pure listed s i o x ho hr hf hd (.run hg h) k
theorem Qo (i:Nat)(ho:ops[i]? = some o)(L:List (Nat×AV))(w:Ih ops o s.sl=some G∧sF G s.sl L)(h:Dl Tryz.prog o (Hb (L++s.sl)) K y)(k:Jx Tryz.prog ops K Q (listed.setIfInBounds i true) ⟨Fs o.dst (.opt G y) s.sl,s.H,s.n⟩)(hr:(Region.ready .any ops listed).contains i=true:=by kernel_rfl)(hf:Region.free .any ops listed i=true:=by kernel_rfl)(hd:Od o.dst s.n=true:=by exact rfl):Jx Tryz.prog ops K Q listed s:=Jx.pure listed s i o _ ho hr hf hd (.opt G y L w.1 (sF.all w.2) (fun _=>h) rfl) k
end

theorem Cy:({ data:=#[] }:ByteArray).data.toList=([]:List UInt8):=rfl

structure Vl where
 kind:Int
 num:Int
 text:List UInt8
deriving DecidableEq

structure Ex where
 op:Int
 args:List Ex
 var:Int
 field:Int
 kind:Int
 val:Vl

structure Ev where
 source:Int
 seq:Int
 type:Int
 time:Int
 values:List Vl

structure Ac where
 kind:Int
 count:Int
 val:Vl

def v0:Vl:=⟨0,0,[]⟩
def Kn:Ev:=⟨0,0,0,0,[]⟩
def Wc:Ex:=⟨0,[],0,0,0,v0⟩
def ac0:Ac:=⟨0,0,v0⟩

/-- == on values, as the model counts it out -/
@[reducible] def eqV (v w : Vl) : Bool := v.kind == w.kind && (v.num == w.num && v.text == w.text)
@[reducible] def isV0 (v : Vl) : Bool := v.kind == 0 && (v.num == 0 && v.text == [])
theorem nO (v w:Vl):eqV v w=true↔v=w:=by
 cases v;cases w;simp [eqV]
theorem eP (v:Vl):isV0 v=true↔v=v0:=by
 cases v;simp [isV0,v0]

def cV (v:Vl):List AV:=[.int .i64 v.kind,.int .i64 v.num,.str v.text]

mutual
def Fv:Ex→List AV
 | ⟨op,args,var,field,kind,val⟩=>[.int .i64 op,.sl 8 (iF args),.int .i64 var,.int .i64 field,.int .i64 kind,.int .i64 val.kind,.int .i64 val.num,.str val.text]
def iF:List Ex→List (List AV)
 | []=>[]
 | e::r=>Fv e::iF r
end

theorem Zt:∀l:List Ex,iF l=l.map Fv
 | []=>by simp [iF]
 | e::r=>by simp [iF,Zt r]

def cE (e:Ex):List AV:=[.int .i64 e.op,.sl 8 (e.args.map Fv),.int .i64 e.var,.int .i64 e.field,.int .i64 e.kind,.int .i64 e.val.kind,.int .i64 e.val.num,.str e.val.text]
def Oo (e:Ev):List AV:=[.int .i64 e.source,.int .i64 e.seq,.int .i64 e.type,.int .i64 e.time,.sl 3 (e.values.map cV)]
def Xf (a:Ac):List AV:=[.int .i64 a.kind,.int .i64 a.count,.int .i64 a.val.kind,.int .i64 a.val.num,.str a.val.text]
def rD (l:List Ev):List AV:=[.sl 5 (l.map Oo)]
def cEnv (l:List (List Ev)):List AV:=[.sl 1 (l.map rD)]

theorem Jd (e:Ex):Fv e=cE e:=by
 cases e
 simp [Fv,cE,Zt]

theorem Ex.Abb {P:Ex→Prop}(h:∀e,(∀a∈e.args,P a)→P e):∀e,P e:=by
 intro e
 exact Ex.rec (motive_1:=P) (motive_2:=fun l=>∀a∈l,P a) (fun op args v f k val ih=>h _ ih) (by simp) (fun a l ha hl=>by simp only [List.mem_cons,forall_eq_or_imp];exact ⟨ha,hl⟩) e

theorem Fb {l:List Ex}{k:Nat}{a:Ex}(h:l[k]? = some a):(l.map Fv)[k]? = some (cE a):=by
 simp [h,Jd]
theorem Bj {α:Type}{f:α→List AV}{l:List α}{k:Nat}{a:α}(h:l[k]? = some a):(l.map f)[k]? = some (f a):=by simp [h]

theorem B4 {α:Type}{l:List α}{k:Nat}(h:decide ((k:Int)<(l.length:Int))=true):∃a,l[k]? = some a:=by
 have:k<l.length:=by simpa using h
 exact ⟨_,List.getElem?_eq_getElem this⟩
theorem Bb {α:Type}{l:List α}{k:Nat}{a:α}(h:l[k]? = some a):k<l.length:=(List.getElem?_eq_some_iff.1 h).1
theorem Ba {α:Type}{l:List α}{k:Nat}{a:α}(h:l[k]? = some a):l.drop k=a::l.drop (k+1):=by
 obtain ⟨h1,h2⟩:=List.getElem?_eq_some_iff.1 h
 rw [←h2];exact List.drop_eq_getElem_cons h1
theorem Cu {α:Type}{l:List α}{k:Nat}{a:α}(h:l[k]? = some a):l.take (k+1)=l.take k ++ [a]:=by
 rw [List.take_add_one,h];rfl
theorem C5 {α:Type}{l:List α}{k:Nat}(h:decide ((k:Int)<(l.length:Int))=false):l.take k=l:=by
 have:¬k<l.length:=by simpa using h
 exact List.take_of_length_le (by omega)
theorem Hv {α:Type}{l:List α}{v:Int}(h0:0≤v)(h:v<(l.length:Int)):∃a,l[v.toNat]? = some a:=⟨_,List.getElem?_eq_getElem (by omega)⟩
theorem Di {α:Type}{l:List α}{k:Nat}(h:decide ((k:Int)<(l.length:Int))=false):l.drop k = []:=by
 have:¬k<l.length:=by simpa using h
 exact List.drop_eq_nil_of_le (by omega)

/-! ### Layer 1 -/

def D5 (b:Bool):Vl:=if b then ⟨1,1,[]⟩ else ⟨1,0,[]⟩

def Ea (v:Vl):Int:=
 if v.kind==0&&(decide (v.num < -1099511627776)||decide (1099511627776<v.num)) then 2
 else if v.kind==1&&v.num != 0&&v.num != 1 then 2
 else if decide (64<(v.text.length:Int)) then 13 else 0

def Ap (v:Vl):Int:=
 if v.kind==0||v.kind==1 then (if !(v.text == []) then 3 else Ea v)
 else if v.kind==2 then (if v.num != 0 then 3 else Ea v)
 else 1

/-- the same in the order of the reference -/
def Cp (v:Vl):Int:=
 if decide (v.kind<0)||decide (2<v.kind) then 1
 else if v.kind==2 then (if v.num != 0 then 3 else if decide (64<(v.text.length:Int)) then 13 else 0)
 else if !(v.text == []) then 3
 else if v.kind==1&&(decide (v.num<0)||decide (1<v.num))||decide (v.num < -1099511627776)||decide (1099511627776<v.num) then 2 else 0
theorem I0 (v:Vl):Cp v=Ap v:=by
 unfold Cp Ap Ea
 obtain ⟨k,n,t⟩:=v
 by_cases ht:t = []
 ·
  subst ht
  simp only [Bool.or_eq_true,Bool.and_eq_true,decide_eq_true_eq,beq_iff_eq,bne_iff_ne,ne_eq,not_true,if_false,List.length_nil,BEq.rfl,Bool.not_true,Bool.false_eq_true,Bool.not_true,Bool.false_eq_true]
  repeat' split
  all_goals first | rfl | omega
 ·
  simp only [Bool.or_eq_true,Bool.and_eq_true,decide_eq_true_eq,beq_iff_eq,bne_iff_ne,ne_eq,ht,not_false_eq_true,if_true,Bool.not_eq_true',beq_eq_false_iff_ne]
  repeat' split
  all_goals first | rfl | omega

/-! ### Layer 7 -/

def Dt (k:Int):Bool:=decide (0≤k)&&decide (k≤5)
def Eu (k:Int)(v:Vl):Bool:=v.kind==0||(k != 1&&k != 2&&k != 3)
def Gq (k:Int)(v:Vl):Bool:=v.kind==0||k==0||k==4||k==5

def I7 (k:Int)(a b:Vl):Vl:=
 if k==1 then ⟨0,IntKind.i64.wrap (a.num+b.num),[]⟩ else if k==2 then ⟨0,min a.num b.num,[]⟩ else if k==3 then ⟨0,max a.num b.num,[]⟩ else if k==4 then a else if k==5 then b else v0
def E7 (k:Int)(v:Vl):Vl:=if k==0 then v0 else v
def E4 (a b:Ac):Ac:=if a.count==0 then b else if b.count==0 then a else ⟨a.kind,IntKind.i64.wrap (a.count+b.count),I7 a.kind a.val b.val⟩

def Bq (a:Ac):Int:=
 if !Dt a.kind then 1
 else if decide (a.count<0)||decide (4096<a.count) then 2
 else if (if a.count==0||a.kind==0 then isV0 a.val
  else if a.kind==1 then a.val.kind==0&&a.val.text == []&&decide (0-a.count*1099511627776≤a.val.num)&&decide (a.val.num≤a.count*1099511627776)
  else Ap a.val==0&&Eu a.kind a.val) then 0 else 3

def racheckS (a:Ac):Int:=
 if !Dt a.kind then 1
 else if decide (a.count<0)||decide (4096<a.count) then 2
 else if a.count==0||a.kind==0 then (if !isV0 a.val then 3 else 0)
 else if a.kind==1 then (if a.val.kind != 0 || !(a.val.text == [])||decide (a.val.num<0-a.count*1099511627776)||decide (a.count*1099511627776<a.val.num) then 3 else 0)
 else if Ap a.val != 0 || !Gq a.kind a.val then 3 else 0
theorem zK (k:Int)(v:Vl)(h:Dt k=true):Gq k v=Eu k v:=by
 simp only [Dt,Bool.and_eq_true,decide_eq_true_eq] at h
 unfold Gq Eu
 rw [Bool.eq_iff_iff]
 simp
 omega
def Do (k:Int)(v:Vl):Int:=if Ap v != 0 then Ap v else if !Eu k v then 9 else 0

def Dr (a:Ac)(o:Vl):Vl×Int:=
 if Bq a != 0 then (v0,Bq a)
 else if Do a.kind o != 0 then (v0,Do a.kind o)
 else if a.kind==0 then (⟨0,a.count,[]⟩,0)
 else if a.count==0&&a.kind != 1 then (o,0)
 else (a.val,0)

def Ju (k:Int)(a:Ac)(v:Vl):Ac:=E4 a ⟨k,1,E7 k v⟩
def Zv (k:Int)(l:List Vl):Ac:=l.foldl (Ju k) ⟨k,0,v0⟩

/-- the first error of a list -/
def Aq {α:Type}(f:α→Int):List α→Int
 | []=>0
 | a::r=>if f a != 0 then f a else Aq f r

theorem iA (a c:Ac)(h:Dt a.kind=true)(h':Dt c.kind=true):Dt (E4 a c).kind=true:=by
 unfold E4;split
 · exact h'
 · split <;> exact h
theorem qM (k:Int)(a:Ac)(v:Vl)(h:Dt a.kind=true)(hk:Dt k=true):Dt (Ju k a v).kind=true:=iA _ _ h hk

def eL (k:Int)(l:List Vl)(o:Vl):Vl×Int:=
 if !Dt k then (v0,1)
 else if decide (4096<(l.length:Int)) then (v0,5)
 else if Aq (Do k) l != 0 then (v0,Aq (Do k) l)
 else Dr (Zv k l) o

/-! ### Layer 8: nodes -/

def Dp (op:Int):Bool×Bool:=if op=1∨op=4 then (true,true) else if op=2∨op=3 then (true,false) else (false,false)
def D6 (op:Int):Int:=if op<0∨12<op then 0 else if op<5 then 0 else if op=12 then 1 else 2
def Dw (k:Int)(v:Vl):Bool:=v.kind==0||k==4||k==5

def Fm (e:Ex):Int:=
 if Ap e.val != 0 then Ap e.val
 else if e.op==4&&(!Dw e.kind e.val||(e.kind==1 && !isV0 e.val)) then 9 else 0

def Bm (e:Ex):Int:=
 if !(Dp e.op).1&&e.var != 0||(!(Dp e.op).2&&e.field != 0)||(!(e.op==4)&&e.kind != 0)||(!(e.op==4||e.op==0) && !isV0 e.val) then 3 else 0

def By (e:Ex):Int:=
 if !decide (0≤e.op∧e.op≤12) then 1
 else if (e.args.length:Int) != D6 e.op then 15
 else if ((Dp e.op).1&&(decide (e.var<0)||decide (16≤e.var)))||((Dp e.op).2&&(decide (e.field<0)||decide (8≤e.field))) then 2
 else if e.op==4&&(decide (e.kind<1)||decide (5<e.kind)) then 1
 else if e.op==4||e.op==0 then (if Fm e != 0 then Fm e else Bm e)
 else Bm e

mutual
def Jg (f:Ex→Int):Ex→Int
 | ⟨op,args,var,field,kind,val⟩=>if f ⟨op,args,var,field,kind,val⟩ != 0 then f ⟨op,args,var,field,kind,val⟩ else Wp f args
def Wp (f:Ex→Int):List Ex→Int
 | []=>0
 | e::r=>if Jg f e != 0 then Jg f e else Wp f r
end
theorem Sk (f:Ex→Int):∀l,Wp f l=Aq (Jg f) l
 | []=>by simp [Wp,Aq]
 | e::r=>by simp [Wp,Aq,Sk f r]
theorem T0 (f:Ex→Int)(e:Ex):Jg f e=if f e != 0 then f e else Aq (Jg f) e.args:=by
 cases e;rw [Jg,Sk]
abbrev C4:Ex→Int:=Jg By
theorem Lc (e:Ex):C4 e=if By e != 0 then By e else Aq C4 e.args:=T0 By e

mutual
def At:Ex→Nat
 | ⟨_,args,_,_,_,_⟩=>1+Yn args
def Yn:List Ex→Nat
 | []=>0
 | e::r=>At e+Yn r
end
mutual
def E0:Ex→Nat
 | ⟨_,args,_,_,_,_⟩=>R9 args+1
def R9:List Ex→Nat
 | []=>0
 | e::r=>max (E0 e) (R9 r)
end
theorem Yd:∀l,Yn l=(l.map At).sum
 | []=>by simp [Yn]
 | e::r=>by simp [Yn,Yd r]
theorem D7 (e:Ex):At e=1+(e.args.map At).sum:=by cases e;rw [At,Yd]
theorem S3:∀l,R9 l=(l.map E0).foldr max 0
 | []=>by simp [R9]
 | e::r=>by simp [R9,S3 r]
theorem Ts (e:Ex):E0 e=(e.args.map E0).foldr max 0+1:=by cases e;rw [E0,S3]

theorem mK {l:List Ex}{a:Ex}(f:Ex→Nat)(h:a∈l):f a≤(l.map f).sum:=by
  induction l with
  | nil=>cases h
  | cons x r ih=>
    simp only [List.map_cons,List.sum_cons]
    rcases List.mem_cons.1 h with rfl | h
    · omega
    · have:=ih h;omega
theorem Gu {e a:Ex}(h:a∈e.args):At a<At e:=by
 have:=mK At h;have:=D7 e;omega
theorem J7 (e:Ex):E0 e≤At e:=by
  refine Ex.Abb (P:=fun e=>E0 e≤At e) (fun e ih=>?_) e
  rw [Ts,D7]
  have:∀l:List Ex,(∀a∈l,E0 a≤At a)→(l.map E0).foldr max 0≤(l.map At).sum:=by
    intro l
    induction l with
    | nil=>intro _;exact Nat.le_refl _
    | cons x r ihr=>
      intro h
      simp only [List.map_cons,List.foldr_cons,List.sum_cons]
      have h1:=h x (by simp)
      have h2:=ihr fun a ha=>h a (by simp [ha])
      omega
  have:=this e.args ih
  omega

mutual
def Ha (L:Nat):Ex→Nat
 | ⟨_,args,_,_,_,_⟩=>F3 L args 1
def F3 (L:Nat):List Ex→Nat→Nat
 | [],n=>n
 | e::r,n=>if n≤L then F3 L r (n+Ha L e) else n
end
theorem Zs (L:Nat)(e:Ex):Ha L e=F3 L e.args 1:=by cases e;rw [Ha]
theorem Xh (L:Nat)(e:Ex):Ha L e=At e∨(L<Ha L e∧Ha L e≤At e):=by
  refine Ex.Abb (P:=fun e=>Ha L e=At e∨(L<Ha L e∧Ha L e≤At e)) (fun e ih=>?_) e
  rw [Zs,D7]
  have:∀(l:List Ex) (n:Nat),(∀a∈l,Ha L a=At a∨(L<Ha L a∧Ha L a≤At a))→F3 L l n=n+(l.map At).sum∨(L<F3 L l n∧F3 L l n≤n+(l.map At).sum):=by
    intro l
    induction l with
    | nil=>intro n _;simp [F3]
    | cons x r ihr=>
      intro n h
      simp only [F3,List.map_cons,List.sum_cons]
      have h1:=h x (by simp)
      have h2:=ihr (n+Ha L x) fun a ha=>h a (by simp [ha])
      split
      · have hmono:n+Ha L x≤F3 L r (n+Ha L x):=by
          have:∀(l:List Ex) (m:Nat),m≤F3 L l m:=by
            intro l
            induction l with
            | nil=>intro m;simp [F3]
            | cons y s ihs => intro m; simp only [F3]; split
                              · exact Nat.le_trans (Nat.le_add_right _ _) (ihs _)
                              · exact Nat.le_refl _
          exact this r _
        omega
      · omega
  have:=this e.args 1 ih
  omega
theorem Ys (L:Nat)(e:Ex):L<Ha L e↔L<At e:=by
 rcases Xh L e with h | h
 · rw [h]
 · omega

def Bx (e:Ex):Int:=if decide (64<(At e:Int)) then 5 else if decide (12<(E0 e:Int)) then 12 else C4 e

def Mo (op k k0:Int):Bool:=if op==5||op==6||op==7||op==8 then k==0 else if op==10||op==11||op==12 then k==1 else if op==9 then k==k0 else true
def Dk (op:Int)(kinds:List Int):Int:=Aq (fun k=>if Mo op k (kinds.headD 0) then 0 else 9) kinds
def Gr (op:Int):Int:=if op==5||op==6||op==7||op==8 then 0 else if op==10||op==11||op==12 then 1 else -1
theorem bM (op k k0:Int):((decide (0≤Gr op)&&k != Gr op)||(op==9&&k != k0)) = !Mo op k k0:=by
 unfold Gr Mo
 by_cases h1:(op==5||op==6||op==7||op==8)=true
 ·
  have h9:(op==9)=false:=by simp at h1 ⊢;omega
  rw [if_pos h1,if_pos h1,h9];simp [bne]
 ·
  rw [if_neg h1,if_neg h1]
  by_cases h2:(op==10||op==11||op==12)=true
  ·
   have h9:(op==9)=false:=by simp at h2 ⊢;omega
   rw [if_pos h2,if_pos h2,h9];simp [bne]
  ·
   rw [if_neg h2,if_neg h2]
   by_cases h9:(op==9)=true
   · rw [if_pos h9,h9];simp [bne]
   · rw [if_neg h9];simp at h9;simp [h9]

/-! ### Values of expressions -/

structure Evr where
 vars:List (List Ev)
 own:Int
 event:Ev

def OPS:List (Int×AV):=[(5,.fn (.func 119) [] [.ptr [.fn (.func 118) [] []]]),(6,.fn (.func 120) [] [.ptr [.fn (.func 118) [] []]]),(7,.fn (.func 121) [] []),(8,.fn (.func 122) [] []),(10,.fn (.func 123) [] []),(11,.fn (.func 124) [] []),(12,.fn (.func 125) [] [])]
def cX (x:Evr):List AV:=[.sl 1 (x.vars.map rD),.int .i64 x.own,.int .i64 x.event.source,.int .i64 x.event.seq,.int .i64 x.event.type,.int .i64 x.event.time,.sl 3 (x.event.values.map cV),.mapv OPS]
/-- No list of events is longer than data can be. -/
def Evr.ok (x:Evr):Prop:=∀l∈x.vars,l.length≤1048576

def Bv (vars:List (List Ev))(v:Int):List Ev:=if decide (v<0)||decide ((vars.length:Int)≤v) then [] else (vars[v.toNat]?).getD []

theorem aQ {x:Evr}(h:x.ok)(v:Int):(Bv x.vars v).length≤1048576:=by
 unfold Bv
 split
 · simp
 ·
  cases hl:x.vars[v.toNat]? with
  | none=>simp
  | some l=>simpa using h l (List.mem_of_getElem? hl)

def Dq (e:Ev)(k:Int):Vl×Int:=if decide ((e.values.length:Int)≤k) then (v0,6) else ((e.values[k.toNat]?).getD v0,0)

def O3 (x:Evr)(e:Ex):Vl×Int:=
 let l:=Bv x.vars e.var
 if Aq (fun v=>(Dq v e.field).2) l != 0 then (v0,Aq (fun v=>(Dq v e.field).2) l) else eL e.kind (l.map fun v=>(Dq v e.field).1) e.val

def G8 (last:Ev)(e:Ex):Vl×Int:=
 if e.op==2 then (⟨0,last.time,[]⟩,0)
 else if (Dq last e.field).2==0 then (if Ap (Dq last e.field).1 != 0 then (v0,Ap (Dq last e.field).1) else ((Dq last e.field).1,0))
 else (v0,(Dq last e.field).2)

def Fc (x:Evr)(e:Ex):Vl×Int:=
 if e.op==0 then (e.val,0)
 else if e.op==3 then (⟨0,(Bv x.vars e.var).length,[]⟩,0)
 else if e.op==4 then O3 x e
 else if e.var != x.own then (if ((Bv x.vars e.var).length:Int)==0 then (v0,10) else G8 ((Bv x.vars e.var).getLast?.getD Kn) e)
 else G8 x.event e

def lastS (vars:List (List Ev))(v own:Int)(ev:Ev):Ev×Bool:=
 if v==own then (ev,true) else if ((Bv vars v).length:Int)==0 then (Kn,false) else ((Bv vars v).getLast?.getD Kn,true)
theorem vV {α:Type}{l:List α}(h:((l.length:Int)==0)=false):∃a,l[((l.length:Int)-1).toNat]? = some a∧l.getLast? = some a:=by
 have h0:l.length≠0:=by simpa using h
 have e:((l.length:Int)-1).toNat=l.length-1:=by omega
 rw [e,List.getLast?_eq_getElem?]
 exact ⟨_,List.getElem?_eq_getElem (by omega),List.getElem?_eq_getElem (by omega)⟩

def Gw (op:Int)(a b:Int):Vl:=
 if op==5 then ⟨0,IntKind.i64.wrap (a+b),[]⟩ else if op==6 then ⟨0,IntKind.i64.wrap (a-b),[]⟩
 else if op==7 then D5 (decide (a<b)) else if op==8 then D5 (decide (a≤b))
 else if op==10 then D5 (a==1&&b==1) else if op==11 then D5 (a==1||b==1) else D5 (a != 1)

def twoS (op:Int)(v w:Vl):Vl:=if op==9 then D5 (eqV v w) else Gw op v.num w.num

/-- what an operation gives for values -/
def Ky (op:Int)(l:List Vl):Vl×Int:=
 if Dk op (l.map (·.kind)) != 0 then (v0,Dk op (l.map (·.kind)))
 else if op==9 then (D5 (eqV (l.headD v0) ((l[1]?).getD v0)),0)
 else (Gw op (l.headD v0).num (l.getLastD v0).num,0)

mutual
def B0 (x:Evr):Ex→Vl×Int
  | ⟨op,args,var,field,kind,val⟩=>
    if args.isEmpty then Fc x ⟨op,args,var,field,kind,val⟩
    else if (Kw x args).2 != 0 then (v0,(Kw x args).2) else Ky op (Kw x args).1
def Kw (x:Evr):List Ex→List Vl×Int
 | []=>([],0)
 | e::r=>if (B0 x e).2 != 0 then ([],(B0 x e).2) else if (Kw x r).2 != 0 then ([],(Kw x r).2) else ((B0 x e).1::(Kw x r).1,0)
end

theorem Tv (x:Evr):∀l,(Kw x l).2=Aq (fun a=>(B0 x a).2) l
  | []=>by simp [Kw,Aq]
  | e::r=>by
    have:=Tv x r
    by_cases h:((B0 x e).2 != 0)=true
    · rw [Kw,Aq,if_pos h,if_pos h]
    · rw [Kw,Aq,if_neg h,if_neg h,←this]
      by_cases h2:((Kw x r).2 != 0)=true
      · rw [if_pos h2]
      · rw [if_neg h2]
        have h3:(Kw x r).2=0:=by simpa using h2
        exact h3.symm

theorem fW (x:Evr):∀l,Aq (fun a=>(B0 x a).2) l=0→(Kw x l).1=l.map fun a=>(B0 x a).1
  | [],_=>by simp [Kw]
  | e::r,h=>by
    simp only [Aq] at h
    by_cases h1:((B0 x e).2 != 0)=true
    · rw [if_pos h1] at h;simp [h] at h1
    · rw [if_neg h1] at h
      have h2:¬((Kw x r).2 != 0)=true:=by rw [Tv,h];simp
      rw [Kw,if_neg h1,if_neg h2]
      simp [fW x r h]

theorem Kl (x:Evr)(e:Ex):B0 x e=if e.args.isEmpty then Fc x e else if Aq (fun a=>(B0 x a).2) e.args != 0 then (v0,Aq (fun a=>(B0 x a).2) e.args) else Ky e.op (e.args.map fun a=>(B0 x a).1):=by
 cases e with | mk op args var field kind val=>
 rw [B0]
 simp only [Tv]
 by_cases h:Aq (fun a=>(B0 x a).2) args=0
 · simp [h,fW x args h]
 · simp [h]

def Xp (x:Evr)(e:Ex):Vl×Int:=if Bx e != 0 then (v0,Bx e) else B0 x e
def Ks (x:Evr)(e:Ex):Bool:=(Xp x e).2==0&&eqV (Xp x e).1 (D5 true)


def P2 (k:Int)(v:Vl):Int:=if Ap v != 0 then Ap v else if !Gq k v then 9 else 0
theorem qL (k:Int)(v:Vl)(h:Dt k=true):P2 k v=Do k v:=by
 unfold P2 Do;rw [zK k v h]

theorem Mz {a:Ac}(h:Bq a=0):Dt a.kind=true:=by
 unfold Bq at h
 cases hk:Dt a.kind with
 | true=>rfl
 | false=>simp [hk] at h

def rresultS (a:Ac)(o:Vl):Vl×Int:=
 if Bq a != 0 then (v0,Bq a)
 else if P2 a.kind o != 0 then (v0,P2 a.kind o)
 else if a.kind==0 then (⟨0,a.count,[]⟩,0)
 else if a.count==0&&a.kind != 1 then (o,0)
 else (a.val,0)
def addS (a:Ac)(v:Vl):Ac×Int:=
 if Bq a != 0 then (ac0,Bq a)
 else if P2 a.kind v != 0 then (ac0,P2 a.kind v)
 else if a.count==4096 then (ac0,5)
 else if a.kind==0 then (⟨a.kind,IntKind.i64.wrap (a.count+1),v0⟩,0)
 else if decide (0<a.count) then (⟨a.kind,IntKind.i64.wrap (a.count+1),I7 a.kind a.val v⟩,0)
 else (⟨a.kind,IntKind.i64.wrap (a.count+1),v⟩,0)

theorem Fz {v:Vl}(h:Ap v=0)(hk:v.kind=0):v.text = []∧-1099511627776≤v.num∧v.num≤1099511627776:=by
 unfold Ap Ea at h
 by_cases ht:v.text = []
 ·
  simp [hk,ht] at h
  exact ⟨ht,by omega⟩
 · simp [hk,ht] at h

theorem wY {a:Ac}(h:Bq a=0):0≤a.count∧a.count≤4096:=by
 have hk:=Mz h
 unfold Bq at h
 simp only [hk,Bool.not_true,Bool.false_eq_true,if_false] at h
 by_cases hc:(decide (a.count<0)||decide (4096<a.count))=true
 · rw [if_pos hc] at h;cases h
 · simp at hc;omega

theorem Aaa {k:Int}{a:Ac}{v:Vl}(h:Bq a=0)(hk:a.kind=k)(hv:Do k v=0)(hc:a.count<4096) :
  Bq (Ju k a v)=0∧(Ju k a v).kind=k∧(Ju k a v).count=a.count+1∧addS a v=(Ju k a v,0):=by
 have hkn:=Mz h
 have hcc:=wY h
 have hw:IntKind.i64.wrap (a.count+1)=a.count+1:=IntWalk.i64_in _ (by omega)
 have hadd:addS a v=if a.kind==0 then (⟨a.kind,a.count+1,v0⟩,0) else if decide (0<a.count) then (⟨a.kind,a.count+1,I7 a.kind a.val v⟩,0) else (⟨a.kind,a.count+1,v⟩,0):=by
  unfold addS
  rw [hw,qL _ _ hkn,h,hk,hv]
  have:(a.count==4096)=false:=by simp;omega
  simp [this]
 have hvc:Ap v=0:=by
  unfold Do at hv
  by_cases e:Ap v=0
  · exact e
  · simp [e] at hv
 have hvs:Eu k v=true:=by
  unfold Do at hv
  simp [hvc] at hv;exact hv
 rw [hadd]
 obtain ⟨ak,ac,av⟩:=a
 simp only at hk hkn hc hcc h hw ⊢
 subst hk
 have h2:=h
 unfold Bq at h2
 simp only [hkn,Bool.not_true,Bool.false_eq_true,if_false] at h2
 have hn1:(decide (ac<0)||decide (4096<ac))=false:=by simp;omega
 simp only [hn1,Bool.false_eq_true,if_false] at h2
 simp only [Dt,Bool.and_eq_true,decide_eq_true_eq] at hkn
 have hn2:(decide (ac+1<0)||decide (4096<ac+1))=false:=by simp;omega
 have hk01:ak=0∨ak=1∨ak=2∨ak=3∨ak=4∨ak=5:=by omega
 by_cases h0:ac=0
 ·
  subst h0
  have hvi:ak=1→v.kind=0:=by
   intro e;subst e;simpa [Eu] using hvs
  rcases hk01 with rfl | rfl | rfl | rfl | rfl | rfl
  · refine ⟨by rfl,rfl,rfl,rfl⟩
  ·
   have hb:=Fz hvc (hvi rfl)
   refine ⟨?_,rfl,rfl,rfl⟩
   simp [Ju,E4,E7,Bq,Dt,hvi rfl,hb.1,hb.2]
  all_goals
   refine ⟨?_,rfl,rfl,rfl⟩
   simp [Ju,E4,E7,Bq,Dt,hvc,hvs]
 ·
  have hpos:0<ac:=by omega
  have e0:(ac==0)=false:=by simp [h0]
  have hst:Ju ak ⟨ak,ac,av⟩ v=⟨ak,ac+1,I7 ak av (E7 ak v)⟩:=by
   simp [Ju,E4,h0,hw]
  rw [hst]
  refine ⟨?_,rfl,rfl,?_⟩
  ·
   unfold Bq
   have hkk:Dt ak=true:=by simp [Dt];omega
   have e1:(ac+1==0)=false:=by simp;omega
   simp only [hkk,Bool.not_true,hn2,Bool.false_eq_true,if_false,e1,Bool.false_or]
   simp only [e0,Bool.false_or] at h2
   rcases hk01 with rfl | rfl | rfl | rfl | rfl | rfl
   · rfl
   ·
    have hvi:v.kind=0:=by simpa [Eu] using hvs
    have hb:=Fz hvc hvi
    simp at h2
    have:IntKind.i64.wrap (av.num+v.num)=av.num+v.num:=IntWalk.i64_in _ (by omega)
    simp [I7,E7,this]
    omega
   ·
    have hvi:v.kind=0:=by simpa [Eu] using hvs
    have hb:=Fz hvc hvi
    simp at h2
    have hai:av.kind=0:=by simpa [Eu] using h2.2
    have hba:=Fz h2.1 hai
    have hm : -1099511627776≤min av.num v.num∧min av.num v.num≤1099511627776:=by omega
    simp [I7,E7,Ap,Ea,Eu]
    omega
   ·
    have hvi:v.kind=0:=by simpa [Eu] using hvs
    have hb:=Fz hvc hvi
    simp at h2
    have hai:av.kind=0:=by simpa [Eu] using h2.2
    have hba:=Fz h2.1 hai
    have hm : -1099511627776≤max av.num v.num∧max av.num v.num≤1099511627776:=by omega
    simp [I7,E7,Ap,Ea,Eu]
    omega
   · simpa [I7] using h2
   · simp [I7,E7,hvc,hvs]
  ·
   have hd:decide (0<ac)=true:=by simp [hpos]
   rcases hk01 with rfl | rfl | rfl | rfl | rfl | rfl <;> simp [hd,I7,E7]

theorem pZ {k:Int}:∀(l:List Vl) (a:Ac),Bq a=0→a.kind=k→Aq (Do k) l=0→a.count+l.length≤4096→Bq (l.foldl (Ju k) a)=0
  | [],a,h,_,_,_=>h
  | v::r,a,h,hk,hf,hc=>by
    simp only [Aq] at hf
    simp only [List.length_cons,Int.natCast_add,Int.cast_ofNat_Int] at hc
    by_cases hv:Do k v=0
    · rw [if_neg (by simp [hv])] at hf
      obtain ⟨h1,h2,h3,_⟩:=Aaa h hk hv (by omega)
      exact pZ r _ h1 h2 hf (by rw [h3];omega)
    · rw [if_pos (by simp [hv])] at hf;exact absurd hf hv


theorem Pf {l:List Ex}{k:Nat}{a:Ex}(d:Nat)(h:l[k]? = some a):max d (((l.drop k).map E0).foldr max 0)=max (max d (E0 a)) (((l.drop (k+1)).map E0).foldr max 0):=by
 rw [Ba h];simp only [List.map_cons,List.foldr_cons];omega
theorem iI {l:List Ex}{k:Nat}{a:Ex}(n:Nat)(h:l[k]? = some a):n+((l.drop k).map At).sum=(n+At a)+((l.drop (k+1)).map At).sum:=by
 rw [Ba h];simp only [List.map_cons,List.sum_cons];omega

theorem zJ (e:Ex):1≤At e:=by rw [D7];omega
theorem Na (e:Ex)(h:At e≤1048576):e.args.length≤1048576:=by
 rw [D7] at h
 have:∀l:List Ex,l.length≤(l.map At).sum:=by
  intro l
  induction l with
  | nil=>exact Nat.le_refl _
  | cons x r ih=>simp only [List.length_cons,List.map_cons,List.sum_cons];have:=zJ x;omega
 have:=this e.args
 omega
theorem dK {L n:Nat}(h:L<n):∀l:List Ex,F3 L l n=n
 | []=>rfl
 | _::_=>by rw [F3,if_neg (by omega)]

/-- What the reference says of a node. -/
def Cn (e:Ex):Int:=
 if decide ((if 0≤e.op∧e.op≤12 then D6 e.op else -1)<0) then 1
 else if (e.args.length:Int) != (if 0≤e.op∧e.op≤12 then D6 e.op else -1) then 15
 else if ((Dp e.op).1&&(decide (e.var<0)||decide (16≤e.var)))||((Dp e.op).2&&(decide (e.field<0)||decide (8≤e.field))) then 2
 else if e.op==4&&(decide (e.kind<1)||decide (5<e.kind)) then 1
 else if e.op==4||e.op==0 then (if Ap e.val != 0 then Ap e.val else if e.op==4&&(!Gq e.kind e.val||(e.kind==1 && !isV0 e.val)) then 9 else Bm e)
 else if e.op==4&&(!Gq e.kind e.val||(e.kind==1 && !isV0 e.val)) then 9
 else Bm e

theorem H6 (e:Ex):Cn e=By e:=by
  unfold Cn By
  by_cases h:0≤e.op∧e.op≤12
  · have ha : ¬ D6 e.op < 0 := by unfold D6; repeat' split
                                  all_goals omega
    simp only [h,and_self,if_true,decide_true,Bool.not_true,Bool.false_eq_true,if_false,ha,decide_false]
    split
    · rfl
    split
    · rfl
    by_cases h4:e.op=4
    · simp only [h4,BEq.rfl,Bool.true_and,Bool.true_or,if_true]
      by_cases hk:(decide (e.kind<1)||decide (5<e.kind))=true
      · rw [if_pos hk,if_pos hk]
      · rw [if_neg hk,if_neg hk]
        have hs:Gq e.kind e.val=Dw e.kind e.val:=by
          simp at hk
          unfold Gq Dw
          have:(e.kind==0)=false:=by simp;omega
          rw [this];simp
        unfold Fm
        rw [hs,h4]
        by_cases hv:Ap e.val=0
        · rw [hv]
          simp only [bne_self_eq_false,Bool.false_eq_true,if_false,BEq.rfl,Bool.true_and]
          by_cases hb:(!Dw e.kind e.val||(e.kind==1 && !isV0 e.val))=true
          · rw [if_pos hb,if_pos hb];rfl
          · rw [if_neg hb,if_neg hb];rfl
        · simp [hv]
    · have h4':(e.op==4)=false:=by simp [h4]
      simp only [h4',Bool.false_and,Bool.false_eq_true,if_false,Bool.false_or]
      unfold Fm
      simp only [h4',Bool.false_and,Bool.false_eq_true,if_false]
      by_cases hv:Ap e.val=0
      · simp [hv]
      · simp [hv]
  · simp [h]


theorem Hf {α:Type}{f:α→Int}:∀{l:List α},Aq f l=0→∀a∈l,f a=0
  | [],_,_,h=>by cases h
  | x::r,h,a,ha=>by
    simp only [Aq] at h
    by_cases hx:f x=0
    · rw [if_neg (by simp [hx])] at h
      rcases List.mem_cons.1 ha with rfl | ha
      · exact hx
      · exact Hf h a ha
    · rw [if_pos (by simpa using hx)] at h;exact absurd h hx

theorem Be {e:Ex}(h:C4 e=0):By e=0∧∀a∈e.args,C4 a=0:=by
 rw [Lc] at h
 by_cases hx:By e=0
 ·
  rw [if_neg (by simp [hx])] at h
  exact ⟨hx,Hf h⟩
 · rw [if_pos (by simpa using hx)] at h;exact absurd h hx

theorem Hc {e:Ex}(h:By e=0):0≤e.op∧e.op≤12∧(e.args.length:Int)=D6 e.op:=by
 unfold By at h
 split at h
 · cases h
 split at h
 · cases h
 rename_i h1 h2
 simp at h1 h2
 exact ⟨h1.1,h1.2,h2⟩

theorem Jz {e:Ex}(h:By e=0):0≤e.field:=by
  have hf:Bm e=0→(Dp e.op).2=false→e.field=0:=by
    intro h1 h2
    unfold Bm at h1
    split at h1
    · cases h1
    · rename_i h3
      simp [h2] at h3
      exact h3.1.1.2
  unfold By at h
  split at h
  · cases h
  split at h
  · cases h
  split at h
  · cases h
  rename_i h1 h2 h3
  cases hu:(Dp e.op).2 with
  | true=>
    simp [hu] at h3
    omega
  | false=>
    have:Bm e=0:=by
      split at h
      · cases h
      split at h
      · split at h
        · rename_i h4
          exact absurd h (by simpa using h4)
        · exact h
      · exact h
    rw [hf this hu];exact Int.le_refl _

theorem qY {e:Ex}(h:By e=0)(hne:((e.args.length:Int)==0)=false):(e.args.length=1∧e.op=12)∨(e.args.length=2∧5≤e.op∧e.op≤11):=by
 obtain ⟨h1,h2,h3⟩:=Hc h
 have hne':e.args.length≠0:=by simpa using hne
 unfold D6 at h3
 split at h3
 · omega
 split at h3
 · omega
 split at h3
 · omega
 · omega


mutual
def rebS (f:Ex→Ex):Ex→Ex
 | ⟨op,args,var,field,kind,val⟩=>f ⟨op,rebL f args,var,field,kind,val⟩
def rebL (f:Ex→Ex):List Ex→List Ex
 | []=>[]
 | e::r=>rebS f e::rebL f r
end
/-- the node with its arguments rebuilt -/
def outS (f:Ex→Ex)(e:Ex):Ex:=⟨e.op,e.args.map (rebS f),e.var,e.field,e.kind,e.val⟩
def Ao (e:Ex):Ex:=e.args.headD Wc
def Bi (e:Ex):Ex:=(e.args[1]?).getD Wc
def Oz (v:Vl):Ex:=⟨0,[],0,0,0,v⟩
def isC (a:Ex)(b:Bool):Bool:=a.op==0&&eqV a.val (D5 b)

theorem get0 {e:Ex}(h:0<e.args.length):e.args[(0:Int).toNat]? = some (Ao e):=by
 unfold Ao
 cases e with | mk op args a b c d=>
 cases args with
 | nil=>simp at h
 | cons x r=>rfl
theorem get1 {e:Ex}(h:1<e.args.length):e.args[(1:Int).toNat]? = some (Bi e):=by
 unfold Bi
 have:e.args[1]? = some e.args[1]:=List.getElem?_eq_getElem h
 show e.args[1]? = _
 rw [this];rfl
theorem Fq {e:Ex}(h:0<e.args.length):(e.args.map Fv)[(0:Int).toNat]? = some (cE (Ao e)):=Fb (get0 h)
theorem Id {e:Ex}(h:1<e.args.length):(e.args.map Fv)[(1:Int).toNat]? = some (cE (Bi e)):=Fb (get1 h)
theorem A6 {e:Ex}(h:0<e.args.length):Ao e∈e.args:=List.mem_of_getElem? (get0 h)
theorem Bk {e:Ex}(h:1<e.args.length):Bi e∈e.args:=List.mem_of_getElem? (get1 h)

theorem Wh {e:Ex}(h:By e=0)(ho:e.op=12):0<e.args.length:=by
 obtain ⟨_,_,h3⟩:=Hc h
 rw [ho] at h3
 have:D6 12=1:=by decide
 omega
def pL (x:Evr)(e:Ex):Vl×Bool:=
 if e.args.any (fun a=>a.op != 0) then (v0,false) else if (e.args.length:Int)==0 then (v0,false) else ((B0 x e).1,(B0 x e).2==0&&Ap (B0 x e).1==0)

/-- what replaces a node whose arguments are folded -/
def fnodeS (x:Evr)(e:Ex):Ex:=
 if (pL x e).2 then Oz (pL x e).1
 else if e.op==12&&(Ao e).op==12 then Ao (Ao e)
 else if e.op != 10&&e.op != 11 then e
 else if isC (Ao e) (e.op==10) then Bi e
 else if isC (Bi e) (e.op==10) then Ao e
 else if isC (Ao e) (!(e.op==10))||isC (Bi e) (!(e.op==10)) then Oz (D5 (!(e.op==10)))
 else e

/-- the evaluator of folding -/
def xz:Evr:=⟨[],-1,Kn⟩
theorem Aav (b:Bool):Ap (D5 b)=0:=by cases b <;> decide

def FoldS (e:Ex):Ex×Int:=if Bx e != 0 then (Wc,Bx e) else (rebS (fnodeS xz) e,0)

/-! ### Likeness -/
def O1 (a b:Ex):Bool:=a.op != b.op||a.var != b.var||a.field != b.field||a.kind != b.kind || !eqV a.val b.val||(a.args.length:Int) != (b.args.length:Int)

mutual
def Li:Ex→Ex→Bool
 | ⟨op,args,var,field,kind,val⟩,b=>if O1 ⟨op,args,var,field,kind,val⟩ b then false else S0 args b.args
def S0:List Ex→List Ex→Bool
 | [],_=>true
 | a::r,l=>if !Li a (l.headD Wc) then false else S0 r l.tail
end
theorem S5 (a b:Ex):Li a b=if O1 a b then false else S0 a.args b.args:=by cases a;rw [Li]

theorem Ub (a b:Ex):Li a b=true↔a=b:=by
  induction a using Ex.Abb generalizing b with
  | h a ih=>
    have hL:∀(l m:List Ex),(∀x∈l,∀y,Li x y=true↔x=y)→l.length=m.length→(S0 l m=true↔l=m):=by
      intro l
      induction l with
      | nil=>intro m _ hl;cases m with | nil=>simp [S0] | cons _ _=>simp at hl
      | cons x r ihl=>
        intro m hx hl
        cases m with
        | nil=>simp at hl
        | cons y s=>
          have h1:=hx x (by simp) y
          have h2:=ihl s (fun z hz=>hx z (by simp [hz])) (by simpa using hl)
          rw [List.cons.injEq]
          show (if (!Li x y)=true then false else S0 r s)=true↔x=y∧r=s
          by_cases hs:Li x y=true
          · rw [if_neg (by simp [hs]),h2];simp [h1.1 hs]
          · rw [if_pos (by simp [hs])]
            have:¬x=y:=fun e=>hs (h1.2 e)
            simp [this]
    rw [S5]
    by_cases hh:O1 a b=true
    · rw [if_pos hh]
      constructor
      · intro h;cases h
      · intro e;subst e
        simp [O1] at hh
    · rw [if_neg hh]
      have hh':=hh
      simp [O1] at hh
      obtain ⟨⟨⟨⟨⟨h1,h2⟩,h3⟩,h4⟩,h5⟩,h6⟩:=hh
      rw [hL _ _ (fun x hx y=>ih x hx y) (by omega)]
      cases a with | mk _ _ _ _ _ av=>cases b with | mk _ _ _ _ _ bv=>
        cases av;cases bv
        simp_all
theorem kJ (a:Ex):Li a a=true:=(Ub a a).2 rfl


/-! ### Folding again -/

/-- folded: each node stays as it is -/
inductive Fd (f:Ex→Ex):Ex→Prop where
 | mk (e:Ex) (ha:∀a∈e.args,Fd f a) (h:f e=e):Fd f e
/-! ### Depth -/
/-! ### The value -/
def zR (v:Vl):Prop:=v.kind=1→v=D5 (v.num==1)
theorem Fa {v:Vl}(h:Ap v=0):zR v:=by
 intro hk
 obtain ⟨k,n,t⟩:=v
 simp only at hk;subst hk
 unfold Ap Ea at h
 by_cases ht:t = []
 ·
  subst ht
  simp at h
  by_cases h1:n=1
  · subst h1;rfl
  ·
   have h0:n=0:=by omega
   subst h0;rfl
 · simp [ht] at h
theorem J8 {v:Vl}(h:v.kind=0):zR v:=fun hk=>by rw [h] at hk;cases hk
theorem fT (b:Bool):zR (D5 b):=Fa (Aav b)

theorem lL {a:Ac}{o:Vl}(h:(Dr a o).2=0):zR (Dr a o).1:=by
 unfold Dr at h ⊢
 split at h
 · rename_i h1;simp at h1 h;exact absurd h h1
 split at h
 · rename_i _ h1;simp at h1 h;exact absurd h h1
 rename_i ha hw
 rw [if_neg ha,if_neg hw]
 simp at ha hw
 split
 · exact J8 rfl
 rename_i hk
 split
 ·
  refine Fa ?_
  unfold Do at hw
  by_cases e:Ap o=0
  · exact e
  · simp [e] at hw
 ·
  rename_i hc
  have hkn:=Mz ha
  unfold Bq at ha
  simp only [hkn,Bool.not_true,Bool.false_eq_true,if_false] at ha
  split at ha
  · cases ha
  have hx:(if a.count==0||a.kind==0 then isV0 a.val
   else if a.kind==1 then a.val.kind==0&&a.val.text == []&&decide (0-a.count*1099511627776≤a.val.num)&&decide (a.val.num≤a.count*1099511627776)
   else Ap a.val==0&&Eu a.kind a.val)=true:=Decidable.byContradiction fun hX=>by
    rw [if_neg hX] at ha;cases ha
  by_cases h0:(a.count==0||a.kind==0)=true
  ·
   rw [if_pos h0] at hx
   exact J8 (by rw [(eP _).1 hx];rfl)
  ·
   rw [if_neg h0] at hx
   by_cases h1:(a.kind==1)=true
   ·
    rw [if_pos h1] at hx
    simp only [Bool.and_eq_true,beq_iff_eq] at hx
    exact J8 hx.1.1.1
   ·
    rw [if_neg h1] at hx
    simp only [Bool.and_eq_true,beq_iff_eq] at hx
    exact Fa hx.1

theorem of_okB {k:Int}{l:List Vl}{o:Vl}(h:(eL k l o).2=0):zR (eL k l o).1:=by
 unfold eL at h ⊢
 split at h
 · cases h
 split at h
 · cases h
 split at h
 · rename_i h1;simp at h1 h;exact absurd h h1
 rename_i h1 h2 h3
 rw [if_neg h1,if_neg h2,if_neg h3]
 exact lL h

theorem Ia {e:Ex}(h:By e=0)(ho:e.op=0):Ap e.val=0∧e.args = []:=by
 obtain ⟨_,_,h3⟩:=Hc h
 have ha:D6 0=0:=by decide
 rw [ho,ha] at h3
 refine ⟨?_,List.eq_nil_of_length_eq_zero (by omega)⟩
 unfold By at h
 split at h
 · cases h
 split at h
 · cases h
 split at h
 · cases h
 split at h
 · cases h
 rw [if_pos (by simp [ho])] at h
 split at h
 · rename_i h4;simp at h4;exact absurd h h4
 rename_i h4
 simp at h4
 unfold Fm at h4
 by_cases e':Ap e.val=0
 · exact e'
 · simp [e'] at h4

theorem xL {x:Evr}{e:Ex}(hn:By e=0)(h:(Fc x e).2=0):zR (Fc x e).1:=by
 unfold Fc at h ⊢
 split
 · rename_i h0;exact Fa (Ia hn (by simpa using h0)).1
 ·
  rename_i h0
  rw [if_neg h0] at h
  split
  · exact J8 rfl
  ·
   rename_i h1
   rw [if_neg h1] at h
   split
   ·
    rename_i h2
    rw [if_pos h2] at h
    simp only [O3] at h ⊢
    by_cases h3:(Aq (fun v=>(Dq v e.field).2) (Bv x.vars e.var) != 0)=true
    · rw [if_pos h3];exact J8 rfl
    ·
     rw [if_neg h3] at h ⊢
     exact of_okB h
   ·
    rename_i h2
    rw [if_neg h2] at h
    have hr:∀ev:Ev,(G8 ev e).2=0→zR (G8 ev e).1:=by
     intro ev h
     unfold G8 at h ⊢
     by_cases h4:(e.op==2)=true
     · rw [if_pos h4];exact J8 rfl
     rw [if_neg h4] at h ⊢
     by_cases h5:((Dq ev e.field).2==0)=true
     ·
      rw [if_pos h5] at h ⊢
      by_cases h6:(Ap (Dq ev e.field).1 != 0)=true
      · rw [if_pos h6];exact J8 rfl
      · rw [if_neg h6];exact Fa (by simpa using h6)
     · rw [if_neg h5];exact J8 rfl
    split
    ·
     rename_i h4
     rw [if_pos h4] at h
     split
     · exact J8 rfl
     ·
      rename_i h5
      rw [if_neg h5] at h
      exact hr _ h
    ·
     rename_i h4
     rw [if_neg h4] at h
     exact hr _ h

theorem tM (op a b:Int):zR (Gw op a b):=by
 unfold Gw
 repeat' split
 all_goals first | exact J8 rfl | exact fT _

theorem xK {op:Int}{l:List Vl}(h:(Ky op l).2=0):(∀v∈l,Mo op v.kind ((l.map (·.kind)).headD 0)=true)∧
  Ky op l=(if op==9 then D5 (eqV (l.headD v0) ((l[1]?).getD v0)) else Gw op (l.headD v0).num (l.getLastD v0).num,0):=by
 unfold Ky at h ⊢
 by_cases h1:(Dk op (l.map (·.kind)) != 0)=true
 · rw [if_pos h1] at h;simp at h1 h;exact absurd h h1
 ·
  rw [if_neg h1]
  refine ⟨fun v hv=>?_,?_⟩
  ·
   have h2:Dk op (l.map (·.kind))=0:=by simpa using h1
   have:=Hf h2 v.kind (List.mem_map.2 ⟨v,hv,rfl⟩)
   split at this
   · assumption
   · cases this
  ·
   by_cases h9:(op==9)=true
   · rw [if_pos h9,if_pos h9]
   · rw [if_neg h9,if_neg h9]
theorem qG {op:Int}{l:List Vl}(h:(Ky op l).2=0):zR (Ky op l).1:=by
 rw [(xK h).2]
 split
 · exact fT _
 · exact tM _ _ _

theorem Mw {x:Evr}{e:Ex}(h:e.args = []):B0 x e=Fc x e:=by rw [Kl,if_pos (by simp [h])]
theorem qO {x:Evr}{e:Ex}(hne:e.args≠[])(h:(B0 x e).2=0) :
  (∀a∈e.args,(B0 x a).2=0)∧B0 x e=Ky e.op (e.args.map fun a=>(B0 x a).1):=by
 have h0:¬e.args.isEmpty=true:=by simpa using hne
 rw [Kl,if_neg h0] at h ⊢
 by_cases h1:(Aq (fun a=>(B0 x a).2) e.args != 0)=true
 · rw [if_pos h1] at h;simp at h1 h;exact absurd h h1
 ·
  rw [if_neg h1]
  exact ⟨Hf (by simpa using h1),rfl⟩
theorem Ws {x:Evr}{e:Ex}(hne:e.args≠[])(h:∀a∈e.args,(B0 x a).2=0):B0 x e=Ky e.op (e.args.map fun a=>(B0 x a).1):=by
  have h0:¬e.args.isEmpty=true:=by simpa using hne
  have h1:Aq (fun a=>(B0 x a).2) e.args=0:=by
    have:∀l:List Ex,(∀a∈l,(B0 x a).2=0)→Aq (fun a=>(B0 x a).2) l=0:=by
      intro l
      induction l with
      | nil=>intro _;rfl
      | cons y r ih=>
        intro hl
        rw [Aq,if_neg (by simp [hl y (by simp)])]
        exact ih fun a ha=>hl a (by simp [ha])
    exact this _ h
  rw [Kl,if_neg h0,if_neg (by simp [h1])]

theorem zH {x:Evr}{e:Ex}(hn:C4 e=0)(h:(B0 x e).2=0):zR (B0 x e).1:=by
 have hz:=Be hn
 by_cases he:e.args = []
 · rw [Mw he] at h ⊢;exact xL hz.1 h
 ·
  have h1:=qO he h
  rw [h1.2] at h ⊢
  exact qG h

theorem Tb {x:Evr}{a:Ex}(hn:By a=0)(h:a.op=0):B0 x a=(a.val,0):=by
 rw [Mw (Ia hn h).2];unfold Fc;rw [if_pos (by simp [h])]


def atS (to:List Int)(v:Int):Int:=(to[v.toNat]?).getD 0
def pU (to:List Int)(e:Ex):Int:=
 if !(Dp e.op).1 then 0 else if decide ((to.length:Int)≤e.var) then 6 else if decide (atS to e.var<0)||decide (16≤atS to e.var) then 2 else 0
def vU (to:List Int)(e:Ex):Ex:=if (Dp e.op).1 then ⟨e.op,e.args,atS to e.var,e.field,e.kind,e.val⟩ else e
def renS (to:List Int)(e:Ex):Ex×Int:=if Jg (pU to) e != 0 then (Wc,Jg (pU to) e) else (rebS (vU to) e,0)
def RenameS (e:Ex)(to:List Int):Ex×Int:=if Bx e != 0 then (Wc,Bx e) else renS to e

theorem L8 {e:Ex}(h:By e=0):0≤e.var∧e.var<16:=by
  have hf:Bm e=0→(Dp e.op).1=false→e.var=0:=by
    intro h1 h2
    unfold Bm at h1
    split at h1
    · cases h1
    · rename_i h3
      simp [h2] at h3
      exact h3.1.1.1
  unfold By at h
  split at h
  · cases h
  split at h
  · cases h
  split at h
  · cases h
  rename_i h1 h2 h3
  cases hu:(Dp e.op).1 with
  | true=>
    simp [hu] at h3
    omega
  | false=>
    have:Bm e=0:=by
      split at h
      · cases h
      split at h
      · split at h
        · rename_i h4
          exact absurd h (by simpa using h4)
        · exact h
      · exact h
    rw [hf this hu];omega


def ownS (e:Ex):List Nat:=if (Dp e.op).1&&decide (0≤e.var)&&decide (e.var<16) then [e.var.toNat] else []
mutual
def usedS:Ex→List Nat
 | ⟨op,args,var,field,kind,val⟩=>ownS ⟨op,args,var,field,kind,val⟩++usedL args
def usedL:List Ex→List Nat
 | []=>[]
 | e::r=>usedS e++usedL r
end
def cSeen (S:List Nat):List AV:=(List.range 16).map fun v=>.bool (S.contains v)
theorem seen_len (S:List Nat):(cSeen S).length=16:=rfl
def uptoS (S:List Nat)(k:Nat):List Int:=((List.range k).filter fun v=>S.contains v).map fun (v:Nat)=>(v:Int)
theorem upto_zero (S:List Nat):uptoS S 0 = []:=rfl
def varsS (e:Ex):List Int:=uptoS (usedS e) 16


/-! ### The two environments -/
/-- where a variable goes -/
def tvS (n b v:Nat):Int:=((v:Int)+(b:Int)).tmod (n:Int)
def toS (n b:Nat):List Int:=(List.range n).map (tvS n b)
end Go.Proofs.YtkddpedfbicbeaaGreatDoor
