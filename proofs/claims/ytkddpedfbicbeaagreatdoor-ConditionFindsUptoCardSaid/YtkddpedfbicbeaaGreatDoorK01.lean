/-
  Several texts in one: Az, M, M2, M3, M4, M5, M7, M6, M8, M9. No condition.
-/
import Derived.Test.YtkddpedfbicbeaaGreatDoorAx
import Derived.Test.YtkddpedfbicbeaaGreatDoorTab
import Derived.KernelRfl
import Derived.Test.YtkddpedfbicbeaaGreatDoorAw
import Derived.IntWalk
set_option linter.unusedVariables false
set_option linter.unusedSimpArgs false
namespace Go.Proofs.YtkddpedfbicbeaaGreatDoor
open Go Go.Aw
set_option maxRecDepth 100000

section
variable {d:Option Nat} {ty:TypeId} {pos:String} {aft:Array Edge} {gd:Option (Nat×Bool)} {ρ:Operand→AV} {K:List HO→Prop}
theorem Av {x:Operand}{n:Int}(h:ρ x = .int .i64 n:=by exact rfl):Di Tryz.prog ⟨d,.assign x,ty,pos,aft,gd⟩ ρ K (.int .i64 n):=C1 h
theorem A2 {x:Operand}{n:Int}(h:ρ x = .int .i64 n:=by exact rfl):Di Tryz.prog ⟨d,.move x,ty,pos,aft,gd⟩ ρ K (.int .i64 n):=Bk h
theorem Bt {t:TypeId}{td:TD}{x:Operand}{n:Int}{cs:List AV}(h:ρ x = .ptr (.int .i64 n::cs):=by exact rfl)(ht:Bu TL t=some td:=by exact rfl)(ha:td.agg=false:=by exact rfl):Di Tryz.prog ⟨d,.load t x,ty,pos,aft,gd⟩ ρ K (.int .i64 n):=Ec Ai h ht ha
theorem Jo {x:Operand}{i:Nat}{vs:List AV}{n:Int}(h:ρ x = .tuple vs:=by exact rfl)(hv:vs[i]? = some (.int .i64 n):=by exact rfl):Di Tryz.prog ⟨d,.extract x i,ty,pos,aft,gd⟩ ρ K (.int .i64 n):=Cc h hv
theorem Bg {x:Operand}{b:Bool}(h:ρ x = .bool b:=by exact rfl):Di Tryz.prog ⟨d,.assign x,ty,pos,aft,gd⟩ ρ K (.bool b):=C1 h
theorem Br {x:Operand}{b:Bool}(h:ρ x = .bool b:=by exact rfl):Di Tryz.prog ⟨d,.move x,ty,pos,aft,gd⟩ ρ K (.bool b):=Bk h
theorem kC {t:TypeId}{td:TD}{x:Operand}{b:Bool}{cs:List AV}(h:ρ x = .ptr (.bool b::cs):=by exact rfl)(ht:Bu TL t=some td:=by exact rfl)(ha:td.agg=false:=by exact rfl):Di Tryz.prog ⟨d,.load t x,ty,pos,aft,gd⟩ ρ K (.bool b):=Ec Ai h ht ha
theorem gF {x:Operand}{i:Nat}{vs:List AV}{b:Bool}(h:ρ x = .tuple vs:=by exact rfl)(hv:vs[i]? = some (.bool b):=by exact rfl):Di Tryz.prog ⟨d,.extract x i,ty,pos,aft,gd⟩ ρ K (.bool b):=Cc h hv
theorem V2 {x:Operand}{z:Nat}{es:List (List AV)}(h:ρ x = .sl z es:=by exact rfl):Di Tryz.prog ⟨d,.assign x,ty,pos,aft,gd⟩ ρ K (.sl z es):=C1 h
theorem C4 {x:Operand}{z:Nat}{es:List (List AV)}(h:ρ x = .sl z es:=by exact rfl):Di Tryz.prog ⟨d,.move x,ty,pos,aft,gd⟩ ρ K (.sl z es):=Bk h
theorem Dk {t:TypeId}{td:TD}{x:Operand}{z:Nat}{es:List (List AV)}{cs:List AV}(h:ρ x = .ptr (.sl z es::cs):=by exact rfl)(ht:Bu TL t=some td:=by exact rfl)(ha:td.agg=false:=by exact rfl):Di Tryz.prog ⟨d,.load t x,ty,pos,aft,gd⟩ ρ K (.sl z es):=Ec Ai h ht ha
theorem zU {x:Operand}{i:Nat}{vs:List AV}{z:Nat}{es:List (List AV)}(h:ρ x = .tuple vs:=by exact rfl)(hv:vs[i]? = some (.sl z es):=by exact rfl):Di Tryz.prog ⟨d,.extract x i,ty,pos,aft,gd⟩ ρ K (.sl z es):=Cc h hv
theorem N5 {x:Operand}{v:Value}(h:ρ x = .val v:=by exact rfl):Di Tryz.prog ⟨d,.assign x,ty,pos,aft,gd⟩ ρ K (.val v):=C1 h
theorem H8 {x:Operand}{v:Value}(h:ρ x = .val v:=by exact rfl):Di Tryz.prog ⟨d,.move x,ty,pos,aft,gd⟩ ρ K (.val v):=Bk h
theorem Qlv {t:TypeId}{td:TD}{x:Operand}{v:Value}{cs:List AV}(h:ρ x = .ptr (.val v::cs):=by exact rfl)(ht:Bu TL t=some td:=by exact rfl)(ha:td.agg=false:=by exact rfl):Di Tryz.prog ⟨d,.load t x,ty,pos,aft,gd⟩ ρ K (.val v):=Ec Ai h ht ha
theorem Qxv {x:Operand}{i:Nat}{vs:List AV}{v:Value}(h:ρ x = .tuple vs:=by exact rfl)(hv:vs[i]? = some (.val v):=by exact rfl):Di Tryz.prog ⟨d,.extract x i,ty,pos,aft,gd⟩ ρ K (.val v):=Cc h hv
theorem Qaa {x:Operand}{l:List AV}(h:ρ x = .agg l:=by exact rfl):Di Tryz.prog ⟨d,.assign x,ty,pos,aft,gd⟩ ρ K (.agg l):=C1 h
theorem Qma {x:Operand}{l:List AV}(h:ρ x = .agg l:=by exact rfl):Di Tryz.prog ⟨d,.move x,ty,pos,aft,gd⟩ ρ K (.agg l):=Bk h
theorem Qla {t:TypeId}{td:TD}{x:Operand}{l:List AV}{cs:List AV}(h:ρ x = .ptr (.agg l::cs):=by exact rfl)(ht:Bu TL t=some td:=by exact rfl)(ha:td.agg=false:=by exact rfl):Di Tryz.prog ⟨d,.load t x,ty,pos,aft,gd⟩ ρ K (.agg l):=Ec Ai h ht ha
theorem Qxa {x:Operand}{i:Nat}{vs:List AV}{l:List AV}(h:ρ x = .tuple vs:=by exact rfl)(hv:vs[i]? = some (.agg l):=by exact rfl):Di Tryz.prog ⟨d,.extract x i,ty,pos,aft,gd⟩ ρ K (.agg l):=Cc h hv
theorem Qat {x:Operand}{s:List UInt8}(h:ρ x = .str s:=by exact rfl):Di Tryz.prog ⟨d,.assign x,ty,pos,aft,gd⟩ ρ K (.str s):=C1 h
theorem eJ {x:Operand}{s:List UInt8}(h:ρ x = .str s:=by exact rfl):Di Tryz.prog ⟨d,.move x,ty,pos,aft,gd⟩ ρ K (.str s):=Bk h
theorem Vp {t:TypeId}{td:TD}{x:Operand}{s:List UInt8}{cs:List AV}(h:ρ x = .ptr (.str s::cs):=by exact rfl)(ht:Bu TL t=some td:=by exact rfl)(ha:td.agg=false:=by exact rfl):Di Tryz.prog ⟨d,.load t x,ty,pos,aft,gd⟩ ρ K (.str s):=Ec Ai h ht ha
theorem Qxt {x:Operand}{i:Nat}{vs:List AV}{s:List UInt8}(h:ρ x = .tuple vs:=by exact rfl)(hv:vs[i]? = some (.str s):=by exact rfl):Di Tryz.prog ⟨d,.extract x i,ty,pos,aft,gd⟩ ρ K (.str s):=Cc h hv
theorem Qau {x:Operand}{l:List AV}(h:ρ x = .tuple l:=by exact rfl):Di Tryz.prog ⟨d,.assign x,ty,pos,aft,gd⟩ ρ K (.tuple l):=C1 h
theorem Mt {x:Operand}{l:List AV}(h:ρ x = .tuple l:=by exact rfl):Di Tryz.prog ⟨d,.move x,ty,pos,aft,gd⟩ ρ K (.tuple l):=Bk h
theorem Qlu {t:TypeId}{td:TD}{x:Operand}{l:List AV}{cs:List AV}(h:ρ x = .ptr (.tuple l::cs):=by exact rfl)(ht:Bu TL t=some td:=by exact rfl)(ha:td.agg=false:=by exact rfl):Di Tryz.prog ⟨d,.load t x,ty,pos,aft,gd⟩ ρ K (.tuple l):=Ec Ai h ht ha
theorem Qxu {x:Operand}{i:Nat}{vs:List AV}{l:List AV}(h:ρ x = .tuple vs:=by exact rfl)(hv:vs[i]? = some (.tuple l):=by exact rfl):Di Tryz.prog ⟨d,.extract x i,ty,pos,aft,gd⟩ ρ K (.tuple l):=Cc h hv
theorem Qap {x:Operand}{l:List AV}(h:ρ x = .ptr l:=by exact rfl):Di Tryz.prog ⟨d,.assign x,ty,pos,aft,gd⟩ ρ K (.ptr l):=C1 h
theorem zR {x:Operand}{l:List AV}(h:ρ x = .ptr l:=by exact rfl):Di Tryz.prog ⟨d,.move x,ty,pos,aft,gd⟩ ρ K (.ptr l):=Bk h
theorem Qlp {t:TypeId}{td:TD}{x:Operand}{l:List AV}{cs:List AV}(h:ρ x = .ptr (.ptr l::cs):=by exact rfl)(ht:Bu TL t=some td:=by exact rfl)(ha:td.agg=false:=by exact rfl):Di Tryz.prog ⟨d,.load t x,ty,pos,aft,gd⟩ ρ K (.ptr l):=Ec Ai h ht ha
theorem Qxp {x:Operand}{i:Nat}{vs:List AV}{l:List AV}(h:ρ x = .tuple vs:=by exact rfl)(hv:vs[i]? = some (.ptr l):=by exact rfl):Di Tryz.prog ⟨d,.extract x i,ty,pos,aft,gd⟩ ρ K (.ptr l):=Cc h hv
theorem Ck (l:List AV){t:TypeId}{td:TD}{x:Operand}{cs:List AV}(h:ρ x = .ptr cs:=by exact rfl)(ht:Bu TL t=some td:=by exact rfl)(ha:td.agg=true:=by exact rfl)(hl:cs.take td.size=l:=by exact rfl)(hs:Nat.beq l.length td.size=true:=by exact rfl):Di Tryz.prog ⟨d,.load t x,ty,pos,aft,gd⟩ ρ K (.agg l):=Eu Ai h ht ha hl hs
theorem Qf (cs':List AV){s f off z ft:Nat}{nm:Bool}{x:Operand}{cs:List AV}{td:TD}{gs:List (Nat×Nat×Bool×Nat)}(h:ρ x = .ptr cs:=by exact rfl)(ht:Bu TL s=some td:=by exact rfl)(hk:td.kind = .struct gs:=by exact rfl)(hf:gs[f]? = some (off,z,nm,ft):=by exact rfl)(hz:Nat.blt 0 z=true:=by exact rfl)(hc:cs.drop off=cs':=by exact rfl):Di Tryz.prog ⟨d,.fieldAddr s x f,ty,pos,aft,gd⟩ ρ K (.ptr cs'):=B8 Ai h ht hk hf hz hc
theorem Ip {s f off z ft b o:Nat}{nm:Bool}{x:Operand}{td:TD}{gs:List (Nat×Nat×Bool×Nat)}{o':Nat}(h:ρ x = .val (.pointer (some ⟨b,o,none⟩)):=by exact rfl)(ht:Bu TL s=some td:=by exact rfl)(hk:td.kind = .struct gs:=by exact rfl)(hf:gs[f]? = some (off,z,nm,ft):=by exact rfl)(hz:Nat.blt 0 z=true:=by exact rfl)(ho:o+off=o':=by exact rfl):Di Tryz.prog ⟨d,.fieldAddr s x f,ty,pos,aft,gd⟩ ρ K (.val (.pointer (some ⟨b,o',none⟩))):=Vt Ai h ht hk hf hz ho
theorem Fz (cs:List AV){t:TypeId}{x:Operand}{l:List AV}(h:ρ x = .agg l:=by exact rfl)(hc:Dc (.agg l)=cs:=by exact rfl)(hs:Bh cs=true:=by exact rfl):Di Tryz.prog ⟨d,.box t x,ty,pos,aft,gd⟩ ρ K (.ptr cs):=bA h hc hs
theorem Eo (l:List AV){t:TypeId}{td:TD}{gs:List (Nat×Nat×Bool×Nat)}{parts:Array (Nat×Operand)}(ht:Bu TL t=some td:=by exact rfl)(hk:td.kind = .struct gs:=by exact rfl)(h:Ve gs td.zero (L2 ρ parts.toList)=some l:=by exact rfl):Di Tryz.prog ⟨d,.build t parts,ty,pos,aft,gd⟩ ρ K (.agg l):=P_build Ai ht hk h
theorem Ku {s f' off z ft:Nat}{nm:Bool}{x:Operand}{cs:List AV}{td:TD}{gs:List (Nat×Nat×Bool×Nat)}{a:Int}{b:AV}{c:Int}{d1:Int}{e:Int}{f:Int}{g:Int}{h:List UInt8}(i:ρ x = .ptr cs:=by exact rfl)(ht:Bu TL s=some td:=by exact rfl)(hk:td.kind = .struct gs:=by exact rfl)(hf:gs[f']? = some (off,z,nm,ft):=by exact rfl)(hz:Nat.blt 0 z=true:=by exact rfl)(hc:cs.drop off = [.int .i64 a,b,.int .i64 c,.int .i64 d1,.int .i64 e,.int .i64 f,.int .i64 g,.str h]:=by exact rfl):Di Tryz.prog ⟨d,.fieldAddr s x f',ty,pos,aft,gd⟩ ρ K (.ptr [.int .i64 a,b,.int .i64 c,.int .i64 d1,.int .i64 e,.int .i64 f,.int .i64 g,.str h]):=B8 Ai i ht hk hf hz hc
theorem Dy {t:TypeId}{td:TD}{x:Operand}{cs:List AV}{a:Int}{b:AV}{c:Int}{d1:Int}{e:Int}{f:Int}{g:Int}{h:List UInt8}(i:ρ x = .ptr cs:=by exact rfl)(ht:Bu TL t=some td:=by exact rfl)(ha:td.agg=true:=by exact rfl)(hl:cs.take td.size = [.int .i64 a,b,.int .i64 c,.int .i64 d1,.int .i64 e,.int .i64 f,.int .i64 g,.str h]:=by exact rfl)(hs:Nat.beq 8 td.size=true:=by exact rfl):Di Tryz.prog ⟨d,.load t x,ty,pos,aft,gd⟩ ρ K (.agg [.int .i64 a,b,.int .i64 c,.int .i64 d1,.int .i64 e,.int .i64 f,.int .i64 g,.str h]):=Eu Ai i ht ha hl hs
theorem K9 {t:TypeId}{x:Operand}{l:List AV}{a:Int}{b:AV}{c:Int}{d1:Int}{e:Int}{f:Int}{g:Int}{h:List UInt8}(i:ρ x = .agg l:=by exact rfl)(hc:Dc (.agg l) = [.int .i64 a,b,.int .i64 c,.int .i64 d1,.int .i64 e,.int .i64 f,.int .i64 g,.str h]:=by exact rfl)(hs:Bh [.int .i64 a,b,.int .i64 c,.int .i64 d1,.int .i64 e,.int .i64 f,.int .i64 g,.str h]=true:=by exact rfl):Di Tryz.prog ⟨d,.box t x,ty,pos,aft,gd⟩ ρ K (.ptr [.int .i64 a,b,.int .i64 c,.int .i64 d1,.int .i64 e,.int .i64 f,.int .i64 g,.str h]):=bA i hc hs
theorem K3 {s f' off z ft:Nat}{nm:Bool}{x:Operand}{cs:List AV}{td:TD}{gs:List (Nat×Nat×Bool×Nat)}{b:AV}{c:Int}{d1:Int}{e:Int}{f:Int}{g:Int}{h:List UInt8}(i:ρ x = .ptr cs:=by exact rfl)(ht:Bu TL s=some td:=by exact rfl)(hk:td.kind = .struct gs:=by exact rfl)(hf:gs[f']? = some (off,z,nm,ft):=by exact rfl)(hz:Nat.blt 0 z=true:=by exact rfl)(hc:cs.drop off = [b,.int .i64 c,.int .i64 d1,.int .i64 e,.int .i64 f,.int .i64 g,.str h]:=by exact rfl):Di Tryz.prog ⟨d,.fieldAddr s x f',ty,pos,aft,gd⟩ ρ K (.ptr [b,.int .i64 c,.int .i64 d1,.int .i64 e,.int .i64 f,.int .i64 g,.str h]):=B8 Ai i ht hk hf hz hc
theorem Xn {s f' off z ft:Nat}{nm:Bool}{x:Operand}{cs:List AV}{td:TD}{gs:List (Nat×Nat×Bool×Nat)}{c:Int}{d1:Int}{e:Int}{f:Int}{g:Int}{h:List UInt8}(i:ρ x = .ptr cs:=by exact rfl)(ht:Bu TL s=some td:=by exact rfl)(hk:td.kind = .struct gs:=by exact rfl)(hf:gs[f']? = some (off,z,nm,ft):=by exact rfl)(hz:Nat.blt 0 z=true:=by exact rfl)(hc:cs.drop off = [.int .i64 c,.int .i64 d1,.int .i64 e,.int .i64 f,.int .i64 g,.str h]:=by exact rfl):Di Tryz.prog ⟨d,.fieldAddr s x f',ty,pos,aft,gd⟩ ρ K (.ptr [.int .i64 c,.int .i64 d1,.int .i64 e,.int .i64 f,.int .i64 g,.str h]):=B8 Ai i ht hk hf hz hc
theorem Qz {s f' off z ft:Nat}{nm:Bool}{x:Operand}{cs:List AV}{td:TD}{gs:List (Nat×Nat×Bool×Nat)}{d1:Int}{e:Int}{f:Int}{g:Int}{h:List UInt8}(i:ρ x = .ptr cs:=by exact rfl)(ht:Bu TL s=some td:=by exact rfl)(hk:td.kind = .struct gs:=by exact rfl)(hf:gs[f']? = some (off,z,nm,ft):=by exact rfl)(hz:Nat.blt 0 z=true:=by exact rfl)(hc:cs.drop off = [.int .i64 d1,.int .i64 e,.int .i64 f,.int .i64 g,.str h]:=by exact rfl):Di Tryz.prog ⟨d,.fieldAddr s x f',ty,pos,aft,gd⟩ ρ K (.ptr [.int .i64 d1,.int .i64 e,.int .i64 f,.int .i64 g,.str h]):=B8 Ai i ht hk hf hz hc
theorem S0 {s f' off z ft:Nat}{nm:Bool}{x:Operand}{cs:List AV}{td:TD}{gs:List (Nat×Nat×Bool×Nat)}{e:Int}{f:Int}{g:Int}{h:List UInt8}(i:ρ x = .ptr cs:=by exact rfl)(ht:Bu TL s=some td:=by exact rfl)(hk:td.kind = .struct gs:=by exact rfl)(hf:gs[f']? = some (off,z,nm,ft):=by exact rfl)(hz:Nat.blt 0 z=true:=by exact rfl)(hc:cs.drop off = [.int .i64 e,.int .i64 f,.int .i64 g,.str h]:=by exact rfl):Di Tryz.prog ⟨d,.fieldAddr s x f',ty,pos,aft,gd⟩ ρ K (.ptr [.int .i64 e,.int .i64 f,.int .i64 g,.str h]):=B8 Ai i ht hk hf hz hc
theorem Jr {s f' off z ft:Nat}{nm:Bool}{x:Operand}{cs:List AV}{td:TD}{gs:List (Nat×Nat×Bool×Nat)}{f:Int}{g:Int}{h:List UInt8}(i:ρ x = .ptr cs:=by exact rfl)(ht:Bu TL s=some td:=by exact rfl)(hk:td.kind = .struct gs:=by exact rfl)(hf:gs[f']? = some (off,z,nm,ft):=by exact rfl)(hz:Nat.blt 0 z=true:=by exact rfl)(hc:cs.drop off = [.int .i64 f,.int .i64 g,.str h]:=by exact rfl):Di Tryz.prog ⟨d,.fieldAddr s x f',ty,pos,aft,gd⟩ ρ K (.ptr [.int .i64 f,.int .i64 g,.str h]):=B8 Ai i ht hk hf hz hc
theorem V9 {s f' off z ft:Nat}{nm:Bool}{x:Operand}{cs:List AV}{td:TD}{gs:List (Nat×Nat×Bool×Nat)}{g:Int}{h:List UInt8}(i:ρ x = .ptr cs:=by exact rfl)(ht:Bu TL s=some td:=by exact rfl)(hk:td.kind = .struct gs:=by exact rfl)(hf:gs[f']? = some (off,z,nm,ft):=by exact rfl)(hz:Nat.blt 0 z=true:=by exact rfl)(hc:cs.drop off = [.int .i64 g,.str h]:=by exact rfl):Di Tryz.prog ⟨d,.fieldAddr s x f',ty,pos,aft,gd⟩ ρ K (.ptr [.int .i64 g,.str h]):=B8 Ai i ht hk hf hz hc
theorem Qf7 {s f' off z ft:Nat}{nm:Bool}{x:Operand}{cs:List AV}{td:TD}{gs:List (Nat×Nat×Bool×Nat)}{h:List UInt8}(i:ρ x = .ptr cs:=by exact rfl)(ht:Bu TL s=some td:=by exact rfl)(hk:td.kind = .struct gs:=by exact rfl)(hf:gs[f']? = some (off,z,nm,ft):=by exact rfl)(hz:Nat.blt 0 z=true:=by exact rfl)(hc:cs.drop off = [.str h]:=by exact rfl):Di Tryz.prog ⟨d,.fieldAddr s x f',ty,pos,aft,gd⟩ ρ K (.ptr [.str h]):=B8 Ai i ht hk hf hz hc
theorem A7 {x y:Operand}{t yt:TypeId}{k:IntKind}{n m:Int}(hx:ρ x = .int k n:=by exact rfl)(hy:ρ y = .int k m:=by exact rfl):Di Tryz.prog ⟨d,.binOp .eql t x y yt,ty,pos,aft,gd⟩ ρ K (.bool (n==m)):=P_eql hx hy
theorem Cq {x y:Operand}{t yt:TypeId}{k:IntKind}{n m:Int}(hx:ρ x = .int k n:=by exact rfl)(hy:ρ y = .int k m:=by exact rfl):Di Tryz.prog ⟨d,.binOp .neq t x y yt,ty,pos,aft,gd⟩ ρ K (.bool (n != m)):=Oi hx hy
theorem Cj {x y:Operand}{t yt:TypeId}{k:IntKind}{n m:Int}(hx:ρ x = .int k n:=by exact rfl)(hy:ρ y = .int k m:=by exact rfl):Di Tryz.prog ⟨d,.binOp .lss t x y yt,ty,pos,aft,gd⟩ ρ K (.bool (decide (n<m))):=P_lss hx hy
theorem Hl {x y:Operand}{t yt:TypeId}{k:IntKind}{n m:Int}(hx:ρ x = .int k n:=by exact rfl)(hy:ρ y = .int k m:=by exact rfl):Di Tryz.prog ⟨d,.binOp .gtr t x y yt,ty,pos,aft,gd⟩ ρ K (.bool (decide (m<n))):=P_gtr hx hy
theorem Nu {x y:Operand}{t yt:TypeId}{k:IntKind}{n m:Int}(hx:ρ x = .int k n:=by exact rfl)(hy:ρ y = .int k m:=by exact rfl):Di Tryz.prog ⟨d,.binOp .leq t x y yt,ty,pos,aft,gd⟩ ρ K (.bool (decide (n≤m))):=wD hx hy
theorem N7 {x y:Operand}{t yt:TypeId}{k:IntKind}{n m:Int}(hx:ρ x = .int k n:=by exact rfl)(hy:ρ y = .int k m:=by exact rfl):Di Tryz.prog ⟨d,.binOp .geq t x y yt,ty,pos,aft,gd⟩ ρ K (.bool (decide (m≤n))):=Vc hx hy
theorem Fw {x y:Operand}{t yt:TypeId}{n m r:Int}(hx:ρ x = .int .i64 n:=by exact rfl)(hy:ρ y = .int .i64 m:=by exact rfl)(hr:n+m=r:=by exact rfl)(hb : -9223372036854775808≤r∧r≤9223372036854775807:=by constructor <;> omega):Di Tryz.prog ⟨d,.binOp .add t x y yt,ty,pos,aft,gd⟩ ρ K (.int .i64 r):=jX hx hy hr hb
theorem Gj {x:Operand}{t:TypeId}{b:Bool}(hx:ρ x = .bool b:=by exact rfl):Di Tryz.prog ⟨d,.unOp .not t x,ty,pos,aft,gd⟩ ρ K (.bool (!b)):=P_not hx
theorem Ez {c a y:Operand}{b x:Bool}(hc:ρ c = .bool b:=by exact rfl)(ha:ρ a = .opt [(b,true)] (.bool x):=by exact rfl)(hy:ρ y = .bool false:=by exact rfl):Di Tryz.prog ⟨d,.pick c a y,ty,pos,aft,gd⟩ ρ K (.bool (b&&x)):=Na hc ha hy
theorem E2 {c a y:Operand}{b x:Bool}(hc:ρ c = .bool b:=by exact rfl)(ha:ρ a = .bool true:=by exact rfl)(hy:ρ y = .opt [(b,false)] (.bool x):=by exact rfl):Di Tryz.prog ⟨d,.pick c a y,ty,pos,aft,gd⟩ ρ K (.bool (b||x)):=qU hc ha hy
theorem Qc {f:FuncId}{args:Array Operand}{ats:Array TypeId}{l:List AV}{r:AV}(ha:args.toList.map ρ=l)(hc:Ax Tryz.prog f l r)(hf:wK Tryz.prog f=true:=by kernel_rfl)(hcal:ρ (.func f) = .fn (.func f) [] []:=by exact rfl):Di Tryz.prog ⟨d,.call ⟨.value (.func f),args,ats⟩,ty,pos,aft,gd⟩ ρ K r:=C5 hf hcal ha hc
end
section
variable {ops:Array Oper} {K:St→Prop} {s:St} {d:Option Nat} {op:Op} {t:TypeId} {pos:String} {after:Array Edge} {r:List Oper} {x y:AV} {o:Oper} {G:List (Bool×Bool)} {b:Bool} {c1 c2:Code} {Q Q':Exit→St→Prop} {N:St→Prop} {id:Nat}
theorem Qp (h:Di Tryz.prog ⟨d,op,t,pos,after,none⟩ (G6 s.sl) (fun _=>True) x)(k:AOL Tryz.prog ops K r ⟨Fr d x s.sl,s.H,s.n⟩)(hd:Ob d s.n=true:=by exact rfl):AOL Tryz.prog ops K (⟨d,op,t,pos,after,none⟩::r) s:=AOL.p h hd k
theorem Cn (k:Nat)(cs':List AV)(H2:List HO){b o:Nat}{td:TD}{TT t':TypeId}{cs:List AV}{v:AV}{x1 y1:Operand}(kk:AOL Tryz.prog ops K r ⟨Fr d .junk s.sl,H2,s.n⟩)(h:G6 s.sl x1 = .val (.pointer (some ⟨b,o,none⟩)):=by exact rfl)(hv:G6 s.sl y1=v:=by exact rfl)(ht:Bu TL t'=some td:=by exact rfl)(hk:s.H[k]? = some (.box b TT cs):=by exact rfl)(hs:Bh (Dc v)=true:=by exact rfl)(hl:Nat.beq (Dc v).length td.size=true:=by exact rfl)(hb:Nat.ble (o+td.size) cs.length=true:=by exact rfl)(hc:Ft cs o (Dc v)=cs':=by exact rfl)(hH2:s.H.set k (.box b TT cs')=H2:=by exact rfl)(hd:Ob d s.n=true:=by exact rfl):AOL Tryz.prog ops K (⟨d,.store t' x1 y1,t,pos,after,none⟩::r) s:=AOL.e (C6 (k:=k) Ai h hv ht hk hs hl hb hc hH2) hd fun x' H' e=>by obtain ⟨e1,e2⟩:=e;subst e1;subst e2;exact kk
abbrev Iq (n:Int):AV:=.int .i64 n
theorem iN {α:Type}{b:Bool}[Decidable (b=true)]{x y:α}(h:b=false):(if b=true then x else y)=y:=if_neg (Bool.eq_false_iff.mp h)
theorem Qe {R:AV→List HO→Prop}(h:La Tryz.prog ⟨d,op,t,pos,after,none⟩ (G6 s.sl) s.H R)(k:∀x H',R x H'→AOL Tryz.prog ops K r ⟨Fr d x s.sl,H',s.n⟩)(hd:Ob d s.n=true:=by exact rfl):AOL Tryz.prog ops K (⟨d,op,t,pos,after,none⟩::r) s:=AOL.e h hd k
theorem Qw {sl:List (Nat×AV)}{L:List (Nat×AV)}(hw:Ie ops o sl=some G:=by exact rfl)(hL:tK G sl L:=by first | exact trivial | exact ⟨Ent.Abm _ _,trivial⟩ | exact ⟨Ent.Abm _ _,tU.suf _ _ _,trivial⟩):Ie ops o sl=some G∧tK G sl L:=⟨hw,hL⟩
theorem Qg (L:List (Nat×AV))(w:Ie ops o s.sl=some G∧tK G s.sl L)(h:Di Tryz.prog o (G6 (L++s.sl)) (fun _=>True) y)(k:AOL Tryz.prog ops K r ⟨Fr o.dst (.opt G y) s.sl,s.H,s.n⟩)(hd:Ob o.dst s.n=true:=by exact rfl):AOL Tryz.prog ops K (o::r) s:=AOL.Abp G L w.1 (tK.all w.2) (fun _=>h) hd k
theorem Ah (h:AOL Tryz.prog ops (Kk (AW Tryz.prog c2 Q) Q .normal) ops.toList s):AW Tryz.prog (.seq (.region id ops false) c2) Q s:=AW.seq (AW.region h)
theorem Ag (h:N s):AOL Tryz.prog ops (Kk N Q .normal) [] s:=AOL.nil (Ae h)
theorem Df {ops':Array Oper}(h:AOL Tryz.prog ops' (Kk (AW Tryz.prog c2 Q) Q .normal) ops'.toList s):AOL Tryz.prog ops (Kk (AW Tryz.prog (.seq (.region id ops' false) c2) Q) Q' .normal) [] s:=AOL.nil (Ae (AW.seq (AW.region h)))
theorem A5 {c:Operand}{x y:Code}(ht:b=true→AW Tryz.prog x Q s)(hf:b=false→AW Tryz.prog y Q s)(hb:G6 s.sl c = .bool b:=by exact rfl):AW Tryz.prog (.cond c x y) Q s:=AW.cond hb ht hf
theorem Bz (h:N s):AW Tryz.prog .skip (Kk N Q) s:=AW.skip (Ae h)
theorem Dr (h:Q .ret s):AW Tryz.prog .ret (Kk N Q) s:=AW.ret (Aj h)
theorem Qr {H:List HO}{l:List ResultVar}{r:AV}(x:AV)(h:Ad [x]=r)(hr:ResL Tryz.prog TL s l [x]:=by exact .cons (.tmp _ _ rfl) .nil)(hs:H.Sublist s.H:=by exact .refl _):(Exit.ret = .normal∨Exit.ret = .ret)∧∃xs,ResL Tryz.prog TL s l xs∧H.Sublist s.H∧Ad xs=r:=⟨.inr rfl,[x],hr,hs,h⟩
theorem Kn {H:List HO}{l:List ResultVar}{r:AV}(x y:AV)(h:Ad [x,y]=r)(hr:ResL Tryz.prog TL s l [x,y]:=by exact .cons (.tmp _ _ rfl) (.cons (.tmp _ _ rfl) .nil))(hs:H.Sublist s.H:=by exact .refl _):(Exit.ret = .normal∨Exit.ret = .ret)∧∃xs,ResL Tryz.prog TL s l xs∧H.Sublist s.H∧Ad xs=r:=⟨.inr rfl,[x,y],hr,hs,h⟩
end
section
variable {ops:Array Oper} {K:List HO→Prop} {Q:St→Prop} {s:St} {o:Oper} {x y:AV} {G:List (Bool×Bool)} {listed:Array Bool}
theorem Qn (i:Nat)(ho:ops[i]? = some o)(h:Di Tryz.prog o (G6 s.sl) K x)(k:Ju Tryz.prog ops K Q (listed.setIfInBounds i true) ⟨Fr o.dst x s.sl,s.H,s.n⟩)(hr:(Region.ready .any ops listed).contains i=true:=by kernel_rfl)(hf:Region.free .any ops listed i=true:=by kernel_rfl)(hd:Ob o.dst s.n=true:=by exact rfl)(hg:o.guard=none:=by exact rfl):Ju Tryz.prog ops K Q listed s:=Ju.pure listed s i o x ho hr hf hd (.run hg h) k
theorem Qo (i:Nat)(ho:ops[i]? = some o)(L:List (Nat×AV))(w:Ie ops o s.sl=some G∧tK G s.sl L)(h:Di Tryz.prog o (G6 (L++s.sl)) K y)(k:Ju Tryz.prog ops K Q (listed.setIfInBounds i true) ⟨Fr o.dst (.opt G y) s.sl,s.H,s.n⟩)(hr:(Region.ready .any ops listed).contains i=true:=by kernel_rfl)(hf:Region.free .any ops listed i=true:=by kernel_rfl)(hd:Ob o.dst s.n=true:=by exact rfl):Ju Tryz.prog ops K Q listed s:=Ju.pure listed s i o _ ho hr hf hd (.opt G y L w.1 (tK.all w.2) (fun _=>h) rfl) k
end

theorem Cw:({ data:=#[] }:ByteArray).data.toList=([]:List UInt8):=rfl

structure Vl where
 kind:Int
 num:Int
 text:List UInt8
deriving DecidableEq

structure Ex where
 op:Int
 args:List Ex
 var:Int
 field:Int
 kind:Int
 val:Vl

structure Ev where
 source:Int
 seq:Int
 type:Int
 time:Int
 values:List Vl

structure Ac where
 kind:Int
 count:Int
 val:Vl

def v0:Vl:=⟨0,0,[]⟩
def Km:Ev:=⟨0,0,0,0,[]⟩
def V7:Ex:=⟨0,[],0,0,0,v0⟩
def ac0:Ac:=⟨0,0,v0⟩

/-- == on values, as the model counts it out -/
@[reducible] def eqV (v w : Vl) : Bool := v.kind == w.kind && (v.num == w.num && v.text == w.text)
@[reducible] def isV0 (v : Vl) : Bool := v.kind == 0 && (v.num == 0 && v.text == [])
theorem nI (v w:Vl):eqV v w=true↔v=w:=by
 cases v;cases w;simp [eqV]
theorem jG (v:Vl):isV0 v=true↔v=v0:=by
 cases v;simp [isV0,v0]

def cV (v:Vl):List AV:=[.int .i64 v.kind,.int .i64 v.num,.str v.text]

mutual
def Fu:Ex→List AV
 | ⟨op,args,var,field,kind,val⟩=>[.int .i64 op,.sl 8 (gA args),.int .i64 var,.int .i64 field,.int .i64 kind,.int .i64 val.kind,.int .i64 val.num,.str val.text]
def gA:List Ex→List (List AV)
 | []=>[]
 | e::r=>Fu e::gA r
end

theorem Zu:∀l:List Ex,gA l=l.map Fu
 | []=>by simp [gA]
 | e::r=>by simp [gA,Zu r]

def cE (e:Ex):List AV:=[.int .i64 e.op,.sl 8 (e.args.map Fu),.int .i64 e.var,.int .i64 e.field,.int .i64 e.kind,.int .i64 e.val.kind,.int .i64 e.val.num,.str e.val.text]
def Ou (e:Ev):List AV:=[.int .i64 e.source,.int .i64 e.seq,.int .i64 e.type,.int .i64 e.time,.sl 3 (e.values.map cV)]
def X7 (a:Ac):List AV:=[.int .i64 a.kind,.int .i64 a.count,.int .i64 a.val.kind,.int .i64 a.val.num,.str a.val.text]
def sV (l:List Ev):List AV:=[.sl 5 (l.map Ou)]
def cEnv (l:List (List Ev)):List AV:=[.sl 1 (l.map sV)]

theorem Jh (e:Ex):Fu e=cE e:=by
 cases e
 simp [Fu,cE,Zu]

theorem Ex.Abu {P:Ex→Prop}(h:∀e,(∀a∈e.args,P a)→P e):∀e,P e:=by
 intro e
 exact Ex.rec (motive_1:=P) (motive_2:=fun l=>∀a∈l,P a) (fun op args v f k val ih=>h _ ih) (by simp) (fun a l ha hl=>by simp only [List.mem_cons,forall_eq_or_imp];exact ⟨ha,hl⟩) e

theorem E9 {l:List Ex}{k:Nat}{a:Ex}(h:l[k]? = some a):(l.map Fu)[k]? = some (cE a):=by
 simp [h,Jh]
theorem Bj {α:Type}{f:α→List AV}{l:List α}{k:Nat}{a:α}(h:l[k]? = some a):(l.map f)[k]? = some (f a):=by simp [h]

theorem B4 {α:Type}{l:List α}{k:Nat}(h:decide ((k:Int)<(l.length:Int))=true):∃a,l[k]? = some a:=by
 have:k<l.length:=by simpa using h
 exact ⟨_,List.getElem?_eq_getElem this⟩
theorem Bb {α:Type}{l:List α}{k:Nat}{a:α}(h:l[k]? = some a):k<l.length:=(List.getElem?_eq_some_iff.1 h).1
theorem A9 {α:Type}{l:List α}{k:Nat}{a:α}(h:l[k]? = some a):l.drop k=a::l.drop (k+1):=by
 obtain ⟨h1,h2⟩:=List.getElem?_eq_some_iff.1 h
 rw [←h2];exact List.drop_eq_getElem_cons h1
theorem Cr {α:Type}{l:List α}{k:Nat}{a:α}(h:l[k]? = some a):l.take (k+1)=l.take k ++ [a]:=by
 rw [List.take_add_one,h];rfl
theorem C2 {α:Type}{l:List α}{k:Nat}(h:decide ((k:Int)<(l.length:Int))=false):l.take k=l:=by
 have:¬k<l.length:=by simpa using h
 exact List.take_of_length_le (by omega)
theorem Hw {α:Type}{l:List α}{v:Int}(h0:0≤v)(h:v<(l.length:Int)):∃a,l[v.toNat]? = some a:=⟨_,List.getElem?_eq_getElem (by omega)⟩
theorem Dh {α:Type}{l:List α}{k:Nat}(h:decide ((k:Int)<(l.length:Int))=false):l.drop k = []:=by
 have:¬k<l.length:=by simpa using h
 exact List.drop_eq_nil_of_le (by omega)

/-! ### Layer 1 -/

def D2 (b:Bool):Vl:=if b then ⟨1,1,[]⟩ else ⟨1,0,[]⟩

def D9 (v:Vl):Int:=
 if v.kind==0&&(decide (v.num < -1099511627776)||decide (1099511627776<v.num)) then 2
 else if v.kind==1&&v.num != 0&&v.num != 1 then 2
 else if decide (64<(v.text.length:Int)) then 13 else 0

def Ap (v:Vl):Int:=
 if v.kind==0||v.kind==1 then (if !(v.text == []) then 3 else D9 v)
 else if v.kind==2 then (if v.num != 0 then 3 else D9 v)
 else 1

/-- the same in the order of the reference -/
def Co (v:Vl):Int:=
 if decide (v.kind<0)||decide (2<v.kind) then 1
 else if v.kind==2 then (if v.num != 0 then 3 else if decide (64<(v.text.length:Int)) then 13 else 0)
 else if !(v.text == []) then 3
 else if v.kind==1&&(decide (v.num<0)||decide (1<v.num))||decide (v.num < -1099511627776)||decide (1099511627776<v.num) then 2 else 0
theorem Iy (v:Vl):Co v=Ap v:=by
 unfold Co Ap D9
 obtain ⟨k,n,t⟩:=v
 by_cases ht:t = []
 ·
  subst ht
  simp only [Bool.or_eq_true,Bool.and_eq_true,decide_eq_true_eq,beq_iff_eq,bne_iff_ne,ne_eq,not_true,if_false,List.length_nil,BEq.rfl,Bool.not_true,Bool.false_eq_true,Bool.not_true,Bool.false_eq_true]
  repeat' split
  all_goals first | rfl | omega
 ·
  simp only [Bool.or_eq_true,Bool.and_eq_true,decide_eq_true_eq,beq_iff_eq,bne_iff_ne,ne_eq,ht,not_false_eq_true,if_true,Bool.not_eq_true',beq_eq_false_iff_ne]
  repeat' split
  all_goals first | rfl | omega

/-! ### Layer 7 -/

def D3 (k:Int):Bool:=decide (0≤k)&&decide (k≤5)
def E4 (k:Int)(v:Vl):Bool:=v.kind==0||(k != 1&&k != 2&&k != 3)
def Jd (k:Int)(v:Vl):Bool:=v.kind==0||k==0||k==4||k==5

def I4 (k:Int)(a b:Vl):Vl:=
 if k==1 then ⟨0,IntKind.i64.wrap (a.num+b.num),[]⟩ else if k==2 then ⟨0,min a.num b.num,[]⟩ else if k==3 then ⟨0,max a.num b.num,[]⟩ else if k==4 then a else if k==5 then b else v0
def E1 (k:Int)(v:Vl):Vl:=if k==0 then v0 else v
def E0 (a b:Ac):Ac:=if a.count==0 then b else if b.count==0 then a else ⟨a.kind,IntKind.i64.wrap (a.count+b.count),I4 a.kind a.val b.val⟩

def Bq (a:Ac):Int:=
 if !knownS a.kind then 1
 else if decide (a.count<0)||decide (4096<a.count) then 2
 else if (if a.count==0||a.kind==0 then isV0 a.val
  else if a.kind==1 then a.val.kind==0&&a.val.text == []&&decide (0-a.count*1099511627776≤a.val.num)&&decide (a.val.num≤a.count*1099511627776)
  else Ap a.val==0&&E4 a.kind a.val) then 0 else 3

def racheckS (a:Ac):Int:=
 if !knownS a.kind then 1
 else if decide (a.count<0)||decide (4096<a.count) then 2
 else if a.count==0||a.kind==0 then (if !isV0 a.val then 3 else 0)
 else if a.kind==1 then (if a.val.kind != 0 || !(a.val.text == [])||decide (a.val.num<0-a.count*1099511627776)||decide (a.count*1099511627776<a.val.num) then 3 else 0)
 else if Ap a.val != 0 || !rsuitsS a.kind a.val then 3 else 0
theorem yI (k:Int)(v:Vl)(h:D3 k=true):Jd k v=E4 k v:=by
 simp only [D3,Bool.and_eq_true,decide_eq_true_eq] at h
 unfold Jd E4
 rw [Bool.eq_iff_iff]
 simp
 omega
def Dl (k:Int)(v:Vl):Int:=if Ap v != 0 then Ap v else if !asuitsS k v then 9 else 0

def Dq (a:Ac)(o:Vl):Vl×Int:=
 if Bq a != 0 then (v0,Bq a)
 else if Dl a.kind o != 0 then (v0,Dl a.kind o)
 else if a.kind==0 then (⟨0,a.count,[]⟩,0)
 else if a.count==0&&a.kind != 1 then (o,0)
 else (a.val,0)

def Jt (k:Int)(a:Ac)(v:Vl):Ac:=E0 a ⟨k,1,E1 k v⟩
def aY (k:Int)(l:List Vl):Ac:=l.foldl (Jt k) ⟨k,0,v0⟩

/-- the first error of a list -/
def Aq {α:Type}(f:α→Int):List α→Int
 | []=>0
 | a::r=>if f a != 0 then f a else Aq f r

theorem eX (a c:Ac)(h:D3 a.kind=true)(h':D3 c.kind=true):D3 (E0 a c).kind=true:=by
 unfold E0;split
 · exact h'
 · split <;> exact h
theorem rQ (k:Int)(a:Ac)(v:Vl)(h:D3 a.kind=true)(hk:D3 k=true):D3 (Jt k a v).kind=true:=eX _ _ h hk

def eL (k:Int)(l:List Vl)(o:Vl):Vl×Int:=
 if !knownS k then (v0,1)
 else if decide (4096<(l.length:Int)) then (v0,5)
 else if Aq (Dl k) l != 0 then (v0,Aq (Dl k) l)
 else Dq (aY k l) o

/-! ### Layer 8: nodes -/

def Dn (op:Int):Bool×Bool:=if op=1∨op=4 then (true,true) else if op=2∨op=3 then (true,false) else (false,false)
def D4 (op:Int):Int:=if op<0∨12<op then 0 else if op<5 then 0 else if op=12 then 1 else 2
def Fx (k:Int)(v:Vl):Bool:=v.kind==0||k==4||k==5

def Fk (e:Ex):Int:=
 if Ap e.val != 0 then Ap e.val
 else if e.op==4&&(!esuitsS e.kind e.val||(e.kind==1 && !isV0 e.val)) then 9 else 0

def Bm (e:Ex):Int:=
 if !(Dn e.op).1&&e.var != 0||(!(Dn e.op).2&&e.field != 0)||(!(e.op==4)&&e.kind != 0)||(!(e.op==4||e.op==0) && !isV0 e.val) then 3 else 0

def By (e:Ex):Int:=
 if !decide (0≤e.op∧e.op≤12) then 1
 else if (e.args.length:Int) != D4 e.op then 15
 else if ((Dn e.op).1&&(decide (e.var<0)||decide (16≤e.var)))||((Dn e.op).2&&(decide (e.field<0)||decide (8≤e.field))) then 2
 else if e.op==4&&(decide (e.kind<1)||decide (5<e.kind)) then 1
 else if e.op==4||e.op==0 then (if Fk e != 0 then Fk e else Bm e)
 else Bm e

mutual
def Jj (f:Ex→Int):Ex→Int
 | ⟨op,args,var,field,kind,val⟩=>if f ⟨op,args,var,field,kind,val⟩ != 0 then f ⟨op,args,var,field,kind,val⟩ else X6 f args
def X6 (f:Ex→Int):List Ex→Int
 | []=>0
 | e::r=>if Jj f e != 0 then Jj f e else X6 f r
end
theorem R8 (f:Ex→Int):∀l,X6 f l=Aq (Jj f) l
 | []=>by simp [X6,Aq]
 | e::r=>by simp [X6,Aq,R8 f r]
theorem T6 (f:Ex→Int)(e:Ex):Jj f e=if f e != 0 then f e else Aq (Jj f) e.args:=by
 cases e;rw [Jj,R8]
abbrev C3:Ex→Int:=Jj By
theorem Lc (e:Ex):C3 e=if By e != 0 then By e else Aq C3 e.args:=T6 By e

mutual
def At:Ex→Nat
 | ⟨_,args,_,_,_,_⟩=>1+Xi args
def Xi:List Ex→Nat
 | []=>0
 | e::r=>At e+Xi r
end
mutual
def Ep:Ex→Nat
 | ⟨_,args,_,_,_,_⟩=>Sb args+1
def Sb:List Ex→Nat
 | []=>0
 | e::r=>max (Ep e) (Sb r)
end
theorem Xf:∀l,Xi l=(l.map At).sum
 | []=>by simp [Xi]
 | e::r=>by simp [Xi,Xf r]
theorem D5 (e:Ex):At e=1+(e.args.map At).sum:=by cases e;rw [At,Xf]
theorem Sk:∀l,Sb l=(l.map Ep).foldr max 0
 | []=>by simp [Sb]
 | e::r=>by simp [Sb,Sk r]
theorem Tf (e:Ex):Ep e=(e.args.map Ep).foldr max 0+1:=by cases e;rw [Ep,Sk]

theorem mT {l:List Ex}{a:Ex}(f:Ex→Nat)(h:a∈l):f a≤(l.map f).sum:=by
  induction l with
  | nil=>cases h
  | cons x r ih=>
    simp only [List.map_cons,List.sum_cons]
    rcases List.mem_cons.1 h with rfl | h
    · omega
    · have:=ih h;omega
theorem G0 {e a:Ex}(h:a∈e.args):At a<At e:=by
 have:=mT At h;have:=D5 e;omega
theorem J9 (e:Ex):Ep e≤At e:=by
  refine Ex.Abu (P:=fun e=>Ep e≤At e) (fun e ih=>?_) e
  rw [Tf,D5]
  have:∀l:List Ex,(∀a∈l,Ep a≤At a)→(l.map Ep).foldr max 0≤(l.map At).sum:=by
    intro l
    induction l with
    | nil=>intro _;exact Nat.le_refl _
    | cons x r ihr=>
      intro h
      simp only [List.map_cons,List.foldr_cons,List.sum_cons]
      have h1:=h x (by simp)
      have h2:=ihr fun a ha=>h a (by simp [ha])
      omega
  have:=this e.args ih
  omega

mutual
def G9 (L:Nat):Ex→Nat
 | ⟨_,args,_,_,_,_⟩=>F5 L args 1
def F5 (L:Nat):List Ex→Nat→Nat
 | [],n=>n
 | e::r,n=>if n≤L then F5 L r (n+G9 L e) else n
end
theorem aN (L:Nat)(e:Ex):G9 L e=F5 L e.args 1:=by cases e;rw [G9]
theorem Ww (L:Nat)(e:Ex):G9 L e=At e∨(L<G9 L e∧G9 L e≤At e):=by
  refine Ex.Abu (P:=fun e=>G9 L e=At e∨(L<G9 L e∧G9 L e≤At e)) (fun e ih=>?_) e
  rw [aN,D5]
  have:∀(l:List Ex) (n:Nat),(∀a∈l,G9 L a=At a∨(L<G9 L a∧G9 L a≤At a))→F5 L l n=n+(l.map At).sum∨(L<F5 L l n∧F5 L l n≤n+(l.map At).sum):=by
    intro l
    induction l with
    | nil=>intro n _;simp [F5]
    | cons x r ihr=>
      intro n h
      simp only [F5,List.map_cons,List.sum_cons]
      have h1:=h x (by simp)
      have h2:=ihr (n+G9 L x) fun a ha=>h a (by simp [ha])
      split
      · have hmono:n+G9 L x≤F5 L r (n+G9 L x):=by
          have:∀(l:List Ex) (m:Nat),m≤F5 L l m:=by
            intro l
            induction l with
            | nil=>intro m;simp [F5]
            | cons y s ihs => intro m; simp only [F5]; split
                              · exact Nat.le_trans (Nat.le_add_right _ _) (ihs _)
                              · exact Nat.le_refl _
          exact this r _
        omega
      · omega
  have:=this e.args 1 ih
  omega
theorem X4 (L:Nat)(e:Ex):L<G9 L e↔L<At e:=by
 rcases Ww L e with h | h
 · rw [h]
 · omega

def Bx (e:Ex):Int:=if decide (64<(At e:Int)) then 5 else if decide (12<(Ep e:Int)) then 12 else C3 e

def Mu (op k k0:Int):Bool:=if op==5||op==6||op==7||op==8 then k==0 else if op==10||op==11||op==12 then k==1 else if op==9 then k==k0 else true
def Dj (op:Int)(kinds:List Int):Int:=Aq (fun k=>if Mu op k (kinds.headD 0) then 0 else 9) kinds
def Gq (op:Int):Int:=if op==5||op==6||op==7||op==8 then 0 else if op==10||op==11||op==12 then 1 else -1
theorem Z5 (op k k0:Int):((decide (0≤Gq op)&&k != Gq op)||(op==9&&k != k0)) = !okS op k k0:=by
 unfold Gq Mu
 by_cases h1:(op==5||op==6||op==7||op==8)=true
 ·
  have h9:(op==9)=false:=by simp at h1 ⊢;omega
  rw [if_pos h1,if_pos h1,h9];simp [bne]
 ·
  rw [if_neg h1,if_neg h1]
  by_cases h2:(op==10||op==11||op==12)=true
  ·
   have h9:(op==9)=false:=by simp at h2 ⊢;omega
   rw [if_pos h2,if_pos h2,h9];simp [bne]
  ·
   rw [if_neg h2,if_neg h2]
   by_cases h9:(op==9)=true
   · rw [if_pos h9,h9];simp [bne]
   · rw [if_neg h9];simp at h9;simp [h9]

/-! ### Values of expressions -/

structure Evr where
 vars:List (List Ev)
 own:Int
 event:Ev

def OPS:List (Int×AV):=[(5,.fn (.func 119) [] [.ptr [.fn (.func 118) [] []]]),(6,.fn (.func 120) [] [.ptr [.fn (.func 118) [] []]]),(7,.fn (.func 121) [] []),(8,.fn (.func 122) [] []),(10,.fn (.func 123) [] []),(11,.fn (.func 124) [] []),(12,.fn (.func 125) [] [])]
def cX (x:Evr):List AV:=[.sl 1 (x.vars.map sV),.int .i64 x.own,.int .i64 x.event.source,.int .i64 x.event.seq,.int .i64 x.event.type,.int .i64 x.event.time,.sl 3 (x.event.values.map cV),.mapv OPS]
/-- No list of events is longer than data can be. -/
def Evr.ok (x:Evr):Prop:=∀l∈x.vars,l.length≤1048576

def Bv (vars:List (List Ev))(v:Int):List Ev:=if decide (v<0)||decide ((vars.length:Int)≤v) then [] else (vars[v.toNat]?).getD []

theorem aL {x:Evr}(h:x.ok)(v:Int):(Bv x.vars v).length≤1048576:=by
 unfold Bv
 split
 · simp
 ·
  cases hl:x.vars[v.toNat]? with
  | none=>simp
  | some l=>simpa using h l (List.mem_of_getElem? hl)

def Do (e:Ev)(k:Int):Vl×Int:=if decide ((e.values.length:Int)≤k) then (v0,6) else ((e.values[k.toNat]?).getD v0,0)

def Oz (x:Evr)(e:Ex):Vl×Int:=
 let l:=Bv x.vars e.var
 if Aq (fun v=>(Do v e.field).2) l != 0 then (v0,Aq (fun v=>(Do v e.field).2) l) else eL e.kind (l.map fun v=>(Do v e.field).1) e.val

def G5 (last:Ev)(e:Ex):Vl×Int:=
 if e.op==2 then (⟨0,last.time,[]⟩,0)
 else if (Do last e.field).2==0 then (if Ap (Do last e.field).1 != 0 then (v0,Ap (Do last e.field).1) else ((Do last e.field).1,0))
 else (v0,(Do last e.field).2)

def Fb (x:Evr)(e:Ex):Vl×Int:=
 if e.op==0 then (e.val,0)
 else if e.op==3 then (⟨0,(Bv x.vars e.var).length,[]⟩,0)
 else if e.op==4 then Oz x e
 else if e.var != x.own then (if ((Bv x.vars e.var).length:Int)==0 then (v0,10) else G5 ((Bv x.vars e.var).getLast?.getD Km) e)
 else G5 x.event e

def lastS (vars:List (List Ev))(v own:Int)(ev:Ev):Ev×Bool:=
 if v==own then (ev,true) else if ((Bv vars v).length:Int)==0 then (Km,false) else ((Bv vars v).getLast?.getD Km,true)
theorem vY {α:Type}{l:List α}(h:((l.length:Int)==0)=false):∃a,l[((l.length:Int)-1).toNat]? = some a∧l.getLast? = some a:=by
 have h0:l.length≠0:=by simpa using h
 have e:((l.length:Int)-1).toNat=l.length-1:=by omega
 rw [e,List.getLast?_eq_getElem?]
 exact ⟨_,List.getElem?_eq_getElem (by omega),List.getElem?_eq_getElem (by omega)⟩

def Gx (op:Int)(a b:Int):Vl:=
 if op==5 then ⟨0,IntKind.i64.wrap (a+b),[]⟩ else if op==6 then ⟨0,IntKind.i64.wrap (a-b),[]⟩
 else if op==7 then D2 (decide (a<b)) else if op==8 then D2 (decide (a≤b))
 else if op==10 then D2 (a==1&&b==1) else if op==11 then D2 (a==1||b==1) else D2 (a != 1)

def twoS (op:Int)(v w:Vl):Vl:=if op==9 then D2 (eqV v w) else Gx op v.num w.num

/-- what an operation gives for values -/
def Kw (op:Int)(l:List Vl):Vl×Int:=
 if Dj op (l.map (·.kind)) != 0 then (v0,Dj op (l.map (·.kind)))
 else if op==9 then (D2 (eqV (l.headD v0) ((l[1]?).getD v0)),0)
 else (Gx op (l.headD v0).num (l.getLastD v0).num,0)

mutual
def B0 (x:Evr):Ex→Vl×Int
  | ⟨op,args,var,field,kind,val⟩=>
    if args.isEmpty then Fb x ⟨op,args,var,field,kind,val⟩
    else if (Kt x args).2 != 0 then (v0,(Kt x args).2) else Kw op (Kt x args).1
def Kt (x:Evr):List Ex→List Vl×Int
 | []=>([],0)
 | e::r=>if (B0 x e).2 != 0 then ([],(B0 x e).2) else if (Kt x r).2 != 0 then ([],(Kt x r).2) else ((B0 x e).1::(Kt x r).1,0)
end

theorem T7 (x:Evr):∀l,(Kt x l).2=Aq (fun a=>(B0 x a).2) l
  | []=>by simp [Kt,Aq]
  | e::r=>by
    have:=T7 x r
    by_cases h:((B0 x e).2 != 0)=true
    · rw [Kt,Aq,if_pos h,if_pos h]
    · rw [Kt,Aq,if_neg h,if_neg h,←this]
      by_cases h2:((Kt x r).2 != 0)=true
      · rw [if_pos h2]
      · rw [if_neg h2]
        have h3:(Kt x r).2=0:=by simpa using h2
        exact h3.symm

theorem iM (x:Evr):∀l,Aq (fun a=>(B0 x a).2) l=0→(Kt x l).1=l.map fun a=>(B0 x a).1
  | [],_=>by simp [Kt]
  | e::r,h=>by
    simp only [Aq] at h
    by_cases h1:((B0 x e).2 != 0)=true
    · rw [if_pos h1] at h;simp [h] at h1
    · rw [if_neg h1] at h
      have h2:¬((Kt x r).2 != 0)=true:=by rw [T7,h];simp
      rw [Kt,if_neg h1,if_neg h2]
      simp [iM x r h]

theorem Kf (x:Evr)(e:Ex):B0 x e=if e.args.isEmpty then Fb x e else if Aq (fun a=>(B0 x a).2) e.args != 0 then (v0,Aq (fun a=>(B0 x a).2) e.args) else Kw e.op (e.args.map fun a=>(B0 x a).1):=by
 cases e with | mk op args var field kind val=>
 rw [B0]
 simp only [T7]
 by_cases h:Aq (fun a=>(B0 x a).2) args=0
 · simp [h,iM x args h]
 · simp [h]

def Yp (x:Evr)(e:Ex):Vl×Int:=if Bx e != 0 then (v0,Bx e) else B0 x e
def Kr (x:Evr)(e:Ex):Bool:=(Yp x e).2==0&&eqV (Yp x e).1 (D2 true)


def P6 (k:Int)(v:Vl):Int:=if Ap v != 0 then Ap v else if !rsuitsS k v then 9 else 0
theorem qE (k:Int)(v:Vl)(h:D3 k=true):P6 k v=Dl k v:=by
 unfold P6 Dl;rw [yI k v h]

theorem Nk {a:Ac}(h:Bq a=0):D3 a.kind=true:=by
 unfold Bq at h
 cases hk:D3 a.kind with
 | true=>rfl
 | false=>simp [hk] at h

def rresultS (a:Ac)(o:Vl):Vl×Int:=
 if Bq a != 0 then (v0,Bq a)
 else if P6 a.kind o != 0 then (v0,P6 a.kind o)
 else if a.kind==0 then (⟨0,a.count,[]⟩,0)
 else if a.count==0&&a.kind != 1 then (o,0)
 else (a.val,0)
def addS (a:Ac)(v:Vl):Ac×Int:=
 if Bq a != 0 then (ac0,Bq a)
 else if P6 a.kind v != 0 then (ac0,P6 a.kind v)
 else if a.count==4096 then (ac0,5)
 else if a.kind==0 then (⟨a.kind,IntKind.i64.wrap (a.count+1),v0⟩,0)
 else if decide (0<a.count) then (⟨a.kind,IntKind.i64.wrap (a.count+1),I4 a.kind a.val v⟩,0)
 else (⟨a.kind,IntKind.i64.wrap (a.count+1),v⟩,0)

theorem F3 {v:Vl}(h:Ap v=0)(hk:v.kind=0):v.text = []∧-1099511627776≤v.num∧v.num≤1099511627776:=by
 unfold Ap D9 at h
 by_cases ht:v.text = []
 ·
  simp [hk,ht] at h
  exact ⟨ht,by omega⟩
 · simp [hk,ht] at h

theorem uN {a:Ac}(h:Bq a=0):0≤a.count∧a.count≤4096:=by
 have hk:=Nk h
 unfold Bq at h
 simp only [hk,Bool.not_true,Bool.false_eq_true,if_false] at h
 by_cases hc:(decide (a.count<0)||decide (4096<a.count))=true
 · rw [if_pos hc] at h;cases h
 · simp at hc;omega

theorem Abj {k:Int}{a:Ac}{v:Vl}(h:Bq a=0)(hk:a.kind=k)(hv:Dl k v=0)(hc:a.count<4096) :
  Bq (Jt k a v)=0∧(Jt k a v).kind=k∧(Jt k a v).count=a.count+1∧addS a v=(Jt k a v,0):=by
 have hkn:=Nk h
 have hcc:=uN h
 have hw:IntKind.i64.wrap (a.count+1)=a.count+1:=IntWalk.i64_in _ (by omega)
 have hadd:addS a v=if a.kind==0 then (⟨a.kind,a.count+1,v0⟩,0) else if decide (0<a.count) then (⟨a.kind,a.count+1,I4 a.kind a.val v⟩,0) else (⟨a.kind,a.count+1,v⟩,0):=by
  unfold addS
  rw [hw,qE _ _ hkn,h,hk,hv]
  have:(a.count==4096)=false:=by simp;omega
  simp [this]
 have hvc:Ap v=0:=by
  unfold Dl at hv
  by_cases e:Ap v=0
  · exact e
  · simp [e] at hv
 have hvs:E4 k v=true:=by
  unfold Dl at hv
  simp [hvc] at hv;exact hv
 rw [hadd]
 obtain ⟨ak,ac,av⟩:=a
 simp only at hk hkn hc hcc h hw ⊢
 subst hk
 have h2:=h
 unfold Bq at h2
 simp only [hkn,Bool.not_true,Bool.false_eq_true,if_false] at h2
 have hn1:(decide (ac<0)||decide (4096<ac))=false:=by simp;omega
 simp only [hn1,Bool.false_eq_true,if_false] at h2
 simp only [D3,Bool.and_eq_true,decide_eq_true_eq] at hkn
 have hn2:(decide (ac+1<0)||decide (4096<ac+1))=false:=by simp;omega
 have hk01:ak=0∨ak=1∨ak=2∨ak=3∨ak=4∨ak=5:=by omega
 by_cases h0:ac=0
 ·
  subst h0
  have hvi:ak=1→v.kind=0:=by
   intro e;subst e;simpa [E4] using hvs
  rcases hk01 with rfl | rfl | rfl | rfl | rfl | rfl
  · refine ⟨by rfl,rfl,rfl,rfl⟩
  ·
   have hb:=F3 hvc (hvi rfl)
   refine ⟨?_,rfl,rfl,rfl⟩
   simp [Jt,E0,E1,Bq,D3,hvi rfl,hb.1,hb.2]
  all_goals
   refine ⟨?_,rfl,rfl,rfl⟩
   simp [Jt,E0,E1,Bq,D3,hvc,hvs]
 ·
  have hpos:0<ac:=by omega
  have e0:(ac==0)=false:=by simp [h0]
  have hst:Jt ak ⟨ak,ac,av⟩ v=⟨ak,ac+1,I4 ak av (E1 ak v)⟩:=by
   simp [Jt,E0,h0,hw]
  rw [hst]
  refine ⟨?_,rfl,rfl,?_⟩
  ·
   unfold Bq
   have hkk:D3 ak=true:=by simp [D3];omega
   have e1:(ac+1==0)=false:=by simp;omega
   simp only [hkk,Bool.not_true,hn2,Bool.false_eq_true,if_false,e1,Bool.false_or]
   simp only [e0,Bool.false_or] at h2
   rcases hk01 with rfl | rfl | rfl | rfl | rfl | rfl
   · rfl
   ·
    have hvi:v.kind=0:=by simpa [E4] using hvs
    have hb:=F3 hvc hvi
    simp at h2
    have:IntKind.i64.wrap (av.num+v.num)=av.num+v.num:=IntWalk.i64_in _ (by omega)
    simp [I4,E1,this]
    omega
   ·
    have hvi:v.kind=0:=by simpa [E4] using hvs
    have hb:=F3 hvc hvi
    simp at h2
    have hai:av.kind=0:=by simpa [E4] using h2.2
    have hba:=F3 h2.1 hai
    have hm : -1099511627776≤min av.num v.num∧min av.num v.num≤1099511627776:=by omega
    simp [I4,E1,Ap,D9,E4]
    omega
   ·
    have hvi:v.kind=0:=by simpa [E4] using hvs
    have hb:=F3 hvc hvi
    simp at h2
    have hai:av.kind=0:=by simpa [E4] using h2.2
    have hba:=F3 h2.1 hai
    have hm : -1099511627776≤max av.num v.num∧max av.num v.num≤1099511627776:=by omega
    simp [I4,E1,Ap,D9,E4]
    omega
   · simpa [I4] using h2
   · simp [I4,E1,hvc,hvs]
  ·
   have hd:decide (0<ac)=true:=by simp [hpos]
   rcases hk01 with rfl | rfl | rfl | rfl | rfl | rfl <;> simp [hd,I4,E1]

theorem oN {k:Int}:∀(l:List Vl) (a:Ac),Bq a=0→a.kind=k→Aq (Dl k) l=0→a.count+l.length≤4096→Bq (l.foldl (Jt k) a)=0
  | [],a,h,_,_,_=>h
  | v::r,a,h,hk,hf,hc=>by
    simp only [Aq] at hf
    simp only [List.length_cons,Int.natCast_add,Int.cast_ofNat_Int] at hc
    by_cases hv:Dl k v=0
    · rw [if_neg (by simp [hv])] at hf
      obtain ⟨h1,h2,h3,_⟩:=Abj h hk hv (by omega)
      exact oN r _ h1 h2 hf (by rw [h3];omega)
    · rw [if_pos (by simp [hv])] at hf;exact absurd hf hv


theorem O1 {l:List Ex}{k:Nat}{a:Ex}(d:Nat)(h:l[k]? = some a):max d (((l.drop k).map Ep).foldr max 0)=max (max d (Ep a)) (((l.drop (k+1)).map Ep).foldr max 0):=by
 rw [A9 h];simp only [List.map_cons,List.foldr_cons];omega
theorem gZ {l:List Ex}{k:Nat}{a:Ex}(n:Nat)(h:l[k]? = some a):n+((l.drop k).map At).sum=(n+At a)+((l.drop (k+1)).map At).sum:=by
 rw [A9 h];simp only [List.map_cons,List.sum_cons];omega

theorem xW (e:Ex):1≤At e:=by rw [D5];omega
theorem Nr (e:Ex)(h:At e≤1048576):e.args.length≤1048576:=by
 rw [D5] at h
 have:∀l:List Ex,l.length≤(l.map At).sum:=by
  intro l
  induction l with
  | nil=>exact Nat.le_refl _
  | cons x r ih=>simp only [List.length_cons,List.map_cons,List.sum_cons];have:=xW x;omega
 have:=this e.args
 omega
theorem dU {L n:Nat}(h:L<n):∀l:List Ex,F5 L l n=n
 | []=>rfl
 | _::_=>by rw [F5,if_neg (by omega)]

/-- What the reference says of a node. -/
def Cm (e:Ex):Int:=
 if decide ((if 0≤e.op∧e.op≤12 then D4 e.op else -1)<0) then 1
 else if (e.args.length:Int) != (if 0≤e.op∧e.op≤12 then D4 e.op else -1) then 15
 else if ((Dn e.op).1&&(decide (e.var<0)||decide (16≤e.var)))||((Dn e.op).2&&(decide (e.field<0)||decide (8≤e.field))) then 2
 else if e.op==4&&(decide (e.kind<1)||decide (5<e.kind)) then 1
 else if e.op==4||e.op==0 then (if Ap e.val != 0 then Ap e.val else if e.op==4&&(!rsuitsS e.kind e.val||(e.kind==1 && !isV0 e.val)) then 9 else Bm e)
 else if e.op==4&&(!rsuitsS e.kind e.val||(e.kind==1 && !isV0 e.val)) then 9
 else Bm e

theorem H4 (e:Ex):Cm e=By e:=by
  unfold Cm By
  by_cases h:0≤e.op∧e.op≤12
  · have ha : ¬ D4 e.op < 0 := by unfold D4; repeat' split
                                      all_goals omega
    simp only [h,and_self,if_true,decide_true,Bool.not_true,Bool.false_eq_true,if_false,ha,decide_false]
    split
    · rfl
    split
    · rfl
    by_cases h4:e.op=4
    · simp only [h4,BEq.rfl,Bool.true_and,Bool.true_or,if_true]
      by_cases hk:(decide (e.kind<1)||decide (5<e.kind))=true
      · rw [if_pos hk,if_pos hk]
      · rw [if_neg hk,if_neg hk]
        have hs:Jd e.kind e.val=Fx e.kind e.val:=by
          simp at hk
          unfold Jd Fx
          have:(e.kind==0)=false:=by simp;omega
          rw [this];simp
        unfold Fk
        rw [hs,h4]
        by_cases hv:Ap e.val=0
        · rw [hv]
          simp only [bne_self_eq_false,Bool.false_eq_true,if_false,BEq.rfl,Bool.true_and]
          by_cases hb:(!esuitsS e.kind e.val||(e.kind==1 && !isV0 e.val))=true
          · rw [if_pos hb,if_pos hb];rfl
          · rw [if_neg hb,if_neg hb];rfl
        · simp [hv]
    · have h4':(e.op==4)=false:=by simp [h4]
      simp only [h4',Bool.false_and,Bool.false_eq_true,if_false,Bool.false_or]
      unfold Fk
      simp only [h4',Bool.false_and,Bool.false_eq_true,if_false]
      by_cases hv:Ap e.val=0
      · simp [hv]
      · simp [hv]
  · simp [h]


theorem Ha {α:Type}{f:α→Int}:∀{l:List α},Aq f l=0→∀a∈l,f a=0
  | [],_,_,h=>by cases h
  | x::r,h,a,ha=>by
    simp only [Aq] at h
    by_cases hx:f x=0
    · rw [if_neg (by simp [hx])] at h
      rcases List.mem_cons.1 ha with rfl | ha
      · exact hx
      · exact Ha h a ha
    · rw [if_pos (by simpa using hx)] at h;exact absurd h hx

theorem Be {e:Ex}(h:C3 e=0):By e=0∧∀a∈e.args,C3 a=0:=by
 rw [Lc] at h
 by_cases hx:By e=0
 ·
  rw [if_neg (by simp [hx])] at h
  exact ⟨hx,Ha h⟩
 · rw [if_pos (by simpa using hx)] at h;exact absurd h hx

theorem G8 {e:Ex}(h:By e=0):0≤e.op∧e.op≤12∧(e.args.length:Int)=D4 e.op:=by
 unfold By at h
 split at h
 · cases h
 split at h
 · cases h
 rename_i h1 h2
 simp at h1 h2
 exact ⟨h1.1,h1.2,h2⟩

theorem J4 {e:Ex}(h:By e=0):0≤e.field:=by
  have hf:Bm e=0→(Dn e.op).2=false→e.field=0:=by
    intro h1 h2
    unfold Bm at h1
    split at h1
    · cases h1
    · rename_i h3
      simp [h2] at h3
      exact h3.1.1.2
  unfold By at h
  split at h
  · cases h
  split at h
  · cases h
  split at h
  · cases h
  rename_i h1 h2 h3
  cases hu:(Dn e.op).2 with
  | true=>
    simp [hu] at h3
    omega
  | false=>
    have:Bm e=0:=by
      split at h
      · cases h
      split at h
      · split at h
        · rename_i h4
          exact absurd h (by simpa using h4)
        · exact h
      · exact h
    rw [hf this hu];exact Int.le_refl _

theorem tA {e:Ex}(h:By e=0)(hne:((e.args.length:Int)==0)=false):(e.args.length=1∧e.op=12)∨(e.args.length=2∧5≤e.op∧e.op≤11):=by
 obtain ⟨h1,h2,h3⟩:=G8 h
 have hne':e.args.length≠0:=by simpa using hne
 unfold D4 at h3
 split at h3
 · omega
 split at h3
 · omega
 split at h3
 · omega
 · omega


mutual
def Aax (f:Ex→Ex):Ex→Ex
 | ⟨op,args,var,field,kind,val⟩=>f ⟨op,rebL f args,var,field,kind,val⟩
def rebL (f:Ex→Ex):List Ex→List Ex
 | []=>[]
 | e::r=>Aax f e::rebL f r
end
/-- the node with its arguments rebuilt -/
def outS (f:Ex→Ex)(e:Ex):Ex:=⟨e.op,e.args.map (Aax f),e.var,e.field,e.kind,e.val⟩
def Ao (e:Ex):Ex:=e.args.headD V7
def Bi (e:Ex):Ex:=(e.args[1]?).getD V7
def Ov (v:Vl):Ex:=⟨0,[],0,0,0,v⟩
def isC (a:Ex)(b:Bool):Bool:=a.op==0&&eqV a.val (D2 b)

theorem get0 {e:Ex}(h:0<e.args.length):e.args[(0:Int).toNat]? = some (Ao e):=by
 unfold Ao
 cases e with | mk op args a b c d=>
 cases args with
 | nil=>simp at h
 | cons x r=>rfl
theorem get1 {e:Ex}(h:1<e.args.length):e.args[(1:Int).toNat]? = some (Bi e):=by
 unfold Bi
 have:e.args[1]? = some e.args[1]:=List.getElem?_eq_getElem h
 show e.args[1]? = _
 rw [this];rfl
theorem Fo {e:Ex}(h:0<e.args.length):(e.args.map Fu)[(0:Int).toNat]? = some (cE (Ao e)):=E9 (get0 h)
theorem Ib {e:Ex}(h:1<e.args.length):(e.args.map Fu)[(1:Int).toNat]? = some (cE (Bi e)):=E9 (get1 h)
theorem A6 {e:Ex}(h:0<e.args.length):Ao e∈e.args:=List.mem_of_getElem? (get0 h)
theorem Bl {e:Ex}(h:1<e.args.length):Bi e∈e.args:=List.mem_of_getElem? (get1 h)

theorem Wa {e:Ex}(h:By e=0)(ho:e.op=12):0<e.args.length:=by
 obtain ⟨_,_,h3⟩:=G8 h
 rw [ho] at h3
 have:D4 12=1:=by decide
 omega
def pB (x:Evr)(e:Ex):Vl×Bool:=
 if e.args.any (fun a=>a.op != 0) then (v0,false) else if (e.args.length:Int)==0 then (v0,false) else ((B0 x e).1,(B0 x e).2==0&&Ap (B0 x e).1==0)

/-- what replaces a node whose arguments are folded -/
def fnodeS (x:Evr)(e:Ex):Ex:=
 if (pB x e).2 then Ov (pB x e).1
 else if e.op==12&&(Ao e).op==12 then Ao (Ao e)
 else if e.op != 10&&e.op != 11 then e
 else if isC (Ao e) (e.op==10) then Bi e
 else if isC (Bi e) (e.op==10) then Ao e
 else if isC (Ao e) (!(e.op==10))||isC (Bi e) (!(e.op==10)) then Ov (D2 (!(e.op==10)))
 else e

/-- the evaluator of folding -/
def xz:Evr:=⟨[],-1,Km⟩
theorem Aaq (b:Bool):Ap (D2 b)=0:=by cases b <;> decide

def FoldS (e:Ex):Ex×Int:=if Bx e != 0 then (V7,Bx e) else (Aax (fnodeS xz) e,0)

/-! ### Likeness -/
def Ok (a b:Ex):Bool:=a.op != b.op||a.var != b.var||a.field != b.field||a.kind != b.kind || !eqV a.val b.val||(a.args.length:Int) != (b.args.length:Int)

mutual
def Td:Ex→Ex→Bool
 | ⟨op,args,var,field,kind,val⟩,b=>if Ok ⟨op,args,var,field,kind,val⟩ b then false else Rx args b.args
def Rx:List Ex→List Ex→Bool
 | [],_=>true
 | a::r,l=>if !sameS a (l.headD V7) then false else Rx r l.tail
end
theorem R6 (a b:Ex):Td a b=if Ok a b then false else Rx a.args b.args:=by cases a;rw [Td]

theorem Ub (a b:Ex):Td a b=true↔a=b:=by
  induction a using Ex.Abu generalizing b with
  | h a ih=>
    have hL:∀(l m:List Ex),(∀x∈l,∀y,Td x y=true↔x=y)→l.length=m.length→(Rx l m=true↔l=m):=by
      intro l
      induction l with
      | nil=>intro m _ hl;cases m with | nil=>simp [Rx] | cons _ _=>simp at hl
      | cons x r ihl=>
        intro m hx hl
        cases m with
        | nil=>simp at hl
        | cons y s=>
          have h1:=hx x (by simp) y
          have h2:=ihl s (fun z hz=>hx z (by simp [hz])) (by simpa using hl)
          rw [List.cons.injEq]
          show (if (!sameS x y)=true then false else Rx r s)=true↔x=y∧r=s
          by_cases hs:Td x y=true
          · rw [if_neg (by simp [hs]),h2];simp [h1.1 hs]
          · rw [if_pos (by simp [hs])]
            have:¬x=y:=fun e=>hs (h1.2 e)
            simp [this]
    rw [R6]
    by_cases hh:Ok a b=true
    · rw [if_pos hh]
      constructor
      · intro h;cases h
      · intro e;subst e
        simp [Ok] at hh
    · rw [if_neg hh]
      have hh':=hh
      simp [Ok] at hh
      obtain ⟨⟨⟨⟨⟨h1,h2⟩,h3⟩,h4⟩,h5⟩,h6⟩:=hh
      rw [hL _ _ (fun x hx y=>ih x hx y) (by omega)]
      cases a with | mk _ _ _ _ _ av=>cases b with | mk _ _ _ _ _ bv=>
        cases av;cases bv
        simp_all
theorem mD (a:Ex):Td a a=true:=(Ub a a).2 rfl


/-! ### Folding again -/

/-- folded: each node stays as it is -/
inductive Fd (f:Ex→Ex):Ex→Prop where
 | mk (e:Ex) (ha:∀a∈e.args,Fd f a) (h:f e=e):Fd f e
/-! ### Depth -/
/-! ### The value -/
def zQ (v:Vl):Prop:=v.kind=1→v=D2 (v.num==1)
theorem E7 {v:Vl}(h:Ap v=0):zQ v:=by
 intro hk
 obtain ⟨k,n,t⟩:=v
 simp only at hk;subst hk
 unfold Ap D9 at h
 by_cases ht:t = []
 ·
  subst ht
  simp at h
  by_cases h1:n=1
  · subst h1;rfl
  ·
   have h0:n=0:=by omega
   subst h0;rfl
 · simp [ht] at h
theorem J6 {v:Vl}(h:v.kind=0):zQ v:=fun hk=>by rw [h] at hk;cases hk
theorem iR (b:Bool):zQ (D2 b):=E7 (Aaq b)

theorem lH {a:Ac}{o:Vl}(h:(Dq a o).2=0):zQ (Dq a o).1:=by
 unfold Dq at h ⊢
 split at h
 · rename_i h1;simp at h1 h;exact absurd h h1
 split at h
 · rename_i _ h1;simp at h1 h;exact absurd h h1
 rename_i ha hw
 rw [if_neg ha,if_neg hw]
 simp at ha hw
 split
 · exact J6 rfl
 rename_i hk
 split
 ·
  refine E7 ?_
  unfold Dl at hw
  by_cases e:Ap o=0
  · exact e
  · simp [e] at hw
 ·
  rename_i hc
  have hkn:=Nk ha
  unfold Bq at ha
  simp only [hkn,Bool.not_true,Bool.false_eq_true,if_false] at ha
  split at ha
  · cases ha
  have hx:(if a.count==0||a.kind==0 then isV0 a.val
   else if a.kind==1 then a.val.kind==0&&a.val.text == []&&decide (0-a.count*1099511627776≤a.val.num)&&decide (a.val.num≤a.count*1099511627776)
   else Ap a.val==0&&E4 a.kind a.val)=true:=Decidable.byContradiction fun hX=>by
    rw [if_neg hX] at ha;cases ha
  by_cases h0:(a.count==0||a.kind==0)=true
  ·
   rw [if_pos h0] at hx
   exact J6 (by rw [(jG _).1 hx];rfl)
  ·
   rw [if_neg h0] at hx
   by_cases h1:(a.kind==1)=true
   ·
    rw [if_pos h1] at hx
    simp only [Bool.and_eq_true,beq_iff_eq] at hx
    exact J6 hx.1.1.1
   ·
    rw [if_neg h1] at hx
    simp only [Bool.and_eq_true,beq_iff_eq] at hx
    exact E7 hx.1

theorem of_okB {k:Int}{l:List Vl}{o:Vl}(h:(eL k l o).2=0):zQ (eL k l o).1:=by
 unfold eL at h ⊢
 split at h
 · cases h
 split at h
 · cases h
 split at h
 · rename_i h1;simp at h1 h;exact absurd h h1
 rename_i h1 h2 h3
 rw [if_neg h1,if_neg h2,if_neg h3]
 exact lH h

theorem H5 {e:Ex}(h:By e=0)(ho:e.op=0):Ap e.val=0∧e.args = []:=by
 obtain ⟨_,_,h3⟩:=G8 h
 have ha:D4 0=0:=by decide
 rw [ho,ha] at h3
 refine ⟨?_,List.eq_nil_of_length_eq_zero (by omega)⟩
 unfold By at h
 split at h
 · cases h
 split at h
 · cases h
 split at h
 · cases h
 split at h
 · cases h
 rw [if_pos (by simp [ho])] at h
 split at h
 · rename_i h4;simp at h4;exact absurd h h4
 rename_i h4
 simp at h4
 unfold Fk at h4
 by_cases e':Ap e.val=0
 · exact e'
 · simp [e'] at h4

theorem tZ {x:Evr}{e:Ex}(hn:By e=0)(h:(Fb x e).2=0):zQ (Fb x e).1:=by
 unfold Fb at h ⊢
 split
 · rename_i h0;exact E7 (H5 hn (by simpa using h0)).1
 ·
  rename_i h0
  rw [if_neg h0] at h
  split
  · exact J6 rfl
  ·
   rename_i h1
   rw [if_neg h1] at h
   split
   ·
    rename_i h2
    rw [if_pos h2] at h
    simp only [Oz] at h ⊢
    by_cases h3:(Aq (fun v=>(Do v e.field).2) (Bv x.vars e.var) != 0)=true
    · rw [if_pos h3];exact J6 rfl
    ·
     rw [if_neg h3] at h ⊢
     exact of_okB h
   ·
    rename_i h2
    rw [if_neg h2] at h
    have hr:∀ev:Ev,(G5 ev e).2=0→zQ (G5 ev e).1:=by
     intro ev h
     unfold G5 at h ⊢
     by_cases h4:(e.op==2)=true
     · rw [if_pos h4];exact J6 rfl
     rw [if_neg h4] at h ⊢
     by_cases h5:((Do ev e.field).2==0)=true
     ·
      rw [if_pos h5] at h ⊢
      by_cases h6:(Ap (Do ev e.field).1 != 0)=true
      · rw [if_pos h6];exact J6 rfl
      · rw [if_neg h6];exact E7 (by simpa using h6)
     · rw [if_neg h5];exact J6 rfl
    split
    ·
     rename_i h4
     rw [if_pos h4] at h
     split
     · exact J6 rfl
     ·
      rename_i h5
      rw [if_neg h5] at h
      exact hr _ h
    ·
     rename_i h4
     rw [if_neg h4] at h
     exact hr _ h

theorem rX (op a b:Int):zQ (Gx op a b):=by
 unfold Gx
 repeat' split
 all_goals first | exact J6 rfl | exact iR _

theorem uX {op:Int}{l:List Vl}(h:(Kw op l).2=0):(∀v∈l,Mu op v.kind ((l.map (·.kind)).headD 0)=true)∧
  Kw op l=(if op==9 then D2 (eqV (l.headD v0) ((l[1]?).getD v0)) else Gx op (l.headD v0).num (l.getLastD v0).num,0):=by
 unfold Kw at h ⊢
 by_cases h1:(Dj op (l.map (·.kind)) != 0)=true
 · rw [if_pos h1] at h;simp at h1 h;exact absurd h h1
 ·
  rw [if_neg h1]
  refine ⟨fun v hv=>?_,?_⟩
  ·
   have h2:Dj op (l.map (·.kind))=0:=by simpa using h1
   have:=Ha h2 v.kind (List.mem_map.2 ⟨v,hv,rfl⟩)
   split at this
   · assumption
   · cases this
  ·
   by_cases h9:(op==9)=true
   · rw [if_pos h9,if_pos h9]
   · rw [if_neg h9,if_neg h9]
theorem sK {op:Int}{l:List Vl}(h:(Kw op l).2=0):zQ (Kw op l).1:=by
 rw [(uX h).2]
 split
 · exact iR _
 · exact rX _ _ _

theorem Mj {x:Evr}{e:Ex}(h:e.args = []):B0 x e=Fb x e:=by rw [Kf,if_pos (by simp [h])]
theorem tL {x:Evr}{e:Ex}(hne:e.args≠[])(h:(B0 x e).2=0) :
  (∀a∈e.args,(B0 x a).2=0)∧B0 x e=Kw e.op (e.args.map fun a=>(B0 x a).1):=by
 have h0:¬e.args.isEmpty=true:=by simpa using hne
 rw [Kf,if_neg h0] at h ⊢
 by_cases h1:(Aq (fun a=>(B0 x a).2) e.args != 0)=true
 · rw [if_pos h1] at h;simp at h1 h;exact absurd h h1
 ·
  rw [if_neg h1]
  exact ⟨Ha (by simpa using h1),rfl⟩
theorem Yc {x:Evr}{e:Ex}(hne:e.args≠[])(h:∀a∈e.args,(B0 x a).2=0):B0 x e=Kw e.op (e.args.map fun a=>(B0 x a).1):=by
  have h0:¬e.args.isEmpty=true:=by simpa using hne
  have h1:Aq (fun a=>(B0 x a).2) e.args=0:=by
    have:∀l:List Ex,(∀a∈l,(B0 x a).2=0)→Aq (fun a=>(B0 x a).2) l=0:=by
      intro l
      induction l with
      | nil=>intro _;rfl
      | cons y r ih=>
        intro hl
        rw [Aq,if_neg (by simp [hl y (by simp)])]
        exact ih fun a ha=>hl a (by simp [ha])
    exact this _ h
  rw [Kf,if_neg h0,if_neg (by simp [h1])]

theorem zE {x:Evr}{e:Ex}(hn:C3 e=0)(h:(B0 x e).2=0):zQ (B0 x e).1:=by
 have hz:=Be hn
 by_cases he:e.args = []
 · rw [Mj he] at h ⊢;exact tZ hz.1 h
 ·
  have h1:=tL he h
  rw [h1.2] at h ⊢
  exact sK h

theorem Tb {x:Evr}{a:Ex}(hn:By a=0)(h:a.op=0):B0 x a=(a.val,0):=by
 rw [Mj (H5 hn h).2];unfold Fb;rw [if_pos (by simp [h])]


def atS (to:List Int)(v:Int):Int:=(to[v.toNat]?).getD 0
def nW (to:List Int)(e:Ex):Int:=
 if !(Dn e.op).1 then 0 else if decide ((to.length:Int)≤e.var) then 6 else if decide (atS to e.var<0)||decide (16≤atS to e.var) then 2 else 0
def yG (to:List Int)(e:Ex):Ex:=if (Dn e.op).1 then ⟨e.op,e.args,atS to e.var,e.field,e.kind,e.val⟩ else e
def renS (to:List Int)(e:Ex):Ex×Int:=if Jj (nW to) e != 0 then (V7,Jj (nW to) e) else (Aax (yG to) e,0)
def RenameS (e:Ex)(to:List Int):Ex×Int:=if Bx e != 0 then (V7,Bx e) else renS to e

theorem Mm {e:Ex}(h:By e=0):0≤e.var∧e.var<16:=by
  have hf:Bm e=0→(Dn e.op).1=false→e.var=0:=by
    intro h1 h2
    unfold Bm at h1
    split at h1
    · cases h1
    · rename_i h3
      simp [h2] at h3
      exact h3.1.1.1
  unfold By at h
  split at h
  · cases h
  split at h
  · cases h
  split at h
  · cases h
  rename_i h1 h2 h3
  cases hu:(Dn e.op).1 with
  | true=>
    simp [hu] at h3
    omega
  | false=>
    have:Bm e=0:=by
      split at h
      · cases h
      split at h
      · split at h
        · rename_i h4
          exact absurd h (by simpa using h4)
        · exact h
      · exact h
    rw [hf this hu];omega


def ownS (e:Ex):List Nat:=if (Dn e.op).1&&decide (0≤e.var)&&decide (e.var<16) then [e.var.toNat] else []
mutual
def usedS:Ex→List Nat
 | ⟨op,args,var,field,kind,val⟩=>ownS ⟨op,args,var,field,kind,val⟩++usedL args
def usedL:List Ex→List Nat
 | []=>[]
 | e::r=>usedS e++usedL r
end
def cSeen (S:List Nat):List AV:=(List.range 16).map fun v=>.bool (S.contains v)
theorem seen_len (S:List Nat):(cSeen S).length=16:=rfl
def uptoS (S:List Nat)(k:Nat):List Int:=((List.range k).filter fun v=>S.contains v).map fun (v:Nat)=>(v:Int)
theorem upto_zero (S:List Nat):uptoS S 0 = []:=rfl
def varsS (e:Ex):List Int:=uptoS (usedS e) 16


/-! ### The two environments -/
/-- where a variable goes -/
def tvS (n b v:Nat):Int:=((v:Int)+(b:Int)).tmod (n:Int)
def toS (n b:Nat):List Int:=(List.range n).map (tvS n b)
end Go.Proofs.YtkddpedfbicbeaaGreatDoor
