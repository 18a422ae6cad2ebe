/-
  Several texts in one: Az, EM8, EW1, EW4. No condition.
-/
import Derived.Test.YtkdhionilabokaaGreatDoorAx
import Derived.Test.YtkdhionilabokaaGreatDoorTab
import Derived.KernelRfl
import Derived.Test.YtkdhionilabokaaGreatDoorK01
set_option linter.unusedVariables false
set_option linter.unusedSimpArgs false
set_option maxHeartbeats 400000
set_option maxRecDepth 100000
namespace Go.Proofs.YtkdhionilabokaaGreatDoor
open Go Go.Aw
section
variable {d:Option Nat} {ty:TypeId} {pos:String} {aft:Array Edge} {gd:Option (Nat×Bool)} {ρ:Operand->AV} {K:List HO->Prop}
theorem Bk {x:Operand}{n:Int}(h:ρ x = .int .i64 n:=by exact rfl):Dr Tryz.prog ⟨d,.assign x,ty,pos,aft,gd⟩ ρ K (.int .i64 n):=Ag h
theorem Ca {x:Operand}{n:Int}(h:ρ x = .int .i64 n:=by exact rfl):Dr Tryz.prog ⟨d,.move x,ty,pos,aft,gd⟩ ρ K (.int .i64 n):=Ae h
theorem C0 {t:TypeId}{td:TD}{x:Operand}{n:Int}{cs:List AV}(h:ρ x = .ptr (.int .i64 n::cs):=by exact rfl)(ht:Bp TL t=some td:=by exact rfl)(ha:td.agg=false:=by exact rfl):Dr Tryz.prog ⟨d,.load t x,ty,pos,aft,gd⟩ ρ K (.int .i64 n):=Af Ai h ht ha
theorem Uq {x:Operand}{i:Nat}{vs:List AV}{n:Int}(h:ρ x = .tuple vs:=by exact rfl)(hv:vs[i]? = some (.int .i64 n):=by exact rfl):Dr Tryz.prog ⟨d,.extract x i,ty,pos,aft,gd⟩ ρ K (.int .i64 n):=A4 h hv
theorem C5 {x:Operand}{b:Bool}(h:ρ x = .bool b:=by exact rfl):Dr Tryz.prog ⟨d,.assign x,ty,pos,aft,gd⟩ ρ K (.bool b):=Ag h
theorem Cp {x:Operand}{b:Bool}(h:ρ x = .bool b:=by exact rfl):Dr Tryz.prog ⟨d,.move x,ty,pos,aft,gd⟩ ρ K (.bool b):=Ae h
theorem Zt {t:TypeId}{td:TD}{x:Operand}{b:Bool}{cs:List AV}(h:ρ x = .ptr (.bool b::cs):=by exact rfl)(ht:Bp TL t=some td:=by exact rfl)(ha:td.agg=false:=by exact rfl):Dr Tryz.prog ⟨d,.load t x,ty,pos,aft,gd⟩ ρ K (.bool b):=Af Ai h ht ha
theorem jM {x:Operand}{i:Nat}{vs:List AV}{b:Bool}(h:ρ x = .tuple vs:=by exact rfl)(hv:vs[i]? = some (.bool b):=by exact rfl):Dr Tryz.prog ⟨d,.extract x i,ty,pos,aft,gd⟩ ρ K (.bool b):=A4 h hv
theorem xL {x:Operand}{z:Nat}{es:List (List AV)}(h:ρ x = .sl z es:=by exact rfl):Dr Tryz.prog ⟨d,.assign x,ty,pos,aft,gd⟩ ρ K (.sl z es):=Ag h
theorem Oq {x:Operand}{z:Nat}{es:List (List AV)}(h:ρ x = .sl z es:=by exact rfl):Dr Tryz.prog ⟨d,.move x,ty,pos,aft,gd⟩ ρ K (.sl z es):=Ae h
theorem J7 {t:TypeId}{td:TD}{x:Operand}{z:Nat}{es:List (List AV)}{cs:List AV}(h:ρ x = .ptr (.sl z es::cs):=by exact rfl)(ht:Bp TL t=some td:=by exact rfl)(ha:td.agg=false:=by exact rfl):Dr Tryz.prog ⟨d,.load t x,ty,pos,aft,gd⟩ ρ K (.sl z es):=Af Ai h ht ha
theorem Qxs {x:Operand}{i:Nat}{vs:List AV}{z:Nat}{es:List (List AV)}(h:ρ x = .tuple vs:=by exact rfl)(hv:vs[i]? = some (.sl z es):=by exact rfl):Dr Tryz.prog ⟨d,.extract x i,ty,pos,aft,gd⟩ ρ K (.sl z es):=A4 h hv
theorem Qav {x:Operand}{v:Value}(h:ρ x = .val v:=by exact rfl):Dr Tryz.prog ⟨d,.assign x,ty,pos,aft,gd⟩ ρ K (.val v):=Ag h
theorem Qmv {x:Operand}{v:Value}(h:ρ x = .val v:=by exact rfl):Dr Tryz.prog ⟨d,.move x,ty,pos,aft,gd⟩ ρ K (.val v):=Ae h
theorem Qlv {t:TypeId}{td:TD}{x:Operand}{v:Value}{cs:List AV}(h:ρ x = .ptr (.val v::cs):=by exact rfl)(ht:Bp TL t=some td:=by exact rfl)(ha:td.agg=false:=by exact rfl):Dr Tryz.prog ⟨d,.load t x,ty,pos,aft,gd⟩ ρ K (.val v):=Af Ai h ht ha
theorem Qxv {x:Operand}{i:Nat}{vs:List AV}{v:Value}(h:ρ x = .tuple vs:=by exact rfl)(hv:vs[i]? = some (.val v):=by exact rfl):Dr Tryz.prog ⟨d,.extract x i,ty,pos,aft,gd⟩ ρ K (.val v):=A4 h hv
theorem Qaa {x:Operand}{l:List AV}(h:ρ x = .agg l:=by exact rfl):Dr Tryz.prog ⟨d,.assign x,ty,pos,aft,gd⟩ ρ K (.agg l):=Ag h
theorem Qma {x:Operand}{l:List AV}(h:ρ x = .agg l:=by exact rfl):Dr Tryz.prog ⟨d,.move x,ty,pos,aft,gd⟩ ρ K (.agg l):=Ae h
theorem Qla {t:TypeId}{td:TD}{x:Operand}{l:List AV}{cs:List AV}(h:ρ x = .ptr (.agg l::cs):=by exact rfl)(ht:Bp TL t=some td:=by exact rfl)(ha:td.agg=false:=by exact rfl):Dr Tryz.prog ⟨d,.load t x,ty,pos,aft,gd⟩ ρ K (.agg l):=Af Ai h ht ha
theorem Qxa {x:Operand}{i:Nat}{vs:List AV}{l:List AV}(h:ρ x = .tuple vs:=by exact rfl)(hv:vs[i]? = some (.agg l):=by exact rfl):Dr Tryz.prog ⟨d,.extract x i,ty,pos,aft,gd⟩ ρ K (.agg l):=A4 h hv
theorem Qat {x:Operand}{s:List UInt8}(h:ρ x = .str s:=by exact rfl):Dr Tryz.prog ⟨d,.assign x,ty,pos,aft,gd⟩ ρ K (.str s):=Ag h
theorem Qmt {x:Operand}{s:List UInt8}(h:ρ x = .str s:=by exact rfl):Dr Tryz.prog ⟨d,.move x,ty,pos,aft,gd⟩ ρ K (.str s):=Ae h
theorem Qlt {t:TypeId}{td:TD}{x:Operand}{s:List UInt8}{cs:List AV}(h:ρ x = .ptr (.str s::cs):=by exact rfl)(ht:Bp TL t=some td:=by exact rfl)(ha:td.agg=false:=by exact rfl):Dr Tryz.prog ⟨d,.load t x,ty,pos,aft,gd⟩ ρ K (.str s):=Af Ai h ht ha
theorem Qxt {x:Operand}{i:Nat}{vs:List AV}{s:List UInt8}(h:ρ x = .tuple vs:=by exact rfl)(hv:vs[i]? = some (.str s):=by exact rfl):Dr Tryz.prog ⟨d,.extract x i,ty,pos,aft,gd⟩ ρ K (.str s):=A4 h hv
theorem Qau {x:Operand}{l:List AV}(h:ρ x = .tuple l:=by exact rfl):Dr Tryz.prog ⟨d,.assign x,ty,pos,aft,gd⟩ ρ K (.tuple l):=Ag h
theorem Z1 {x:Operand}{l:List AV}(h:ρ x = .tuple l:=by exact rfl):Dr Tryz.prog ⟨d,.move x,ty,pos,aft,gd⟩ ρ K (.tuple l):=Ae h
theorem Qlu {t:TypeId}{td:TD}{x:Operand}{l:List AV}{cs:List AV}(h:ρ x = .ptr (.tuple l::cs):=by exact rfl)(ht:Bp TL t=some td:=by exact rfl)(ha:td.agg=false:=by exact rfl):Dr Tryz.prog ⟨d,.load t x,ty,pos,aft,gd⟩ ρ K (.tuple l):=Af Ai h ht ha
theorem Qxu {x:Operand}{i:Nat}{vs:List AV}{l:List AV}(h:ρ x = .tuple vs:=by exact rfl)(hv:vs[i]? = some (.tuple l):=by exact rfl):Dr Tryz.prog ⟨d,.extract x i,ty,pos,aft,gd⟩ ρ K (.tuple l):=A4 h hv
theorem Qap {x:Operand}{l:List AV}(h:ρ x = .ptr l:=by exact rfl):Dr Tryz.prog ⟨d,.assign x,ty,pos,aft,gd⟩ ρ K (.ptr l):=Ag h
theorem Qmp {x:Operand}{l:List AV}(h:ρ x = .ptr l:=by exact rfl):Dr Tryz.prog ⟨d,.move x,ty,pos,aft,gd⟩ ρ K (.ptr l):=Ae h
theorem Qlp {t:TypeId}{td:TD}{x:Operand}{l:List AV}{cs:List AV}(h:ρ x = .ptr (.ptr l::cs):=by exact rfl)(ht:Bp TL t=some td:=by exact rfl)(ha:td.agg=false:=by exact rfl):Dr Tryz.prog ⟨d,.load t x,ty,pos,aft,gd⟩ ρ K (.ptr l):=Af Ai h ht ha
theorem Qxp {x:Operand}{i:Nat}{vs:List AV}{l:List AV}(h:ρ x = .tuple vs:=by exact rfl)(hv:vs[i]? = some (.ptr l):=by exact rfl):Dr Tryz.prog ⟨d,.extract x i,ty,pos,aft,gd⟩ ρ K (.ptr l):=A4 h hv
theorem Ee (l:List AV){t:TypeId}{td:TD}{x:Operand}{cs:List AV}(h:ρ x = .ptr cs:=by exact rfl)(ht:Bp TL t=some td:=by exact rfl)(ha:td.agg=true:=by exact rfl)(hl:cs.take td.size=l:=by exact rfl)(hs:Nat.beq l.length td.size=true:=by exact rfl):Dr Tryz.prog ⟨d,.load t x,ty,pos,aft,gd⟩ ρ K (.agg l):=Ah Ai h ht ha hl hs
theorem Qf (cs':List AV){s f off z ft:Nat}{nm:Bool}{x:Operand}{cs:List AV}{td:TD}{gs:List (Nat×Nat×Bool×Nat)}(h:ρ x = .ptr cs:=by exact rfl)(ht:Bp TL s=some td:=by exact rfl)(hk:td.kind = .struct gs:=by exact rfl)(hf:gs[f]? = some (off,z,nm,ft):=by exact rfl)(hz:Nat.blt 0 z=true:=by exact rfl)(hc:cs.drop off=cs':=by exact rfl):Dr Tryz.prog ⟨d,.fieldAddr s x f,ty,pos,aft,gd⟩ ρ K (.ptr cs'):=Ad Ai h ht hk hf hz hc
theorem sC {s f off z ft b o:Nat}{nm:Bool}{x:Operand}{td:TD}{gs:List (Nat×Nat×Bool×Nat)}{o':Nat}(h:ρ x = .val (.pointer (some ⟨b,o,none⟩)):=by exact rfl)(ht:Bp TL s=some td:=by exact rfl)(hk:td.kind = .struct gs:=by exact rfl)(hf:gs[f]? = some (off,z,nm,ft):=by exact rfl)(hz:Nat.blt 0 z=true:=by exact rfl)(ho:o+off=o':=by exact rfl):Dr Tryz.prog ⟨d,.fieldAddr s x f,ty,pos,aft,gd⟩ ρ K (.val (.pointer (some ⟨b,o',none⟩))):=Cj Ai h ht hk hf hz ho
theorem Ji (cs:List AV){t:TypeId}{x:Operand}{l:List AV}(h:ρ x = .agg l:=by exact rfl)(hc:Dj (.agg l)=cs:=by exact rfl)(hs:Bm cs=true:=by exact rfl):Dr Tryz.prog ⟨d,.box t x,ty,pos,aft,gd⟩ ρ K (.ptr cs):=Bt h hc hs
theorem Lg (l:List AV){t:TypeId}{td:TD}{gs:List (Nat×Nat×Bool×Nat)}{parts:Array (Nat×Operand)}(ht:Bp TL t=some td:=by exact rfl)(hk:td.kind = .struct gs:=by exact rfl)(h:Ur gs td.zero (N9 ρ parts.toList)=some l:=by exact rfl):Dr Tryz.prog ⟨d,.build t parts,ty,pos,aft,gd⟩ ρ K (.agg l):=C3 Ai ht hk h
theorem R5 {s f' off z ft:Nat}{nm:Bool}{x:Operand}{cs:List AV}{td:TD}{gs:List (Nat×Nat×Bool×Nat)}{a:Int}{b:AV}{c:Int}{d1:Int}{e:Int}{f:Int}{g:Int}{h:List UInt8}(i:ρ x = .ptr cs:=by exact rfl)(ht:Bp TL s=some td:=by exact rfl)(hk:td.kind = .struct gs:=by exact rfl)(hf:gs[f']? = some (off,z,nm,ft):=by exact rfl)(hz:Nat.blt 0 z=true:=by exact rfl)(hc:cs.drop off = [.int .i64 a,b,.int .i64 c,.int .i64 d1,.int .i64 e,.int .i64 f,.int .i64 g,.str h]:=by exact rfl):Dr Tryz.prog ⟨d,.fieldAddr s x f',ty,pos,aft,gd⟩ ρ K (.ptr [.int .i64 a,b,.int .i64 c,.int .i64 d1,.int .i64 e,.int .i64 f,.int .i64 g,.str h]):=Ad Ai i ht hk hf hz hc
theorem Ld {t:TypeId}{td:TD}{x:Operand}{cs:List AV}{a:Int}{b:AV}{c:Int}{d1:Int}{e:Int}{f:Int}{g:Int}{h:List UInt8}(i:ρ x = .ptr cs:=by exact rfl)(ht:Bp TL t=some td:=by exact rfl)(ha:td.agg=true:=by exact rfl)(hl:cs.take td.size = [.int .i64 a,b,.int .i64 c,.int .i64 d1,.int .i64 e,.int .i64 f,.int .i64 g,.str h]:=by exact rfl)(hs:Nat.beq 8 td.size=true:=by exact rfl):Dr Tryz.prog ⟨d,.load t x,ty,pos,aft,gd⟩ ρ K (.agg [.int .i64 a,b,.int .i64 c,.int .i64 d1,.int .i64 e,.int .i64 f,.int .i64 g,.str h]):=Ah Ai i ht ha hl hs
theorem Th {t:TypeId}{x:Operand}{l:List AV}{a:Int}{b:AV}{c:Int}{d1:Int}{e:Int}{f:Int}{g:Int}{h:List UInt8}(i:ρ x = .agg l:=by exact rfl)(hc:Dj (.agg l) = [.int .i64 a,b,.int .i64 c,.int .i64 d1,.int .i64 e,.int .i64 f,.int .i64 g,.str h]:=by exact rfl)(hs:Bm [.int .i64 a,b,.int .i64 c,.int .i64 d1,.int .i64 e,.int .i64 f,.int .i64 g,.str h]=true:=by exact rfl):Dr Tryz.prog ⟨d,.box t x,ty,pos,aft,gd⟩ ρ K (.ptr [.int .i64 a,b,.int .i64 c,.int .i64 d1,.int .i64 e,.int .i64 f,.int .i64 g,.str h]):=Bt i hc hs
theorem T3 {s f' off z ft:Nat}{nm:Bool}{x:Operand}{cs:List AV}{td:TD}{gs:List (Nat×Nat×Bool×Nat)}{b:AV}{c:Int}{d1:Int}{e:Int}{f:Int}{g:Int}{h:List UInt8}(i:ρ x = .ptr cs:=by exact rfl)(ht:Bp TL s=some td:=by exact rfl)(hk:td.kind = .struct gs:=by exact rfl)(hf:gs[f']? = some (off,z,nm,ft):=by exact rfl)(hz:Nat.blt 0 z=true:=by exact rfl)(hc:cs.drop off = [b,.int .i64 c,.int .i64 d1,.int .i64 e,.int .i64 f,.int .i64 g,.str h]:=by exact rfl):Dr Tryz.prog ⟨d,.fieldAddr s x f',ty,pos,aft,gd⟩ ρ K (.ptr [b,.int .i64 c,.int .i64 d1,.int .i64 e,.int .i64 f,.int .i64 g,.str h]):=Ad Ai i ht hk hf hz hc
theorem Wg {s f' off z ft:Nat}{nm:Bool}{x:Operand}{cs:List AV}{td:TD}{gs:List (Nat×Nat×Bool×Nat)}{c:Int}{d1:Int}{e:Int}{f:Int}{g:Int}{h:List UInt8}(i:ρ x = .ptr cs:=by exact rfl)(ht:Bp TL s=some td:=by exact rfl)(hk:td.kind = .struct gs:=by exact rfl)(hf:gs[f']? = some (off,z,nm,ft):=by exact rfl)(hz:Nat.blt 0 z=true:=by exact rfl)(hc:cs.drop off = [.int .i64 c,.int .i64 d1,.int .i64 e,.int .i64 f,.int .i64 g,.str h]:=by exact rfl):Dr Tryz.prog ⟨d,.fieldAddr s x f',ty,pos,aft,gd⟩ ρ K (.ptr [.int .i64 c,.int .i64 d1,.int .i64 e,.int .i64 f,.int .i64 g,.str h]):=Ad Ai i ht hk hf hz hc
theorem T4 {s f' off z ft:Nat}{nm:Bool}{x:Operand}{cs:List AV}{td:TD}{gs:List (Nat×Nat×Bool×Nat)}{d1:Int}{e:Int}{f:Int}{g:Int}{h:List UInt8}(i:ρ x = .ptr cs:=by exact rfl)(ht:Bp TL s=some td:=by exact rfl)(hk:td.kind = .struct gs:=by exact rfl)(hf:gs[f']? = some (off,z,nm,ft):=by exact rfl)(hz:Nat.blt 0 z=true:=by exact rfl)(hc:cs.drop off = [.int .i64 d1,.int .i64 e,.int .i64 f,.int .i64 g,.str h]:=by exact rfl):Dr Tryz.prog ⟨d,.fieldAddr s x f',ty,pos,aft,gd⟩ ρ K (.ptr [.int .i64 d1,.int .i64 e,.int .i64 f,.int .i64 g,.str h]):=Ad Ai i ht hk hf hz hc
theorem Qq {s f' off z ft:Nat}{nm:Bool}{x:Operand}{cs:List AV}{td:TD}{gs:List (Nat×Nat×Bool×Nat)}{e:Int}{f:Int}{g:Int}{h:List UInt8}(i:ρ x = .ptr cs:=by exact rfl)(ht:Bp TL s=some td:=by exact rfl)(hk:td.kind = .struct gs:=by exact rfl)(hf:gs[f']? = some (off,z,nm,ft):=by exact rfl)(hz:Nat.blt 0 z=true:=by exact rfl)(hc:cs.drop off = [.int .i64 e,.int .i64 f,.int .i64 g,.str h]:=by exact rfl):Dr Tryz.prog ⟨d,.fieldAddr s x f',ty,pos,aft,gd⟩ ρ K (.ptr [.int .i64 e,.int .i64 f,.int .i64 g,.str h]):=Ad Ai i ht hk hf hz hc
theorem Ml {s f' off z ft:Nat}{nm:Bool}{x:Operand}{cs:List AV}{td:TD}{gs:List (Nat×Nat×Bool×Nat)}{f:Int}{g:Int}{h:List UInt8}(i:ρ x = .ptr cs:=by exact rfl)(ht:Bp TL s=some td:=by exact rfl)(hk:td.kind = .struct gs:=by exact rfl)(hf:gs[f']? = some (off,z,nm,ft):=by exact rfl)(hz:Nat.blt 0 z=true:=by exact rfl)(hc:cs.drop off = [.int .i64 f,.int .i64 g,.str h]:=by exact rfl):Dr Tryz.prog ⟨d,.fieldAddr s x f',ty,pos,aft,gd⟩ ρ K (.ptr [.int .i64 f,.int .i64 g,.str h]):=Ad Ai i ht hk hf hz hc
theorem Wh {s f' off z ft:Nat}{nm:Bool}{x:Operand}{cs:List AV}{td:TD}{gs:List (Nat×Nat×Bool×Nat)}{g:Int}{h:List UInt8}(i:ρ x = .ptr cs:=by exact rfl)(ht:Bp TL s=some td:=by exact rfl)(hk:td.kind = .struct gs:=by exact rfl)(hf:gs[f']? = some (off,z,nm,ft):=by exact rfl)(hz:Nat.blt 0 z=true:=by exact rfl)(hc:cs.drop off = [.int .i64 g,.str h]:=by exact rfl):Dr Tryz.prog ⟨d,.fieldAddr s x f',ty,pos,aft,gd⟩ ρ K (.ptr [.int .i64 g,.str h]):=Ad Ai i ht hk hf hz hc
theorem Qf7 {s f' off z ft:Nat}{nm:Bool}{x:Operand}{cs:List AV}{td:TD}{gs:List (Nat×Nat×Bool×Nat)}{h:List UInt8}(i:ρ x = .ptr cs:=by exact rfl)(ht:Bp TL s=some td:=by exact rfl)(hk:td.kind = .struct gs:=by exact rfl)(hf:gs[f']? = some (off,z,nm,ft):=by exact rfl)(hz:Nat.blt 0 z=true:=by exact rfl)(hc:cs.drop off = [.str h]:=by exact rfl):Dr Tryz.prog ⟨d,.fieldAddr s x f',ty,pos,aft,gd⟩ ρ K (.ptr [.str h]):=Ad Ai i ht hk hf hz hc
theorem Cl {x y:Operand}{t yt:TypeId}{k:IntKind}{n m:Int}(hx:ρ x = .int k n:=by exact rfl)(hy:ρ y = .int k m:=by exact rfl):Dr Tryz.prog ⟨d,.binOp .eql t x y yt,ty,pos,aft,gd⟩ ρ K (.bool (n==m)):=Ez hx hy
theorem Dl {x y:Operand}{t yt:TypeId}{k:IntKind}{n m:Int}(hx:ρ x = .int k n:=by exact rfl)(hy:ρ y = .int k m:=by exact rfl):Dr Tryz.prog ⟨d,.binOp .neq t x y yt,ty,pos,aft,gd⟩ ρ K (.bool (n != m)):=Fk hx hy
theorem Fw {x y:Operand}{t yt:TypeId}{k:IntKind}{n m:Int}(hx:ρ x = .int k n:=by exact rfl)(hy:ρ y = .int k m:=by exact rfl):Dr Tryz.prog ⟨d,.binOp .lss t x y yt,ty,pos,aft,gd⟩ ρ K (.bool (decide (n<m))):=B9 hx hy
theorem Kl {x y:Operand}{t yt:TypeId}{k:IntKind}{n m:Int}(hx:ρ x = .int k n:=by exact rfl)(hy:ρ y = .int k m:=by exact rfl):Dr Tryz.prog ⟨d,.binOp .gtr t x y yt,ty,pos,aft,gd⟩ ρ K (.bool (decide (m<n))):=Gy hx hy
theorem Z0 {x y:Operand}{t yt:TypeId}{k:IntKind}{n m:Int}(hx:ρ x = .int k n:=by exact rfl)(hy:ρ y = .int k m:=by exact rfl):Dr Tryz.prog ⟨d,.binOp .leq t x y yt,ty,pos,aft,gd⟩ ρ K (.bool (decide (n<=m))):=I8 hx hy
theorem Nj {x y:Operand}{t yt:TypeId}{k:IntKind}{n m:Int}(hx:ρ x = .int k n:=by exact rfl)(hy:ρ y = .int k m:=by exact rfl):Dr Tryz.prog ⟨d,.binOp .geq t x y yt,ty,pos,aft,gd⟩ ρ K (.bool (decide (m<=n))):=I7 hx hy
theorem Mm {x y:Operand}{t yt:TypeId}{n m r:Int}(hx:ρ x = .int .i64 n:=by exact rfl)(hy:ρ y = .int .i64 m:=by exact rfl)(hr:n+m=r:=by exact rfl)(hb : -9223372036854775808<=r/\r<=9223372036854775807:=by constructor <;> omega):Dr Tryz.prog ⟨d,.binOp .add t x y yt,ty,pos,aft,gd⟩ ρ K (.int .i64 r):=Cc hx hy hr hb
theorem Ik {x:Operand}{t:TypeId}{b:Bool}(hx:ρ x = .bool b:=by exact rfl):Dr Tryz.prog ⟨d,.unOp .not t x,ty,pos,aft,gd⟩ ρ K (.bool (!b)):=F6 hx
theorem Iz {c a y:Operand}{b x:Bool}(hc:ρ c = .bool b:=by exact rfl)(ha:ρ a = .opt [(b,true)] (.bool x):=by exact rfl)(hy:ρ y = .bool false:=by exact rfl):Dr Tryz.prog ⟨d,.pick c a y,ty,pos,aft,gd⟩ ρ K (.bool (b&&x)):=Bc hc ha hy
theorem Fz {c a y:Operand}{b x:Bool}(hc:ρ c = .bool b:=by exact rfl)(ha:ρ a = .bool true:=by exact rfl)(hy:ρ y = .opt [(b,false)] (.bool x):=by exact rfl):Dr Tryz.prog ⟨d,.pick c a y,ty,pos,aft,gd⟩ ρ K (.bool (b||x)):=E7 hc ha hy
theorem Qc {f:FuncId}{args:Array Operand}{ats:Array TypeId}{l:List AV}{r:AV}(ha:args.toList.map ρ=l)(hc:Al Tryz.prog f l r)(hf:Pe Tryz.prog f=true:=by kernel_rfl)(hcal:ρ (.func f) = .fn (.func f) [] []:=by exact rfl):Dr Tryz.prog ⟨d,.call ⟨.value (.func f),args,ats⟩,ty,pos,aft,gd⟩ ρ K r:=Ak hf hcal ha hc
end
section
variable {ops:Array Oper} {K:St->Prop} {s:St} {d:Option Nat} {op:Op} {t:TypeId} {pos:String} {after:Array Edge} {r:List Oper} {x y:AV} {o:Oper} {G:List (Bool×Bool)} {b:Bool} {c1 c2:Code} {Q Q':Exit->St->Prop} {N:St->Prop} {id:Nat}
theorem Qp (h:Dr Tryz.prog ⟨d,op,t,pos,after,none⟩ (Dn s.sl) (fun _=>True) x)(k:AOL Tryz.prog ops K r ⟨Dy d x s.sl,s.H,s.n⟩)(hd:J5 d s.n=true:=by exact rfl):AOL Tryz.prog ops K (⟨d,op,t,pos,after,none⟩::r) s:=AOL.Aag h hd k
theorem Eu (k:Nat)(cs':List AV)(H2:List HO){b o:Nat}{td:TD}{TT t':TypeId}{cs:List AV}{v:AV}{x1 y1:Operand}(kk:AOL Tryz.prog ops K r ⟨Dy d .junk s.sl,H2,s.n⟩)(h:Dn s.sl x1 = .val (.pointer (some ⟨b,o,none⟩)):=by exact rfl)(hv:Dn s.sl y1=v:=by exact rfl)(ht:Bp TL t'=some td:=by exact rfl)(hk:s.H[k]? = some (.box b TT cs):=by exact rfl)(hs:Bm (Dj v)=true:=by exact rfl)(hl:Nat.beq (Dj v).length td.size=true:=by exact rfl)(hb:Nat.ble (o+td.size) cs.length=true:=by exact rfl)(hc:E3 cs o (Dj v)=cs':=by exact rfl)(hH2:s.H.set k (.box b TT cs')=H2:=by exact rfl)(hd:J5 d s.n=true:=by exact rfl):AOL Tryz.prog ops K (⟨d,.store t' x1 y1,t,pos,after,none⟩::r) s:=AOL.e (Ao (k:=k) Ai h hv ht hk hs hl hb hc hH2) hd fun x' H' e=>by obtain ⟨e1,e2⟩:=e;subst e1;subst e2;exact kk
abbrev Iq (n:Int):AV:=.int .i64 n
theorem iN {α:Type}{b:Bool}[Decidable (b=true)]{x y:α}(h:b=false):(if b=true then x else y)=y:=if_neg (Bool.eq_false_iff.mp h)
theorem Qe {R:AV->List HO->Prop}(h:Jj Tryz.prog ⟨d,op,t,pos,after,none⟩ (Dn s.sl) s.H R)(k:∀x H',R x H'->AOL Tryz.prog ops K r ⟨Dy d x s.sl,H',s.n⟩)(hd:J5 d s.n=true:=by exact rfl):AOL Tryz.prog ops K (⟨d,op,t,pos,after,none⟩::r) s:=AOL.e h hd k
theorem Qw {sl:List (Nat×AV)}{L:List (Nat×AV)}(hw:El ops o sl=some G:=by exact rfl)(hL:Un G sl L:=by first | exact trivial | exact ⟨Zs.self _ _,trivial⟩ | exact ⟨Zs.self _ _,Zs.suf _ _ _,trivial⟩):El ops o sl=some G/\Un G sl L:=⟨hw,hL⟩
theorem Qg (L:List (Nat×AV))(w:El ops o s.sl=some G/\Un G s.sl L)(h:Dr Tryz.prog o (Dn (L++s.sl)) (fun _=>True) y)(k:AOL Tryz.prog ops K r ⟨Dy o.dst (.opt G y) s.sl,s.H,s.n⟩)(hd:J5 o.dst s.n=true:=by exact rfl):AOL Tryz.prog ops K (o::r) s:=AOL.Aah G L w.1 (Un.all w.2) (fun _=>h) hd k
theorem Bv (h:AOL Tryz.prog ops (Ea (AW Tryz.prog c2 Q) Q .normal) ops.toList s):AW Tryz.prog (.seq (.region id ops false) c2) Q s:=AW.seq (AW.region h)
theorem Dt (h:N s):AOL Tryz.prog ops (Ea N Q .normal) [] s:=AOL.nil (Aa h)
theorem Gw {ops':Array Oper}(h:AOL Tryz.prog ops' (Ea (AW Tryz.prog c2 Q) Q .normal) ops'.toList s):AOL Tryz.prog ops (Ea (AW Tryz.prog (.seq (.region id ops' false) c2) Q) Q' .normal) [] s:=AOL.nil (Aa (AW.seq (AW.region h)))
theorem Gd {c:Operand}{x y:Code}(ht:b=true->AW Tryz.prog x Q s)(hf:b=false->AW Tryz.prog y Q s)(hb:Dn s.sl c = .bool b:=by exact rfl):AW Tryz.prog (.cond c x y) Q s:=AW.cond hb ht hf
theorem Dw (h:N s):AW Tryz.prog .skip (Ea N Q) s:=AW.skip (Aa h)
theorem Nm (h:Q .ret s):AW Tryz.prog .ret (Ea N Q) s:=AW.ret (Ap h)
theorem Qr {H:List HO}{l:List ResultVar}{r:AV}(x:AV)(h:Aj [x]=r)(hr:ResL Tryz.prog TL s l [x]:=by exact .cons (.tmp _ _ rfl) .nil)(hs:H.Sublist s.H:=by exact .refl _):(Exit.ret = .normal\/Exit.ret = .ret)/\∃xs,ResL Tryz.prog TL s l xs/\H.Sublist s.H/\Aj xs=r:=⟨.inr rfl,[x],hr,hs,h⟩
theorem Z2 {H:List HO}{l:List ResultVar}{r:AV}(x y:AV)(h:Aj [x,y]=r)(hr:ResL Tryz.prog TL s l [x,y]:=by exact .cons (.tmp _ _ rfl) (.cons (.tmp _ _ rfl) .nil))(hs:H.Sublist s.H:=by exact .refl _):(Exit.ret = .normal\/Exit.ret = .ret)/\∃xs,ResL Tryz.prog TL s l xs/\H.Sublist s.H/\Aj xs=r:=⟨.inr rfl,[x,y],hr,hs,h⟩
end
section
variable {ops:Array Oper} {K:List HO->Prop} {Q:St->Prop} {s:St} {o:Oper} {x y:AV} {G:List (Bool×Bool)} {listed:Array Bool}
theorem Qn (i:Nat)(ho:ops[i]? = some o)(h:Dr Tryz.prog o (Dn s.sl) K x)(k:E5 Tryz.prog ops K Q (listed.setIfInBounds i true) ⟨Dy o.dst x s.sl,s.H,s.n⟩)(hr:(Region.ready .any ops listed).contains i=true:=by kernel_rfl)(hf:Region.free .any ops listed i=true:=by kernel_rfl)(hd:J5 o.dst s.n=true:=by exact rfl)(hg:o.guard=none:=by exact rfl):E5 Tryz.prog ops K Q listed s:=E5.pure listed s i o x ho hr hf hd (.run hg h) k
theorem Qo (i:Nat)(ho:ops[i]? = some o)(L:List (Nat×AV))(w:El ops o s.sl=some G/\Un G s.sl L)(h:Dr Tryz.prog o (Dn (L++s.sl)) K y)(k:E5 Tryz.prog ops K Q (listed.setIfInBounds i true) ⟨Dy o.dst (.opt G y) s.sl,s.H,s.n⟩)(hr:(Region.ready .any ops listed).contains i=true:=by kernel_rfl)(hf:Region.free .any ops listed i=true:=by kernel_rfl)(hd:J5 o.dst s.n=true:=by exact rfl):E5 Tryz.prog ops K Q listed s:=E5.pure listed s i o _ ho hr hf hd (.opt G y L w.1 (Un.all w.2) (fun _=>h) rfl) k
end
abbrev B5 {x0 x1:Int}{x2:List UInt8}:List AV:=[Iq x0,Iq x1,.str x2]
abbrev Fe {x0:Int}{x1:AV}{x2 x3 x4 x5 x6:Int}{x7:AV}{x8 x9 x10 x11 x12:Int}{x13:List UInt8}:List AV:=[Iq x0,x1,Iq x2,Iq x3,Iq x4,Iq x5,Iq x6,x7,Iq x8,Iq x9,Iq x10,Iq x11,Iq x12,.str x13]
abbrev Ll {x0:Int}{x1:AV}{x2 x3 x4 x5 x6:Int}{x7:List UInt8}:List AV:=[Iq x0,x1,Iq x2,Iq x3,Iq x4,Iq x5,Iq x6,.str x7]
abbrev L7 :List AV:=[.int .i64 0,.int .i64 0,.str []]
abbrev R6 {x0 x1 x2 x3:Int}{x4:List UInt8}:List AV:=[Iq x0,Iq x1,Iq x2,Iq x3,.str x4]
abbrev Xd {x0:AV}{x1 x2 x3 x4 x5:Int}{x6:AV}{x7 x8 x9 x10 x11:Int}{x12:List UInt8}:List AV:=[x0,Iq x1,Iq x2,Iq x3,Iq x4,Iq x5,x6,Iq x7,Iq x8,Iq x9,Iq x10,Iq x11,.str x12]
abbrev dS {x0 x1 x2 x3:Int}{x4:AV}:List AV:=[Iq x0,Iq x1,Iq x2,Iq x3,x4]
abbrev gY {x0:AV}{x1 x2 x3 x4 x5:Int}{x6 x7:AV}:List AV:=[x0,Iq x1,Iq x2,Iq x3,Iq x4,Iq x5,x6,x7]
abbrev rR :List AV:=[.int .i64 0,.sl 8 [],.int .i64 0,.int .i64 0,.int .i64 0,.int .i64 0,.int .i64 0,.str []]
abbrev rT {x0 x1 x2:Int}{x3:AV}{x4 x5 x6 x7 x8:Int}{x9:List UInt8}:List AV:=[Iq x0,Iq x1,Iq x2,x3,Iq x4,Iq x5,Iq x6,Iq x7,Iq x8,.str x9]
abbrev wO {x0 x1 x2 x3:Int}{x4:AV}{x5 x6 x7 x8 x9:Int}{x10:List UInt8}:List AV:=[Iq x0,Iq x1,Iq x2,Iq x3,x4,Iq x5,Iq x6,Iq x7,Iq x8,Iq x9,.str x10]
abbrev yP {x0 x1 x2 x3:Bool}:List AV:=[.bool x0,.bool x1,.bool x2,.bool x3]
abbrev gex {x0 x1 x2 x3 x4:Int}{x5:AV}{x6 x7 x8 x9 x10:Int}{x11:List UInt8}:List AV:=[Iq x0,Iq x1,Iq x2,Iq x3,Iq x4,x5,Iq x6,Iq x7,Iq x8,Iq x9,Iq x10,.str x11]
abbrev gey {x0 x1:Int}{x2:AV}{x3 x4 x5 x6 x7:Int}{x8:List UInt8}:List AV:=[Iq x0,Iq x1,x2,Iq x3,Iq x4,Iq x5,Iq x6,Iq x7,.str x8]
abbrev gez {x0 x1:Int}{x2 x3 x4 x5:Bool}:List AV:=[Iq x0,Iq x1,.bool x2,.bool x3,.bool x4,.bool x5]
abbrev gfx :List AV:=[.int .i64 0,.sl 14 [],.int .i64 0,.int .i64 0,.int .i64 0,.int .i64 0,.int .i64 0,.sl 8 [],.int .i64 0,.int .i64 0,.int .i64 0,.int .i64 0,.int .i64 0,.str []]
abbrev gfy :List AV:=[.int .i64 0,.int .i64 0,.int .i64 0,.int .i64 0,.str []]
section
variable {ops ops2:Array Oper} {K:St->Prop} {s:St} {d:Option Nat} {op:Op} {t:TypeId} {pos:String} {after:Array Edge} {r:List Oper} {x y:AV} {o:Oper} {c1 c2 c3:Code} {Q Q1 Q2:Exit->St->Prop} {N N1:St->Prop} {id id2:Nat}
theorem Ra (h:Q .ret s):AOL Tryz.prog ops (Ea (AW Tryz.prog .ret (Im id (Ea N Q))) Q1 .normal) [] s:=Dt (AW.ret (Cn (Ap h)))
theorem Rf (h:N s):AW Tryz.prog .skip (Im id (Ea N Q)) s:=AW.skip (C9 (Aa h))
theorem Ri (h:N s):Ea N1 (Im id (Ea N Q)) (.exit id) s:=A1 (Cd (Aa h))
theorem Rj {Q1:Exit->St->Prop}(h:Q1 .ret s):Im id (Ea N (Ea N1 (Im id2 Q1))) .ret s:=Cn (Ap (Ap (Cn h)))
theorem Rk (h:N s):AOL Tryz.prog ops (Im id (Ea N Q) .normal) [] s:=AOL.nil (C9 (Aa h))
theorem Rc (h:Q .ret s):AOL Tryz.prog ops (Ea (AW Tryz.prog .ret (Ea N Q)) Q1 .normal) [] s:=Dt (Nm h)
theorem Rb (h:Q .ret s):AOL Tryz.prog ops (Ea (AW Tryz.prog .ret Q) Q1 .normal) [] s:=Dt (AW.ret h)
theorem F7 (h:AOL Tryz.prog ops (Ea (AW Tryz.prog c2 (Ea (AW Tryz.prog c3 Q) Q)) (Ea (AW Tryz.prog c3 Q) Q) .normal) ops.toList s):AW Tryz.prog (.seq (.seq (.region id ops false) c2) c3) Q s:=AW.seq (Bv h)
theorem Re (h:AW Tryz.prog c1 (Ea (AW Tryz.prog c2 Q) Q) s):AOL Tryz.prog ops (Ea (AW Tryz.prog (.seq c1 c2) Q) Q1 .normal) [] s:=Dt (AW.seq h)
theorem Rcl {f:FuncId}{args:Array Operand}{ats:Array TypeId}{l:List AV}{v:AV}{H2:List HO}(hc:Cb Tryz.prog f s.H l fun r' H'=>r'=v/\H'=H2)(k:AOL Tryz.prog ops K r ⟨Dy d v s.sl,H2,s.n⟩)(hf:Pe Tryz.prog f=true:=by kernel_rfl)(hcal:Dn s.sl (.func f) = .fn (.func f) [] []:=by exact rfl)(ha:args.toList.map (Dn s.sl)=l:=by exact rfl)(hd:J5 d s.n=true:=by exact rfl):AOL Tryz.prog ops K (⟨d,.call ⟨.value (.func f),args,ats⟩,t,pos,after,none⟩::r) s:=Qe (C2 hf hcal ha hc) (fun _ _ ⟨h1,h2⟩=>by subst h1;subst h2;exact k) hd
theorem Rt {v:AV}{H2:List HO}(h:Jj Tryz.prog ⟨d,op,t,pos,after,none⟩ (Dn s.sl) s.H fun r' H'=>r'=v/\H'=H2)(k:AOL Tryz.prog ops K r ⟨Dy d v s.sl,H2,s.n⟩)(hd:J5 d s.n=true:=by exact rfl):AOL Tryz.prog ops K (⟨d,op,t,pos,after,none⟩::r) s:=Qe h (fun _ _ ⟨h1,h2⟩=>by subst h1;subst h2;exact k) hd
theorem Hy {T:TypeId}(l:List AV)(k:∀b,AOL Tryz.prog ops K r ⟨Dy d (.val (.pointer (some ⟨b,0,none⟩))) s.sl,.box b T l::s.H,s.n⟩)(hz:zOK Tryz.prog T l=true:=by kernel_rfl)(hd:J5 d s.n=true:=by exact rfl):AOL Tryz.prog ops K (⟨d,.alloc T,t,pos,after,none⟩::r) s:=Qe (Bh hz) (fun _ _ ⟨b,h1,h2⟩=>by subst h1;subst h2;exact k b) hd
end
section
variable {ops:Array Oper} {s:St} {d:Option Nat} {t:TypeId} {pos:String} {aft:Array Edge} {gd:Option (Nat×Bool)} {ρ:Operand->AV}
theorem Sca {f:FuncId}{args:Array Operand}{ats:Array TypeId}{l:List AV}{G:List HO}{R:AV->List HO->Prop}(ha:args.toList.map ρ=l)(hc:Cb Tryz.prog f G l R)(hf:Pe Tryz.prog f=true:=by kernel_rfl)(hcal:ρ (.func f) = .fn (.func f) [] []:=by exact rfl):Jj Tryz.prog ⟨d,.call ⟨.value (.func f),args,ats⟩,t,pos,aft,gd⟩ ρ G R:=C2 hf hcal ha hc
theorem lT {id:Nat}{Q:Exit->St->Prop}(h:E5 Tryz.prog ops (fun _=>True) (Q .normal) (Array.replicate ops.size false) s)(hdd:De ops=true:=by kernel_rfl):AW Tryz.prog (.region id ops true) Q s:=AW.draw mixed (fun _=>True) trivial hdd h
theorem lK {K:List HO->Prop}{Q:St->Prop}{listed:Array Bool}(h:Q s)(hr:Region.ready .any ops listed = []:=by kernel_rfl):E5 Tryz.prog ops K Q listed s:=E5.done listed s hr h
theorem Sef {Q:St->Prop}{listed:Array Bool}{o:Oper}{R:AV->List HO->Prop}(i:Nat)(ho:ops[i]? = some o)(hp:Jj Tryz.prog o (Dn s.sl) s.H R)(h:∀x H',R x H'->E5 Tryz.prog ops (fun _=>True) Q (listed.setIfInBounds i true) ⟨Dy o.dst x s.sl,H',s.n⟩)(hr:Region.ready .any ops listed = [i]:=by kernel_rfl)(hd:J5 o.dst s.n=true:=by exact rfl)(hw:o.guard=none:=by exact rfl):E5 Tryz.prog ops (fun _=>True) Q listed s:=E5.eff listed s i o R ho hr hd hw hp (fun _ _ _=>trivial) h
theorem Seg {Q:St->Prop}{listed:Array Bool}{o:Oper}{v:AV}{G:List HO}(i:Nat)(ho:ops[i]? = some o)(hp:Jj Tryz.prog o (Dn s.sl) s.H fun x H'=>x=v/\H'=G)(h:E5 Tryz.prog ops (fun _=>True) Q (listed.setIfInBounds i true) ⟨Dy o.dst v s.sl,G,s.n⟩)(hr:Region.ready .any ops listed = [i]:=by kernel_rfl)(hd:J5 o.dst s.n=true:=by exact rfl)(hw:o.guard=none:=by exact rfl):E5 Tryz.prog ops (fun _=>True) Q listed s:=Sef i ho hp (fun _ _ ⟨h1,h2⟩=>by subst h1;subst h2;exact h) hr hd hw
theorem Kx {sl sl':List (Nat×AV)}{G G':List HO}{n:Nat}(h:Wk sl sl':=by (repeat refine ⟨rfl,?_⟩);exact trivial)(hs:G'.Sublist G:=by exact .refl _):GS ⟨sl,G,n⟩ ⟨sl',G',n⟩:=GS.weaken h hs
end
section
variable {ops:Array Oper} {K:St->Prop} {s:St} {d:Option Nat} {op:Op} {t:TypeId} {pos:String} {after:Array Edge} {r:List Oper} {x y:AV} {o:Oper} {G:List (Bool×Bool)} {c1 c2 c3:Code} {Q Q1:Exit->St->Prop} {N:St->Prop} {id:Nat} {b ob:Nat} {td te:TD} {TT t1 e z m:Nat} {xo yo:Operand} {cs:List AV} {c:Operand} {bb:Bool}
theorem Yw {sl:List (Nat×AV)}{L:List (Nat×AV)}(hw:El ops o sl=some G:=by exact rfl)(hL:Un G sl L:=by exact ⟨Zs.self _ _,Zs.self _ _,trivial⟩):El ops o sl=some G/\Un G sl L:=⟨hw,hL⟩
theorem Es {G:List (Bool×Bool)}{v:AV}:Zs G (.opt G v) v:=Zs.self _ _
theorem Yv {sl:List (Nat×AV)}{i j:Nat}{v w:AV}(hw:El ops o sl=some G)(h:Zs G (get sl i) v)(k:Zs G (get sl j) w):El ops o sl=some G/\Un G sl [(i,v),(j,w)]:=⟨hw,h,k,trivial⟩
theorem Yh (L:List (Nat×AV))(w:El ops o s.sl=some G/\Un G s.sl L)(h:H9 G->Dr Tryz.prog o (Dn (L++s.sl)) (fun _=>True) y)(k:AOL Tryz.prog ops K r ⟨Dy o.dst (.opt G y) s.sl,s.H,s.n⟩)(hd:J5 o.dst s.n=true:=by exact rfl):AOL Tryz.prog ops K (o::r) s:=AOL.Aah G L w.1 (Un.all w.2) h hd k
theorem Ye {α:Type}{a b:α}{c:AV}(f:α->AV)(h:a=b)(hc:c=f b:=by exact rfl):c=f a:=hc.trans (congrArg f h).symm
theorem Ydm {h:HO}(i:Nat)(hi:s.H[i]? = some h)(k:E5 Tryz.prog ops (fun H'=>h∈H') (Q .normal) (Array.replicate ops.size false) s)(hdd:De ops=true:=by kernel_rfl):AW Tryz.prog (.region id ops true) Q s:=AW.draw mixed (fun H'=>h∈H') (A0 hi) hdd k
theorem Yx {H:List HO}{l:List ResultVar}{q:AV}(xs:List AV)(hr:ResL Tryz.prog TL s l xs)(hs:H.Sublist s.H)(h:Aj xs=q):(Exit.ret = .normal\/Exit.ret = .ret)/\∃xs,ResL Tryz.prog TL s l xs/\H.Sublist s.H/\Aj xs=q:=⟨.inr rfl,xs,hr,hs,h⟩
theorem Yt {i:Nat}(h:get s.sl i=x:=by exact rfl):Res Tryz.prog TL s (.tmp i) x:=.tmp _ _ h
theorem Yb {a:Nat}{l:List AV}(k:Nat)(h:(get s.sl a,s.H[k]?,Bp TL t,td.agg,cs.take td.size,Nat.beq l.length td.size)=(.val (.pointer (some ⟨b,0,none⟩)),some (.box b TT cs),some td,true,l,true):=by exact rfl):Res Tryz.prog TL s (.cell a t) (.agg l):=by simp only [Prod.mk.injEq] at h;obtain ⟨q0,q1,q2,q3,q4,q5⟩:=h;exact .box _ _ _ k _ _ _ _ q0 q1 q2 q3 q4 q5
theorem Zb {a:Nat}{l:List AV}(k:Nat)(h:(get s.sl a,s.H[k]?,Bp TL t,td.agg,cs.take td.size,Nat.beq l.length td.size)=(.val (.pointer (some ⟨b,0,none⟩)),some (.box b TT cs),some td,true,l,true):=by exact rfl):ResL Tryz.prog TL s [.cell a t] [.agg l]:=.cons (Yb k h) .nil
theorem Zc {a:Nat}{l:List AV}(k:Nat)(h:(get s.sl a,s.H[k]?,Bp TL t,td.agg,cs.take td.size,Nat.beq l.length td.size)=(.val (.pointer (some ⟨b,0,none⟩)),some (.box b TT cs),some td,true,l,true):=by exact rfl){i:Nat}(hx:get s.sl i=x:=by exact rfl):ResL Tryz.prog TL s [.cell a t,.tmp i] [.agg l,x]:=.cons (Yb k h) (.cons (Yt hx) .nil)
theorem Zd {a:Nat}{l:List AV}(k:Nat)(h:(get s.sl a,s.H[k]?,Bp TL t,td.agg,cs.take td.size,Nat.beq l.length td.size)=(.val (.pointer (some ⟨b,0,none⟩)),some (.box b TT cs),some td,true,l,true):=by exact rfl){i j:Nat}(hx:get s.sl i=x:=by exact rfl)(hy:get s.sl j=y:=by exact rfl):ResL Tryz.prog TL s [.cell a t,.tmp i,.tmp j] [.agg l,x,y]:=.cons (Yb k h) (.cons (Yt hx) (.cons (Yt hy) .nil))
theorem Ze {i:Nat}(h:get s.sl i=x:=by exact rfl):ResL Tryz.prog TL s [.tmp i] [x]:=.cons (Yt h) .nil
theorem Zf {i j:Nat}(h:get s.sl i=x:=by exact rfl)(hy:get s.sl j=y:=by exact rfl):ResL Tryz.prog TL s [.tmp i,.tmp j] [x,y]:=.cons (Yt h) (Ze hy)
theorem Zg {z:AV}{i j k:Nat}(h:get s.sl i=x:=by exact rfl)(hy:get s.sl j=y:=by exact rfl)(hz:get s.sl k=z:=by exact rfl):ResL Tryz.prog TL s [.tmp i,.tmp j,.tmp k] [x,y,z]:=.cons (Yt h) (Zf hy hz)
theorem S0 {l:List HO}:l.Sublist (l):=.refl _
theorem S1 {l:List HO}{a:HO}:l.Sublist (a::l):=.cons _ (.refl _)
theorem S2 {l:List HO}{a b:HO}:l.Sublist (a::b::l):=.cons _ (.cons _ (.refl _))
theorem S3 {l:List HO}{a b c:HO}:l.Sublist (a::b::c::l):=.cons _ (.cons _ (.cons _ (.refl _)))
theorem S4 {l:List HO}{a b c d:HO}:l.Sublist (a::b::c::d::l):=.cons _ (.cons _ (.cons _ (.cons _ (.refl _))))
theorem S5 {l:List HO}{a b c d e:HO}:l.Sublist (a::b::c::d::e::l):=.cons _ (.cons _ (.cons _ (.cons _ (.cons _ (.refl _)))))
theorem S6 {l:List HO}{a b c d e f:HO}:l.Sublist (a::b::c::d::e::f::l):=.cons _ (.cons _ (.cons _ (.cons _ (.cons _ (.cons _ (.refl _))))))
theorem S7 {l:List HO}{a b c d e f g:HO}:l.Sublist (a::b::c::d::e::f::g::l):=.cons _ (.cons _ (.cons _ (.cons _ (.cons _ (.cons _ (.cons _ (.refl _)))))))
theorem F8 {f:FuncId}{fn:Func}{cc:Code}{args:List AV}{q:AV}(n:Nat)(hf:Tryz.prog.funcs[f]? = some fn)(hb:(fn.body,fn.ntmps,Nat.ble args.length n)=(some cc,n,true))(h:∀H,AW Tryz.prog cc (fun e s=>(e = .normal\/e = .ret)/\∃xs,ResL Tryz.prog TL s fn.results.toList xs/\H.Sublist s.H/\Aj xs=q) ⟨F9 0 args,H,n⟩):Al Tryz.prog f args q:=Al.body Ai hf (congrArg (·.1) hb) (congrArg (·.2.1) hb) (congrArg (·.2.2) hb) h
theorem Yac {f:FuncId}{fn:Func}{cc:Code}{args:List AV}{H:List HO}{q:AV->List HO->Prop}(n:Nat)(hf:Tryz.prog.funcs[f]? = some fn)(hb:(fn.body,fn.ntmps,Nat.ble args.length n)=(some cc,n,true))(h:AW Tryz.prog cc (fun e s=>(e = .normal\/e = .ret)/\∃xs,ResL Tryz.prog TL s fn.results.toList xs/\∃H',H'.Sublist s.H/\q (Aj xs) H') ⟨F9 0 args,H,n⟩):Cb Tryz.prog f H args q:=Cb.body Ai hf (congrArg (·.1) hb) (congrArg (·.2.1) hb) (congrArg (·.2.2) hb) h
theorem Ef {u v:Code}(ht:bb=true->AW Tryz.prog u Q s)(hf:bb=false->AW Tryz.prog v Q s)(hb:Dn s.sl c = .bool bb:=by exact rfl):AOL Tryz.prog ops (Ea (AW Tryz.prog (.cond c u v) Q) Q1 .normal) [] s:=Dt (Gd ht hf hb)
theorem rP (k:Nat)(l:List AV)(h:(s.H[k]?,Dn s.sl xo,Bp TL t1,td.agg,(cs.drop ob).take td.size,Nat.beq l.length td.size,J5 d s.n)=(some (.box b TT cs),.val (.pointer (some ⟨b,ob,none⟩)),some td,true,l,true,true))(kk:AOL Tryz.prog ops K r ⟨Dy d (.agg l) s.sl,s.H,s.n⟩):AOL Tryz.prog ops K (⟨d,.load t1 xo,t,pos,after,none⟩::r) s:=by simp only [Prod.mk.injEq] at h;obtain ⟨q0,q1,q2,q3,q4,q5,q6⟩:=h;exact AOL.Aam (Cf (k:=k) Ai q1 q2 q3 q4 q5) q0 q6 kk
theorem rQ (k:Nat)(x:AV)(h:(s.H[k]?,Dn s.sl xo,Bp TL t1,td.agg,cs[ob]?,J5 d s.n)=(some (.box b TT cs),.val (.pointer (some ⟨b,ob,none⟩)),some td,false,some x,true))(kk:AOL Tryz.prog ops K r ⟨Dy d x s.sl,s.H,s.n⟩):AOL Tryz.prog ops K (⟨d,.load t1 xo,t,pos,after,none⟩::r) s:=by simp only [Prod.mk.injEq] at h;obtain ⟨q0,q1,q2,q3,q4,q5⟩:=h;exact AOL.Aam (Br (k:=k) Ai q1 q2 q3 q4) q0 q5 kk
theorem Wd {sl:List (Nat×AV)}{H:List HO}{n:Nat}{l:List Oper}(t k:Nat)(h:(get sl t,H[k]?)=(.val (.pointer (some ⟨b,0,none⟩)),some (.box b TT cs)))(kk:AOL Tryz.prog ops K l ⟨(t,.ptr cs)::sl,H.eraseIdx k,n⟩):AOL Tryz.prog ops K l ⟨sl,H,n⟩:=AOL.ghost (GS.Aaj k (congrArg (·.1) h) (congrArg (·.2) h)) kk
end
section
variable {ops:Array Oper} {K:List HO->Prop} {Q:St->Prop} {s:St} {o:Oper} {x y:AV} {G:List (Bool×Bool)} {listed:Array Bool}
theorem Yo (i:Nat)(ho:ops[i]? = some o)(L:List (Nat×AV))(w:El ops o s.sl=some G/\Un G s.sl L)(h:H9 G->Dr Tryz.prog o (Dn (L++s.sl)) K y)(k:E5 Tryz.prog ops K Q (listed.setIfInBounds i true) ⟨Dy o.dst (.opt G y) s.sl,s.H,s.n⟩)(hr:(Region.ready .any ops listed).contains i=true:=by kernel_rfl)(hf:Region.free .any ops listed i=true:=by kernel_rfl)(hd:J5 o.dst s.n=true:=by exact rfl):E5 Tryz.prog ops K Q listed s:=E5.pure listed s i o _ ho hr hf hd (.opt G y L w.1 (Un.all w.2) h rfl) k
theorem Yef {R:AV->List HO->Prop}(i:Nat)(ho:ops[i]? = some o)(hp:Jj Tryz.prog o (Dn s.sl) s.H R)(hK:∀x H',R x H'->K H')(h:∀x H',R x H'->E5 Tryz.prog ops K Q (listed.setIfInBounds i true) ⟨Dy o.dst x s.sl,H',s.n⟩)(hr:Region.ready .any ops listed = [i]:=by kernel_rfl)(hd:J5 o.dst s.n=true:=by exact rfl)(hw:o.guard=none:=by exact rfl):E5 Tryz.prog ops K Q listed s:=E5.eff listed s i o R ho hr hd hw hp hK h
theorem Yla {R:AV->List HO->Prop}(i:Nat)(ho:ops[i]? = some o)(hp:Jj Tryz.prog o (Dn s.sl) s.H R)(h:∀x H',R x H'->Q ⟨Dy o.dst x s.sl,H',s.n⟩)(hl:oC ops listed o i=true:=by kernel_rfl)(hr:Region.ready .any ops listed = [i]:=by kernel_rfl)(hd:J5 o.dst s.n=true:=by exact rfl)(hw:o.guard=none:=by exact rfl):E5 Tryz.prog ops K Q listed s:=E5.last listed s i o R ho hr hd hw hp hl h
end
section
variable {d:Option Nat} {ty:TypeId} {pos:String} {aft:Array Edge} {gd:Option (Nat×Bool)} {ρ:Operand->AV} {K:List HO->Prop} {xo yo:Operand} {t e z b ob TT:Nat} {td te:TD} {cs:List AV} {es:List (List AV)}
theorem Ymb (c:AV)(h:(ρ xo,Bp TL t,td.agg,cs[ob]?)=(.val (.pointer (some ⟨b,ob,none⟩)),some td,false,some c)):Dr Tryz.prog ⟨d,.load t xo,ty,pos,aft,gd⟩ ρ (fun H=>HO.box b TT cs∈H) c:=by simp only [Prod.mk.injEq] at h;obtain ⟨q0,q1,q2,q3⟩:=h;exact OpP.Aan (fun k=>Br (k:=k) Ai q0 q1 q2 q3) (fun _ h=>h)
theorem Ki (n:Nat)(h0:ρ xo = .sl z es)(h:(Bp TL t,td.kind)=(some td,.slice e))(hn:es.length=n):Dr Tryz.prog ⟨d,.call ⟨.builtin .len,#[xo],#[t]⟩,ty,pos,aft,gd⟩ ρ K (.int .i64 n):=by simp only [Prod.mk.injEq] at h;obtain ⟨q0,q1⟩:=h;exact Av Ai h0 q0 q1 hn
theorem Lq {k:IntKind}{n:Int}(c:List AV)(hs:ρ xo = .sl z es)(h:(ρ yo,Bp TL t,td.kind,Bp TL e,te.size)=(.int k n,some td,.slice e,some te,z))(h0:0<=n)(hc:es[n.toNat]? = some c):Dr Tryz.prog ⟨d,.indexAddr t xo yo,ty,pos,aft,gd⟩ ρ K (.ptr c):=by simp only [Prod.mk.injEq] at h;obtain ⟨q0,q1,q2,q3,q4⟩:=h;exact Am Ai hs q0 q1 q2 q3 q4 h0 hc
theorem Ybs {n:Nat}{parts:Array (Nat×Operand)}(es:List (List AV))(h:(Bp TL t,td.kind,Bp TL e,te.size,Nat.beq parts.toList.length n,Nat.ble (n*z) 16777216,Ph z ρ 0 parts.toList,Nat.blt 0 z,Md ρ parts.toList)=(some td,.slice e,some te,z,true,true,true,true,es)):Dr Tryz.prog ⟨d,.buildSlice t n parts,ty,pos,aft,gd⟩ ρ K (.sl z es):=by simp only [Prod.mk.injEq] at h;obtain ⟨q0,q1,q2,q3,q4,q5,q6,q7,q8⟩:=h;exact Bw Ai q0 q1 q2 q3 q4 q5 q6 q7 q8
theorem Yst {H:List HO}(k:Nat)(v:AV)(cs':List AV)(H2:List HO)(h:(ρ xo,ρ yo,Bp TL t,H[k]?,Bm (Dj v),Nat.beq (Dj v).length td.size,Nat.ble (ob+td.size) cs.length,E3 cs ob (Dj v),H.set k (.box b TT cs'))=(.val (.pointer (some ⟨b,ob,none⟩)),v,some td,some (.box b TT cs),true,true,true,cs',H2)):Jj Tryz.prog ⟨d,.store t xo yo,ty,pos,aft,gd⟩ ρ H (fun z H'=>z = .junk/\H'=H2):=by simp only [Prod.mk.injEq] at h;obtain ⟨q0,q1,q2,q3,q4,q5,q6,q7,q8⟩:=h;exact Ao Ai q0 q1 q2 q3 q4 q5 q6 q7 q8
theorem Yad {H:List HO}{v:Value}{e2:List (List AV)}(k:Nat)(h:(ρ xo,ρ yo,Bp TL t,td.kind,Bp TL e,te.size,Nat.blt 0 z,H[k]?)=(.row v z es,.sl z e2,some td,.slice e,some te,z,true,some (.row v es.length e z)))(hs2:∀c∈e2,Bm c=true)(hs1:∀c∈es,Bm c=true)(hb:(es.length+e2.length)*te.bytes<=140737488355328)(hm:es.length+e2.length<=maxLen):Jj Tryz.prog ⟨d,.call ⟨.builtin .append,#[xo,yo],#[t,t]⟩,ty,pos,aft,gd⟩ ρ H (fun r H'=>∃v',r = .row v' z (es++e2)/\H'=H.set k (.row v' (es++e2).length e z)):=by simp only [Prod.mk.injEq] at h;obtain ⟨q0,q1,q2,q3,q4,q5,q6,q7⟩:=h;exact I5 Ai q0 q1 q2 q3 q4 q5 q6 q7 hs2 hs1 hb hm
end
def T0 (e:Ex):List Nat:=if (D4 e.op).1&&decide (0<=e.var)&&decide (e.var<16) then [e.var.toNat] else []
mutual
def Gn:Ex->List Nat
 | ⟨op,args,var,field,kind,val⟩=>T0 ⟨op,args,var,field,kind,val⟩++dK args
def dK:List Ex->List Nat
 | []=>[]
 | e::r=>Gn e++dK r
end
theorem Wb:∀l,dK l=l.flatMap Gn
 | []=>by simp [dK]
 | e::r=>by simp [dK,Wb r]
theorem Of (e:Ex):Gn e=T0 e++e.args.flatMap Gn:=by cases e;rw [Gn,Wb]
def Jl (S:List Nat):List AV:=(List.range 16).map fun v=>.bool (S.contains v)
theorem Ke (S:List Nat):(Jl S).length=16:=rfl
theorem Rv {S:List Nat}{v:Nat}(h:v<16):(Jl S)[v]? = some (.bool (S.contains v)):=by
 unfold Jl;rw [List.getElem?_map,List.getElem?_range h];rfl
theorem qJ {S:List Nat}{v:Nat}(h:v<16):E3 (Jl S) v [.bool true]=Jl (S ++ [v]):=by
 apply M9
 intro i;unfold E3;by_cases hi:i<16
 .
  rw [Rv hi];by_cases e:i<v
  .
   rw [Cs,List.getElem?_append_left (by rw [Fr,Ke];omega),List.getElem?_take,if_pos e,Rv hi];have h1:([v].contains i)=false:=by simp;omega
   simp [List.contains_eq_mem] at h1 ⊢;intro hh;omega
  by_cases e2:i=v
  .
   subst e2;rw [Cs,List.getElem?_append_right (by rw [Fr,Ke];omega)];simp [Ke,Nat.min_eq_left (by omega:i<=16)]
  rw [List.getElem?_append_right (by simp [Ke];omega),List.getElem?_drop];have:v + [AV.bool true].length+(i-((Jl S).take v ++ [AV.bool true]).length)=i:=by simp [Ke];omega
  rw [this,Rv hi];have h1:([v].contains i)=false:=by simp;omega
  simp [List.contains_eq_mem] at h1 ⊢;intro hh;omega
 rw [List.getElem?_eq_none (by simp [Ke];omega),List.getElem?_eq_none (by rw [Ke];omega)]
def Mj (S:List Nat)(k:Nat):List Int:=((List.range k).filter fun v=>S.contains v).map fun (v:Nat)=>(v:Int)
theorem rH {S:List Nat}{k:Nat}(h:S.contains k=true):Mj S (k+1)=Mj S k ++ [(k:Int)]:=by
 unfold Mj;rw [List.range_succ,Gi,List.filter_cons_of_pos (by simpa using h)];simp
theorem vL {S:List Nat}{k:Nat}(h:S.contains k=false):Mj S (k+1)=Mj S k:=by
 unfold Mj;rw [List.range_succ,Gi,List.filter_cons_of_neg (by simpa using h)];simp
theorem rG (S:List Nat)(k:Nat):(Mj S k).length<=k:=by
 unfold Mj;rw [B1];exact Fp (Om _ _) (by simp)
def Oh (e:Ex):List Int:=Mj (Gn e) 16
theorem gJ (op:Int):Al Tryz.prog 81 [.int .i64 op] (.tuple [.bool (D4 op).1,.bool (D4 op).2]):=by
 refine F8 11 Tryz.func81 rfl fun H=>?_
 refine Bv (Qp C5 (Qp C5 (Dt (F7 (Qp Ca (Dt (AW.block (AW.seq ?_))))))));refine Bv (Qp Cl (Qp C5 (Ef (fun hc1=>Dw (Gd (fun hc2=>Bv (Qp C5 (Qp C5 (Ra (Z2 (.bool _) (.bool _) ?_))))) fun hc2=>F7 (Qp Cl (Qp C5 (Ef (fun hc3=>Dw (Gd (fun hc4=>Bv (Qp C5 (Qp C5 (Ra (Z2 (.bool _) (.bool _) ?_))))) fun hc4=>Rf (Bv (Qp C5 (Qp C5 (Rb (Z2 (.bool _) (.bool _) ?_))))))) fun hc3=>?_))))) fun hc1=>?_)))
 . simp_all [Aj,D4]
 . simp_all [Aj,D4]
 . simp_all [Aj,D4]
 .
  refine AW.region (Qp Cl (Qp C5 (Ef (fun hc5=>Bv (Qp C5 (Qp C5 (Ra (Z2 (.bool _) (.bool _) ?_))))) fun hc5=>Rf (Bv (Qp C5 (Qp C5 (Rb (Z2 (.bool _) (.bool _) ?_))))))))
  . simp_all [Aj,D4]
  simp_all [Aj,D4]
 refine AW.region (Qp Cl (Qp C5 (Ef (fun hc6=>Bv (Qp C5 (Qp C5 (Ra (Z2 (.bool _) (.bool _) ?_))))) fun hc6=>F7 (Qp Cl (Qp C5 (Ef (fun hc7=>Dw (Gd (fun hc8=>Bv (Qp C5 (Qp C5 (Ra (Z2 (.bool _) (.bool _) ?_))))) fun hc8=>Rf (Bv (Qp C5 (Qp C5 (Rb (Z2 (.bool _) (.bool _) ?_))))))) fun hc7=>?_))))))
 . simp_all [Aj,D4]
 . simp_all [Aj,D4]
 . simp_all [Aj,D4]
 refine AW.region (Qp Cl (Qp C5 (Ef (fun hc9=>Bv (Qp C5 (Qp C5 (Ra (Z2 (.bool _) (.bool _) ?_))))) fun hc9=>Rf (Bv (Qp C5 (Qp C5 (Rb (Z2 (.bool _) (.bool _) ?_))))))))
 . simp_all [Aj,D4]
 simp_all [Aj,D4]
theorem c84 (op:Int):Al Tryz.prog 200 [.int .i64 op] (.tuple [.bool (D4 op).1,.bool (D4 op).2]):=by
 refine F8 21 Tryz.func200 rfl fun H=>?_
 refine Bv (Qp C5 (Qp C5 (Gw (Qp Ca (Qp Cl (Qp Cp (Qg [] Qw Ca (Qg [(8,_)] Qw Cl (Qp Fz ?_)))))))));refine Qp C5 (Gw (Qp Cp (Qp Cp (Qg [] Qw Ca (Qg [(13,_)] Qw Cl (Qp Fz (Qp Cp (Qg [] Qw Ca (Qg [(17,_)] Qw Cl (Qp Fz (Qp Cp (Qp C5 (Qp C5 (Rb (Z2 (.bool _) (.bool _) ?_)))))))))))))));by_cases h1:op=1 <;> by_cases h2:op=2 <;> by_cases h3:op=3 <;> by_cases h4:op=4 <;> simp_all [D4,Aj]
theorem c81 (op:Int):Al Tryz.prog 155 [.int .i64 op] (.tuple [.int .i64 (Hc op),.bool (decide (0<=op/\op<=12))]):=by
 refine F8 17 Tryz.func155 rfl fun H=>?_
 refine Bv (Qp Bk (Qp C5 (Re (AW.block (Bv (Qp Ca (Qp Fw (Qp Cp (Qg [] Qw Ca (Qg [(8,_)] Qw Kl (Qp Fz (Qp C5 (Ef (fun hc1=>Bv (Qp Bk (Qp C5 (Ra (Z2 (Iq _) (.bool _) ?_))))) fun hc1=>?_)))))))))))))
 .
  simp only [Ek,Fv,Di,Jh,beq_iff_eq,Iu] at *;simp only [Aj,Hc,AV.tuple.injEq,List.cons.injEq,AV.int.injEq,AV.bool.injEq,true_and,and_true];refine ⟨?_,?_⟩
  .
   repeat' split
   all_goals omega
  simp <;> omega
 refine Bv (Qp Ca (Qp Fw (Qp C5 (Ef (fun hc2=>Bv (Qp Bk (Qp C5 (Ra (Z2 (Iq _) (.bool _) ?_))))) fun hc2=>Bv (Qp Ca (Qp Cl (Qp C5 (Ef (fun hc3=>Bv (Qp Bk (Qp C5 (Ra (Z2 (Iq _) (.bool _) ?_))))) fun hc3=>Rf (Bv (Qp Bk (Qp C5 (Rb (Z2 (Iq _) (.bool _) ?_)))))))))))))
 .
  simp only [Ek,Fv,Di,Jh,beq_iff_eq,Iu] at *;simp only [Aj,Hc,AV.tuple.injEq,List.cons.injEq,AV.int.injEq,AV.bool.injEq,true_and,and_true];refine ⟨?_,?_⟩
  .
   repeat' split
   all_goals omega
  simp <;> omega
 .
  simp only [Ek,Fv,Di,Jh,beq_iff_eq,Iu] at *;simp only [Aj,Hc,AV.tuple.injEq,List.cons.injEq,AV.int.injEq,AV.bool.injEq,true_and,and_true];refine ⟨?_,?_⟩
  .
   repeat' split
   all_goals omega
  simp <;> omega
 simp only [Ek,Fv,Di,Jh,beq_iff_eq,Iu] at *;simp only [Aj,Hc,AV.tuple.injEq,List.cons.injEq,AV.int.injEq,AV.bool.injEq,true_and,and_true];refine ⟨?_,?_⟩
 .
  repeat' split
  all_goals omega
 simp <;> omega
theorem c100 (op:Int):Al Tryz.prog 199 [.int .i64 op] (.int .i64 (if 0<=op/\op<=12 then Hc op else -1)):=by
 refine F8 20 Tryz.func199 rfl fun H=>?_
 refine Bv (Qp Bk (Dt (F7 (Qp Ca (Dt (AW.block ?_))))));refine AW.cut (fun (_:Unit)=>(⟨[(0,.int .i64 op),(3,.int .i64 op),(4,.bool (op==0||op==1||op==2||op==3||op==4))],H,20⟩:St)) (fun _=>True) ?_ ?_
 .
  refine Bv (Qp Cl (Qp C5 (Ef (fun hc1=>Dw ?_) fun hc1=>Bv (Qp Cl (Qp C5 (Ef (fun hc2=>Dw ?_) fun hc2=>Bv (Qp Cl (Qp C5 (Ef (fun hc3=>Dw ?_) fun hc3=>Bv (Qp Cl (Qp C5 (Ef (fun hc4=>Dw ?_) fun hc4=>AW.region (Qp Cl (Qp C5 (Dt ?_)))))))))))))))
  .
   refine ⟨(),?_,GS.weaken ⟨rfl,rfl,congrArg AV.bool (by simp [*]),trivial⟩ (.refl _)⟩
   trivial
  .
   refine ⟨(),?_,GS.weaken ⟨rfl,rfl,congrArg AV.bool (by simp [*]),trivial⟩ (.refl _)⟩
   trivial
  .
   refine ⟨(),?_,GS.weaken ⟨rfl,rfl,congrArg AV.bool (by simp [*]),trivial⟩ (.refl _)⟩
   trivial
  .
   refine ⟨(),?_,GS.weaken ⟨rfl,rfl,congrArg AV.bool (by simp [*]),trivial⟩ (.refl _)⟩
   trivial
  refine ⟨(),?_,GS.weaken ⟨rfl,rfl,congrArg AV.bool (by simp [*]),trivial⟩ (.refl _)⟩
  trivial
 rintro _ _;refine Gd (fun hc5=>Bv (Qp Bk (Ra (Qr (Iq _) ?_)))) fun hc5=>Bv (Qp Cl (Qp C5 (Ef (fun hc6=>Bv (Qp Bk (Ra (Qr (Iq _) ?_)))) fun hc6=>?_)))
 .
  simp only [Ek,Fv,beq_iff_eq,Iu] at *;simp only [Aj,Hc,AV.int.injEq,true_and]
  repeat' split
  all_goals omega
 .
  simp only [Ek,Fv,beq_iff_eq,Iu] at *;simp only [Aj,Hc,AV.int.injEq,true_and]
  repeat' split
  all_goals omega
 refine AW.cut (fun (_:Unit)=>(⟨[(12,.bool (op==5||op==6||op==7||op==8||op==9||op==10||op==11))],H,20⟩:St)) (fun _=>True) ?_ ?_
 .
  refine Bv (Qp Cl (Qp C5 (Ef (fun hc7=>Dw ?_) fun hc7=>Bv (Qp Cl (Qp C5 (Ef (fun hc8=>Dw ?_) fun hc8=>?_))))))
  .
   refine ⟨(),?_,GS.weaken ⟨congrArg AV.bool (by simp [*]),trivial⟩ (.refl _)⟩
   trivial
  .
   refine ⟨(),?_,GS.weaken ⟨congrArg AV.bool (by simp [*]),trivial⟩ (.refl _)⟩
   trivial
  refine Bv (Qp Cl (Qp C5 (Ef (fun hc9=>Dw ?_) fun hc9=>Bv (Qp Cl (Qp C5 (Ef (fun hc10=>Dw ?_) fun hc10=>Bv (Qp Cl (Qp C5 (Ef (fun hc11=>Dw ?_) fun hc11=>Bv (Qp Cl (Qp C5 (Ef (fun hc12=>Dw ?_) fun hc12=>AW.region (Qp Cl (Qp C5 (Dt ?_)))))))))))))))
  .
   refine ⟨(),?_,GS.weaken ⟨congrArg AV.bool (by simp [*]),trivial⟩ (.refl _)⟩
   trivial
  .
   refine ⟨(),?_,GS.weaken ⟨congrArg AV.bool (by simp [*]),trivial⟩ (.refl _)⟩
   trivial
  .
   refine ⟨(),?_,GS.weaken ⟨congrArg AV.bool (by simp [*]),trivial⟩ (.refl _)⟩
   trivial
  .
   refine ⟨(),?_,GS.weaken ⟨congrArg AV.bool (by simp [*]),trivial⟩ (.refl _)⟩
   trivial
  refine ⟨(),?_,GS.weaken ⟨congrArg AV.bool (by simp [*]),trivial⟩ (.refl _)⟩
  trivial
 rintro _ _;refine Gd (fun hc13=>Bv (Qp Bk (Ra (Qr (Iq _) ?_)))) fun hc13=>Rf (Bv (Qp Bk (Rb (Qr (Iq _) ?_))))
 .
  simp only [Ek,Fv,beq_iff_eq,Iu] at *;simp only [Aj,Hc,AV.int.injEq,true_and]
  repeat' split
  all_goals omega
 simp only [Ek,Fv,beq_iff_eq,Iu] at *;simp only [Aj,Hc,AV.int.injEq,true_and]
 repeat' split
 all_goals omega
theorem sM (v:Vl):Al Tryz.prog 203 [.agg (cV v)] (.int .i64 (Gu v)):=by
  refine F8 36 Tryz.func203 rfl fun H=>?_
  refine AW.seq (AW.region (Qp (Ji B5) (Qp Bk (AOL.nil (Aa (AW.seq (AW.block (AW.seq (AW.region ?_)))))))));refine Qp Ml (Qp C0 (Qp Cl (Qp Cp (Qg [] Qw Wh (Qg [(8,_)] Qw C0 (Qg [(9,_)] Qw Fw (Qg [(10,_)] Qw Cp (Qg [] Qw Wh (Qg [(12,_)] Qw C0 (Qg [(13,_)] Qw Kl (Qg [(11,_),(14,_)] Qw Fz (Qp Iz (Qp C5 (AOL.nil (Aa (Gd (fun hc1=>?_) fun hc1=>?_))))))))))))))))
  . skip
    refine AW.seq (AW.region (Qp Bk (AOL.nil (Aa (AW.ret (Cn (Ap ?_)))))));refine Qr (Iq _) ?_
    try simp only [Dk,Aq] at *
    first
      | (simp only [Aj,Gu];(first | rw [if_pos hc1] | skip);first | done | rfl)
      | (try simp only [Bu,Bb] at *
         first
         | (simp only [Aj,Gu, *,A2,↓reduceIte,A5,A6,Bl,A7,Bo,Aq,Be,A9,Bz,Bs];done)
         | (simp [Aj,Gu, *];done)
         | (simp_all [Aj,Gu];done))
      | skip
  . skip
    refine AW.seq (AW.region (Qp Ml (Qp C0 (Qp Cl (Qp Cp (Qg [] Qw Wh (Qg [(22,_)] Qw C0 (Qg [(23,_)] Qw Dl (Qp Iz ?_)))))))));refine Qp Cp (Qg [] Qw Wh (Qg [(27,_)] Qw C0 (Qg [(28,_)] Qw Dl (Qp Iz (Qp C5 (AOL.nil (Aa (Gd (fun hc2=>?_) fun hc2=>?_))))))))
    . skip
      refine AW.seq (AW.region (Qp Bk (AOL.nil (Aa (AW.ret (Cn (Ap ?_)))))));refine Qr (Iq _) ?_
      try simp only [Dk,Aq] at *
      first
        | (simp only [Aj,Gu];(first | rw [iN hc1] | skip);(first | rw [if_pos hc2] | skip);first | done | rfl)
        | (try simp only [Bu,Bb] at *
           first
           | (simp only [Aj,Gu, *,A2,↓reduceIte,A5,A6,Bl,A7,Bo,Aq,Be,A9,Bz,Bs];done)
           | (simp [Aj,Gu, *];done)
           | (simp_all [Aj,Gu];done))
        | skip
    . skip
      refine AW.seq (AW.region (Qp Qf7 (Qp Qlt ?_)));refine Qp (R7 Ai rfl rfl rfl rfl) ?_;refine Qp Kl (Qp C5 (AOL.nil (Aa (Gd (fun hc3=>?_) fun hc3=>?_))))
      . skip
        refine AW.seq (AW.region (Qp Bk (AOL.nil (Aa (AW.ret (Cn (Ap ?_)))))));refine Qr (Iq _) ?_
        try simp only [Dk,Aq] at *
        first
          | (simp only [Aj,Gu];(first | rw [iN hc1] | skip);(first | rw [iN hc2] | skip);(first | rw [if_pos hc3] | skip);first | done | rfl)
          | (try simp only [Bu,Bb] at *
             first
             | (simp only [Aj,Gu, *,A2,↓reduceIte,A5,A6,Bl,A7,Bo,Aq,Be,A9,Bz,Bs];done)
             | (simp [Aj,Gu, *];done)
             | (simp_all [Aj,Gu];done))
          | skip
      . skip
        refine Rf (AW.seq (AW.region (Qp Bk (AOL.nil (Aa (AW.ret ?_))))));refine Qr (Iq _) ?_
        try simp only [Dk,Aq] at *
        first
          | (simp only [Aj,Gu];(first | rw [iN hc1] | skip);(first | rw [iN hc2] | skip);(first | rw [iN hc3] | skip);first | done | rfl)
          | (try simp only [Bu,Bb] at *
             first
             | (simp only [Aj,Gu, *,A2,↓reduceIte,A5,A6,Bl,A7,Bo,Aq,Be,A9,Bz,Bs];done)
             | (simp [Aj,Gu, *];done)
             | (simp_all [Aj,Gu];done))
          | skip
theorem c94 (v:Vl):Al Tryz.prog 183 [.agg (cV v)] (.int .i64 (Bx v)):=by
  refine F8 18 Tryz.func183 rfl fun H=>?_
  refine AW.seq (AW.region (Qp (Ji B5) (Qp Bk (AOL.nil (Aa (AW.seq (AW.seq (AW.region (Qp Ml (Qp C0 (AOL.nil (Aa (AW.block (AW.seq (AW.seq (AW.region (Qp Cl (Qp C5 (AOL.nil (Aa (Gd (fun hc1=>?_) fun hc1=>?_)))))))))))))))))))))
  . skip
    refine Dw (Gd (fun hc2=>?_) fun hc2=>?_)
    . skip
      refine AW.seq (AW.region (Qp Qf7 (Qp Qlt ?_)));refine Qp (Sa rfl rfl) ?_;refine AOL.nil (Aa (Gd (fun hc3=>?_) fun hc3=>?_))
      . skip
        refine AW.seq (AW.region (Qp Bk (AOL.nil (Aa (AW.ret (Cn (Ap ?_)))))));refine Qr (Iq _) ?_
        try simp only [Dk,Aq] at *
        first
          | (simp only [Aj,Bx];(first | rw [if_pos hc1] | skip);(first | rw [if_pos hc2] | skip);(first | rw [if_pos hc3] | skip);first | done | rfl)
          | (try simp only [Bu,Bb] at *
             first
             | (simp only [Aj,Bx, *,A2,↓reduceIte,A5,A6,Bl,A7,Bo,Aq,Be,A9,Bz,Bs];done)
             | (simp [Aj,Bx, *];done)
             | (simp_all [Aj,Bx];done))
          | skip
      . skip
        refine Rf (AW.seq (AW.region (Qp (Ee B5) ?_)));refine Qp (Qc rfl (sM v)) ?_;refine Qp Bk (AOL.nil (Aa (AW.ret ?_)));refine Qr (Iq _) ?_
        try simp only [Dk,Aq] at *
        first
          | (simp only [Aj,Bx];(first | rw [if_pos hc1] | skip);(first | rw [if_pos hc2] | skip);(first | rw [iN hc3] | skip);first | done | rfl)
          | (try simp only [Bu,Bb] at *
             first
             | (simp only [Aj,Bx, *,A2,↓reduceIte,A5,A6,Bl,A7,Bo,Aq,Be,A9,Bz,Bs];done)
             | (simp [Aj,Bx, *];done)
             | (simp_all [Aj,Bx];done))
          | skip
    . skip
      refine AW.seq (AW.region (Qp Cl (Qp C5 (AOL.nil (Aa (Gd (fun hc4=>?_) fun hc4=>?_))))))
      . skip
        refine AW.seq (AW.region (Qp Wh (Qp C0 (Qp Dl (AOL.nil (Aa (Gd (fun hc5=>?_) fun hc5=>?_)))))))
        . skip
          refine AW.seq (AW.region (Qp Bk (AOL.nil (Aa (AW.ret (Cn (Ap ?_)))))));refine Qr (Iq _) ?_
          try simp only [Dk,Aq] at *
          first
            | (simp only [Aj,Bx];(first | rw [if_pos hc1] | skip);(first | rw [iN hc2] | skip);(first | rw [if_pos hc4] | skip);(first | rw [if_pos hc5] | skip);first | done | rfl)
            | (try simp only [Bu,Bb] at *
               first
               | (simp only [Aj,Bx, *,A2,↓reduceIte,A5,A6,Bl,A7,Bo,Aq,Be,A9,Bz,Bs];done)
               | (simp [Aj,Bx, *];done)
               | (simp_all [Aj,Bx];done))
            | skip
        . skip
          refine Rf (AW.seq (AW.region (Qp (Ee B5) ?_)));refine Qp (Qc rfl (sM v)) ?_;refine Qp Bk (AOL.nil (Aa (AW.ret ?_)));refine Qr (Iq _) ?_
          try simp only [Dk,Aq] at *
          first
            | (simp only [Aj,Bx];(first | rw [if_pos hc1] | skip);(first | rw [iN hc2] | skip);(first | rw [if_pos hc4] | skip);(first | rw [iN hc5] | skip);first | done | rfl)
            | (try simp only [Bu,Bb] at *
               first
               | (simp only [Aj,Bx, *,A2,↓reduceIte,A5,A6,Bl,A7,Bo,Aq,Be,A9,Bz,Bs];done)
               | (simp [Aj,Bx, *];done)
               | (simp_all [Aj,Bx];done))
            | skip
      . skip
        refine AW.seq (AW.region (Qp Bk (AOL.nil (Aa (AW.ret (Cn (Ap ?_)))))));refine Qr (Iq _) ?_
        try simp only [Dk,Aq] at *
        first
          | (simp only [Aj,Bx];(first | rw [if_pos hc1] | skip);(first | rw [iN hc2] | skip);(first | rw [iN hc4] | skip);first | done | rfl)
          | (try simp only [Bu,Bb] at *
             first
             | (simp only [Aj,Bx, *,A2,↓reduceIte,A5,A6,Bl,A7,Bo,Aq,Be,A9,Bz,Bs];done)
             | (simp [Aj,Bx, *];done)
             | (simp_all [Aj,Bx];done))
          | skip
  . skip
    refine AW.region (Qp Cl (Qp C5 (AOL.nil (Aa (Gd (fun hc6=>?_) fun hc6=>?_)))))
    . skip
      refine AW.seq (AW.region (Qp Qf7 (Qp Qlt ?_)));refine Qp (Sa rfl rfl) ?_;refine AOL.nil (Aa (Gd (fun hc7=>?_) fun hc7=>?_))
      . skip
        refine AW.seq (AW.region (Qp Bk (AOL.nil (Aa (AW.ret (Cn (Ap ?_)))))));refine Qr (Iq _) ?_
        try simp only [Dk,Aq] at *
        first
          | (simp only [Aj,Bx];(first | rw [iN hc1] | skip);(first | rw [if_pos hc6] | skip);(first | rw [if_pos hc7] | skip);first | done | rfl)
          | (try simp only [Bu,Bb] at *
             first
             | (simp only [Aj,Bx, *,A2,↓reduceIte,A5,A6,Bl,A7,Bo,Aq,Be,A9,Bz,Bs];done)
             | (simp [Aj,Bx, *];done)
             | (simp_all [Aj,Bx];done))
          | skip
      . skip
        refine Rf (AW.seq (AW.region (Qp (Ee B5) ?_)));refine Qp (Qc rfl (sM v)) ?_;refine Qp Bk (AOL.nil (Aa (AW.ret ?_)));refine Qr (Iq _) ?_
        try simp only [Dk,Aq] at *
        first
          | (simp only [Aj,Bx];(first | rw [iN hc1] | skip);(first | rw [if_pos hc6] | skip);(first | rw [iN hc7] | skip);first | done | rfl)
          | (try simp only [Bu,Bb] at *
             first
             | (simp only [Aj,Bx, *,A2,↓reduceIte,A5,A6,Bl,A7,Bo,Aq,Be,A9,Bz,Bs];done)
             | (simp [Aj,Bx, *];done)
             | (simp_all [Aj,Bx];done))
          | skip
    . skip
      refine AW.seq (AW.region (Qp Cl (Qp C5 (AOL.nil (Aa (Gd (fun hc8=>?_) fun hc8=>?_))))))
      . skip
        refine AW.seq (AW.region (Qp Wh (Qp C0 (Qp Dl (AOL.nil (Aa (Gd (fun hc9=>?_) fun hc9=>?_)))))))
        . skip
          refine AW.seq (AW.region (Qp Bk (AOL.nil (Aa (AW.ret (Cn (Ap ?_)))))));refine Qr (Iq _) ?_
          try simp only [Dk,Aq] at *
          first
            | (simp only [Aj,Bx];(first | rw [iN hc1] | skip);(first | rw [iN hc6] | skip);(first | rw [if_pos hc8] | skip);(first | rw [if_pos hc9] | skip);first | done | rfl)
            | (try simp only [Bu,Bb] at *
               first
               | (simp only [Aj,Bx, *,A2,↓reduceIte,A5,A6,Bl,A7,Bo,Aq,Be,A9,Bz,Bs];done)
               | (simp [Aj,Bx, *];done)
               | (simp_all [Aj,Bx];done))
            | skip
        . skip
          refine Rf (AW.seq (AW.region (Qp (Ee B5) ?_)));refine Qp (Qc rfl (sM v)) ?_;refine Qp Bk (AOL.nil (Aa (AW.ret ?_)));refine Qr (Iq _) ?_
          try simp only [Dk,Aq] at *
          first
            | (simp only [Aj,Bx];(first | rw [iN hc1] | skip);(first | rw [iN hc6] | skip);(first | rw [if_pos hc8] | skip);(first | rw [iN hc9] | skip);first | done | rfl)
            | (try simp only [Bu,Bb] at *
               first
               | (simp only [Aj,Bx, *,A2,↓reduceIte,A5,A6,Bl,A7,Bo,Aq,Be,A9,Bz,Bs];done)
               | (simp [Aj,Bx, *];done)
               | (simp_all [Aj,Bx];done))
            | skip
      . skip
        refine AW.seq (AW.region (Qp Bk (AOL.nil (Aa (AW.ret (Cn (Ap ?_)))))));refine Qr (Iq _) ?_
        try simp only [Dk,Aq] at *
        first
          | (simp only [Aj,Bx];(first | rw [iN hc1] | skip);(first | rw [iN hc6] | skip);(first | rw [iN hc8] | skip);first | done | rfl)
          | (try simp only [Bu,Bb] at *
             first
             | (simp only [Aj,Bx, *,A2,↓reduceIte,A5,A6,Bl,A7,Bo,Aq,Be,A9,Bz,Bs];done)
             | (simp [Aj,Bx, *];done)
             | (simp_all [Aj,Bx];done))
          | skip
theorem c75 (b:Bool):Al Tryz.prog 187 [.bool b] (.agg (cV (If b))):=by
  refine F8 8 Tryz.func187 rfl fun H=>?_
  refine AW.seq (AW.region (Hy L7 fun b2=>AOL.nil (Aa (AW.seq (AW.region (Qp (Lg B5) (Hy L7 fun b3=>?_)))))));refine Eu 0 B5 (_::_::_) (AOL.nil (Aa (AW.seq (AW.seq (AW.region (Qp Cp (AOL.nil (Aa (Gd (fun hc1=>?_) fun hc1=>?_)))))))))
  . skip
    refine AW.region (Qp sC ?_);refine Eu 0 B5 (_::_::_) ?_;refine AOL.nil (Aa (AW.seq (AW.region ?_)));refine rP 0 B5 rfl ?_;refine Eu 1 B5 (_::_::_) ?_;refine AOL.nil (Aa (AW.ret ?_));refine Yx [.agg B5] (Zb 1) S2 ?_
    try simp only [Dk,Aq] at *
    first
      | (simp only [Aj,If,cV];(first | rw [if_pos hc1] | skip);first | done | rfl)
      | (try simp only [Bu,Bb] at *
         first
         | (simp only [Aj,If,cV, *,A2,↓reduceIte,A5,A6,Bl,A7,Bo,Aq,Be,A9,Bz,Bs];done)
         | (simp [Aj,If,cV, *];done)
         | (simp_all [Aj,If,cV];done))
      | skip
  . skip
    refine Dw (AW.seq (AW.region ?_));refine rP 0 B5 rfl ?_;refine Eu 1 B5 (_::_::_) ?_;refine AOL.nil (Aa (AW.ret ?_));refine Yx [.agg B5] (Zb 1) S2 ?_
    try simp only [Dk,Aq] at *
    first
      | (simp only [Aj,If,cV];(first | rw [iN hc1] | skip);first | done | rfl)
      | (try simp only [Bu,Bb] at *
         first
         | (simp only [Aj,If,cV, *,A2,↓reduceIte,A5,A6,Bl,A7,Bo,Aq,Be,A9,Bz,Bs];done)
         | (simp [Aj,If,cV, *];done)
         | (simp_all [Aj,If,cV];done))
      | skip
theorem xY (b:Bool):Al Tryz.prog 158 [.bool b] (.agg (cV (If b))):=by
  refine F8 5 Tryz.func158 rfl fun H=>?_
  refine AW.seq (AW.region (Hy L7 fun b2=>AOL.nil (Aa (AW.seq (AW.region (Qp Cp (Qp (Qc rfl (c75 b)) ?_)))))));refine Eu 0 B5 (_::_) (AOL.nil (Aa (AW.ret ?_)));refine Yx [.agg B5] (Zb 0) S1 ?_
  try simp only [Dk,Aq] at *
  first
    | (simp only [Aj,If,cV];skip;first | done | rfl)
    | (try simp only [Bu,Bb] at *
       first
       | (simp only [Aj,If,cV, *,A2,↓reduceIte,A5,A6,Bl,A7,Bo,Aq,Be,A9,Bz,Bs];done)
       | (simp [Aj,If,cV, *];done)
       | (simp_all [Aj,If,cV];done))
    | skip
theorem c79 (v:Vl):Al Tryz.prog 201 [.agg (cV v)] (.int .i64 (Bx v)):=by
  refine F8 47 Tryz.func201 rfl fun H=>?_
  refine AW.seq (AW.region (Qp (Ji B5) (Qp Bk (AOL.nil (Aa (AW.seq (AW.seq (AW.region (Qp Ml (Qp C0 (Qp Fw (Qp Cp (Qg [] Qw Ml (Qg [(7,_)] Qw C0 (Qg [(8,_)] Qw Kl (Qp Fz (AOL.nil (Aa (Gd (fun hc1=>?_) fun hc1=>?_)))))))))))))))))))
  . skip
    refine AW.seq (AW.region (Qp Bk (AOL.nil (Aa (Nm ?_)))));refine Qr (Iq _) ?_;rw [<-Ir]
    try simp only [Dk,Aq] at *
    first
      | (simp only [Aj,C1];(first | rw [if_pos hc1] | skip);first | done | rfl)
      | (try simp only [Bu,Bb] at *
         first
         | (simp only [Aj,C1, *,A2,↓reduceIte,A5,A6,Bl,A7,Bo,Aq,Be,A9,Bz,Bs];done)
         | (simp [Aj,C1, *];done)
         | (simp_all [Aj,C1];done))
      | skip
  . skip
    refine Dw (AW.seq (AW.seq (AW.region (Qp Ml (Qp C0 (Qp Cl (AOL.nil (Aa (Gd (fun hc2=>?_) fun hc2=>?_)))))))))
    . skip
      refine AW.seq (AW.seq (AW.region (Qp Wh (Qp C0 (Qp Dl (AOL.nil (Aa (Gd (fun hc3=>?_) fun hc3=>?_))))))))
      . skip
        refine AW.seq (AW.region (Qp Bk (AOL.nil (Aa (Nm (Ap ?_))))));refine Qr (Iq _) ?_;rw [<-Ir]
        try simp only [Dk,Aq] at *
        first
          | (simp only [Aj,C1];(first | rw [iN hc1] | skip);(first | rw [if_pos hc2] | skip);(first | rw [if_pos hc3] | skip);first | done | rfl)
          | (try simp only [Bu,Bb] at *
             first
             | (simp only [Aj,C1, *,A2,↓reduceIte,A5,A6,Bl,A7,Bo,Aq,Be,A9,Bz,Bs];done)
             | (simp [Aj,C1, *];done)
             | (simp_all [Aj,C1];done))
          | skip
      . skip
        refine Dw (AW.seq (AW.seq (AW.region (Qp Qf7 (Qp Qlt ?_)))));refine Qp (R7 Ai rfl rfl rfl rfl) ?_;refine Qp Kl (AOL.nil (Aa (Gd (fun hc4=>?_) fun hc4=>?_)))
        . skip
          refine AW.seq (AW.region (Qp Bk (AOL.nil (Aa (Nm (Ap ?_))))));refine Qr (Iq _) ?_;rw [<-Ir]
          try simp only [Dk,Aq] at *
          first
            | (simp only [Aj,C1];(first | rw [iN hc1] | skip);(first | rw [if_pos hc2] | skip);(first | rw [iN hc3] | skip);(first | rw [if_pos hc4] | skip);first | done | rfl)
            | (try simp only [Bu,Bb] at *
               first
               | (simp only [Aj,C1, *,A2,↓reduceIte,A5,A6,Bl,A7,Bo,Aq,Be,A9,Bz,Bs];done)
               | (simp [Aj,C1, *];done)
               | (simp_all [Aj,C1];done))
            | skip
        . skip
          refine Dw (AW.seq (AW.region (Qp Bk (AOL.nil (Aa (Nm ?_))))));refine Qr (Iq _) ?_;rw [<-Ir]
          try simp only [Dk,Aq] at *
          first
            | (simp only [Aj,C1];(first | rw [iN hc1] | skip);(first | rw [if_pos hc2] | skip);(first | rw [iN hc3] | skip);(first | rw [iN hc4] | skip);first | done | rfl)
            | (try simp only [Bu,Bb] at *
               first
               | (simp only [Aj,C1, *,A2,↓reduceIte,A5,A6,Bl,A7,Bo,Aq,Be,A9,Bz,Bs];done)
               | (simp [Aj,C1, *];done)
               | (simp_all [Aj,C1];done))
            | skip
    . skip
      refine Dw (AW.seq (AW.seq (AW.region (Qp Qf7 (Qp Qlt ?_)))));refine Qp (Sa rfl rfl) ?_;refine AOL.nil (Aa (Gd (fun hc5=>?_) fun hc5=>?_))
      . skip
        refine AW.seq (AW.region (Qp Bk (AOL.nil (Aa (Nm ?_)))));refine Qr (Iq _) ?_;rw [<-Ir]
        try simp only [Dk,Aq] at *
        first
          | (simp only [Aj,C1];(first | rw [iN hc1] | skip);(first | rw [iN hc2] | skip);(first | rw [if_pos hc5] | skip);first | done | rfl)
          | (try simp only [Bu,Bb] at *
             first
             | (simp only [Aj,C1, *,A2,↓reduceIte,A5,A6,Bl,A7,Bo,Aq,Be,A9,Bz,Bs];done)
             | (simp [Aj,C1, *];done)
             | (simp_all [Aj,C1];done))
          | skip
      . skip
        refine Dw (AW.seq (AW.seq (AW.region (Qp Ml (Qp C0 (Qp Cl (Qp Cp (Qg [] Qw Wh (Qg [(28,_)] Qw C0 ?_)))))))));refine Qg [(29,_)] Qw Fw (Qg [(30,_)] Qw Cp (Qg [] Qw Wh (Qg [(32,_)] Qw C0 (Qg [(33,_)] Qw Kl (Qg [(31,_),(34,_)] Qw Fz (Qp Iz (Qp Cp (Qg [] Qw Wh (Qg [(38,_)] Qw C0 ?_)))))))));refine Qg [(39,_)] Qw Fw (Qp Fz (Qp Cp (Qg [] Qw Wh (Qg [(43,_)] Qw C0 (Qg [(44,_)] Qw Kl (Qp Fz (AOL.nil (Aa (Gd (fun hc6=>?_) fun hc6=>?_)))))))))
        . skip
          refine AW.seq (AW.region (Qp Bk (AOL.nil (Aa (Nm ?_)))));refine Qr (Iq _) ?_;rw [<-Ir]
          try simp only [Dk,Aq] at *
          first
            | (simp only [Aj,C1];(first | rw [iN hc1] | skip);(first | rw [iN hc2] | skip);(first | rw [iN hc5] | skip);(first | rw [if_pos hc6] | skip);first | done | rfl)
            | (try simp only [Bu,Bb] at *
               first
               | (simp only [Aj,C1, *,A2,↓reduceIte,A5,A6,Bl,A7,Bo,Aq,Be,A9,Bz,Bs];done)
               | (simp [Aj,C1, *];done)
               | (simp_all [Aj,C1];done))
            | skip
        . skip
          refine Dw (AW.seq (AW.region (Qp Bk (AOL.nil (Aa (AW.ret ?_))))));refine Qr (Iq _) ?_;rw [<-Ir]
          try simp only [Dk,Aq] at *
          first
            | (simp only [Aj,C1];(first | rw [iN hc1] | skip);(first | rw [iN hc2] | skip);(first | rw [iN hc5] | skip);(first | rw [iN hc6] | skip);first | done | rfl)
            | (try simp only [Bu,Bb] at *
               first
               | (simp only [Aj,C1, *,A2,↓reduceIte,A5,A6,Bl,A7,Bo,Aq,Be,A9,Bz,Bs];done)
               | (simp [Aj,C1, *];done)
               | (simp_all [Aj,C1];done))
            | skip
theorem c114 (k:Int):Al Tryz.prog 255 [.int .i64 k] (.bool (Gg k)):=by
  refine F8 9 Tryz.func255 rfl fun H=>?_
  refine AW.seq (AW.region (Qp C5 (AOL.nil (Aa (AW.seq (AW.region (Qp Ca (Qp Nj (Qp Cp (Qg [] Qw Ca (Qg [(6,_)] Qw Z0 (Qp Iz (Qp C5 (AOL.nil (Aa (AW.ret (Qr (.bool _) ?_)))))))))))))))))
  try simp only [Dk,Aq] at *
  first
    | (simp only [Aj,Gg];skip;first | done | rfl)
    | (try simp only [Bu,Bb] at *
       first
       | (simp only [Aj,Gg, *,A2,↓reduceIte,A5,A6,Bl,A7,Bo,Aq,Be,A9,Bz,Bs];done)
       | (simp [Aj,Gg, *];done)
       | (simp_all [Aj,Gg];done))
    | skip
theorem c124 (k:Int)(v:Vl):Al Tryz.prog 265 [.int .i64 k,.agg (cV v)] (.bool (Mp k v)):=by
  refine F8 20 Tryz.func265 rfl fun H=>?_
  refine AW.seq (AW.region (Qp (Ji B5) (Qp C5 (AOL.nil (Aa (AW.seq (AW.region (Qp Ml (Qp C0 ?_)))))))));refine Qp Cl (Qp Cp (Qg [] Qw Ca (Qg [(9,_)] Qw Dl (Qg [(10,_)] Qw Cp (Qg [] Qw Ca (Qg [(12,_)] Qw Dl (Qg [(11,_),(13,_)] Qw Iz (Qg [(14,_)] Qw Cp (Qg [] Qw Ca ?_)))))))));refine Qg [(16,_)] Qw Dl (Qg [(15,_),(17,_)] Qw Iz (Qp Fz (Qp C5 (AOL.nil (Aa (AW.ret (Qr (.bool _) ?_)))))))
  try simp only [Dk,Aq] at *
  first
    | (simp only [Aj,Mp];skip;first | done | rfl)
    | (try simp only [Bu,Bb] at *
       first
       | (simp only [Aj,Mp, *,A2,↓reduceIte,A5,A6,Bl,A7,Bo,Aq,Be,A9,Bz,Bs];done)
       | (simp [Aj,Mp, *];done)
       | (simp_all [Aj,Mp];done))
    | skip
theorem c101 (k:Int)(v:Vl):Al Tryz.prog 202 [.int .i64 k,.agg (cV v)] (.bool (Ks k v)):=by
  refine F8 20 Tryz.func202 rfl fun H=>?_
  refine AW.seq (AW.region (Qp (Ji B5) (Qp C5 (AOL.nil (Aa (AW.seq (AW.region (Qp Ml (Qp C0 ?_)))))))));refine Qp Cl (Qp Cp (Qg [] Qw Ca (Qg [(9,_)] Qw Cl (Qp Fz (Qp Cp (Qg [] Qw Ca (Qg [(13,_)] Qw Cl (Qp Fz (Qp Cp (Qg [] Qw Ca (Qg [(17,_)] Qw Cl (Qp Fz (Qp C5 (AOL.nil (Aa (AW.ret (Qr (.bool _) ?_)))))))))))))))))
  try simp only [Dk,Aq] at *
  first
    | (simp only [Aj,Ks];skip;first | done | rfl)
    | (try simp only [Bu,Bb] at *
       first
       | (simp only [Aj,Ks, *,A2,↓reduceIte,A5,A6,Bl,A7,Bo,Aq,Be,A9,Bz,Bs];done)
       | (simp [Aj,Ks, *];done)
       | (simp_all [Aj,Ks];done))
    | skip
theorem c99 (k:Int)(v:Vl):Al Tryz.prog 184 [.int .i64 k,.agg (cV v)] (.bool (Kq k v)):=by
  refine F8 16 Tryz.func184 rfl fun H=>?_
  refine AW.seq (AW.region (Qp (Ji B5) (Qp C5 (AOL.nil (Aa (AW.seq (AW.region (Qp Ml (Qp C0 (Qp Cl (Qp Cp (Qg [] Qw Ca (Qg [(9,_)] Qw Cl (Qp Fz (Qp Cp (Qg [] Qw Ca (Qg [(13,_)] Qw Cl (Qp Fz (Qp C5 (AOL.nil (Aa (AW.ret (Qr (.bool _) ?_)))))))))))))))))))))))
  try simp only [Dk,Aq] at *
  first
    | (simp only [Aj,Kq];skip;first | done | rfl)
    | (try simp only [Bu,Bb] at *
       first
       | (simp only [Aj,Kq, *,A2,↓reduceIte,A5,A6,Bl,A7,Bo,Aq,Be,A9,Bz,Bs];done)
       | (simp [Aj,Kq, *];done)
       | (simp_all [Aj,Kq];done))
    | skip
theorem c119 (k:Int)(v:Vl):Al Tryz.prog 260 [.int .i64 k,.agg (cV v)] (.agg (cV (Jd k v))):=by
  refine F8 9 Tryz.func260 rfl fun H=>?_
  refine AW.seq (AW.region (Qp (Ji B5) (Hy L7 fun b4=>AOL.nil (Aa (AW.seq (AW.seq (AW.region (Qp Ca (Qp Cl (AOL.nil (Aa (Gd (fun hc1=>?_) fun hc1=>?_))))))))))))
  . skip
    refine AW.seq (AW.region (Qp (Lg B5) ?_));refine Eu 0 B5 (_::_) ?_;refine AOL.nil (Aa (Nm ?_));refine Yx [.agg B5] (Zb 0) S1 ?_
    try simp only [Dk,Aq] at *
    first
      | (simp only [Aj,Jd,cV,v0];(first | rw [if_pos hc1] | skip);first | done | rfl)
      | (try simp only [Bu,Bb] at *
         first
         | (simp only [Aj,Jd,cV,v0, *,A2,↓reduceIte,A5,A6,Bl,A7,Bo,Aq,Be,A9,Bz,Bs];done)
         | (simp [Aj,Jd,cV,v0, *];done)
         | (simp_all [Aj,Jd,cV,v0];done))
      | skip
  . skip
    refine Dw (AW.seq (AW.region (Qp (Ee B5) ?_)));refine Eu 0 B5 (_::_) ?_;refine AOL.nil (Aa (AW.ret ?_));refine Yx [.agg B5] (Zb 0) S1 ?_
    try simp only [Dk,Aq] at *
    first
      | (simp only [Aj,Jd,cV,v0];(first | rw [iN hc1] | skip);first | done | rfl)
      | (try simp only [Bu,Bb] at *
         first
         | (simp only [Aj,Jd,cV,v0, *,A2,↓reduceIte,A5,A6,Bl,A7,Bo,Aq,Be,A9,Bz,Bs];done)
         | (simp [Aj,Jd,cV,v0, *];done)
         | (simp_all [Aj,Jd,cV,v0];done))
      | skip
theorem c115 (k:Int)(v:Vl):Al Tryz.prog 256 [.int .i64 k,.agg (cV v)] (.int .i64 (F0 k v)):=by
  refine F8 15 Tryz.func256 rfl fun H=>?_
  refine AW.seq (AW.region (Qp (Ji B5) (Qp Bk (AOL.nil (Aa (AW.seq (AW.seq (AW.region (Qp (Ee B5) (Qp (Qc rfl (c94 v)) (Qp Bk (AOL.nil (Aa (AW.seq (AW.region (Qp Ca (Qp Dl (AOL.nil (Aa (Gd (fun hc1=>?_) fun hc1=>?_))))))))))))))))))))
  . skip
    refine AW.seq (AW.region (Qp Ca (Qp Bk (AOL.nil (Aa (Nm ?_))))));refine Qr (Iq _) ?_
    try simp only [Dk,Aq] at *
    first
      | (simp only [Aj,F0];(first | rw [if_pos hc1] | skip);first | done | rfl)
      | (try simp only [Bu,Bb] at *
         first
         | (simp only [Aj,F0, *,A2,↓reduceIte,A5,A6,Bl,A7,Bo,Aq,Be,A9,Bz,Bs];done)
         | (simp [Aj,F0, *];done)
         | (simp_all [Aj,F0];done))
      | skip
  . skip
    refine Dw (AW.seq (AW.seq (AW.region (Qp Ca (Qp (Ee B5) ?_)))));refine Qp (Qc rfl (c124 k v)) ?_;refine Qp Ik (AOL.nil (Aa (Gd (fun hc2=>?_) fun hc2=>?_)))
    . skip
      refine AW.seq (AW.region (Qp Bk (AOL.nil (Aa (Nm ?_)))));refine Qr (Iq _) ?_
      try simp only [Dk,Aq] at *
      first
        | (simp only [Aj,F0];(first | rw [iN hc1] | skip);(first | rw [if_pos hc2] | skip);first | done | rfl)
        | (try simp only [Bu,Bb] at *
           first
           | (simp only [Aj,F0, *,A2,↓reduceIte,A5,A6,Bl,A7,Bo,Aq,Be,A9,Bz,Bs];done)
           | (simp [Aj,F0, *];done)
           | (simp_all [Aj,F0];done))
        | skip
    . skip
      refine Dw (AW.seq (AW.region (Qp Bk (AOL.nil (Aa (AW.ret ?_))))));refine Qr (Iq _) ?_
      try simp only [Dk,Aq] at *
      first
        | (simp only [Aj,F0];(first | rw [iN hc1] | skip);(first | rw [iN hc2] | skip);first | done | rfl)
        | (try simp only [Bu,Bb] at *
           first
           | (simp only [Aj,F0, *,A2,↓reduceIte,A5,A6,Bl,A7,Bo,Aq,Be,A9,Bz,Bs];done)
           | (simp [Aj,F0, *];done)
           | (simp_all [Aj,F0];done))
        | skip
theorem c82 (e:Ex):Al Tryz.prog 156 [.agg (cE e)] (.int .i64 (G3 e)):=by
  refine F8 32 Tryz.func156 rfl fun H=>?_
  refine AW.seq (AW.region (Qp Th (Qp Bk (AOL.nil (Aa (AW.seq (AW.seq (AW.region (Qp Ml (Qp (Ee B5) (Qp (Qc rfl (c94 e.val)) (Qp Bk (AOL.nil (Aa (AW.seq (AW.region (Qp Ca (Qp Dl (AOL.nil (Aa (Gd (fun hc1=>?_) fun hc1=>?_)))))))))))))))))))))
  . skip
    refine AW.seq (AW.region (Qp Ca (Qp Bk (AOL.nil (Aa (Nm ?_))))));refine Qr (Iq _) ?_
    try simp only [Dk,Aq] at *
    first
      | (simp only [Aj,G3];(first | rw [if_pos hc1] | skip);first | done | rfl)
      | (try simp only [Bu,Bb] at *
         first
         | (simp only [Aj,G3,isV0, *,A2,↓reduceIte,A5,A6,Bl,A7,Bo,Aq,Be,A9,Bz,Bs];done)
         | (simp [Aj,G3,isV0, *];done)
         | (simp_all [Aj,G3,isV0];done))
      | skip
  . skip
    refine Dw (AW.seq (AW.seq (AW.region (Qp R5 (Qp C0 (Qp Cl (Qp Cp (Qg [] Qw Qq (Qg [(14,_)] Qw C0 ?_)))))))));refine Qg [] Qw Ml (Qg [(16,_)] Qw (Ee B5) ?_);refine Qg [(15,_),(17,_)] Yw (Qc rfl (c99 e.kind e.val)) ?_;refine Qg [(18,_)] Qw Ik (Qg [(19,_)] Qw Cp (Qg [] Qw Qq (Qg [(21,_)] Qw C0 (Qg [(22,_)] Qw Cl (Qg [(23,_)] Qw Cp (Qg [] Qw Ml (Qg [(25,_)] Qw (Ee B5) (Qg [] Qw (Lg B5) ?_))))))));refine Qg [(26,_),(27,_)] Yw (Hs Ai rfl rfl rfl rfl rfl) ?_;refine Qg [(24,_),(28,_)] Qw Iz (Qg [(20,_),(29,_)] Qw Fz (Qp Iz (AOL.nil (Aa (Gd (fun hc2=>?_) fun hc2=>?_)))))
    . skip
      refine AW.seq (AW.region (Qp Bk (AOL.nil (Aa (Nm ?_)))));refine Qr (Iq _) ?_
      try simp only [Dk,Aq] at *
      first
        | (simp only [Aj,G3];(first | rw [iN hc1] | skip);(first | rw [if_pos hc2] | skip);first | done | rfl)
        | (try simp only [Bu,Bb] at *
           first
           | (simp only [Aj,G3,isV0, *,A2,↓reduceIte,A5,A6,Bl,A7,Bo,Aq,Be,A9,Bz,Bs];done)
           | (simp [Aj,G3,isV0, *];done)
           | (simp_all [Aj,G3,isV0];done))
        | skip
    . skip
      refine Dw (AW.seq (AW.region (Qp Bk (AOL.nil (Aa (AW.ret ?_))))));refine Qr (Iq _) ?_
      try simp only [Dk,Aq] at *
      first
        | (simp only [Aj,G3];(first | rw [iN hc1] | skip);(first | rw [iN hc2] | skip);first | done | rfl)
        | (try simp only [Bu,Bb] at *
           first
           | (simp only [Aj,G3,isV0, *,A2,↓reduceIte,A5,A6,Bl,A7,Bo,Aq,Be,A9,Bz,Bs];done)
           | (simp [Aj,G3,isV0, *];done)
           | (simp_all [Aj,G3,isV0];done))
        | skip
theorem c47 (e:Ex):Al Tryz.prog 120 [.agg (cE e)] (.int .i64 (Cu e)):=by
  refine F8 114 Tryz.func120 rfl fun H=>?_
  refine AW.seq (AW.region (Qp Th (Qp Bk (AOL.nil (Aa (AW.seq (AW.region (Qp R5 (Qp C0 (Qp (Qc rfl (c81 e.op)) (Qp Z1 (Qp Uq (Qp jM (Qp Bk (Qp C5 (AOL.nil (Aa (AW.seq (AW.seq (AW.region (Qp Cp (Qp Ik (AOL.nil (Aa (Gd (fun hc1=>?_) fun hc1=>?_)))))))))))))))))))))))))
  . skip
    refine AW.seq (AW.region (Qp Bk (AOL.nil (Aa (Nm ?_)))));refine Qr (Iq _) ?_
    try simp only [Dk,Aq] at *
    first
      | (simp only [Aj,Cu,By];(first | rw [if_pos hc1] | skip);first | done | rfl)
      | (try simp only [Bu,Bb] at *
         first
         | (simp only [Aj,Cu,By,isV0, *,A2,↓reduceIte,A5,A6,Bl,A7,Bo,Aq,Be,A9,Bz,Bs];done)
         | (simp [Aj,Cu,By,isV0, *];done)
         | (simp_all [Aj,Cu,By,isV0];done))
      | skip
  . skip
    refine Dw (AW.seq (AW.seq (AW.region (Qp T3 (Qp J7 ?_)))));refine Qp (Ki e.args.length rfl rfl (by simp)) ?_;refine Qp Ca (Qp Dl (AOL.nil (Aa (Gd (fun hc2=>?_) fun hc2=>?_))))
    . skip
      refine AW.seq (AW.region (Qp Bk (AOL.nil (Aa (Nm ?_)))));refine Qr (Iq _) ?_
      try simp only [Dk,Aq] at *
      first
        | (simp only [Aj,Cu,By];(first | rw [iN hc1] | skip);(first | rw [if_pos hc2] | skip);first | done | rfl)
        | (try simp only [Bu,Bb] at *
           first
           | (simp only [Aj,Cu,By,isV0, *,A2,↓reduceIte,A5,A6,Bl,A7,Bo,Aq,Be,A9,Bz,Bs];done)
           | (simp [Aj,Cu,By,isV0, *];done)
           | (simp_all [Aj,Cu,By,isV0];done))
        | skip
    . skip
      refine Dw (AW.seq (AW.region (Qp R5 (Qp C0 ?_))));refine Qp (Qc rfl (gJ e.op)) ?_;refine Qp Z1 (Qp jM (Qp jM (Qp C5 (Qp C5 (AOL.nil (Aa (AW.seq (AW.seq (AW.region ?_)))))))));refine Qp Cp (Qp Cp (Qg [] Qw Wg (Qg [(31,_)] Qw C0 (Qg [(32,_)] Qw Fw (Qg [(33,_)] Qw Cp (Qg [] Qw Wg (Qg [(35,_)] Qw C0 (Qg [(36,_)] Qw Nj (Qg [(34,_),(37,_)] Qw Fz ?_)))))))));refine Qp Iz (Qp Cp (Qg [] Qw Cp (Qg [(41,_)] Qw Cp (Qg [] Qw T4 (Qg [(43,_)] Qw C0 (Qg [(44,_)] Qw Fw (Qg [(45,_)] Qw Cp (Qg [] Qw T4 (Qg [(47,_)] Qw C0 ?_)))))))));refine Qg [(48,_)] Qw Nj (Qg [(46,_),(49,_)] Qw Fz (Qg [(42,_),(50,_)] Qw Iz (Qp Fz (AOL.nil (Aa (Gd (fun hc3=>?_) fun hc3=>?_))))))
      . skip
        refine AW.seq (AW.region (Qp Bk (AOL.nil (Aa (Nm ?_)))));refine Qr (Iq _) ?_
        try simp only [Dk,Aq] at *
        first
          | (simp only [Aj,Cu,By];(first | rw [iN hc1] | skip);(first | rw [iN hc2] | skip);(first | rw [if_pos hc3] | skip);first | done | rfl)
          | (try simp only [Bu,Bb] at *
             first
             | (simp only [Aj,Cu,By,isV0, *,A2,↓reduceIte,A5,A6,Bl,A7,Bo,Aq,Be,A9,Bz,Bs];done)
             | (simp [Aj,Cu,By,isV0, *];done)
             | (simp_all [Aj,Cu,By,isV0];done))
          | skip
      . skip
        refine Dw (AW.seq (AW.region (Qp R5 (Qp C0 (Qp Cl (Qp C5 (AOL.nil (Aa (AW.seq ?_)))))))));refine AW.seq (AW.region (Qp Cp (Qp Cp (Qg [] Qw Qq (Qg [(58,_)] Qw C0 (Qg [(59,_)] Qw Fw (Qg [(60,_)] Qw Cp (Qg [] Qw Qq (Qg [(62,_)] Qw C0 ?_)))))))));refine Qg [(63,_)] Qw Kl (Qg [(61,_),(64,_)] Qw Fz (Qp Iz (AOL.nil (Aa (Gd (fun hc4=>?_) fun hc4=>?_)))))
        . skip
          refine AW.seq (AW.region (Qp Bk (AOL.nil (Aa (Nm ?_)))));refine Qr (Iq _) ?_
          try simp only [Dk,Aq] at *
          first
            | (simp only [Aj,Cu,By];(first | rw [iN hc1] | skip);(first | rw [iN hc2] | skip);(first | rw [iN hc3] | skip);(first | rw [if_pos hc4] | skip);first | done | rfl)
            | (try simp only [Bu,Bb] at *
               first
               | (simp only [Aj,Cu,By,isV0, *,A2,↓reduceIte,A5,A6,Bl,A7,Bo,Aq,Be,A9,Bz,Bs];done)
               | (simp [Aj,Cu,By,isV0, *];done)
               | (simp_all [Aj,Cu,By,isV0];done))
            | skip
        . skip
          refine Dw (AW.seq (AW.region (Qp Cp (Qp Cp (Qg [] Qw R5 (Qg [(69,_)] Qw C0 (Qg [(70,_)] Qw Cl (Qp Fz (Qp C5 ?_)))))))));refine AOL.nil (Aa (AW.seq (AW.seq (AW.region (Qp Cp (AOL.nil (Aa (Gd (fun hc5=>?_) fun hc5=>?_))))))))
          . skip
            refine AW.seq (AW.region (Qp Ld ?_));refine Qp (Qc rfl (c82 e)) ?_;refine Qp Bk (AOL.nil (Aa (AW.seq (AW.region (Qp Ca (Qp Dl (AOL.nil (Aa (Gd (fun hc6=>?_) fun hc6=>?_)))))))))
            . skip
              refine AW.seq (AW.region (Qp Ca (Qp Bk (AOL.nil (Aa (Nm ?_))))));refine Qr (Iq _) ?_
              try simp only [Dk,Aq] at *
              first
                | (simp only [Aj,Cu,By];(first | rw [iN hc1] | skip);(first | rw [iN hc2] | skip);(first | rw [iN hc3] | skip);(first | rw [iN hc4] | skip);(first | rw [if_pos hc5] | skip);(first | rw [if_pos hc6] | skip);first | done | rfl)
                | (try simp only [Bu,Bb] at *
                   first
                   | (simp only [Aj,Cu,By,isV0, *,A2,↓reduceIte,A5,A6,Bl,A7,Bo,Aq,Be,A9,Bz,Bs];done)
                   | (simp [Aj,Cu,By,isV0, *];done)
                   | (simp_all [Aj,Cu,By,isV0];done))
                | skip
            . skip
              refine Dw (AW.seq (AW.seq (AW.region (Qp Cp (Qp Ik (Qp Cp (Qg [] Qw Wg (Qg [(82,_)] Qw C0 (Qg [(83,_)] Qw Dl ?_)))))))));refine Qp Iz (Qp Cp (Qg [] Qw Cp (Qg [(87,_)] Qw Ik (Qg [(88,_)] Qw Cp (Qg [] Qw T4 (Qg [(90,_)] Qw C0 (Qg [(91,_)] Qw Dl (Qg [(89,_),(92,_)] Qw Iz (Qp Fz ?_)))))))));refine Qp Cp (Qg [] Qw Cp (Qg [(96,_)] Qw Ik (Qg [(97,_)] Qw Cp (Qg [] Qw Qq (Qg [(99,_)] Qw C0 (Qg [(100,_)] Qw Dl (Qg [(98,_),(101,_)] Qw Iz (Qp Fz (Qp Cp ?_)))))))));refine Qg [] Qw Cp (Qg [(105,_)] Qw Ik (Qg [(106,_)] Qw Cp (Qg [] Qw Ml (Qg [(108,_)] Qw (Ee B5) (Qg [] Qw (Lg B5) ?_)))));refine Qg [(109,_),(110,_)] Yw (Hs Ai rfl rfl rfl rfl rfl) ?_;refine Qg [(107,_),(111,_)] Qw Iz (Qp Fz (AOL.nil (Aa (Gd (fun hc7=>?_) fun hc7=>?_))))
              . skip
                refine AW.seq (AW.region (Qp Bk (AOL.nil (Aa (Nm ?_)))));refine Qr (Iq _) ?_
                try simp only [Dk,Aq] at *
                first
                  | (simp only [Aj,Cu,By];(first | rw [iN hc1] | skip);(first | rw [iN hc2] | skip);(first | rw [iN hc3] | skip);(first | rw [iN hc4] | skip);(first | rw [if_pos hc5] | skip);(first | rw [iN hc6] | skip);(first | rw [if_pos hc7] | skip);first | done | rfl)
                  | (try simp only [Bu,Bb] at *
                     first
                     | (simp only [Aj,Cu,By,isV0, *,A2,↓reduceIte,A5,A6,Bl,A7,Bo,Aq,Be,A9,Bz,Bs];done)
                     | (simp [Aj,Cu,By,isV0, *];done)
                     | (simp_all [Aj,Cu,By,isV0];done))
                  | skip
              . skip
                refine Dw (AW.seq (AW.region (Qp Bk (AOL.nil (Aa (AW.ret ?_))))));refine Qr (Iq _) ?_
                try simp only [Dk,Aq] at *
                first
                  | (simp only [Aj,Cu,By];(first | rw [iN hc1] | skip);(first | rw [iN hc2] | skip);(first | rw [iN hc3] | skip);(first | rw [iN hc4] | skip);(first | rw [if_pos hc5] | skip);(first | rw [iN hc6] | skip);(first | rw [iN hc7] | skip);first | done | rfl)
                  | (try simp only [Bu,Bb] at *
                     first
                     | (simp only [Aj,Cu,By,isV0, *,A2,↓reduceIte,A5,A6,Bl,A7,Bo,Aq,Be,A9,Bz,Bs];done)
                     | (simp [Aj,Cu,By,isV0, *];done)
                     | (simp_all [Aj,Cu,By,isV0];done))
                  | skip
          . skip
            refine Dw (AW.seq (AW.seq (AW.region (Qp Cp (Qp Ik (Qp Cp (Qg [] Qw Wg (Qg [(82,_)] Qw C0 (Qg [(83,_)] Qw Dl ?_)))))))));refine Qp Iz (Qp Cp (Qg [] Qw Cp (Qg [(87,_)] Qw Ik (Qg [(88,_)] Qw Cp (Qg [] Qw T4 (Qg [(90,_)] Qw C0 (Qg [(91,_)] Qw Dl (Qg [(89,_),(92,_)] Qw Iz (Qp Fz ?_)))))))));refine Qp Cp (Qg [] Qw Cp (Qg [(96,_)] Qw Ik (Qg [(97,_)] Qw Cp (Qg [] Qw Qq (Qg [(99,_)] Qw C0 (Qg [(100,_)] Qw Dl (Qg [(98,_),(101,_)] Qw Iz (Qp Fz (Qp Cp ?_)))))))));refine Qg [] Qw Cp (Qg [(105,_)] Qw Ik (Qg [(106,_)] Qw Cp (Qg [] Qw Ml (Qg [(108,_)] Qw (Ee B5) (Qg [] Qw (Lg B5) ?_)))));refine Qg [(109,_),(110,_)] Yw (Hs Ai rfl rfl rfl rfl rfl) ?_;refine Qg [(107,_),(111,_)] Qw Iz (Qp Fz (AOL.nil (Aa (Gd (fun hc8=>?_) fun hc8=>?_))))
            . skip
              refine AW.seq (AW.region (Qp Bk (AOL.nil (Aa (Nm ?_)))));refine Qr (Iq _) ?_
              try simp only [Dk,Aq] at *
              first
                | (simp only [Aj,Cu,By];(first | rw [iN hc1] | skip);(first | rw [iN hc2] | skip);(first | rw [iN hc3] | skip);(first | rw [iN hc4] | skip);(first | rw [iN hc5] | skip);(first | rw [if_pos hc8] | skip);first | done | rfl)
                | (try simp only [Bu,Bb] at *
                   first
                   | (simp only [Aj,Cu,By,isV0, *,A2,↓reduceIte,A5,A6,Bl,A7,Bo,Aq,Be,A9,Bz,Bs];done)
                   | (simp [Aj,Cu,By,isV0, *];done)
                   | (simp_all [Aj,Cu,By,isV0];done))
                | skip
            . skip
              refine Dw (AW.seq (AW.region (Qp Bk (AOL.nil (Aa (AW.ret ?_))))));refine Qr (Iq _) ?_
              try simp only [Dk,Aq] at *
              first
                | (simp only [Aj,Cu,By];(first | rw [iN hc1] | skip);(first | rw [iN hc2] | skip);(first | rw [iN hc3] | skip);(first | rw [iN hc4] | skip);(first | rw [iN hc5] | skip);(first | rw [iN hc8] | skip);first | done | rfl)
                | (try simp only [Bu,Bb] at *
                   first
                   | (simp only [Aj,Cu,By,isV0, *,A2,↓reduceIte,A5,A6,Bl,A7,Bo,Aq,Be,A9,Bz,Bs];done)
                   | (simp [Aj,Cu,By,isV0, *];done)
                   | (simp_all [Aj,Cu,By,isV0];done))
                | skip
theorem c83 (e:Ex):Al Tryz.prog 182 [.agg (cE e)] (.int .i64 (Cu e)):=by
  refine F8 131 Tryz.func182 rfl fun H=>?_
  refine AW.seq (AW.region (Qp Th (Qp Bk (AOL.nil (Aa (AW.seq (AW.region (Qp R5 (Qp C0 (Qp (Qc rfl (c100 e.op)) (Qp Bk (AOL.nil (Aa (AW.seq (AW.seq (AW.region (Qp Ca (Qp Fw (AOL.nil (Aa (Gd (fun hc1=>?_) fun hc1=>?_)))))))))))))))))))))
  . skip
    refine AW.seq (AW.region (Qp Bk (AOL.nil (Aa (Nm ?_)))));refine Qr (Iq _) ?_;rw [<-Hl]
    try simp only [Dk,Aq] at *
    first
      | (simp only [Aj,Cx,By];(first | rw [if_pos hc1] | skip);first | done | rfl)
      | (try simp only [Bu,Bb] at *
         first
         | (simp only [Aj,Cx,By,isV0, *,A2,↓reduceIte,A5,A6,Bl,A7,Bo,Aq,Be,A9,Bz,Bs];done)
         | (simp [Aj,Cx,By,isV0, *];done)
         | (simp_all [Aj,Cx,By,isV0];done))
      | skip
  . skip
    refine Dw (AW.seq (AW.seq (AW.region (Qp T3 (Qp J7 ?_)))));refine Qp (Ki e.args.length rfl rfl (by simp)) ?_;refine Qp Ca (Qp Dl (AOL.nil (Aa (Gd (fun hc2=>?_) fun hc2=>?_))))
    . skip
      refine AW.seq (AW.region (Qp Bk (AOL.nil (Aa (Nm ?_)))));refine Qr (Iq _) ?_;rw [<-Hl]
      try simp only [Dk,Aq] at *
      first
        | (simp only [Aj,Cx,By];(first | rw [iN hc1] | skip);(first | rw [if_pos hc2] | skip);first | done | rfl)
        | (try simp only [Bu,Bb] at *
           first
           | (simp only [Aj,Cx,By,isV0, *,A2,↓reduceIte,A5,A6,Bl,A7,Bo,Aq,Be,A9,Bz,Bs];done)
           | (simp [Aj,Cx,By,isV0, *];done)
           | (simp_all [Aj,Cx,By,isV0];done))
        | skip
    . skip
      refine Dw (AW.seq (AW.region (Qp R5 (Qp C0 ?_))));refine Qp (Qc rfl (c84 e.op)) ?_;refine Qp Z1 (Qp jM (Qp jM (Qp C5 (Qp C5 (AOL.nil (Aa (AW.seq (AW.seq (AW.region ?_)))))))));refine Qp Cp (Qp Cp (Qg [] Qw Wg (Qg [(27,_)] Qw C0 (Qg [(28,_)] Qw Fw (Qg [(29,_)] Qw Cp (Qg [] Qw Wg (Qg [(31,_)] Qw C0 (Qg [(32,_)] Qw Nj (Qg [(30,_),(33,_)] Qw Fz ?_)))))))));refine Qp Iz (Qp Cp (Qg [] Qw Cp (Qg [(37,_)] Qw Cp (Qg [] Qw T4 (Qg [(39,_)] Qw C0 (Qg [(40,_)] Qw Fw (Qg [(41,_)] Qw Cp (Qg [] Qw T4 (Qg [(43,_)] Qw C0 ?_)))))))));refine Qg [(44,_)] Qw Nj (Qg [(42,_),(45,_)] Qw Fz (Qg [(38,_),(46,_)] Qw Iz (Qp Fz (AOL.nil (Aa (Gd (fun hc3=>?_) fun hc3=>?_))))))
      . skip
        refine AW.seq (AW.region (Qp Bk (AOL.nil (Aa (Nm ?_)))));refine Qr (Iq _) ?_;rw [<-Hl]
        try simp only [Dk,Aq] at *
        first
          | (simp only [Aj,Cx,By];(first | rw [iN hc1] | skip);(first | rw [iN hc2] | skip);(first | rw [if_pos hc3] | skip);first | done | rfl)
          | (try simp only [Bu,Bb] at *
             first
             | (simp only [Aj,Cx,By,isV0, *,A2,↓reduceIte,A5,A6,Bl,A7,Bo,Aq,Be,A9,Bz,Bs];done)
             | (simp [Aj,Cx,By,isV0, *];done)
             | (simp_all [Aj,Cx,By,isV0];done))
          | skip
      . skip
        refine Dw (AW.seq (AW.region (Qp R5 (Qp C0 (Qp Cl (Qp C5 (AOL.nil (Aa (AW.seq ?_)))))))));refine AW.seq (AW.region (Qp Cp (Qp Cp (Qg [] Qw Qq (Qg [(54,_)] Qw C0 (Qg [(55,_)] Qw Fw (Qg [(56,_)] Qw Cp (Qg [] Qw Qq (Qg [(58,_)] Qw C0 ?_)))))))));refine Qg [(59,_)] Qw Kl (Qg [(57,_),(60,_)] Qw Fz (Qp Iz (AOL.nil (Aa (Gd (fun hc4=>?_) fun hc4=>?_)))))
        . skip
          refine AW.seq (AW.region (Qp Bk (AOL.nil (Aa (Nm ?_)))));refine Qr (Iq _) ?_;rw [<-Hl]
          try simp only [Dk,Aq] at *
          first
            | (simp only [Aj,Cx,By];(first | rw [iN hc1] | skip);(first | rw [iN hc2] | skip);(first | rw [iN hc3] | skip);(first | rw [if_pos hc4] | skip);first | done | rfl)
            | (try simp only [Bu,Bb] at *
               first
               | (simp only [Aj,Cx,By,isV0, *,A2,↓reduceIte,A5,A6,Bl,A7,Bo,Aq,Be,A9,Bz,Bs];done)
               | (simp [Aj,Cx,By,isV0, *];done)
               | (simp_all [Aj,Cx,By,isV0];done))
            | skip
        . skip
          refine Dw (AW.seq (AW.region (Qp Cp (Qp Cp (Qg [] Qw R5 (Qg [(65,_)] Qw C0 (Qg [(66,_)] Qw Cl (Qp Fz (Qp C5 ?_)))))))));refine AOL.nil (Aa (AW.seq (AW.seq (AW.region (Qp Cp (AOL.nil (Aa (Gd (fun hc5=>?_) fun hc5=>?_))))))))
          . skip
            refine AW.seq (AW.region (Qp Ml (Qp (Ee B5) ?_)));refine Qp (Qc rfl (c79 e.val)) ?_;refine Qp Bk (AOL.nil (Aa (AW.seq (AW.region (Qp Ca (Qp Dl (AOL.nil (Aa (Gd (fun hc6=>?_) fun hc6=>?_)))))))))
            . skip
              refine AW.seq (AW.region (Qp Ca (Qp Bk (AOL.nil (Aa (Nm ?_))))));refine Qr (Iq _) ?_;rw [<-Hl]
              try simp only [Dk,Aq] at *
              first
                | (simp only [Aj,Cx,By];(first | rw [iN hc1] | skip);(first | rw [iN hc2] | skip);(first | rw [iN hc3] | skip);(first | rw [iN hc4] | skip);(first | rw [if_pos hc5] | skip);(first | rw [if_pos hc6] | skip);first | done | rfl)
                | (try simp only [Bu,Bb] at *
                   first
                   | (simp only [Aj,Cx,By,isV0, *,A2,↓reduceIte,A5,A6,Bl,A7,Bo,Aq,Be,A9,Bz,Bs];done)
                   | (simp [Aj,Cx,By,isV0, *];done)
                   | (simp_all [Aj,Cx,By,isV0];done))
                | skip
            . skip
              refine Dw (AW.seq (AW.seq (AW.region (Qp Cp (Qp Cp (Qg [] Qw Qq (Qg [(78,_)] Qw C0 (Qg [] Qw Ml (Qg [(80,_)] Qw (Ee B5) ?_)))))))));refine Qg [(79,_),(81,_)] Yw (Qc rfl (c101 e.kind e.val)) ?_;refine Qg [(82,_)] Qw Ik (Qg [(83,_)] Qw Cp (Qg [] Qw Qq (Qg [(85,_)] Qw C0 (Qg [(86,_)] Qw Cl (Qg [(87,_)] Qw Cp (Qg [] Qw Ml (Qg [(89,_)] Qw (Ee B5) (Qg [] Qw (Lg B5) ?_))))))));refine Qg [(90,_),(91,_)] Yw (Hs Ai rfl rfl rfl rfl rfl) ?_;refine Qg [(88,_),(92,_)] Qw Iz (Qg [(84,_),(93,_)] Qw Fz (Qp Iz (AOL.nil (Aa (Gd (fun hc7=>?_) fun hc7=>?_)))))
              . skip
                refine AW.seq (AW.region (Qp Bk (AOL.nil (Aa (Nm ?_)))));refine Qr (Iq _) ?_;rw [<-Hl]
                try simp only [Dk,Aq] at *
                first
                  | (simp only [Aj,Cx,By];(first | rw [iN hc1] | skip);(first | rw [iN hc2] | skip);(first | rw [iN hc3] | skip);(first | rw [iN hc4] | skip);(first | rw [if_pos hc5] | skip);(first | rw [iN hc6] | skip);(first | rw [if_pos hc7] | skip);first | done | rfl)
                  | (try simp only [Bu,Bb] at *
                     first
                     | (simp only [Aj,Cx,By,isV0, *,A2,↓reduceIte,A5,A6,Bl,A7,Bo,Aq,Be,A9,Bz,Bs];done)
                     | (simp [Aj,Cx,By,isV0, *];done)
                     | (simp_all [Aj,Cx,By,isV0];done))
                  | skip
              . skip
                refine Dw (AW.seq (AW.seq (AW.region (Qp Cp (Qp Ik (Qp Cp (Qg [] Qw Wg (Qg [(99,_)] Qw C0 (Qg [(100,_)] Qw Dl ?_)))))))));refine Qp Iz (Qp Cp (Qg [] Qw Cp (Qg [(104,_)] Qw Ik (Qg [(105,_)] Qw Cp (Qg [] Qw T4 (Qg [(107,_)] Qw C0 (Qg [(108,_)] Qw Dl (Qg [(106,_),(109,_)] Qw Iz (Qp Fz ?_)))))))));refine Qp Cp (Qg [] Qw Cp (Qg [(113,_)] Qw Ik (Qg [(114,_)] Qw Cp (Qg [] Qw Qq (Qg [(116,_)] Qw C0 (Qg [(117,_)] Qw Dl (Qg [(115,_),(118,_)] Qw Iz (Qp Fz (Qp Cp ?_)))))))));refine Qg [] Qw Cp (Qg [(122,_)] Qw Ik (Qg [(123,_)] Qw Cp (Qg [] Qw Ml (Qg [(125,_)] Qw (Ee B5) (Qg [] Qw (Lg B5) ?_)))));refine Qg [(126,_),(127,_)] Yw (Hs Ai rfl rfl rfl rfl rfl) ?_;refine Qg [(124,_),(128,_)] Qw Iz (Qp Fz (AOL.nil (Aa (Gd (fun hc8=>?_) fun hc8=>?_))))
                . skip
                  refine AW.seq (AW.region (Qp Bk (AOL.nil (Aa (Nm ?_)))));refine Qr (Iq _) ?_;rw [<-Hl]
                  try simp only [Dk,Aq] at *
                  first
                    | (simp only [Aj,Cx,By];(first | rw [iN hc1] | skip);(first | rw [iN hc2] | skip);(first | rw [iN hc3] | skip);(first | rw [iN hc4] | skip);(first | rw [if_pos hc5] | skip);(first | rw [iN hc6] | skip);(first | rw [iN hc7] | skip);(first | rw [if_pos hc8] | skip);first | done | rfl)
                    | (try simp only [Bu,Bb] at *
                       first
                       | (simp only [Aj,Cx,By,isV0, *,A2,↓reduceIte,A5,A6,Bl,A7,Bo,Aq,Be,A9,Bz,Bs];done)
                       | (simp [Aj,Cx,By,isV0, *];done)
                       | (simp_all [Aj,Cx,By,isV0];done))
                    | skip
                . skip
                  refine Dw (AW.seq (AW.region (Qp Bk (AOL.nil (Aa (AW.ret ?_))))));refine Qr (Iq _) ?_;rw [<-Hl]
                  try simp only [Dk,Aq] at *
                  first
                    | (simp only [Aj,Cx,By];(first | rw [iN hc1] | skip);(first | rw [iN hc2] | skip);(first | rw [iN hc3] | skip);(first | rw [iN hc4] | skip);(first | rw [if_pos hc5] | skip);(first | rw [iN hc6] | skip);(first | rw [iN hc7] | skip);(first | rw [iN hc8] | skip);first | done | rfl)
                    | (try simp only [Bu,Bb] at *
                       first
                       | (simp only [Aj,Cx,By,isV0, *,A2,↓reduceIte,A5,A6,Bl,A7,Bo,Aq,Be,A9,Bz,Bs];done)
                       | (simp [Aj,Cx,By,isV0, *];done)
                       | (simp_all [Aj,Cx,By,isV0];done))
                    | skip
          . skip
            refine Dw (AW.seq (AW.seq (AW.region (Qp Cp (Qp Cp (Qg [] Qw Qq (Qg [(78,_)] Qw C0 (Qg [] Qw Ml (Qg [(80,_)] Qw (Ee B5) ?_)))))))));refine Qg [(79,_),(81,_)] Yw (Qc rfl (c101 e.kind e.val)) ?_;refine Qg [(82,_)] Qw Ik (Qg [(83,_)] Qw Cp (Qg [] Qw Qq (Qg [(85,_)] Qw C0 (Qg [(86,_)] Qw Cl (Qg [(87,_)] Qw Cp (Qg [] Qw Ml (Qg [(89,_)] Qw (Ee B5) (Qg [] Qw (Lg B5) ?_))))))));refine Qg [(90,_),(91,_)] Yw (Hs Ai rfl rfl rfl rfl rfl) ?_;refine Qg [(88,_),(92,_)] Qw Iz (Qg [(84,_),(93,_)] Qw Fz (Qp Iz (AOL.nil (Aa (Gd (fun hc9=>?_) fun hc9=>?_)))))
            . skip
              refine AW.seq (AW.region (Qp Bk (AOL.nil (Aa (Nm ?_)))));refine Qr (Iq _) ?_;rw [<-Hl]
              try simp only [Dk,Aq] at *
              first
                | (simp only [Aj,Cx,By];(first | rw [iN hc1] | skip);(first | rw [iN hc2] | skip);(first | rw [iN hc3] | skip);(first | rw [iN hc4] | skip);(first | rw [iN hc5] | skip);(first | rw [if_pos hc9] | skip);first | done | rfl)
                | (try simp only [Bu,Bb] at *
                   first
                   | (simp only [Aj,Cx,By,isV0, *,A2,↓reduceIte,A5,A6,Bl,A7,Bo,Aq,Be,A9,Bz,Bs];done)
                   | (simp [Aj,Cx,By,isV0, *];done)
                   | (simp_all [Aj,Cx,By,isV0];done))
                | skip
            . skip
              refine Dw (AW.seq (AW.seq (AW.region (Qp Cp (Qp Ik (Qp Cp (Qg [] Qw Wg (Qg [(99,_)] Qw C0 (Qg [(100,_)] Qw Dl ?_)))))))));refine Qp Iz (Qp Cp (Qg [] Qw Cp (Qg [(104,_)] Qw Ik (Qg [(105,_)] Qw Cp (Qg [] Qw T4 (Qg [(107,_)] Qw C0 (Qg [(108,_)] Qw Dl (Qg [(106,_),(109,_)] Qw Iz (Qp Fz ?_)))))))));refine Qp Cp (Qg [] Qw Cp (Qg [(113,_)] Qw Ik (Qg [(114,_)] Qw Cp (Qg [] Qw Qq (Qg [(116,_)] Qw C0 (Qg [(117,_)] Qw Dl (Qg [(115,_),(118,_)] Qw Iz (Qp Fz (Qp Cp ?_)))))))));refine Qg [] Qw Cp (Qg [(122,_)] Qw Ik (Qg [(123,_)] Qw Cp (Qg [] Qw Ml (Qg [(125,_)] Qw (Ee B5) (Qg [] Qw (Lg B5) ?_)))));refine Qg [(126,_),(127,_)] Yw (Hs Ai rfl rfl rfl rfl rfl) ?_;refine Qg [(124,_),(128,_)] Qw Iz (Qp Fz (AOL.nil (Aa (Gd (fun hc10=>?_) fun hc10=>?_))))
              . skip
                refine AW.seq (AW.region (Qp Bk (AOL.nil (Aa (Nm ?_)))));refine Qr (Iq _) ?_;rw [<-Hl]
                try simp only [Dk,Aq] at *
                first
                  | (simp only [Aj,Cx,By];(first | rw [iN hc1] | skip);(first | rw [iN hc2] | skip);(first | rw [iN hc3] | skip);(first | rw [iN hc4] | skip);(first | rw [iN hc5] | skip);(first | rw [iN hc9] | skip);(first | rw [if_pos hc10] | skip);first | done | rfl)
                  | (try simp only [Bu,Bb] at *
                     first
                     | (simp only [Aj,Cx,By,isV0, *,A2,↓reduceIte,A5,A6,Bl,A7,Bo,Aq,Be,A9,Bz,Bs];done)
                     | (simp [Aj,Cx,By,isV0, *];done)
                     | (simp_all [Aj,Cx,By,isV0];done))
                  | skip
              . skip
                refine Dw (AW.seq (AW.region (Qp Bk (AOL.nil (Aa (AW.ret ?_))))));refine Qr (Iq _) ?_;rw [<-Hl]
                try simp only [Dk,Aq] at *
                first
                  | (simp only [Aj,Cx,By];(first | rw [iN hc1] | skip);(first | rw [iN hc2] | skip);(first | rw [iN hc3] | skip);(first | rw [iN hc4] | skip);(first | rw [iN hc5] | skip);(first | rw [iN hc9] | skip);(first | rw [iN hc10] | skip);first | done | rfl)
                  | (try simp only [Bu,Bb] at *
                     first
                     | (simp only [Aj,Cx,By,isV0, *,A2,↓reduceIte,A5,A6,Bl,A7,Bo,Aq,Be,A9,Bz,Bs];done)
                     | (simp [Aj,Cx,By,isV0, *];done)
                     | (simp_all [Aj,Cx,By,isV0];done))
                  | skip
theorem e8c23 (e:Ex)(hs:B3 e<=1048576):Al Tryz.prog 119 [.agg (cE e)] (.tuple [.int .i64 (B3 e),.int .i64 (Du e)]):=by
 revert hs
 induction e using Ex.ind
 rename_i e ih;intro hs;refine F8 32 Tryz.func119 rfl fun H=>?_
 refine Bv (Qp Th (Qp Bk (Qp Bk (Gw (Qp Bk (Qp Bk (Dt (F7 (Qp T3 (Qp J7 ?_))))))))));refine Qp (Ki e.args.length rfl rfl (by simp)) ?_;refine Qp Ca (Dt (AW.block (AW.sllen 11 rfl fun hlen=>?_)));simp only [B1,maxLen] at hlen;refine AW.loopS (fun (p:Nat×Nat×Nat)=>(⟨[(4,.int .i64 (p.2.1:Int)),(5,.int .i64 (p.2.2:Int)),(11,.sl 8 (e.args.map Ju)),(12,.int .i64 e.args.length),(13,.int .i64 (p.1:Int))],H,32⟩:St)) (fun p=>p.1<=e.args.length/\B3 e=p.2.1+((e.args.drop p.1).map B3).sum/\Du e=max p.2.2 (((e.args.drop p.1).map Du).foldr max 0)+1/\p.2.2<=1048576) (fun p=>e.args.length-p.1) ((0,1,0)) ?_ Kx ?_
 . exact ⟨Bn _,by simpa using Ha e,by simpa using Jt e,Bn _⟩
 rintro p hR;refine Bv (Qp Fw (Re (Gd (fun hc1=>?_) fun hc1=>?_)))
 .
  obtain ⟨a,ha⟩:=Dd hc1;have hlt:=Bj ha;have hm:=A0 ha;have hsa:=Hb hm;have hda:=J4 a;have h1:=cZ p.2.1 ha;have h2:=Nw p.2.2 ha;refine Dw (AW.seq (AW.block (Bv ?_)));refine Qp (Lq Ll rfl rfl (by omega) (Ii ha)) ?_;refine Qp Ld (Hy rR fun b7=>?_);refine Eu 0 Ll (_::_) ?_;refine Wd 7 0 rfl ?_;refine Gw (Qp Ld ?_);refine Qp (Qc rfl (ih a hm (by have:=Hb hm;omega))) ?_;refine Qp Z1 (Qp Uq (Qp Uq (Qp Bk (Qp Bk (Dt (AW.region (Qp Ca (Qp Ca (Qp Mm (Qp Ca (Qp Ca (Qp (Ws rfl rfl) (Qp Bk (Qp Bk (Rk (AW.region (Qp Mm (Qp Ca (Dt ?_)))))))))))))))))));refine ⟨(p.1+1,p.2.1+B3 a,max p.2.2 (Du a)),?_,?_,GS.weaken ⟨rfl,congrArg (AV.int .i64) (by simp only;omega),rfl,rfl,rfl,trivial⟩ (.refl _)⟩
  . simp only;exact ⟨hlt,by omega,by omega,by omega⟩
  first | omega | (simp only;omega)
 have hd:=Gb hc1;refine AW.exit ?_;refine A1 (Ri (Bv (Qp Ca (Qp Ca ?_))));refine Qp (Cc rfl rfl rfl (by have:=J4 e;constructor <;> omega)) ?_;refine Qp Bk (Qp Bk (Rb (Z2 (Iq _) (Iq _) ?_)));rw [hd] at hR;simp only [Gv,List.sum_nil,List.foldr_nil] at hR;simp only [Aj,AV.tuple.injEq,List.cons.injEq,AV.int.injEq,true_and,and_true];omega
theorem c48 (L:Nat)(e:Ex)(hs:B3 e<=1048576):Al Tryz.prog 152 [.agg (cE e),.int .i64 (L:Int)] (.int .i64 (G4 L e)):=by
 revert hs
 induction e using Ex.ind
 rename_i e ih;intro hs;refine F8 29 Tryz.func152 rfl fun H=>?_
 refine Bv (Qp Th (Qp Bk (Gw (Qp Bk (Dt (F7 (Qp Bk (Dt (AW.block ?_)))))))));refine AW.loopS (fun (p:Nat×Nat)=>(⟨[(1,.int .i64 (L:Int)),(2,.ptr (cE e)),(5,.int .i64 (p.2:Int)),(6,.int .i64 (p.1:Int))],H,29⟩:St)) (fun p=>p.1<=e.args.length/\G4 L e=Ga L (e.args.drop p.1) p.2/\p.2+((e.args.drop p.1).map B3).sum<=B3 e/\e.args.length<=1048576) (fun p=>e.args.length-p.1) ((0,1)) ?_ Kx ?_
 . exact ⟨Bn _,by simpa using Wz L e,by simpa using Nat.le_of_eq (Ha e).symm,Lh e hs⟩
 rintro p hR;refine F7 (Qp Ca (Qp T3 (Qp J7 ?_)));refine Qp (Ki e.args.length rfl rfl (by simp)) ?_;refine Qp Fw (Qp Cp (Qg [] Qw Ca (Qg [] Qw Ca (Qg [(13,_),(14,_)] Yw Z0 (Qp Iz (Ef (fun hc1=>?_) fun hc1=>AW.exit ?_))))))
 .
  simp only [Cq] at hc1;obtain ⟨a,ha⟩:=Dd hc1.1;have hlt:=Bj ha;have hm:=A0 ha;have hsa:=Hb hm;have hle:p.2<=L:=by simpa using hc1.2
  have h1:=cZ p.2 ha;have h2:=Vd L a;have h3:=hR.2.1;rw [Bf ha,Ga,if_pos hle] at h3;refine Dw (AW.seq (AW.block (AW.region (Qp Ca (Qp T3 (Qp J7 (Qp Ca ?_)))))));refine Qp (Lq Ll rfl rfl (by omega) (Ii ha)) ?_;refine Qp Ld (Qp Ca ?_);refine Qp (Qc rfl (ih a hm (by have:=Hb hm;omega))) ?_;refine Qp Mm (Qp Bk (Rk (AW.region (Qp Ca (Qp Mm (Qp Bk (Dt ?_)))))));refine ⟨(p.1+1,p.2+G4 L a),?_,?_,Kx⟩
  . simp only;exact ⟨hlt,h3,by omega,hR.2.2.2⟩
  first | omega | (simp only;omega)
 refine A1 (Ri (Bv (Qp Ca (Qp Bk (Rb ?_)))));refine Qr (Iq _) ?_;simp only [Aj,AV.int.injEq,true_and];rw [hR.2.1];simp only [M7] at hc1;rcases hc1 with hc1 | hc1
 . rw [Gb hc1,Ga]
 rw [X2 (by simpa using hc1)]
theorem c49 (e:Ex)(hs:B3 e<=1048576):Al Tryz.prog 153 [.agg (cE e)] (.int .i64 (Du e)):=by
 revert hs
 induction e using Ex.ind
 rename_i e ih;intro hs;refine F8 22 Tryz.func153 rfl fun H=>?_
 refine Bv (Qp Th (Qp Bk (Gw (Qp Bk (Dt (F7 (Qp Bk (Dt (AW.block ?_)))))))));refine AW.loopS (fun (p:Nat×Nat)=>(⟨[(1,.ptr (cE e)),(3,.int .i64 (p.2:Int)),(4,.int .i64 (p.1:Int))],H,22⟩:St)) (fun p=>p.1<=e.args.length/\Du e=max p.2 (((e.args.drop p.1).map Du).foldr max 0)+1/\p.2<=1048576/\e.args.length<=1048576) (fun p=>e.args.length-p.1) ((0,0)) ?_ Kx ?_
 . exact ⟨Bn _,by simpa using Jt e,Bn _,Lh e hs⟩
 rintro p hR;refine F7 (Qp Ca (Qp T3 (Qp J7 ?_)));refine Qp (Ki e.args.length rfl rfl (by simp)) ?_;refine Qp Fw (Ef (fun hc1=>?_) fun hc1=>?_)
 .
  obtain ⟨a,ha⟩:=Dd hc1;have hlt:=Bj ha;have hm:=A0 ha;have hsa:=Hb hm;have hda:=J4 a;have h2:=Nw p.2 ha;refine Dw (AW.seq (AW.block (AW.region (Qp Ca (Qp T3 (Qp J7 (Qp Ca ?_)))))));refine Qp (Lq Ll rfl rfl (by omega) (Ii ha)) ?_;refine Qp Ld ?_;refine Qp (Qc rfl (ih a hm (by have:=Hb hm;omega))) ?_;refine Qp (Ws rfl rfl) (Qp Bk (Rk (AW.region (Qp Ca (Qp Mm (Qp Bk (Dt ?_)))))));refine ⟨(p.1+1,max p.2 (Du a)),?_,?_,GS.weaken ⟨rfl,congrArg (AV.int .i64) (by simp only;omega),rfl,trivial⟩ (.refl _)⟩
  . simp only;exact ⟨hlt,by omega,by omega,hR.2.2.2⟩
  first | omega | (simp only;omega)
 have hd:=Gb hc1;refine AW.exit ?_;refine A1 (Ri (Bv (Qp Ca ?_)));refine Qp (Cc rfl rfl rfl (by have:=J4 e;constructor <;> omega)) ?_;refine Qp Bk (Rb (Qr (Iq _) ?_));rw [hd] at hR;simp only [Gv,List.foldr_nil] at hR;simp only [Aj,AV.int.injEq,true_and];omega
theorem c50 (e:Ex)(hs:B3 e<=1048576):Al Tryz.prog 154 [.agg (cE e)] (.int .i64 (Ej e)):=by
 revert hs
 induction e using Ex.ind
 rename_i e ih;intro hs;refine F8 27 Tryz.func154 rfl fun H=>?_
 refine Bv (Qp Th (Qp Bk (Dt (F7 (Qp Ld (Qp (Qc rfl (c83 e)) (Qp Bk (Gw (Qp Ca (Qp Dl (Ef (fun hc1=>Bv (Qp Ca (Qp Bk (Rc (Qr (Iq _) ?_))))) fun hc1=>?_)))))))))))
 .
  simp only [Aj,AV.int.injEq,true_and];rw [O1,if_pos hc1]
 have hn:Ej e=Ax Ej e.args:=by rw [O1,if_neg (by simpa using hc1)]
 refine Dw (F7 (Qp Bk (Dt (AW.block ?_))));have hlen:=Lh e hs;refine AW.loopS (fun (p:Nat)=>(⟨[(1,.ptr (cE e)),(4,.int .i64 (p:Int))],H,27⟩:St)) (fun p=>p<=e.args.length/\Ej e=Ax Ej (e.args.drop p)) (fun p=>e.args.length-p) (0) ?_ Kx ?_
 . exact ⟨Bn _,by simpa using hn⟩
 rintro p hR;refine F7 (Qp Ca (Qp T3 (Qp J7 ?_)));refine Qp (Ki e.args.length rfl rfl (by simp)) ?_;refine Qp Fw (Ef (fun hc2=>?_) fun hc2=>?_)
 .
  obtain ⟨a,ha⟩:=Dd hc2;have hlt:=Bj ha;have hm:=A0 ha;refine Dw (AW.seq (AW.block (Bv (Qp T3 (Qp J7 (Qp Ca ?_))))));refine Qp (Lq Ll rfl rfl (by omega) (Ii ha)) ?_;refine Qp Ld ?_;refine Qp (Qc rfl (ih a hm (by have:=Hb hm;omega))) ?_;refine Qp Bk (Gw (Qp Ca (Qp Dl (Ef (fun hc3=>Bv (Qp Ca (Qp Bk (Ra (Ap (Cn (Ap (Qr (Iq _) ?_)))))))) fun hc3=>Rf (AW.region (Qp Ca (Qp Mm (Qp Bk (Dt ?_)))))))))
  .
   simp only [Aj,AV.int.injEq,true_and];rw [hR.2,Bf ha,Ax,if_pos hc3]
  refine ⟨p+1,?_,?_,Kx⟩
  . exact ⟨hlt,by rw [hR.2,Bf ha,Ax,if_neg (by simpa using hc3)]⟩
  first | omega | (simp only;omega)
 have hd:=Gb hc2;refine AW.exit ?_;refine A1 (Ri (Bv (Qp Bk (Rb ?_))));refine Qr (Iq _) ?_;simp only [Aj,AV.int.injEq,true_and];rw [hR.2,hd];rfl
theorem wG (f:Nat)(hfn:Pe Tryz.prog f=true)(cap:List AV)(fs:Ex->Int)(Pr:Ex->Prop)(hp:∀a,Pr a->∀b∈a.args,Pr b)(hf:∀a,Pr a->Al Tryz.prog f (.agg (cE a)::cap) (.int .i64 (fs a)))(e:Ex)(he:Pr e):Al Tryz.prog 79 [.agg (cE e),.fn (.func f) [] cap] (.int .i64 (D1 fs e)):=by
 revert he
 induction e using Ex.ind
 rename_i e ih;intro he;refine F8 29 Tryz.func79 rfl fun H=>?_
 refine Bv (Qp Th (Qp Bk (Dt (F7 (Qp (Ae (v:=.fn _ _ _) rfl) (Qp Ld (Qp (Fy hfn rfl rfl rfl (hf e he)) (Qp Bk (Gw (Qp Ca (Qp Dl (Ef (fun hc1=>Bv (Qp Ca (Qp Bk (Rc (Qr (Iq _) ?_))))) fun hc1=>?_))))))))))))
 .
  simp only [Aj,AV.int.injEq,true_and];rw [Mk,if_pos hc1]
 have hn:D1 fs e=Ax (D1 fs) e.args:=by rw [Mk,if_neg (by simpa using hc1)]
 refine Dw (F7 (Qp T3 (Qp J7 ?_)));refine Qp (Ki e.args.length rfl rfl (by simp)) ?_;refine Qp Ca (Dt (AW.block (AW.sllen 16 rfl fun hlen=>?_)));simp only [B1,maxLen] at hlen;refine AW.loopS (fun (p:Nat)=>(⟨[(1,.fn (.func f) [] cap),(16,.sl 8 (e.args.map Ju)),(17,.int .i64 e.args.length),(18,.int .i64 (p:Int))],H,29⟩:St)) (fun p=>p<=e.args.length/\D1 fs e=Ax (D1 fs) (e.args.drop p)) (fun p=>e.args.length-p) (0) ?_ Kx ?_
 . exact ⟨Bn _,by simpa using hn⟩
 rintro p hR;refine Bv (Qp Fw (Re (Gd (fun hc2=>?_) fun hc2=>?_)))
 .
  obtain ⟨a,ha⟩:=Dd hc2;have hlt:=Bj ha;have hm:=A0 ha;refine Dw (AW.seq (AW.block (Bv ?_)));refine Qp (Lq Ll rfl rfl (by omega) (Ii ha)) ?_;refine Qp Ld (Hy rR fun b7=>?_);refine Eu 0 Ll (_::_) ?_;refine Wd 7 0 rfl ?_;refine Gw (Qp Ld (Qp (Ae (v:=.fn _ _ _) rfl) (Qp (Qc rfl (ih a hm (hp e he a hm))) (Qp Bk (Gw (Qp Ca (Qp Dl (Ef (fun hc3=>Bv (Qp Ca (Qp Bk (Ra (Ap (Cn (Ap (Qr (Iq _) ?_)))))))) fun hc3=>Rf (AW.region (Qp Mm (Qp Ca (Dt ?_))))))))))))
  .
   simp only [Aj,AV.int.injEq,true_and];rw [hR.2,Bf ha,Ax,if_pos hc3]
  refine ⟨p+1,?_,?_,Kx⟩
  . exact ⟨hlt,by rw [hR.2,Bf ha,Ax,if_neg (by simpa using hc3)]⟩
  first | omega | (simp only;omega)
 have hd:=Gb hc2;refine AW.exit ?_;refine A1 (Ri (Bv (Qp Bk (Rb ?_))));refine Qr (Iq _) ?_;simp only [Aj,AV.int.injEq,true_and];rw [hR.2,hd];rfl
theorem mK (e:Ex)(hs:B3 e<=1048576):Al Tryz.prog 78 [.agg (cE e)] (.int .i64 (B8 e)):=by
  refine F8 18 Tryz.func78 rfl fun H=>?_
  refine AW.seq (AW.region (Qp Th (Qp Bk (AOL.nil (Aa (AW.seq (AW.region (Qp Ld (Qp (Qc rfl (e8c23 e hs)) (Qp Z1 (Qp Uq (Qp Uq (Qp Bk (Qp Bk (AOL.nil (Aa (AW.seq (AW.block (AW.seq (AW.region (Qp Ca (Qp Kl (Qp C5 (AOL.nil (Aa (Gd (fun hc1=>?_) fun hc1=>?_))))))))))))))))))))))))))
  . skip
    refine AW.seq (AW.region (Qp Bk (AOL.nil (Aa (AW.ret (Cn (Ap ?_)))))));refine Qr (Iq _) ?_
    try simp only [Dk,Aq] at *
    first
      | (simp only [Aj,B8];(first | rw [if_pos hc1] | skip);first | done | rfl)
      | (try simp only [Bu,Bb] at *
         first
         | (simp only [Aj,B8, *,A2,↓reduceIte,A5,A6,Bl,A7,Bo,Aq,Be,A9,Bz,Bs];done)
         | (simp [Aj,B8, *];done)
         | (simp_all [Aj,B8];done))
      | skip
  . skip
    refine AW.seq (AW.region (Qp Ca (Qp Kl (Qp C5 (AOL.nil (Aa (Gd (fun hc2=>?_) fun hc2=>?_)))))))
    . skip
      refine AW.seq (AW.region (Qp Bk (AOL.nil (Aa (AW.ret (Cn (Ap ?_)))))));refine Qr (Iq _) ?_
      try simp only [Dk,Aq] at *
      first
        | (simp only [Aj,B8];(first | rw [iN hc1] | skip);(first | rw [if_pos hc2] | skip);first | done | rfl)
        | (try simp only [Bu,Bb] at *
           first
           | (simp only [Aj,B8, *,A2,↓reduceIte,A5,A6,Bl,A7,Bo,Aq,Be,A9,Bz,Bs];done)
           | (simp [Aj,B8, *];done)
           | (simp_all [Aj,B8];done))
        | skip
    . skip
      refine Rf (AW.seq (AW.region (Qp Ld ?_)));refine Qp (Qc rfl (wG 120 (by kernel_rfl) [] Cu (fun _=>True) (fun _ _ _ _=>trivial) (fun a _=>c47 a) e trivial)) ?_;refine Qp Bk (AOL.nil (Aa (AW.ret ?_)));refine Qr (Iq _) ?_
      try simp only [Dk,Aq] at *
      first
        | (simp only [Aj,B8];(first | rw [iN hc1] | skip);(first | rw [iN hc2] | skip);first | done | rfl)
        | (try simp only [Bu,Bb] at *
           first
           | (simp only [Aj,B8, *,A2,↓reduceIte,A5,A6,Bl,A7,Bo,Aq,Be,A9,Bz,Bs];done)
           | (simp [Aj,B8, *];done)
           | (simp_all [Aj,B8];done))
        | skip
theorem e8c25 (e:Ex)(hs:B3 e<=1048576):Al Tryz.prog 114 [.agg (cE e)] (.int .i64 (B8 e)):=by
  refine F8 11 Tryz.func114 rfl fun H=>?_
  refine AW.seq (AW.region (Qp Th (Qp Bk (AOL.nil (Aa (AW.seq (AW.seq (AW.region (Qp Ld (Qp (Qc rfl (c48 64 e hs)) (Qp Kl (AOL.nil (Aa (Gd (fun hc1=>?_) fun hc1=>?_))))))))))))))
  . skip
    have hct:decide (64<(B3 e:Int))=true:=by have:=Vc 64 e;simp at hc1 ⊢;omega
    refine AW.seq (AW.region (Qp Bk (AOL.nil (Aa (Nm ?_)))));refine Qr (Iq _) ?_
    try simp only [Dk,Aq] at *
    first
      | (simp only [Aj,B8];(first | rw [if_pos hc1] | skip);first | done | rfl)
      | (try simp only [Bu,Bb] at *
         first
         | (simp only [Aj,B8, *,A2,↓reduceIte,A5,A6,Bl,A7,Bo,Aq,Be,A9,Bz,Bs];done)
         | (simp [Aj,B8, *];done)
         | (simp_all [Aj,B8];done))
      | skip
  . skip
    have hct:decide (64<(B3 e:Int))=false:=by have:=Vc 64 e;simp at hc1 ⊢;omega
    refine Dw (AW.seq (AW.seq (AW.region (Qp Ld ?_))));refine Qp (Qc rfl (c49 e hs)) ?_;refine Qp Kl (AOL.nil (Aa (Gd (fun hc2=>?_) fun hc2=>?_)))
    . skip
      refine AW.seq (AW.region (Qp Bk (AOL.nil (Aa (Nm ?_)))));refine Qr (Iq _) ?_
      try simp only [Dk,Aq] at *
      first
        | (simp only [Aj,B8];(first | rw [iN hc1] | skip);(first | rw [if_pos hc2] | skip);first | done | rfl)
        | (try simp only [Bu,Bb] at *
           first
           | (simp only [Aj,B8, *,A2,↓reduceIte,A5,A6,Bl,A7,Bo,Aq,Be,A9,Bz,Bs];done)
           | (simp [Aj,B8, *];done)
           | (simp_all [Aj,B8];done))
        | skip
    . skip
      refine Dw (AW.seq (AW.region (Qp Ld ?_)));refine Qp (Qc rfl (c50 e hs)) ?_;refine Qp Bk (AOL.nil (Aa (AW.ret ?_)));refine Qr (Iq _) ?_
      try simp only [Dk,Aq] at *
      first
        | (simp only [Aj,B8];(first | rw [iN hc1] | skip);(first | rw [iN hc2] | skip);first | done | rfl)
        | (try simp only [Bu,Bb] at *
           first
           | (simp only [Aj,B8, *,A2,↓reduceIte,A5,A6,Bl,A7,Bo,Aq,Be,A9,Bz,Bs];done)
           | (simp [Aj,B8, *];done)
           | (simp_all [Aj,B8];done))
        | skip
theorem c34 (e:Ex)(hs:B3 e<=1048576):Al Tryz.prog 110 [.agg (cE e)] (.bool (decide (B3 e<=200/\Du e<=100))):=by
 refine F8 11 Tryz.func110 rfl fun H=>?_
 refine Bv (Qp Th (Qp C5 (Gw (Qp Ld (Qp (Qc rfl (c48 200 e hs)) (Qp Z0 (Qp Cp (Qg [] Qw Ld (Qg [(7,_)] Qw (Qc rfl (c49 e hs)) (Qg [(8,_)] Qw Z0 (Qp Iz (Qp C5 (Rb (Qr (.bool _) ?_))))))))))))));have:=Vc 200 e;show AV.bool _=AV.bool _
 congr 1
 rw [Bool.eq_iff_iff];simp;omega
end Go.Proofs.YtkdhionilabokaaGreatDoor
