/-
  Several texts in one: Az, M. No condition.
-/
import Derived.Test.YtckhoadldibflaaGreatDoorAx
import Derived.Test.YtckhoadldibflaaGreatDoorTab
import Derived.KernelRfl
import Derived.Test.YtckhoadldibflaaGreatDoorAw
import Derived.Lib.IndexMore
import Derived.Lib.LastIndexLaws
import Derived.Lib.Join
set_option linter.unusedVariables false
set_option linter.unusedSimpArgs false
namespace Go.Proofs.YtckhoadldibflaaGreatDoor
open Go Go.Aw
set_option maxRecDepth 100000

section
variable {d:Option Nat} {ty:TypeId} {pos:String} {aft:Array Edge} {gd:Option (Nat×Bool)} {ρ:Operand→AV} {K:List HO→Prop}
theorem Al {x:Operand}{n:Int}(h:ρ x = .int .i64 n:=by exact rfl):Cz Tryz.prog ⟨d,.assign x,ty,pos,aft,gd⟩ ρ K (.int .i64 n):=A8 h
theorem Am {x:Operand}{n:Int}(h:ρ x = .int .i64 n:=by exact rfl):Cz Tryz.prog ⟨d,.move x,ty,pos,aft,gd⟩ ρ K (.int .i64 n):=A0 h
theorem Bf {t:TypeId}{td:TD}{x:Operand}{n:Int}{cs:List AV}(h:ρ x = .ptr (.int .i64 n::cs):=by exact rfl)(ht:Br TL t=some td:=by exact rfl)(ha:td.agg=false:=by exact rfl):Cz Tryz.prog ⟨d,.load t x,ty,pos,aft,gd⟩ ρ K (.int .i64 n):=Ek tok h ht ha
theorem Ib {x:Operand}{i:Nat}{vs:List AV}{n:Int}(h:ρ x = .tuple vs:=by exact rfl)(hv:vs[i]? = some (.int .i64 n):=by exact rfl):Cz Tryz.prog ⟨d,.extract x i,ty,pos,aft,gd⟩ ρ K (.int .i64 n):=B2 h hv
theorem Au {x:Operand}{b:Bool}(h:ρ x = .bool b:=by exact rfl):Cz Tryz.prog ⟨d,.assign x,ty,pos,aft,gd⟩ ρ K (.bool b):=A8 h
theorem A9 {x:Operand}{b:Bool}(h:ρ x = .bool b:=by exact rfl):Cz Tryz.prog ⟨d,.move x,ty,pos,aft,gd⟩ ρ K (.bool b):=A0 h
theorem gU {t:TypeId}{td:TD}{x:Operand}{b:Bool}{cs:List AV}(h:ρ x = .ptr (.bool b::cs):=by exact rfl)(ht:Br TL t=some td:=by exact rfl)(ha:td.agg=false:=by exact rfl):Cz Tryz.prog ⟨d,.load t x,ty,pos,aft,gd⟩ ρ K (.bool b):=Ek tok h ht ha
theorem gX {x:Operand}{i:Nat}{vs:List AV}{b:Bool}(h:ρ x = .tuple vs:=by exact rfl)(hv:vs[i]? = some (.bool b):=by exact rfl):Cz Tryz.prog ⟨d,.extract x i,ty,pos,aft,gd⟩ ρ K (.bool b):=B2 h hv
theorem Sr {x:Operand}{z:Nat}{es:List (List AV)}(h:ρ x = .sl z es:=by exact rfl):Cz Tryz.prog ⟨d,.assign x,ty,pos,aft,gd⟩ ρ K (.sl z es):=A8 h
theorem Fh {x:Operand}{z:Nat}{es:List (List AV)}(h:ρ x = .sl z es:=by exact rfl):Cz Tryz.prog ⟨d,.move x,ty,pos,aft,gd⟩ ρ K (.sl z es):=A0 h
theorem B7 {t:TypeId}{td:TD}{x:Operand}{z:Nat}{es:List (List AV)}{cs:List AV}(h:ρ x = .ptr (.sl z es::cs):=by exact rfl)(ht:Br TL t=some td:=by exact rfl)(ha:td.agg=false:=by exact rfl):Cz Tryz.prog ⟨d,.load t x,ty,pos,aft,gd⟩ ρ K (.sl z es):=Ek tok h ht ha
theorem Qxs {x:Operand}{i:Nat}{vs:List AV}{z:Nat}{es:List (List AV)}(h:ρ x = .tuple vs:=by exact rfl)(hv:vs[i]? = some (.sl z es):=by exact rfl):Cz Tryz.prog ⟨d,.extract x i,ty,pos,aft,gd⟩ ρ K (.sl z es):=B2 h hv
theorem Qk {x:Operand}{v:Value}(h:ρ x = .val v:=by exact rfl):Cz Tryz.prog ⟨d,.assign x,ty,pos,aft,gd⟩ ρ K (.val v):=A8 h
theorem Bw {x:Operand}{v:Value}(h:ρ x = .val v:=by exact rfl):Cz Tryz.prog ⟨d,.move x,ty,pos,aft,gd⟩ ρ K (.val v):=A0 h
theorem Jb {t:TypeId}{td:TD}{x:Operand}{v:Value}{cs:List AV}(h:ρ x = .ptr (.val v::cs):=by exact rfl)(ht:Br TL t=some td:=by exact rfl)(ha:td.agg=false:=by exact rfl):Cz Tryz.prog ⟨d,.load t x,ty,pos,aft,gd⟩ ρ K (.val v):=Ek tok h ht ha
theorem Qxv {x:Operand}{i:Nat}{vs:List AV}{v:Value}(h:ρ x = .tuple vs:=by exact rfl)(hv:vs[i]? = some (.val v):=by exact rfl):Cz Tryz.prog ⟨d,.extract x i,ty,pos,aft,gd⟩ ρ K (.val v):=B2 h hv
theorem Qaa {x:Operand}{l:List AV}(h:ρ x = .agg l:=by exact rfl):Cz Tryz.prog ⟨d,.assign x,ty,pos,aft,gd⟩ ρ K (.agg l):=A8 h
theorem Qma {x:Operand}{l:List AV}(h:ρ x = .agg l:=by exact rfl):Cz Tryz.prog ⟨d,.move x,ty,pos,aft,gd⟩ ρ K (.agg l):=A0 h
theorem Qla {t:TypeId}{td:TD}{x:Operand}{l:List AV}{cs:List AV}(h:ρ x = .ptr (.agg l::cs):=by exact rfl)(ht:Br TL t=some td:=by exact rfl)(ha:td.agg=false:=by exact rfl):Cz Tryz.prog ⟨d,.load t x,ty,pos,aft,gd⟩ ρ K (.agg l):=Ek tok h ht ha
theorem Qxa {x:Operand}{i:Nat}{vs:List AV}{l:List AV}(h:ρ x = .tuple vs:=by exact rfl)(hv:vs[i]? = some (.agg l):=by exact rfl):Cz Tryz.prog ⟨d,.extract x i,ty,pos,aft,gd⟩ ρ K (.agg l):=B2 h hv
theorem D1 {x:Operand}{s:List UInt8}(h:ρ x = .str s:=by exact rfl):Cz Tryz.prog ⟨d,.assign x,ty,pos,aft,gd⟩ ρ K (.str s):=A8 h
theorem D2 {x:Operand}{s:List UInt8}(h:ρ x = .str s:=by exact rfl):Cz Tryz.prog ⟨d,.move x,ty,pos,aft,gd⟩ ρ K (.str s):=A0 h
theorem C9 {t:TypeId}{td:TD}{x:Operand}{s:List UInt8}{cs:List AV}(h:ρ x = .ptr (.str s::cs):=by exact rfl)(ht:Br TL t=some td:=by exact rfl)(ha:td.agg=false:=by exact rfl):Cz Tryz.prog ⟨d,.load t x,ty,pos,aft,gd⟩ ρ K (.str s):=Ek tok h ht ha
theorem uM {x:Operand}{i:Nat}{vs:List AV}{s:List UInt8}(h:ρ x = .tuple vs:=by exact rfl)(hv:vs[i]? = some (.str s):=by exact rfl):Cz Tryz.prog ⟨d,.extract x i,ty,pos,aft,gd⟩ ρ K (.str s):=B2 h hv
theorem Qau {x:Operand}{l:List AV}(h:ρ x = .tuple l:=by exact rfl):Cz Tryz.prog ⟨d,.assign x,ty,pos,aft,gd⟩ ρ K (.tuple l):=A8 h
theorem Lm {x:Operand}{l:List AV}(h:ρ x = .tuple l:=by exact rfl):Cz Tryz.prog ⟨d,.move x,ty,pos,aft,gd⟩ ρ K (.tuple l):=A0 h
theorem Qlu {t:TypeId}{td:TD}{x:Operand}{l:List AV}{cs:List AV}(h:ρ x = .ptr (.tuple l::cs):=by exact rfl)(ht:Br TL t=some td:=by exact rfl)(ha:td.agg=false:=by exact rfl):Cz Tryz.prog ⟨d,.load t x,ty,pos,aft,gd⟩ ρ K (.tuple l):=Ek tok h ht ha
theorem Qxu {x:Operand}{i:Nat}{vs:List AV}{l:List AV}(h:ρ x = .tuple vs:=by exact rfl)(hv:vs[i]? = some (.tuple l):=by exact rfl):Cz Tryz.prog ⟨d,.extract x i,ty,pos,aft,gd⟩ ρ K (.tuple l):=B2 h hv
theorem Qap {x:Operand}{l:List AV}(h:ρ x = .ptr l:=by exact rfl):Cz Tryz.prog ⟨d,.assign x,ty,pos,aft,gd⟩ ρ K (.ptr l):=A8 h
theorem Qmp {x:Operand}{l:List AV}(h:ρ x = .ptr l:=by exact rfl):Cz Tryz.prog ⟨d,.move x,ty,pos,aft,gd⟩ ρ K (.ptr l):=A0 h
theorem Qlp {t:TypeId}{td:TD}{x:Operand}{l:List AV}{cs:List AV}(h:ρ x = .ptr (.ptr l::cs):=by exact rfl)(ht:Br TL t=some td:=by exact rfl)(ha:td.agg=false:=by exact rfl):Cz Tryz.prog ⟨d,.load t x,ty,pos,aft,gd⟩ ρ K (.ptr l):=Ek tok h ht ha
theorem Qxp {x:Operand}{i:Nat}{vs:List AV}{l:List AV}(h:ρ x = .tuple vs:=by exact rfl)(hv:vs[i]? = some (.ptr l):=by exact rfl):Cz Tryz.prog ⟨d,.extract x i,ty,pos,aft,gd⟩ ρ K (.ptr l):=B2 h hv
theorem Bo (l:List AV){t:TypeId}{td:TD}{x:Operand}{cs:List AV}(h:ρ x = .ptr cs:=by exact rfl)(ht:Br TL t=some td:=by exact rfl)(ha:td.agg=true:=by exact rfl)(hl:cs.take td.size=l:=by exact rfl)(hs:Nat.beq l.length td.size=true:=by exact rfl):Cz Tryz.prog ⟨d,.load t x,ty,pos,aft,gd⟩ ρ K (.agg l):=Qb tok h ht ha hl hs
theorem Qf (cs':List AV){s f off z ft:Nat}{nm:Bool}{x:Operand}{cs:List AV}{td:TD}{gs:List (Nat×Nat×Bool×Nat)}(h:ρ x = .ptr cs:=by exact rfl)(ht:Br TL s=some td:=by exact rfl)(hk:td.kind = .struct gs:=by exact rfl)(hf:gs[f]? = some (off,z,nm,ft):=by exact rfl)(hz:Nat.blt 0 z=true:=by exact rfl)(hc:cs.drop off=cs':=by exact rfl):Cz Tryz.prog ⟨d,.fieldAddr s x f,ty,pos,aft,gd⟩ ρ K (.ptr cs'):=Dp tok h ht hk hf hz hc
theorem Cc {s f off z ft b o:Nat}{nm:Bool}{x:Operand}{td:TD}{gs:List (Nat×Nat×Bool×Nat)}{o':Nat}(h:ρ x = .val (.pointer (some ⟨b,o,none⟩)):=by exact rfl)(ht:Br TL s=some td:=by exact rfl)(hk:td.kind = .struct gs:=by exact rfl)(hf:gs[f]? = some (off,z,nm,ft):=by exact rfl)(hz:Nat.blt 0 z=true:=by exact rfl)(ho:o+off=o':=by exact rfl):Cz Tryz.prog ⟨d,.fieldAddr s x f,ty,pos,aft,gd⟩ ρ K (.val (.pointer (some ⟨b,o',none⟩))):=Xy tok h ht hk hf hz ho
theorem Ed (cs:List AV){t:TypeId}{x:Operand}{l:List AV}(h:ρ x = .agg l:=by exact rfl)(hc:Ch (.agg l)=cs:=by exact rfl)(hs:Bc cs=true:=by exact rfl):Cz Tryz.prog ⟨d,.box t x,ty,pos,aft,gd⟩ ρ K (.ptr cs):=Ts h hc hs
theorem Du (l:List AV){t:TypeId}{td:TD}{gs:List (Nat×Nat×Bool×Nat)}{parts:Array (Nat×Operand)}(ht:Br TL t=some td:=by exact rfl)(hk:td.kind = .struct gs:=by exact rfl)(h:Xj gs td.zero (M7 ρ parts.toList)=some l:=by exact rfl):Cz Tryz.prog ⟨d,.build t parts,ty,pos,aft,gd⟩ ρ K (.agg l):=P_build tok ht hk h
theorem bB {s f' off z ft:Nat}{nm:Bool}{x:Operand}{cs:List AV}{td:TD}{gs:List (Nat×Nat×Bool×Nat)}{a:Int}{b:AV}{c:Int}{d1:Int}{e:Int}{f:Int}{g:Int}{h:List UInt8}(i:ρ x = .ptr cs:=by exact rfl)(ht:Br TL s=some td:=by exact rfl)(hk:td.kind = .struct gs:=by exact rfl)(hf:gs[f']? = some (off,z,nm,ft):=by exact rfl)(hz:Nat.blt 0 z=true:=by exact rfl)(hc:cs.drop off = [.int .i64 a,b,.int .i64 c,.int .i64 d1,.int .i64 e,.int .i64 f,.int .i64 g,.str h]:=by exact rfl):Cz Tryz.prog ⟨d,.fieldAddr s x f',ty,pos,aft,gd⟩ ρ K (.ptr [.int .i64 a,b,.int .i64 c,.int .i64 d1,.int .i64 e,.int .i64 f,.int .i64 g,.str h]):=Dp tok i ht hk hf hz hc
theorem Py {t:TypeId}{td:TD}{x:Operand}{cs:List AV}{a:Int}{b:AV}{c:Int}{d1:Int}{e:Int}{f:Int}{g:Int}{h:List UInt8}(i:ρ x = .ptr cs:=by exact rfl)(ht:Br TL t=some td:=by exact rfl)(ha:td.agg=true:=by exact rfl)(hl:cs.take td.size = [.int .i64 a,b,.int .i64 c,.int .i64 d1,.int .i64 e,.int .i64 f,.int .i64 g,.str h]:=by exact rfl)(hs:Nat.beq 8 td.size=true:=by exact rfl):Cz Tryz.prog ⟨d,.load t x,ty,pos,aft,gd⟩ ρ K (.agg [.int .i64 a,b,.int .i64 c,.int .i64 d1,.int .i64 e,.int .i64 f,.int .i64 g,.str h]):=Qb tok i ht ha hl hs
theorem qR {t:TypeId}{x:Operand}{l:List AV}{a:Int}{b:AV}{c:Int}{d1:Int}{e:Int}{f:Int}{g:Int}{h:List UInt8}(i:ρ x = .agg l:=by exact rfl)(hc:Ch (.agg l) = [.int .i64 a,b,.int .i64 c,.int .i64 d1,.int .i64 e,.int .i64 f,.int .i64 g,.str h]:=by exact rfl)(hs:Bc [.int .i64 a,b,.int .i64 c,.int .i64 d1,.int .i64 e,.int .i64 f,.int .i64 g,.str h]=true:=by exact rfl):Cz Tryz.prog ⟨d,.box t x,ty,pos,aft,gd⟩ ρ K (.ptr [.int .i64 a,b,.int .i64 c,.int .i64 d1,.int .i64 e,.int .i64 f,.int .i64 g,.str h]):=Ts i hc hs
theorem dJ {s f' off z ft:Nat}{nm:Bool}{x:Operand}{cs:List AV}{td:TD}{gs:List (Nat×Nat×Bool×Nat)}{b:AV}{c:Int}{d1:Int}{e:Int}{f:Int}{g:Int}{h:List UInt8}(i:ρ x = .ptr cs:=by exact rfl)(ht:Br TL s=some td:=by exact rfl)(hk:td.kind = .struct gs:=by exact rfl)(hf:gs[f']? = some (off,z,nm,ft):=by exact rfl)(hz:Nat.blt 0 z=true:=by exact rfl)(hc:cs.drop off = [b,.int .i64 c,.int .i64 d1,.int .i64 e,.int .i64 f,.int .i64 g,.str h]:=by exact rfl):Cz Tryz.prog ⟨d,.fieldAddr s x f',ty,pos,aft,gd⟩ ρ K (.ptr [b,.int .i64 c,.int .i64 d1,.int .i64 e,.int .i64 f,.int .i64 g,.str h]):=Dp tok i ht hk hf hz hc
theorem uP {s f' off z ft:Nat}{nm:Bool}{x:Operand}{cs:List AV}{td:TD}{gs:List (Nat×Nat×Bool×Nat)}{c:Int}{d1:Int}{e:Int}{f:Int}{g:Int}{h:List UInt8}(i:ρ x = .ptr cs:=by exact rfl)(ht:Br TL s=some td:=by exact rfl)(hk:td.kind = .struct gs:=by exact rfl)(hf:gs[f']? = some (off,z,nm,ft):=by exact rfl)(hz:Nat.blt 0 z=true:=by exact rfl)(hc:cs.drop off = [.int .i64 c,.int .i64 d1,.int .i64 e,.int .i64 f,.int .i64 g,.str h]:=by exact rfl):Cz Tryz.prog ⟨d,.fieldAddr s x f',ty,pos,aft,gd⟩ ρ K (.ptr [.int .i64 c,.int .i64 d1,.int .i64 e,.int .i64 f,.int .i64 g,.str h]):=Dp tok i ht hk hf hz hc
theorem uN {s f' off z ft:Nat}{nm:Bool}{x:Operand}{cs:List AV}{td:TD}{gs:List (Nat×Nat×Bool×Nat)}{d1:Int}{e:Int}{f:Int}{g:Int}{h:List UInt8}(i:ρ x = .ptr cs:=by exact rfl)(ht:Br TL s=some td:=by exact rfl)(hk:td.kind = .struct gs:=by exact rfl)(hf:gs[f']? = some (off,z,nm,ft):=by exact rfl)(hz:Nat.blt 0 z=true:=by exact rfl)(hc:cs.drop off = [.int .i64 d1,.int .i64 e,.int .i64 f,.int .i64 g,.str h]:=by exact rfl):Cz Tryz.prog ⟨d,.fieldAddr s x f',ty,pos,aft,gd⟩ ρ K (.ptr [.int .i64 d1,.int .i64 e,.int .i64 f,.int .i64 g,.str h]):=Dp tok i ht hk hf hz hc
theorem gT {s f' off z ft:Nat}{nm:Bool}{x:Operand}{cs:List AV}{td:TD}{gs:List (Nat×Nat×Bool×Nat)}{e:Int}{f:Int}{g:Int}{h:List UInt8}(i:ρ x = .ptr cs:=by exact rfl)(ht:Br TL s=some td:=by exact rfl)(hk:td.kind = .struct gs:=by exact rfl)(hf:gs[f']? = some (off,z,nm,ft):=by exact rfl)(hz:Nat.blt 0 z=true:=by exact rfl)(hc:cs.drop off = [.int .i64 e,.int .i64 f,.int .i64 g,.str h]:=by exact rfl):Cz Tryz.prog ⟨d,.fieldAddr s x f',ty,pos,aft,gd⟩ ρ K (.ptr [.int .i64 e,.int .i64 f,.int .i64 g,.str h]):=Dp tok i ht hk hf hz hc
theorem X4 {s f' off z ft:Nat}{nm:Bool}{x:Operand}{cs:List AV}{td:TD}{gs:List (Nat×Nat×Bool×Nat)}{f:Int}{g:Int}{h:List UInt8}(i:ρ x = .ptr cs:=by exact rfl)(ht:Br TL s=some td:=by exact rfl)(hk:td.kind = .struct gs:=by exact rfl)(hf:gs[f']? = some (off,z,nm,ft):=by exact rfl)(hz:Nat.blt 0 z=true:=by exact rfl)(hc:cs.drop off = [.int .i64 f,.int .i64 g,.str h]:=by exact rfl):Cz Tryz.prog ⟨d,.fieldAddr s x f',ty,pos,aft,gd⟩ ρ K (.ptr [.int .i64 f,.int .i64 g,.str h]):=Dp tok i ht hk hf hz hc
theorem Qf6 {s f' off z ft:Nat}{nm:Bool}{x:Operand}{cs:List AV}{td:TD}{gs:List (Nat×Nat×Bool×Nat)}{g:Int}{h:List UInt8}(i:ρ x = .ptr cs:=by exact rfl)(ht:Br TL s=some td:=by exact rfl)(hk:td.kind = .struct gs:=by exact rfl)(hf:gs[f']? = some (off,z,nm,ft):=by exact rfl)(hz:Nat.blt 0 z=true:=by exact rfl)(hc:cs.drop off = [.int .i64 g,.str h]:=by exact rfl):Cz Tryz.prog ⟨d,.fieldAddr s x f',ty,pos,aft,gd⟩ ρ K (.ptr [.int .i64 g,.str h]):=Dp tok i ht hk hf hz hc
theorem Qf7 {s f' off z ft:Nat}{nm:Bool}{x:Operand}{cs:List AV}{td:TD}{gs:List (Nat×Nat×Bool×Nat)}{h:List UInt8}(i:ρ x = .ptr cs:=by exact rfl)(ht:Br TL s=some td:=by exact rfl)(hk:td.kind = .struct gs:=by exact rfl)(hf:gs[f']? = some (off,z,nm,ft):=by exact rfl)(hz:Nat.blt 0 z=true:=by exact rfl)(hc:cs.drop off = [.str h]:=by exact rfl):Cz Tryz.prog ⟨d,.fieldAddr s x f',ty,pos,aft,gd⟩ ρ K (.ptr [.str h]):=Dp tok i ht hk hf hz hc
theorem Ap {x y:Operand}{t yt:TypeId}{k:IntKind}{n m:Int}(hx:ρ x = .int k n:=by exact rfl)(hy:ρ y = .int k m:=by exact rfl):Cz Tryz.prog ⟨d,.binOp .eql t x y yt,ty,pos,aft,gd⟩ ρ K (.bool (n==m)):=Sy hx hy
theorem Bu {x y:Operand}{t yt:TypeId}{k:IntKind}{n m:Int}(hx:ρ x = .int k n:=by exact rfl)(hy:ρ y = .int k m:=by exact rfl):Cz Tryz.prog ⟨d,.binOp .neq t x y yt,ty,pos,aft,gd⟩ ρ K (.bool (n != m)):=Js hx hy
theorem Bp {x y:Operand}{t yt:TypeId}{k:IntKind}{n m:Int}(hx:ρ x = .int k n:=by exact rfl)(hy:ρ y = .int k m:=by exact rfl):Cz Tryz.prog ⟨d,.binOp .lss t x y yt,ty,pos,aft,gd⟩ ρ K (.bool (decide (n<m))):=P_lss hx hy
theorem Do {x y:Operand}{t yt:TypeId}{k:IntKind}{n m:Int}(hx:ρ x = .int k n:=by exact rfl)(hy:ρ y = .int k m:=by exact rfl):Cz Tryz.prog ⟨d,.binOp .gtr t x y yt,ty,pos,aft,gd⟩ ρ K (.bool (decide (m<n))):=Ss hx hy
theorem Ox {x y:Operand}{t yt:TypeId}{k:IntKind}{n m:Int}(hx:ρ x = .int k n:=by exact rfl)(hy:ρ y = .int k m:=by exact rfl):Cz Tryz.prog ⟨d,.binOp .leq t x y yt,ty,pos,aft,gd⟩ ρ K (.bool (decide (n≤m))):=jT hx hy
theorem Gb {x y:Operand}{t yt:TypeId}{k:IntKind}{n m:Int}(hx:ρ x = .int k n:=by exact rfl)(hy:ρ y = .int k m:=by exact rfl):Cz Tryz.prog ⟨d,.binOp .geq t x y yt,ty,pos,aft,gd⟩ ρ K (.bool (decide (m≤n))):=wG hx hy
theorem Dl {x y:Operand}{t yt:TypeId}{n m r:Int}(hx:ρ x = .int .i64 n:=by exact rfl)(hy:ρ y = .int .i64 m:=by exact rfl)(hr:n+m=r:=by exact rfl)(hb : -9223372036854775808≤r∧r≤9223372036854775807:=by constructor <;> omega):Cz Tryz.prog ⟨d,.binOp .add t x y yt,ty,pos,aft,gd⟩ ρ K (.int .i64 r):=qO hx hy hr hb
theorem Ew {x:Operand}{t:TypeId}{b:Bool}(hx:ρ x = .bool b:=by exact rfl):Cz Tryz.prog ⟨d,.unOp .not t x,ty,pos,aft,gd⟩ ρ K (.bool (!b)):=P_not hx
theorem Ea {c a y:Operand}{b x:Bool}(hc:ρ c = .bool b:=by exact rfl)(ha:ρ a = .opt [(b,true)] (.bool x):=by exact rfl)(hy:ρ y = .bool false:=by exact rfl):Cz Tryz.prog ⟨d,.pick c a y,ty,pos,aft,gd⟩ ρ K (.bool (b&&x)):=mF hc ha hy
theorem Cf {c a y:Operand}{b x:Bool}(hc:ρ c = .bool b:=by exact rfl)(ha:ρ a = .bool true:=by exact rfl)(hy:ρ y = .opt [(b,false)] (.bool x):=by exact rfl):Cz Tryz.prog ⟨d,.pick c a y,ty,pos,aft,gd⟩ ρ K (.bool (b||x)):=uJ hc ha hy
theorem Qc {f:FuncId}{args:Array Operand}{ats:Array TypeId}{l:List AV}{r:AV}(ha:args.toList.map ρ=l)(hc:An Tryz.prog f l r)(hf:Tm Tryz.prog f=true:=by kernel_rfl)(hcal:ρ (.func f) = .fn (.func f) [] []:=by exact rfl):Cz Tryz.prog ⟨d,.call ⟨.value (.func f),args,ats⟩,ty,pos,aft,gd⟩ ρ K r:=P_callf hf hcal ha hc
end
section
variable {ops:Array Oper} {K:St→Prop} {s:St} {d:Option Nat} {op:Op} {t:TypeId} {pos:String} {after:Array Edge} {r:List Oper} {x y:AV} {o:Oper} {G:List (Bool×Bool)} {b:Bool} {c1 c2:Code} {Q Q':Exit→St→Prop} {N:St→Prop} {id:Nat}
theorem Qp (h:Cz Tryz.prog ⟨d,op,t,pos,after,none⟩ (Fx s.sl) (fun _=>True) x)(k:AOL Tryz.prog ops K r ⟨Ey d x s.sl,s.H,s.n⟩)(hd:Nc d s.n=true:=by exact rfl):AOL Tryz.prog ops K (⟨d,op,t,pos,after,none⟩::r) s:=AOL.p h hd k
theorem Bt (k:Nat)(cs':List AV)(H2:List HO){b o:Nat}{td:TD}{TT t':TypeId}{cs:List AV}{v:AV}{x1 y1:Operand}(kk:AOL Tryz.prog ops K r ⟨Ey d .junk s.sl,H2,s.n⟩)(h:Fx s.sl x1 = .val (.pointer (some ⟨b,o,none⟩)):=by exact rfl)(hv:Fx s.sl y1=v:=by exact rfl)(ht:Br TL t'=some td:=by exact rfl)(hk:s.H[k]? = some (.box b TT cs):=by exact rfl)(hs:Bc (Ch v)=true:=by exact rfl)(hl:Nat.beq (Ch v).length td.size=true:=by exact rfl)(hb:Nat.ble (o+td.size) cs.length=true:=by exact rfl)(hc:Ia cs o (Ch v)=cs':=by exact rfl)(hH2:s.H.set k (.box b TT cs')=H2:=by exact rfl)(hd:Nc d s.n=true:=by exact rfl):AOL Tryz.prog ops K (⟨d,.store t' x1 y1,t,pos,after,none⟩::r) s:=AOL.e (A6 (k:=k) tok h hv ht hk hs hl hb hc hH2) hd fun x' H' e=>by obtain ⟨e1,e2⟩:=e;subst e1;subst e2;exact kk
abbrev Iq (n:Int):AV:=.int .i64 n
theorem iN {α:Type}{b:Bool}[Decidable (b=true)]{x y:α}(h:b=false):(if b=true then x else y)=y:=if_neg (zz45.mp h)
theorem Qe {R:AV→List HO→Prop}(h:Mn Tryz.prog ⟨d,op,t,pos,after,none⟩ (Fx s.sl) s.H R)(k:∀x H',R x H'→AOL Tryz.prog ops K r ⟨Ey d x s.sl,H',s.n⟩)(hd:Nc d s.n=true:=by exact rfl):AOL Tryz.prog ops K (⟨d,op,t,pos,after,none⟩::r) s:=AOL.e h hd k
theorem Qw {sl:List (Nat×AV)}{L:List (Nat×AV)}(hw:Ip ops o sl=some G:=by exact rfl)(hL:uB G sl L:=by first | exact trivial | exact ⟨Ent.Aak _ _,trivial⟩ | exact ⟨Ent.Aak _ _,yG.suf _ _ _,trivial⟩):Ip ops o sl=some G∧uB G sl L:=⟨hw,hL⟩
theorem Qg (L:List (Nat×AV))(w:Ip ops o s.sl=some G∧uB G s.sl L)(h:Cz Tryz.prog o (Fx (L++s.sl)) (fun _=>True) y)(k:AOL Tryz.prog ops K r ⟨Ey o.dst (.opt G y) s.sl,s.H,s.n⟩)(hd:Nc o.dst s.n=true:=by exact rfl):AOL Tryz.prog ops K (o::r) s:=AOL.Aal G L w.1 (uB.all w.2) (fun _=>h) hd k
theorem Ad (h:AOL Tryz.prog ops (Ff (AW Tryz.prog c2 Q) Q .normal) ops.toList s):AW Tryz.prog (.seq (.region id ops false) c2) Q s:=AW.seq (AW.region h)
theorem Ae (h:N s):AOL Tryz.prog ops (Ff N Q .normal) [] s:=AOL.nil (A5 h)
theorem Bs {ops':Array Oper}(h:AOL Tryz.prog ops' (Ff (AW Tryz.prog c2 Q) Q .normal) ops'.toList s):AOL Tryz.prog ops (Ff (AW Tryz.prog (.seq (.region id ops' false) c2) Q) Q' .normal) [] s:=AOL.nil (A5 (AW.seq (AW.region h)))
theorem Ao {c:Operand}{x y:Code}(ht:b=true→AW Tryz.prog x Q s)(hf:b=false→AW Tryz.prog y Q s)(hb:Fx s.sl c = .bool b:=by exact rfl):AW Tryz.prog (.cond c x y) Q s:=AW.cond hb ht hf
theorem A7 (h:N s):AW Tryz.prog .skip (Ff N Q) s:=AW.skip (A5 h)
theorem Su (h:Q .ret s):AW Tryz.prog .ret (Ff N Q) s:=AW.ret (Av h)
theorem Qr {H:List HO}{l:List ResultVar}{r:AV}(x:AV)(h:Ag [x]=r)(hr:ResL Tryz.prog TL s l [x]:=by exact .cons (.tmp _ _ rfl) .nil)(hs:H.Sublist s.H:=by exact .refl _):(Exit.ret = .normal∨Exit.ret = .ret)∧∃xs,ResL Tryz.prog TL s l xs∧H.Sublist s.H∧Ag xs=r:=⟨.inr rfl,[x],hr,hs,h⟩
theorem M6 {H:List HO}{l:List ResultVar}{r:AV}(x y:AV)(h:Ag [x,y]=r)(hr:ResL Tryz.prog TL s l [x,y]:=by exact .cons (.tmp _ _ rfl) (.cons (.tmp _ _ rfl) .nil))(hs:H.Sublist s.H:=by exact .refl _):(Exit.ret = .normal∨Exit.ret = .ret)∧∃xs,ResL Tryz.prog TL s l xs∧H.Sublist s.H∧Ag xs=r:=⟨.inr rfl,[x,y],hr,hs,h⟩
end
section
variable {ops:Array Oper} {K:List HO→Prop} {Q:St→Prop} {s:St} {o:Oper} {x y:AV} {G:List (Bool×Bool)} {listed:Array Bool}
theorem Qn (i:Nat)(ho:ops[i]? = some o)(h:Cz Tryz.prog o (Fx s.sl) K x)(k:Hb Tryz.prog ops K Q (listed.setIfInBounds i true) ⟨Ey o.dst x s.sl,s.H,s.n⟩)(hr:(Region.ready .any ops listed).contains i=true:=by kernel_rfl)(hf:Region.free .any ops listed i=true:=by kernel_rfl)(hd:Nc o.dst s.n=true:=by exact rfl)(hg:o.guard=none:=by exact rfl):Hb Tryz.prog ops K Q listed s:=Hb.pure listed s i o x ho hr hf hd (.run hg h) k
theorem Qo (i:Nat)(ho:ops[i]? = some o)(L:List (Nat×AV))(w:Ip ops o s.sl=some G∧uB G s.sl L)(h:Cz Tryz.prog o (Fx (L++s.sl)) K y)(k:Hb Tryz.prog ops K Q (listed.setIfInBounds i true) ⟨Ey o.dst (.opt G y) s.sl,s.H,s.n⟩)(hr:(Region.ready .any ops listed).contains i=true:=by kernel_rfl)(hf:Region.free .any ops listed i=true:=by kernel_rfl)(hd:Nc o.dst s.n=true:=by exact rfl):Hb Tryz.prog ops K Q listed s:=Hb.pure listed s i o _ ho hr hf hd (.opt G y L w.1 (uB.all w.2) (fun _=>h) rfl) k
end
abbrev Aq {x0:Int}{x1 x2:List UInt8}{x3:Int}{x4:AV}{x5:Int}:List AV:=[Iq x0,.str x1,.str x2,Iq x3,x4,Iq x5]
abbrev Cu {x0:Int}{x1:AV}{x2 x3 x4 x5 x6:Int}{x7:AV}{x8 x9 x10 x11 x12:Int}{x13:List UInt8}:List AV:=[Iq x0,x1,Iq x2,Iq x3,Iq x4,Iq x5,Iq x6,x7,Iq x8,Iq x9,Iq x10,Iq x11,Iq x12,.str x13]
abbrev Ef {x0:AV}{x1:Int}:List AV:=[x0,Iq x1]
abbrev Ft {x0:Int}{x1:AV}{x2 x3 x4 x5 x6:Int}{x7:List UInt8}:List AV:=[Iq x0,x1,Iq x2,Iq x3,Iq x4,Iq x5,Iq x6,.str x7]
abbrev Fu {x0:List UInt8}{x1 x2:AV}{x3:Int}{x4:AV}{x5 x6 x7 x8 x9:Int}{x10:AV}{x11 x12 x13 x14 x15:Int}{x16:List UInt8}{x17:AV}:List AV:=[.str x0,x1,x2,Iq x3,x4,Iq x5,Iq x6,Iq x7,Iq x8,Iq x9,x10,Iq x11,Iq x12,Iq x13,Iq x14,Iq x15,.str x16,x17]
abbrev Ga {x0 x1:Int}:List AV:=[Iq x0,Iq x1]
abbrev H6 {x0:List UInt8}{x1:Int}:List AV:=[.str x0,Iq x1]
abbrev gcy {x0 x1:AV}:List AV:=[x0,x1]
abbrev Ik {x0 x1:List UInt8}{x2:Int}{x3:AV}{x4:Int}:List AV:=[.str x0,.str x1,Iq x2,x3,Iq x4]
abbrev Ji {x0:List UInt8}{x1:AV}:List AV:=[.str x0,x1]
abbrev J2 {x0 x1:Int}{x2:List UInt8}:List AV:=[Iq x0,Iq x1,.str x2]
abbrev J8 {x0:Int}{x1:AV}{x2:Int}:List AV:=[Iq x0,x1,Iq x2]
abbrev K2 {x0:Int}{x1:List UInt8}{x2 x3 x4 x5:Int}:List AV:=[Iq x0,.str x1,Iq x2,Iq x3,Iq x4,Iq x5]
abbrev L7 :List AV:=[.int .i64 0,.str [],.str [],.int .i64 0,.sl 6 [],.int .i64 0]
abbrev Po {x0:List UInt8}{x1:Int}{x2:AV}{x3:Int}:List AV:=[.str x0,Iq x1,x2,Iq x3]
abbrev Vx {x0:AV}{x1 x2 x3 x4 x5:Int}{x6:AV}{x7 x8 x9 x10 x11:Int}{x12:List UInt8}:List AV:=[x0,Iq x1,Iq x2,Iq x3,Iq x4,Iq x5,x6,Iq x7,Iq x8,Iq x9,Iq x10,Iq x11,.str x12]
abbrev bC :List AV:=[.int .i64 0,.int .i64 0]
abbrev cL :List AV:=[.str [],.sl 2 [],.sl 1 [],.int .i64 0,.sl 14 [],.int .i64 0,.int .i64 0,.int .i64 0,.int .i64 0,.int .i64 0,.sl 8 [],.int .i64 0,.int .i64 0,.int .i64 0,.int .i64 0,.int .i64 0,.str [],.sl 8 []]
abbrev gV :List AV:=[.int .i64 0,.sl 14 [],.int .i64 0,.int .i64 0,.int .i64 0,.int .i64 0,.int .i64 0,.sl 8 [],.int .i64 0,.int .i64 0,.int .i64 0,.int .i64 0,.int .i64 0,.str []]
abbrev lJ {x0:Int}{x1:List UInt8}{x2:Int}:List AV:=[Iq x0,.str x1,Iq x2]
abbrev kR {x0:List UInt8}{x1:Int}{x2:AV}:List AV:=[.str x0,Iq x1,x2]
abbrev oB :List AV:=[.int .i64 0,.sl 8 [],.int .i64 0,.int .i64 0,.int .i64 0,.int .i64 0,.int .i64 0,.str []]
abbrev uL {x0 x1 x2:Int}{x3:AV}{x4 x5 x6 x7 x8:Int}{x9:List UInt8}:List AV:=[Iq x0,Iq x1,Iq x2,x3,Iq x4,Iq x5,Iq x6,Iq x7,Iq x8,.str x9]
abbrev ghz {x0 x1 x2 x3:Int}{x4:AV}{x5 x6 x7 x8 x9:Int}{x10:List UInt8}:List AV:=[Iq x0,Iq x1,Iq x2,Iq x3,x4,Iq x5,Iq x6,Iq x7,Iq x8,Iq x9,.str x10]
abbrev gix :List AV:=[.int .i64 0,.str [],.int .i64 0,.int .i64 0,.int .i64 0,.int .i64 0]
abbrev giy :List AV:=[.sl 2 [],.sl 18 []]
abbrev giz {x0:AV}{x1 x2 x3 x4 x5:Int}:List AV:=[x0,Iq x1,Iq x2,Iq x3,Iq x4,Iq x5]
abbrev gjx {x0 x1 x2 x3 x4:Int}{x5:AV}{x6 x7 x8 x9 x10:Int}{x11:List UInt8}:List AV:=[Iq x0,Iq x1,Iq x2,Iq x3,Iq x4,x5,Iq x6,Iq x7,Iq x8,Iq x9,Iq x10,.str x11]
abbrev gjy {x0 x1:Int}{x2:AV}{x3 x4 x5 x6 x7:Int}{x8:List UInt8}:List AV:=[Iq x0,Iq x1,x2,Iq x3,Iq x4,Iq x5,Iq x6,Iq x7,.str x8]
abbrev gjz {x0 x1 x2 x3:Bool}:List AV:=[.bool x0,.bool x1,.bool x2,.bool x3]
abbrev gkx {x0 x1:AV}{x2:Int}{x3:AV}{x4 x5 x6 x7 x8:Int}{x9:AV}{x10 x11 x12 x13 x14:Int}{x15:List UInt8}{x16:AV}:List AV:=[x0,x1,Iq x2,x3,Iq x4,Iq x5,Iq x6,Iq x7,Iq x8,x9,Iq x10,Iq x11,Iq x12,Iq x13,Iq x14,.str x15,x16]
abbrev gky {x0 x1:Int}{x2 x3 x4 x5:Bool}:List AV:=[Iq x0,Iq x1,.bool x2,.bool x3,.bool x4,.bool x5]
section
variable {ops ops2:Array Oper} {K:St→Prop} {s:St} {d:Option Nat} {op:Op} {t:TypeId} {pos:String} {after:Array Edge} {r:List Oper} {x y:AV} {o:Oper} {c1 c2 c3:Code} {Q Q1 Q2:Exit→St→Prop} {N N1:St→Prop} {id id2:Nat}
theorem Ra (h:Q .ret s):AOL Tryz.prog ops (Ff (AW Tryz.prog .ret (Jl id (Ff N Q))) Q1 .normal) [] s:=Ae (AW.ret (B9 (Av h)))
theorem Rf (h:N s):AW Tryz.prog .skip (Jl id (Ff N Q)) s:=AW.skip (Ig (A5 h))
theorem Ri (h:N s):Ff N1 (Jl id (Ff N Q)) (.exit id) s:=Bk (Th (A5 h))
theorem Rj {Q1:Exit→St→Prop}(h:Q1 .ret s):Jl id (Ff N (Ff N1 (Jl id2 Q1))) .ret s:=B9 (Av (Av (B9 h)))
theorem Rk (h:N s):AOL Tryz.prog ops (Jl id (Ff N Q) .normal) [] s:=AOL.nil (Ig (A5 h))
theorem Rc (h:Q .ret s):AOL Tryz.prog ops (Ff (AW Tryz.prog .ret (Ff N Q)) Q1 .normal) [] s:=Ae (Su h)
theorem Rb (h:Q .ret s):AOL Tryz.prog ops (Ff (AW Tryz.prog .ret Q) Q1 .normal) [] s:=Ae (AW.ret h)
theorem Rd (h:AOL Tryz.prog ops (Ff (AW Tryz.prog c2 (Ff (AW Tryz.prog c3 Q) Q)) (Ff (AW Tryz.prog c3 Q) Q) .normal) ops.toList s):AW Tryz.prog (.seq (.seq (.region id ops false) c2) c3) Q s:=AW.seq (Ad h)
theorem Re (h:AW Tryz.prog c1 (Ff (AW Tryz.prog c2 Q) Q) s):AOL Tryz.prog ops (Ff (AW Tryz.prog (.seq c1 c2) Q) Q1 .normal) [] s:=Ae (AW.seq h)
theorem mW {f:FuncId}{args:Array Operand}{ats:Array TypeId}{l:List AV}{v:AV}{H2:List HO}(hc:B5 Tryz.prog f s.H l fun r' H'=>r'=v∧H'=H2)(k:AOL Tryz.prog ops K r ⟨Ey d v s.sl,H2,s.n⟩)(hf:Tm Tryz.prog f=true:=by kernel_rfl)(hcal:Fx s.sl (.func f) = .fn (.func f) [] []:=by exact rfl)(ha:args.toList.map (Fx s.sl)=l:=by exact rfl)(hd:Nc d s.n=true:=by exact rfl):AOL Tryz.prog ops K (⟨d,.call ⟨.value (.func f),args,ats⟩,t,pos,after,none⟩::r) s:=Qe (fW hf hcal ha hc) (fun _ _ ⟨h1,h2⟩=>by subst h1;subst h2;exact k) hd
theorem Rt {v:AV}{H2:List HO}(h:Mn Tryz.prog ⟨d,op,t,pos,after,none⟩ (Fx s.sl) s.H fun r' H'=>r'=v∧H'=H2)(k:AOL Tryz.prog ops K r ⟨Ey d v s.sl,H2,s.n⟩)(hd:Nc d s.n=true:=by exact rfl):AOL Tryz.prog ops K (⟨d,op,t,pos,after,none⟩::r) s:=Qe h (fun _ _ ⟨h1,h2⟩=>by subst h1;subst h2;exact k) hd
theorem Dt {T:TypeId}(l:List AV)(k:∀b,AOL Tryz.prog ops K r ⟨Ey d (.val (.pointer (some ⟨b,0,none⟩))) s.sl,.box b T l::s.H,s.n⟩)(hz:zOK Tryz.prog T l=true:=by kernel_rfl)(hd:Nc d s.n=true:=by exact rfl):AOL Tryz.prog ops K (⟨d,.alloc T,t,pos,after,none⟩::r) s:=Qe (Jp hz) (fun _ _ ⟨b,h1,h2⟩=>by subst h1;subst h2;exact k b) hd
end
section
variable {ops:Array Oper} {s:St} {d:Option Nat} {t:TypeId} {pos:String} {aft:Array Edge} {gd:Option (Nat×Bool)} {ρ:Operand→AV}
theorem Dc {f:FuncId}{args:Array Operand}{ats:Array TypeId}{l:List AV}{G:List HO}{R:AV→List HO→Prop}(ha:args.toList.map ρ=l)(hc:B5 Tryz.prog f G l R)(hf:Tm Tryz.prog f=true:=by kernel_rfl)(hcal:ρ (.func f) = .fn (.func f) [] []:=by exact rfl):Mn Tryz.prog ⟨d,.call ⟨.value (.func f),args,ats⟩,t,pos,aft,gd⟩ ρ G R:=fW hf hcal ha hc
theorem Gi {id:Nat}{Q:Exit→St→Prop}(h:Hb Tryz.prog ops (fun _=>True) (Q .normal) (Array.replicate ops.size false) s)(hdd:Ep ops=true:=by kernel_rfl):AW Tryz.prog (.region id ops true) Q s:=AW.draw mixed (fun _=>True) trivial hdd h
theorem Ej {K:List HO→Prop}{Q:St→Prop}{listed:Array Bool}(h:Q s)(hr:Region.ready .any ops listed = []:=by kernel_rfl):Hb Tryz.prog ops K Q listed s:=Hb.done listed s hr h
theorem lZ {Q:St→Prop}{listed:Array Bool}{o:Oper}{R:AV→List HO→Prop}(i:Nat)(ho:ops[i]? = some o)(hp:Mn Tryz.prog o (Fx s.sl) s.H R)(h:∀x H',R x H'→Hb Tryz.prog ops (fun _=>True) Q (listed.setIfInBounds i true) ⟨Ey o.dst x s.sl,H',s.n⟩)(hr:Region.ready .any ops listed = [i]:=by kernel_rfl)(hd:Nc o.dst s.n=true:=by exact rfl)(hw:o.guard=none:=by exact rfl):Hb Tryz.prog ops (fun _=>True) Q listed s:=Hb.eff listed s i o R ho hr hd hw hp (fun _ _ _=>trivial) h
theorem Jj {Q:St→Prop}{listed:Array Bool}{o:Oper}{v:AV}{G:List HO}(i:Nat)(ho:ops[i]? = some o)(hp:Mn Tryz.prog o (Fx s.sl) s.H fun x H'=>x=v∧H'=G)(h:Hb Tryz.prog ops (fun _=>True) Q (listed.setIfInBounds i true) ⟨Ey o.dst v s.sl,G,s.n⟩)(hr:Region.ready .any ops listed = [i]:=by kernel_rfl)(hd:Nc o.dst s.n=true:=by exact rfl)(hw:o.guard=none:=by exact rfl):Hb Tryz.prog ops (fun _=>True) Q listed s:=lZ i ho hp (fun _ _ ⟨h1,h2⟩=>by subst h1;subst h2;exact h) hr hd hw
theorem Bv {sl sl':List (Nat×AV)}{G G':List HO}{n:Nat}(h:Wk sl sl':=by (repeat refine ⟨rfl,?_⟩);exact trivial)(hs:G'.Sublist G:=by exact .refl _):GS ⟨sl,G,n⟩ ⟨sl',G',n⟩:=GS.weaken h hs
end

abbrev A1:=List UInt8

def bt (s:A1)(i:Nat):UInt8:=s.getD i 0
theorem F3 {s:A1}{i:Nat}(h:i<s.length):s[i]? = some (bt s i):=by simp [bt,Nv,List.getElem?_eq_getElem h]

def Dz (c:UInt8):Bool:=decide (48≤(c.toNat:Int))&&decide ((c.toNat:Int)≤57)
def Hv (c:UInt8):Bool:=(((c.toNat:Int)==95)||(decide (97≤(c.toNat:Int))&&decide ((c.toNat:Int)≤122)))||(decide (65≤(c.toNat:Int))&&decide ((c.toNat:Int)≤90))
def Jr (c:UInt8):Bool:=Hv c||Dz c
def gC (c:UInt8):Bool:=!Hv c && !Dz c
def pT (c:UInt8):Bool:=(c.toNat:Int) != 10

def D5 (p:UInt8→Bool):A1→Nat
 | []=>0
 | c::r=>if p c then D5 p r+1 else 0

structure Tok where
 kind:Int
 text:A1
 pos:Int
deriving DecidableEq
structure Fo where
 tok:Tok
 bytes:Int
 pos:Int
 err:Int
deriving DecidableEq
def Mh:Tok:=⟨0,[],0⟩
def foZ:Fo:=⟨Mh,0,0,0⟩
def Pj (pos err:Int):Fo:=⟨Mh,0,pos,err⟩
def oX (kind:Int)(text:A1)(bytes:Int):Fo:=⟨⟨kind,text,0⟩,bytes,0,0⟩

def Mm (s:A1):Fo:=if !Hv (bt s 0) then foZ else if decide (24<(D5 Jr s:Int)) then Pj 0 8 else oX 0 (s.take (D5 Jr s)) (D5 Jr s)

def uO (c:UInt8):Int:=IntKind.u8.wrap ((c.toNat:Int)-48)
def Mr:A1→Int→Int×Int
 | [],n=>(n,0)
 | c::r,n=>if decide (1099511627776<10*n+uO c) then (0,2) else Mr r (10*n+uO c)
def bM (s:A1):Int×Int:=if (s == [])||decide ((D5 Dz s:Int)<(s.length:Int)) then (0,4) else Mr s 0

def Hh (s:A1):Fo:=
 if ((D5 Dz s:Int)==0) then foZ
 else if ((bM (s.take (D5 Dz s))).2 != 0) then Pj 0 (bM (s.take (D5 Dz s))).2
 else if (decide ((D5 Dz s:Int)<(s.length:Int))&&Hv (bt s (D5 Dz s))) then Pj (D5 Dz s) 4
 else oX 1 (s.take (D5 Dz s)) (D5 Dz s)

def Sn:A1:=[48,49,50,51,52,53,54,55,56,57,97,98,99,100,101,102]
abbrev gO (c:UInt8):Int:=Lib.indexByte Sn c
def Z6 (n:Int):UInt8:=UInt8.ofNat (IntKind.u8.wrap n).toNat

def K7 (s:A1):UInt8×Int:=
 if decide (2≤(s.length:Int))&&(((bt s 1).toNat:Int)==34||((bt s 1).toNat:Int)==92) then (bt s 1,2)
 else if decide (4≤(s.length:Int))&&(((bt s 1).toNat:Int)==120) then
  if decide (0≤gO (bt s 2))&&decide (0≤gO (bt s 3)) then (Z6 (16*gO (bt s 2)+gO (bt s 3)),4) else (0,0)
 else (0,0)

def I7 (s:A1):Nat→Nat→A1→Fo
  | 0,_,_=>Pj s.length 4
  | n+1,i,b=>
    if decide ((i:Int)<(s.length:Int)) then
      if (((bt s i).toNat:Int)==34) then
        if decide (64<(b.length:Int)) then Pj 0 13 else oX 2 b ((i:Int)+1)
      else if (((bt s i).toNat:Int)==92) then
        if ((K7 (s.drop i)).2==0) then Pj i 4 else I7 s n (i+(K7 (s.drop i)).2.toNat) (b ++ [(K7 (s.drop i)).1])
      else if (decide (((bt s i).toNat:Int)<32)||decide (126<((bt s i).toNat:Int))) then Pj i 4
      else I7 s n (i+1) (b ++ [bt s i])
    else Pj s.length 4
def Li (s:A1):Fo:=if (((bt s 0).toNat:Int) != 34) then foZ else I7 s (s.length+1) 1 []

def iD:List A1:=[[60,61],[62,61],[61,61],[33,61],[40],[41],[123],[125],[44],[46],[58],[59],[43],[45],[60],[62],[61]]
def Gt (s:A1):List A1→Fo
 | []=>Pj 0 4
 | x::r=>if Lib.hasPrefix s x then oX 3 x x.length else Gt s r
def Xq (s:A1):Fo:=Gt s iD

def S8 (s:A1):Int:=if (((bt s 0).toNat:Int)==35) then D5 pT s else if decide (0≤Lib.indexByte [32,9,13,10] (bt s 0)) then 1 else 0

def Pp (f:Fo):Bool:=decide (0<f.bytes)||(f.err != 0)
def Dr (s:A1):Fo:=if Pp (Mm s) then Mm s else if Pp (Hh s) then Hh s else if Pp (Li s) then Li s else Xq s

def Jn (s:A1):Nat→Nat→List Tok→List Tok×Int×Int
  | 0,_,_=>([],0,0)
  | n+1,i,out=>
    if decide ((i:Int)<(s.length:Int)) then
      if decide (0<S8 (s.drop i)) then Jn s n (i+(S8 (s.drop i)).toNat) out
      else if ((Dr (s.drop i)).err != 0) then ([],(i:Int)+(Dr (s.drop i)).pos,(Dr (s.drop i)).err)
      else Jn s n (i+(Dr (s.drop i)).bytes.toNat) (out ++ [⟨(Dr (s.drop i)).tok.kind,(Dr (s.drop i)).tok.text,i⟩])
    else (out,0,0)
def H8 (s:A1):List Tok×Int×Int:=if decide (65536<(s.length:Int)) then ([],0,13) else Jn s (s.length+1) 0 []

def posS (s:A1)(k:Int):Int×Int×Int:=
 if decide (65536<(s.length:Int)) then (0,0,13)
 else if (decide (k<0)||decide ((s.length:Int)<k)) then (0,0,2)
 else ((Lib.countByte (s.take k.toNat) 10:Int)+1,k-Lib.lastIndex (s.take k.toNat) [10],0)

def aO:A1:=[32,97,108,108,32,97,108,116,32,97,110,100,32,98,111,111,108,32,98,121,32,99,111,117,110,116,32,102,97,108,115,101,32,102,105,114,115,116,32,105,102,32,105,110,116,32,108,97,99,107,115,32,108,97,115,116,32,109,97,116,99,104,32,109,97,120,32,109,105,110,32,110,111,116,32,111,114,32,112,108,117,115,32,113,117,101,114,121,32,114,101,116,117,114,110,32,115,101,113,32,115,116,114,105,110,103,32,115,117,109,32,116,105,109,101,32,116,114,117,101,32,116,121,112,101,32,119,104,101,114,101,32,119,105,116,104,105,110,32]
def sT (s:A1):Bool:=(!(s == []) && !Lib.contains s [32])&&Lib.contains aO ([32]++s ++ [32])

def Ir (p:UInt8→Bool):A1→Int
 | []=>-1
 | c::r=>if p c then 0 else if Ir p r = -1 then -1 else Ir p r+1
def Yw (s:A1):Int:=
 if (((s == [])||decide (24<(s.length:Int)))||Dz (bt s 0))||sT s then 8 else if decide (0≤Ir gC s) then 8 else 0

def Mg (c:UInt8):A1:=
 if (((c.toNat:Int)==34)||((c.toNat:Int)==92)) then [92,c]
 else if (decide ((c.toNat:Int)<32)||decide (126<(c.toNat:Int))) then [92,120,bt Sn (c.toNat / 16),bt Sn (c.toNat % 16)]
 else [c]
def Ei:A1→A1
 | []=>[]
 | c::r=>Mg c++Ei r
def Lz (s:A1):A1×Int:=if decide (64<(s.length:Int)) then ([],13) else ([34]++Ei s ++ [34],0)

def bP (s:A1):Bool:=
 (s == [97,108,108])||(s == [97,108,116])||(s == [97,110,100])||(s == [98,111,111,108])||(s == [98,121])||(s == [99,111,117,110,116])||(s == [102,97,108,115,101])||(s == [102,105,114,115,116])||(s == [105,102])||(s == [105,110,116])||(s == [108,97,99,107,115])||(s == [108,97,115,116])||(s == [109,97,116,99,104])||(s == [109,97,120])||(s == [109,105,110])||(s == [110,111,116])||(s == [111,114])||(s == [112,108,117,115])||(s == [113,117,101,114,121])||(s == [114,101,116,117,114,110])||(s == [115,101,113])||(s == [115,116,114,105,110,103])||(s == [115,117,109])||(s == [116,105,109,101])||(s == [116,114,117,101])||(s == [116,121,112,101])||(s == [119,104,101,114,101])||(s == [119,105,116,104,105,110])
def xX (c:UInt8):Bool:=((((c.toNat:Int)==32)||((c.toNat:Int)==9))||((c.toNat:Int)==13))||((c.toNat:Int)==10)
def fA (c:UInt8):Bool:=((decide (32≤(c.toNat:Int))&&decide ((c.toNat:Int)≤126))&&((c.toNat:Int) != 34))&&((c.toNat:Int) != 92)
def hexR (c:UInt8):Int:=if Dz c then uO c else if decide (97≤(c.toNat:Int))&&decide ((c.toNat:Int)≤102) then IntKind.u8.wrap ((c.toNat:Int)-97)+10 else -1
def cZ (s:A1):Int:=
 if ((((s == [])||decide (24<(s.length:Int))) || !Hv (bt s 0))||((D5 Jr s:Int) != (s.length:Int)))||bP s then 8 else 0
def numR (s:A1):Int×Int:=if (s == []) then (0,4) else if s.all Dz then Mr s 0 else (0,4)
def Ll (c:UInt8):A1:=
 if fA c then [c] else if (((c.toNat:Int)==34)||((c.toNat:Int)==92)) then [92,c] else [92,120,bt Sn (c.toNat / 16),bt Sn (c.toNat % 16)]
def D7:A1→A1
 | []=>[]
 | c::r=>Ll c++D7 r
def Tl (s:A1):A1×Int:=if decide (64<(s.length:Int)) then ([],13) else ([34]++D7 s ++ [34],0)

def tM (s:A1)(i:Nat):UInt8×Int:=
 if decide ((s.length:Int)≤(i:Int)+1) then (0,0)
 else if (((bt s (i+1)).toNat:Int)==34||((bt s (i+1)).toNat:Int)==92) then (bt s (i+1),(i:Int)+2)
 else if ((((bt s (i+1)).toNat:Int) != 120||decide ((s.length:Int)≤(i:Int)+3))||decide (hexR (bt s (i+2))<0))||decide (hexR (bt s (i+3))<0) then (0,0)
 else (Z6 (16*hexR (bt s (i+2))+hexR (bt s (i+3))),(i:Int)+4)

def Vm (s:A1)(k:Nat):Nat→Nat→A1→A1×Int×Int
  | 0,_,_=>([],s.length,4)
  | n+1,i,b=>
    if decide ((s.length:Int)≤(i:Int)) then ([],s.length,4)
    else if (((bt s i).toNat:Int)==34) then if decide (64<(b.length:Int)) then ([],k,13) else (b,(i:Int)+1,0)
    else if fA (bt s i) then Vm s k n (i+1) (b ++ [bt s i])
    else if (((bt s i).toNat:Int) != 92)||((tM s i).2==0) then ([],i,4)
    else Vm s k n (tM s i).2.toNat (b ++ [(tM s i).1])
def xY (s:A1)(k:Nat):A1×Int×Int:=Vm s k (s.length+1) (k+1) []

def sign1 (c:UInt8):Bool:=
 ((c.toNat:Int)==40)||((c.toNat:Int)==41)||((c.toNat:Int)==123)||((c.toNat:Int)==125)||((c.toNat:Int)==44)||((c.toNat:Int)==46)||((c.toNat:Int)==58)||((c.toNat:Int)==59)||((c.toNat:Int)==43)||((c.toNat:Int)==45)||((c.toNat:Int)==60)||((c.toNat:Int)==62)||((c.toNat:Int)==61)
abbrev sign2 (c:UInt8):Bool:=((((c.toNat:Int)==60)||((c.toNat:Int)==62))||((c.toNat:Int)==61))||((c.toNat:Int)==33)
def xR (s:A1)(k:Nat):Int:=
 if (sign2 (bt s k)&&decide ((k:Int)+1<(s.length:Int)))&&(((bt s (k+1)).toNat:Int)==61) then 2 else if sign1 (bt s k) then 1 else 0

def Y0 (s:A1)(k:Nat):Nat:=k+D5 Jr (s.drop k)
def Pa (s:A1)(k:Nat):Nat:=k+D5 Dz (s.drop k)

def Na (s:A1)(k:Nat):Tok×Int×Int:=
 if Hv (bt s k) then
  if decide (24<(Y0 s k:Int)-(k:Int)) then (Mh,k,8) else (⟨0,(s.take (Y0 s k)).drop k,k⟩,Y0 s k,0)
 else if Dz (bt s k) then
  if ((numR ((s.take (Pa s k)).drop k)).2 != 0) then (Mh,k,(numR ((s.take (Pa s k)).drop k)).2)
  else if (decide ((Pa s k:Int)<(s.length:Int))&&Hv (bt s (Pa s k))) then (Mh,Pa s k,4)
  else (⟨1,(s.take (Pa s k)).drop k,k⟩,Pa s k,0)
 else if (((bt s k).toNat:Int)==34) then
  if ((xY s k).2.2 != 0) then (Mh,(xY s k).2.1,(xY s k).2.2) else (⟨2,(xY s k).1,k⟩,(xY s k).2.1,0)
 else if (xR s k==0) then (Mh,k,4)
 else (⟨3,(s.take (k+(xR s k).toNat)).drop k,k⟩,(k:Int)+xR s k,0)

def Sg (s:A1):Nat→Nat→Bool→List Tok→List Tok×Int×Int
  | 0,_,_,_=>([],0,0)
  | n+1,i,comment,out=>
    if decide ((i:Int)<(s.length:Int)) then
      if ((comment||xX (bt s i))||(((bt s i).toNat:Int)==35)) then Sg s n (i+1) ((comment||(((bt s i).toNat:Int)==35))&&(((bt s i).toNat:Int) != 10)) out
      else if ((Na s i).2.2 != 0) then ([],(Na s i).2.1,(Na s i).2.2)
      else Sg s n (Na s i).2.1.toNat false (out ++ [(Na s i).1])
    else (out,0,0)
def rL (s:A1):List Tok×Int×Int:=if decide (65536<(s.length:Int)) then ([],0,13) else Sg s (s.length+1) 0 false []

def nU:A1→Int×Int→Int×Int
 | [],p=>p
 | c::r,p=>nU r (if ((c.toNat:Int)==10) then (p.1+1,1) else (p.1,p.2+1))
def posR (s:A1)(k:Int):Int×Int×Int:=
 if decide (65536<(s.length:Int)) then (0,0,13)
 else if (decide (k<0)||decide ((s.length:Int)<k)) then (0,0,2)
 else ((nU (s.take k.toNat) (1,1)).1,(nU (s.take k.toNat) (1,1)).2,0)

@[reducible] def cTok (t : Tok) : List AV := [.int .i64 t.kind, .str t.text, .int .i64 t.pos]
@[reducible] def cFo (f : Fo) : List AV := [.int .i64 f.tok.kind, .str f.tok.text, .int .i64 f.tok.pos, .int .i64 f.bytes, .int .i64 f.pos, .int .i64 f.err]
def jW (t:Tok):List AV:=cTok t

end Go.Proofs.YtckhoadldibflaaGreatDoor
