/-
  Several texts in one: Az, M, M12. No condition.
-/
import Derived.Test.YtckhoadldibflaaGreatDoorAx
import Derived.Test.YtckhoadldibflaaGreatDoorTab
import Derived.KernelRfl
import Derived.Test.YtckhoadldibflaaGreatDoorAw
import Derived.Lib.IndexMore
import Derived.Lib.LastIndexLaws
import Derived.Lib.Join
set_option linter.unusedVariables false
set_option linter.unusedSimpArgs false
namespace Go.Proofs.YtckhoadldibflaaGreatDoor
open Go Go.Aw
set_option maxRecDepth 100000

section
variable {d:Option Nat} {ty:TypeId} {pos:String} {aft:Array Edge} {gd:Option (Nat×Bool)} {ρ:Operand->AV} {K:List HO->Prop}
theorem Aq {x:Operand}{n:Int}(h:ρ x = .int .i64 n:=by exact rfl):Dp Tryz.prog ⟨d,.assign x,ty,pos,aft,gd⟩ ρ K (.int .i64 n):=Ba h
theorem Ap {x:Operand}{n:Int}(h:ρ x = .int .i64 n:=by exact rfl):Dp Tryz.prog ⟨d,.move x,ty,pos,aft,gd⟩ ρ K (.int .i64 n):=A1 h
theorem B6 {t:TypeId}{td:TD}{x:Operand}{n:Int}{cs:List AV}(h:ρ x = .ptr (.int .i64 n::cs):=by exact rfl)(ht:Bs TL t=some td:=by exact rfl)(ha:td.agg=false:=by exact rfl):Dp Tryz.prog ⟨d,.load t x,ty,pos,aft,gd⟩ ρ K (.int .i64 n):=F0 tok h ht ha
theorem Lv {x:Operand}{i:Nat}{vs:List AV}{n:Int}(h:ρ x = .tuple vs:=by exact rfl)(hv:vs[i]? = some (.int .i64 n):=by exact rfl):Dp Tryz.prog ⟨d,.extract x i,ty,pos,aft,gd⟩ ρ K (.int .i64 n):=Ch h hv
theorem Bc {x:Operand}{b:Bool}(h:ρ x = .bool b:=by exact rfl):Dp Tryz.prog ⟨d,.assign x,ty,pos,aft,gd⟩ ρ K (.bool b):=Ba h
theorem Cc {x:Operand}{b:Bool}(h:ρ x = .bool b:=by exact rfl):Dp Tryz.prog ⟨d,.move x,ty,pos,aft,gd⟩ ρ K (.bool b):=A1 h
theorem rB {t:TypeId}{td:TD}{x:Operand}{b:Bool}{cs:List AV}(h:ρ x = .ptr (.bool b::cs):=by exact rfl)(ht:Bs TL t=some td:=by exact rfl)(ha:td.agg=false:=by exact rfl):Dp Tryz.prog ⟨d,.load t x,ty,pos,aft,gd⟩ ρ K (.bool b):=F0 tok h ht ha
theorem lL {x:Operand}{i:Nat}{vs:List AV}{b:Bool}(h:ρ x = .tuple vs:=by exact rfl)(hv:vs[i]? = some (.bool b):=by exact rfl):Dp Tryz.prog ⟨d,.extract x i,ty,pos,aft,gd⟩ ρ K (.bool b):=Ch h hv
theorem lK {x:Operand}{z:Nat}{es:List (List AV)}(h:ρ x = .sl z es:=by exact rfl):Dp Tryz.prog ⟨d,.assign x,ty,pos,aft,gd⟩ ρ K (.sl z es):=Ba h
theorem K7 {x:Operand}{z:Nat}{es:List (List AV)}(h:ρ x = .sl z es:=by exact rfl):Dp Tryz.prog ⟨d,.move x,ty,pos,aft,gd⟩ ρ K (.sl z es):=A1 h
theorem Dd {t:TypeId}{td:TD}{x:Operand}{z:Nat}{es:List (List AV)}{cs:List AV}(h:ρ x = .ptr (.sl z es::cs):=by exact rfl)(ht:Bs TL t=some td:=by exact rfl)(ha:td.agg=false:=by exact rfl):Dp Tryz.prog ⟨d,.load t x,ty,pos,aft,gd⟩ ρ K (.sl z es):=F0 tok h ht ha
theorem Qxs {x:Operand}{i:Nat}{vs:List AV}{z:Nat}{es:List (List AV)}(h:ρ x = .tuple vs:=by exact rfl)(hv:vs[i]? = some (.sl z es):=by exact rfl):Dp Tryz.prog ⟨d,.extract x i,ty,pos,aft,gd⟩ ρ K (.sl z es):=Ch h hv
theorem Sa {x:Operand}{v:Value}(h:ρ x = .val v:=by exact rfl):Dp Tryz.prog ⟨d,.assign x,ty,pos,aft,gd⟩ ρ K (.val v):=Ba h
theorem Bx {x:Operand}{v:Value}(h:ρ x = .val v:=by exact rfl):Dp Tryz.prog ⟨d,.move x,ty,pos,aft,gd⟩ ρ K (.val v):=A1 h
theorem Lh {t:TypeId}{td:TD}{x:Operand}{v:Value}{cs:List AV}(h:ρ x = .ptr (.val v::cs):=by exact rfl)(ht:Bs TL t=some td:=by exact rfl)(ha:td.agg=false:=by exact rfl):Dp Tryz.prog ⟨d,.load t x,ty,pos,aft,gd⟩ ρ K (.val v):=F0 tok h ht ha
theorem Qxv {x:Operand}{i:Nat}{vs:List AV}{v:Value}(h:ρ x = .tuple vs:=by exact rfl)(hv:vs[i]? = some (.val v):=by exact rfl):Dp Tryz.prog ⟨d,.extract x i,ty,pos,aft,gd⟩ ρ K (.val v):=Ch h hv
theorem Qaa {x:Operand}{l:List AV}(h:ρ x = .agg l:=by exact rfl):Dp Tryz.prog ⟨d,.assign x,ty,pos,aft,gd⟩ ρ K (.agg l):=Ba h
theorem Qma {x:Operand}{l:List AV}(h:ρ x = .agg l:=by exact rfl):Dp Tryz.prog ⟨d,.move x,ty,pos,aft,gd⟩ ρ K (.agg l):=A1 h
theorem Qla {t:TypeId}{td:TD}{x:Operand}{l:List AV}{cs:List AV}(h:ρ x = .ptr (.agg l::cs):=by exact rfl)(ht:Bs TL t=some td:=by exact rfl)(ha:td.agg=false:=by exact rfl):Dp Tryz.prog ⟨d,.load t x,ty,pos,aft,gd⟩ ρ K (.agg l):=F0 tok h ht ha
theorem Qxa {x:Operand}{i:Nat}{vs:List AV}{l:List AV}(h:ρ x = .tuple vs:=by exact rfl)(hv:vs[i]? = some (.agg l):=by exact rfl):Dp Tryz.prog ⟨d,.extract x i,ty,pos,aft,gd⟩ ρ K (.agg l):=Ch h hv
theorem Lu {x:Operand}{s:List UInt8}(h:ρ x = .str s:=by exact rfl):Dp Tryz.prog ⟨d,.assign x,ty,pos,aft,gd⟩ ρ K (.str s):=Ba h
theorem H7 {x:Operand}{s:List UInt8}(h:ρ x = .str s:=by exact rfl):Dp Tryz.prog ⟨d,.move x,ty,pos,aft,gd⟩ ρ K (.str s):=A1 h
theorem Gr {t:TypeId}{td:TD}{x:Operand}{s:List UInt8}{cs:List AV}(h:ρ x = .ptr (.str s::cs):=by exact rfl)(ht:Bs TL t=some td:=by exact rfl)(ha:td.agg=false:=by exact rfl):Dp Tryz.prog ⟨d,.load t x,ty,pos,aft,gd⟩ ρ K (.str s):=F0 tok h ht ha
theorem xE {x:Operand}{i:Nat}{vs:List AV}{s:List UInt8}(h:ρ x = .tuple vs:=by exact rfl)(hv:vs[i]? = some (.str s):=by exact rfl):Dp Tryz.prog ⟨d,.extract x i,ty,pos,aft,gd⟩ ρ K (.str s):=Ch h hv
theorem Qau {x:Operand}{l:List AV}(h:ρ x = .tuple l:=by exact rfl):Dp Tryz.prog ⟨d,.assign x,ty,pos,aft,gd⟩ ρ K (.tuple l):=Ba h
theorem Oz {x:Operand}{l:List AV}(h:ρ x = .tuple l:=by exact rfl):Dp Tryz.prog ⟨d,.move x,ty,pos,aft,gd⟩ ρ K (.tuple l):=A1 h
theorem Qlu {t:TypeId}{td:TD}{x:Operand}{l:List AV}{cs:List AV}(h:ρ x = .ptr (.tuple l::cs):=by exact rfl)(ht:Bs TL t=some td:=by exact rfl)(ha:td.agg=false:=by exact rfl):Dp Tryz.prog ⟨d,.load t x,ty,pos,aft,gd⟩ ρ K (.tuple l):=F0 tok h ht ha
theorem Qxu {x:Operand}{i:Nat}{vs:List AV}{l:List AV}(h:ρ x = .tuple vs:=by exact rfl)(hv:vs[i]? = some (.tuple l):=by exact rfl):Dp Tryz.prog ⟨d,.extract x i,ty,pos,aft,gd⟩ ρ K (.tuple l):=Ch h hv
theorem Qap {x:Operand}{l:List AV}(h:ρ x = .ptr l:=by exact rfl):Dp Tryz.prog ⟨d,.assign x,ty,pos,aft,gd⟩ ρ K (.ptr l):=Ba h
theorem Qmp {x:Operand}{l:List AV}(h:ρ x = .ptr l:=by exact rfl):Dp Tryz.prog ⟨d,.move x,ty,pos,aft,gd⟩ ρ K (.ptr l):=A1 h
theorem Qlp {t:TypeId}{td:TD}{x:Operand}{l:List AV}{cs:List AV}(h:ρ x = .ptr (.ptr l::cs):=by exact rfl)(ht:Bs TL t=some td:=by exact rfl)(ha:td.agg=false:=by exact rfl):Dp Tryz.prog ⟨d,.load t x,ty,pos,aft,gd⟩ ρ K (.ptr l):=F0 tok h ht ha
theorem Qxp {x:Operand}{i:Nat}{vs:List AV}{l:List AV}(h:ρ x = .tuple vs:=by exact rfl)(hv:vs[i]? = some (.ptr l):=by exact rfl):Dp Tryz.prog ⟨d,.extract x i,ty,pos,aft,gd⟩ ρ K (.ptr l):=Ch h hv
theorem Cm (l:List AV){t:TypeId}{td:TD}{x:Operand}{cs:List AV}(h:ρ x = .ptr cs:=by exact rfl)(ht:Bs TL t=some td:=by exact rfl)(ha:td.agg=true:=by exact rfl)(hl:cs.take td.size=l:=by exact rfl)(hs:Nat.beq l.length td.size=true:=by exact rfl):Dp Tryz.prog ⟨d,.load t x,ty,pos,aft,gd⟩ ρ K (.agg l):=U8 tok h ht ha hl hs
theorem Qf (cs':List AV){s f off z ft:Nat}{nm:Bool}{x:Operand}{cs:List AV}{td:TD}{gs:List (Nat×Nat×Bool×Nat)}(h:ρ x = .ptr cs:=by exact rfl)(ht:Bs TL s=some td:=by exact rfl)(hk:td.kind = .struct gs:=by exact rfl)(hf:gs[f]? = some (off,z,nm,ft):=by exact rfl)(hz:Nat.blt 0 z=true:=by exact rfl)(hc:cs.drop off=cs':=by exact rfl):Dp Tryz.prog ⟨d,.fieldAddr s x f,ty,pos,aft,gd⟩ ρ K (.ptr cs'):=El tok h ht hk hf hz hc
theorem Cw {s f off z ft b o:Nat}{nm:Bool}{x:Operand}{td:TD}{gs:List (Nat×Nat×Bool×Nat)}{o':Nat}(h:ρ x = .val (.pointer (some ⟨b,o,none⟩)):=by exact rfl)(ht:Bs TL s=some td:=by exact rfl)(hk:td.kind = .struct gs:=by exact rfl)(hf:gs[f]? = some (off,z,nm,ft):=by exact rfl)(hz:Nat.blt 0 z=true:=by exact rfl)(ho:o+off=o':=by exact rfl):Dp Tryz.prog ⟨d,.fieldAddr s x f,ty,pos,aft,gd⟩ ρ K (.val (.pointer (some ⟨b,o',none⟩))):=fK tok h ht hk hf hz ho
theorem Hu (cs:List AV){t:TypeId}{x:Operand}{l:List AV}(h:ρ x = .agg l:=by exact rfl)(hc:Cy (.agg l)=cs:=by exact rfl)(hs:A0 cs=true:=by exact rfl):Dp Tryz.prog ⟨d,.box t x,ty,pos,aft,gd⟩ ρ K (.ptr cs):=X9 h hc hs
theorem Fj (l:List AV){t:TypeId}{td:TD}{gs:List (Nat×Nat×Bool×Nat)}{parts:Array (Nat×Operand)}(ht:Bs TL t=some td:=by exact rfl)(hk:td.kind = .struct gs:=by exact rfl)(h:eH gs td.zero (Si ρ parts.toList)=some l:=by exact rfl):Dp Tryz.prog ⟨d,.build t parts,ty,pos,aft,gd⟩ ρ K (.agg l):=P_build tok ht hk h
theorem fM {s f' off z ft:Nat}{nm:Bool}{x:Operand}{cs:List AV}{td:TD}{gs:List (Nat×Nat×Bool×Nat)}{a:Int}{b:AV}{c:Int}{d1:Int}{e:Int}{f:Int}{g:Int}{h:List UInt8}(i:ρ x = .ptr cs:=by exact rfl)(ht:Bs TL s=some td:=by exact rfl)(hk:td.kind = .struct gs:=by exact rfl)(hf:gs[f']? = some (off,z,nm,ft):=by exact rfl)(hz:Nat.blt 0 z=true:=by exact rfl)(hc:cs.drop off = [.int .i64 a,b,.int .i64 c,.int .i64 d1,.int .i64 e,.int .i64 f,.int .i64 g,.str h]:=by exact rfl):Dp Tryz.prog ⟨d,.fieldAddr s x f',ty,pos,aft,gd⟩ ρ K (.ptr [.int .i64 a,b,.int .i64 c,.int .i64 d1,.int .i64 e,.int .i64 f,.int .i64 g,.str h]):=El tok i ht hk hf hz hc
theorem Rl {t:TypeId}{td:TD}{x:Operand}{cs:List AV}{a:Int}{b:AV}{c:Int}{d1:Int}{e:Int}{f:Int}{g:Int}{h:List UInt8}(i:ρ x = .ptr cs:=by exact rfl)(ht:Bs TL t=some td:=by exact rfl)(ha:td.agg=true:=by exact rfl)(hl:cs.take td.size = [.int .i64 a,b,.int .i64 c,.int .i64 d1,.int .i64 e,.int .i64 f,.int .i64 g,.str h]:=by exact rfl)(hs:Nat.beq 8 td.size=true:=by exact rfl):Dp Tryz.prog ⟨d,.load t x,ty,pos,aft,gd⟩ ρ K (.agg [.int .i64 a,b,.int .i64 c,.int .i64 d1,.int .i64 e,.int .i64 f,.int .i64 g,.str h]):=U8 tok i ht ha hl hs
theorem Qbe {t:TypeId}{x:Operand}{l:List AV}{a:Int}{b:AV}{c:Int}{d1:Int}{e:Int}{f:Int}{g:Int}{h:List UInt8}(i:ρ x = .agg l:=by exact rfl)(hc:Cy (.agg l) = [.int .i64 a,b,.int .i64 c,.int .i64 d1,.int .i64 e,.int .i64 f,.int .i64 g,.str h]:=by exact rfl)(hs:A0 [.int .i64 a,b,.int .i64 c,.int .i64 d1,.int .i64 e,.int .i64 f,.int .i64 g,.str h]=true:=by exact rfl):Dp Tryz.prog ⟨d,.box t x,ty,pos,aft,gd⟩ ρ K (.ptr [.int .i64 a,b,.int .i64 c,.int .i64 d1,.int .i64 e,.int .i64 f,.int .i64 g,.str h]):=X9 i hc hs
theorem oE {s f' off z ft:Nat}{nm:Bool}{x:Operand}{cs:List AV}{td:TD}{gs:List (Nat×Nat×Bool×Nat)}{b:AV}{c:Int}{d1:Int}{e:Int}{f:Int}{g:Int}{h:List UInt8}(i:ρ x = .ptr cs:=by exact rfl)(ht:Bs TL s=some td:=by exact rfl)(hk:td.kind = .struct gs:=by exact rfl)(hf:gs[f']? = some (off,z,nm,ft):=by exact rfl)(hz:Nat.blt 0 z=true:=by exact rfl)(hc:cs.drop off = [b,.int .i64 c,.int .i64 d1,.int .i64 e,.int .i64 f,.int .i64 g,.str h]:=by exact rfl):Dp Tryz.prog ⟨d,.fieldAddr s x f',ty,pos,aft,gd⟩ ρ K (.ptr [b,.int .i64 c,.int .i64 d1,.int .i64 e,.int .i64 f,.int .i64 g,.str h]):=El tok i ht hk hf hz hc
theorem wV {s f' off z ft:Nat}{nm:Bool}{x:Operand}{cs:List AV}{td:TD}{gs:List (Nat×Nat×Bool×Nat)}{c:Int}{d1:Int}{e:Int}{f:Int}{g:Int}{h:List UInt8}(i:ρ x = .ptr cs:=by exact rfl)(ht:Bs TL s=some td:=by exact rfl)(hk:td.kind = .struct gs:=by exact rfl)(hf:gs[f']? = some (off,z,nm,ft):=by exact rfl)(hz:Nat.blt 0 z=true:=by exact rfl)(hc:cs.drop off = [.int .i64 c,.int .i64 d1,.int .i64 e,.int .i64 f,.int .i64 g,.str h]:=by exact rfl):Dp Tryz.prog ⟨d,.fieldAddr s x f',ty,pos,aft,gd⟩ ρ K (.ptr [.int .i64 c,.int .i64 d1,.int .i64 e,.int .i64 f,.int .i64 g,.str h]):=El tok i ht hk hf hz hc
theorem Qf3 {s f' off z ft:Nat}{nm:Bool}{x:Operand}{cs:List AV}{td:TD}{gs:List (Nat×Nat×Bool×Nat)}{d1:Int}{e:Int}{f:Int}{g:Int}{h:List UInt8}(i:ρ x = .ptr cs:=by exact rfl)(ht:Bs TL s=some td:=by exact rfl)(hk:td.kind = .struct gs:=by exact rfl)(hf:gs[f']? = some (off,z,nm,ft):=by exact rfl)(hz:Nat.blt 0 z=true:=by exact rfl)(hc:cs.drop off = [.int .i64 d1,.int .i64 e,.int .i64 f,.int .i64 g,.str h]:=by exact rfl):Dp Tryz.prog ⟨d,.fieldAddr s x f',ty,pos,aft,gd⟩ ρ K (.ptr [.int .i64 d1,.int .i64 e,.int .i64 f,.int .i64 g,.str h]):=El tok i ht hk hf hz hc
theorem Qf4 {s f' off z ft:Nat}{nm:Bool}{x:Operand}{cs:List AV}{td:TD}{gs:List (Nat×Nat×Bool×Nat)}{e:Int}{f:Int}{g:Int}{h:List UInt8}(i:ρ x = .ptr cs:=by exact rfl)(ht:Bs TL s=some td:=by exact rfl)(hk:td.kind = .struct gs:=by exact rfl)(hf:gs[f']? = some (off,z,nm,ft):=by exact rfl)(hz:Nat.blt 0 z=true:=by exact rfl)(hc:cs.drop off = [.int .i64 e,.int .i64 f,.int .i64 g,.str h]:=by exact rfl):Dp Tryz.prog ⟨d,.fieldAddr s x f',ty,pos,aft,gd⟩ ρ K (.ptr [.int .i64 e,.int .i64 f,.int .i64 g,.str h]):=El tok i ht hk hf hz hc
theorem wW {s f' off z ft:Nat}{nm:Bool}{x:Operand}{cs:List AV}{td:TD}{gs:List (Nat×Nat×Bool×Nat)}{f:Int}{g:Int}{h:List UInt8}(i:ρ x = .ptr cs:=by exact rfl)(ht:Bs TL s=some td:=by exact rfl)(hk:td.kind = .struct gs:=by exact rfl)(hf:gs[f']? = some (off,z,nm,ft):=by exact rfl)(hz:Nat.blt 0 z=true:=by exact rfl)(hc:cs.drop off = [.int .i64 f,.int .i64 g,.str h]:=by exact rfl):Dp Tryz.prog ⟨d,.fieldAddr s x f',ty,pos,aft,gd⟩ ρ K (.ptr [.int .i64 f,.int .i64 g,.str h]):=El tok i ht hk hf hz hc
theorem Qf6 {s f' off z ft:Nat}{nm:Bool}{x:Operand}{cs:List AV}{td:TD}{gs:List (Nat×Nat×Bool×Nat)}{g:Int}{h:List UInt8}(i:ρ x = .ptr cs:=by exact rfl)(ht:Bs TL s=some td:=by exact rfl)(hk:td.kind = .struct gs:=by exact rfl)(hf:gs[f']? = some (off,z,nm,ft):=by exact rfl)(hz:Nat.blt 0 z=true:=by exact rfl)(hc:cs.drop off = [.int .i64 g,.str h]:=by exact rfl):Dp Tryz.prog ⟨d,.fieldAddr s x f',ty,pos,aft,gd⟩ ρ K (.ptr [.int .i64 g,.str h]):=El tok i ht hk hf hz hc
theorem Qf7 {s f' off z ft:Nat}{nm:Bool}{x:Operand}{cs:List AV}{td:TD}{gs:List (Nat×Nat×Bool×Nat)}{h:List UInt8}(i:ρ x = .ptr cs:=by exact rfl)(ht:Bs TL s=some td:=by exact rfl)(hk:td.kind = .struct gs:=by exact rfl)(hf:gs[f']? = some (off,z,nm,ft):=by exact rfl)(hz:Nat.blt 0 z=true:=by exact rfl)(hc:cs.drop off = [.str h]:=by exact rfl):Dp Tryz.prog ⟨d,.fieldAddr s x f',ty,pos,aft,gd⟩ ρ K (.ptr [.str h]):=El tok i ht hk hf hz hc
theorem Bl {x y:Operand}{t yt:TypeId}{k:IntKind}{n m:Int}(hx:ρ x = .int k n:=by exact rfl)(hy:ρ y = .int k m:=by exact rfl):Dp Tryz.prog ⟨d,.binOp .eql t x y yt,ty,pos,aft,gd⟩ ρ K (.bool (n==m)):=P_eql hx hy
theorem Cb {x y:Operand}{t yt:TypeId}{k:IntKind}{n m:Int}(hx:ρ x = .int k n:=by exact rfl)(hy:ρ y = .int k m:=by exact rfl):Dp Tryz.prog ⟨d,.binOp .neq t x y yt,ty,pos,aft,gd⟩ ρ K (.bool (n != m)):=P_neq hx hy
theorem Cn {x y:Operand}{t yt:TypeId}{k:IntKind}{n m:Int}(hx:ρ x = .int k n:=by exact rfl)(hy:ρ y = .int k m:=by exact rfl):Dp Tryz.prog ⟨d,.binOp .lss t x y yt,ty,pos,aft,gd⟩ ρ K (.bool (decide (n<m))):=P_lss hx hy
theorem Gx {x y:Operand}{t yt:TypeId}{k:IntKind}{n m:Int}(hx:ρ x = .int k n:=by exact rfl)(hy:ρ y = .int k m:=by exact rfl):Dp Tryz.prog ⟨d,.binOp .gtr t x y yt,ty,pos,aft,gd⟩ ρ K (.bool (decide (m<n))):=P_gtr hx hy
theorem Ys {x y:Operand}{t yt:TypeId}{k:IntKind}{n m:Int}(hx:ρ x = .int k n:=by exact rfl)(hy:ρ y = .int k m:=by exact rfl):Dp Tryz.prog ⟨d,.binOp .leq t x y yt,ty,pos,aft,gd⟩ ρ K (.bool (decide (n<=m))):=P_leq hx hy
theorem Kv {x y:Operand}{t yt:TypeId}{k:IntKind}{n m:Int}(hx:ρ x = .int k n:=by exact rfl)(hy:ρ y = .int k m:=by exact rfl):Dp Tryz.prog ⟨d,.binOp .geq t x y yt,ty,pos,aft,gd⟩ ρ K (.bool (decide (m<=n))):=P_geq hx hy
theorem Gw {x y:Operand}{t yt:TypeId}{n m r:Int}(hx:ρ x = .int .i64 n:=by exact rfl)(hy:ρ y = .int .i64 m:=by exact rfl)(hr:n+m=r:=by exact rfl)(hb : -9223372036854775808<=r/\r<=9223372036854775807:=by constructor <;> omega):Dp Tryz.prog ⟨d,.binOp .add t x y yt,ty,pos,aft,gd⟩ ρ K (.int .i64 r):=P_add hx hy hr hb
theorem Ix {x:Operand}{t:TypeId}{b:Bool}(hx:ρ x = .bool b:=by exact rfl):Dp Tryz.prog ⟨d,.unOp .not t x,ty,pos,aft,gd⟩ ρ K (.bool (!b)):=P_not hx
theorem Ju {c a y:Operand}{b x:Bool}(hc:ρ c = .bool b:=by exact rfl)(ha:ρ a = .opt [(b,true)] (.bool x):=by exact rfl)(hy:ρ y = .bool false:=by exact rfl):Dp Tryz.prog ⟨d,.pick c a y,ty,pos,aft,gd⟩ ρ K (.bool (b&&x)):=xB hc ha hy
theorem E5 {c a y:Operand}{b x:Bool}(hc:ρ c = .bool b:=by exact rfl)(ha:ρ a = .bool true:=by exact rfl)(hy:ρ y = .opt [(b,false)] (.bool x):=by exact rfl):Dp Tryz.prog ⟨d,.pick c a y,ty,pos,aft,gd⟩ ρ K (.bool (b||x)):=P_pick_or hc ha hy
theorem Qc {f:FuncId}{args:Array Operand}{ats:Array TypeId}{l:List AV}{r:AV}(ha:args.toList.map ρ=l)(hc:An Tryz.prog f l r)(hf:Xq Tryz.prog f=true:=by kernel_rfl)(hcal:ρ (.func f) = .fn (.func f) [] []:=by exact rfl):Dp Tryz.prog ⟨d,.call ⟨.value (.func f),args,ats⟩,ty,pos,aft,gd⟩ ρ K r:=P_callf hf hcal ha hc
end
section
variable {ops:Array Oper} {K:St->Prop} {s:St} {d:Option Nat} {op:Op} {t:TypeId} {pos:String} {after:Array Edge} {r:List Oper} {x y:AV} {o:Oper} {G:List (Bool×Bool)} {b:Bool} {c1 c2:Code} {Q Q':Exit->St->Prop} {N:St->Prop} {id:Nat}
theorem Qp (h:Dp Tryz.prog ⟨d,op,t,pos,after,none⟩ (Fy s.sl) (fun _=>True) x)(k:AOL Tryz.prog ops K r ⟨Ep d x s.sl,s.H,s.n⟩)(hd:Of d s.n=true:=by exact rfl):AOL Tryz.prog ops K (⟨d,op,t,pos,after,none⟩::r) s:=AOL.p h hd k
theorem By (k:Nat)(cs':List AV)(H2:List HO){b o:Nat}{td:TD}{TT t':TypeId}{cs:List AV}{v:AV}{x1 y1:Operand}(kk:AOL Tryz.prog ops K r ⟨Ep d .junk s.sl,H2,s.n⟩)(h:Fy s.sl x1 = .val (.pointer (some ⟨b,o,none⟩)):=by exact rfl)(hv:Fy s.sl y1=v:=by exact rfl)(ht:Bs TL t'=some td:=by exact rfl)(hk:s.H[k]? = some (.box b TT cs):=by exact rfl)(hs:A0 (Cy v)=true:=by exact rfl)(hl:Nat.beq (Cy v).length td.size=true:=by exact rfl)(hb:Nat.ble (o+td.size) cs.length=true:=by exact rfl)(hc:J9 cs o (Cy v)=cs':=by exact rfl)(hH2:s.H.set k (.box b TT cs')=H2:=by exact rfl)(hd:Of d s.n=true:=by exact rfl):AOL Tryz.prog ops K (⟨d,.store t' x1 y1,t,pos,after,none⟩::r) s:=AOL.e (Tq (k:=k) tok h hv ht hk hs hl hb hc hH2) hd fun x' H' e=>by obtain ⟨e1,e2⟩:=e;subst e1;subst e2;exact kk
abbrev Iq (n:Int):AV:=.int .i64 n
theorem iN {α:Type}{b:Bool}[Decidable (b=true)]{x y:α}(h:b=false):(if b=true then x else y)=y:=if_neg (rA.mp h)
theorem Qe {R:AV->List HO->Prop}(h:Nj Tryz.prog ⟨d,op,t,pos,after,none⟩ (Fy s.sl) s.H R)(k:∀x H',R x H'->AOL Tryz.prog ops K r ⟨Ep d x s.sl,H',s.n⟩)(hd:Of d s.n=true:=by exact rfl):AOL Tryz.prog ops K (⟨d,op,t,pos,after,none⟩::r) s:=AOL.e h hd k
theorem Qw {sl:List (Nat×AV)}{L:List (Nat×AV)}(hw:Hp ops o sl=some G:=by exact rfl)(hL:gT G sl L:=by first | exact trivial | exact ⟨Ent.self _ _,trivial⟩ | exact ⟨Ent.self _ _,Ent.suf _ _ _,trivial⟩):Hp ops o sl=some G/\gT G sl L:=⟨hw,hL⟩
theorem Qg (L:List (Nat×AV))(w:Hp ops o s.sl=some G/\gT G s.sl L)(h:Dp Tryz.prog o (Fy (L++s.sl)) (fun _=>True) y)(k:AOL Tryz.prog ops K r ⟨Ep o.dst (.opt G y) s.sl,s.H,s.n⟩)(hd:Of o.dst s.n=true:=by exact rfl):AOL Tryz.prog ops K (o::r) s:=AOL.g G L w.1 (gT.all w.2) (fun _=>h) hd k
theorem Aa (h:AOL Tryz.prog ops (Gf (AW Tryz.prog c2 Q) Q .normal) ops.toList s):AW Tryz.prog (.seq (.region id ops false) c2) Q s:=AW.seq (AW.region h)
theorem Ax (h:N s):AOL Tryz.prog ops (Gf N Q .normal) [] s:=AOL.nil (Av h)
theorem B7 {ops':Array Oper}(h:AOL Tryz.prog ops' (Gf (AW Tryz.prog c2 Q) Q .normal) ops'.toList s):AOL Tryz.prog ops (Gf (AW Tryz.prog (.seq (.region id ops' false) c2) Q) Q' .normal) [] s:=AOL.nil (Av (AW.seq (AW.region h)))
theorem Hb {c:Operand}{x y:Code}(ht:b=true->AW Tryz.prog x Q s)(hf:b=false->AW Tryz.prog y Q s)(hb:Fy s.sl c = .bool b:=by exact rfl):AW Tryz.prog (.cond c x y) Q s:=AW.cond hb ht hf
theorem B2 (h:N s):AW Tryz.prog .skip (Gf N Q) s:=AW.skip (Av h)
theorem lW (h:Q .ret s):AW Tryz.prog .ret (Gf N Q) s:=AW.ret (A7 h)
theorem Qr {H:List HO}{l:List ResultVar}{r:AV}(x:AV)(h:Ah [x]=r)(hr:ResL Tryz.prog TL s l [x]:=by exact .cons (.tmp _ _ rfl) .nil)(hs:H.Sublist s.H:=by exact .refl _):(Exit.ret = .normal\/Exit.ret = .ret)/\∃xs,ResL Tryz.prog TL s l xs/\H.Sublist s.H/\Ah xs=r:=⟨.inr rfl,[x],hr,hs,h⟩
theorem O0 {H:List HO}{l:List ResultVar}{r:AV}(x y:AV)(h:Ah [x,y]=r)(hr:ResL Tryz.prog TL s l [x,y]:=by exact .cons (.tmp _ _ rfl) (.cons (.tmp _ _ rfl) .nil))(hs:H.Sublist s.H:=by exact .refl _):(Exit.ret = .normal\/Exit.ret = .ret)/\∃xs,ResL Tryz.prog TL s l xs/\H.Sublist s.H/\Ah xs=r:=⟨.inr rfl,[x,y],hr,hs,h⟩
end
section
variable {ops:Array Oper} {K:List HO->Prop} {Q:St->Prop} {s:St} {o:Oper} {x y:AV} {G:List (Bool×Bool)} {listed:Array Bool}
theorem Qn (i:Nat)(ho:ops[i]? = some o)(h:Dp Tryz.prog o (Fy s.sl) K x)(k:Hq Tryz.prog ops K Q (listed.setIfInBounds i true) ⟨Ep o.dst x s.sl,s.H,s.n⟩)(hr:(Region.ready .any ops listed).contains i=true:=by kernel_rfl)(hf:Region.free .any ops listed i=true:=by kernel_rfl)(hd:Of o.dst s.n=true:=by exact rfl)(hg:o.guard=none:=by exact rfl):Hq Tryz.prog ops K Q listed s:=Hq.pure listed s i o x ho hr hf hd (.run hg h) k
theorem Qo (i:Nat)(ho:ops[i]? = some o)(L:List (Nat×AV))(w:Hp ops o s.sl=some G/\gT G s.sl L)(h:Dp Tryz.prog o (Fy (L++s.sl)) K y)(k:Hq Tryz.prog ops K Q (listed.setIfInBounds i true) ⟨Ep o.dst (.opt G y) s.sl,s.H,s.n⟩)(hr:(Region.ready .any ops listed).contains i=true:=by kernel_rfl)(hf:Region.free .any ops listed i=true:=by kernel_rfl)(hd:Of o.dst s.n=true:=by exact rfl):Hq Tryz.prog ops K Q listed s:=Hq.pure listed s i o _ ho hr hf hd (.opt G y L w.1 (gT.all w.2) (fun _=>h) rfl) k
end
abbrev Ai {x0:Int}{x1 x2:List UInt8}{x3:Int}{x4:AV}{x5:Int}:List AV:=[Iq x0,.str x1,.str x2,Iq x3,x4,Iq x5]
abbrev Fq {x0:Int}{x1:AV}{x2 x3 x4 x5 x6:Int}{x7:AV}{x8 x9 x10 x11 x12:Int}{x13:List UInt8}:List AV:=[Iq x0,x1,Iq x2,Iq x3,Iq x4,Iq x5,Iq x6,x7,Iq x8,Iq x9,Iq x10,Iq x11,Iq x12,.str x13]
abbrev Id {x0 x1:Int}:List AV:=[Iq x0,Iq x1]
abbrev Iv {x0:List UInt8}{x1:Int}:List AV:=[.str x0,Iq x1]
abbrev I6 :List AV:=[.int .i64 0,.str [],.str [],.int .i64 0,.sl 6 [],.int .i64 0]
abbrev J5 {x0:List UInt8}{x1 x2:AV}{x3:Int}{x4:AV}{x5 x6 x7 x8 x9:Int}{x10:AV}{x11 x12 x13 x14 x15:Int}{x16:List UInt8}{x17:AV}:List AV:=[.str x0,x1,x2,Iq x3,x4,Iq x5,Iq x6,Iq x7,Iq x8,Iq x9,x10,Iq x11,Iq x12,Iq x13,Iq x14,Iq x15,.str x16,x17]
abbrev Ko {x0:Int}{x1:AV}{x2 x3 x4 x5 x6:Int}{x7:List UInt8}:List AV:=[Iq x0,x1,Iq x2,Iq x3,Iq x4,Iq x5,Iq x6,.str x7]
abbrev gcy {x0 x1:AV}:List AV:=[x0,x1]
abbrev Nd {x0:List UInt8}{x1:AV}:List AV:=[.str x0,x1]
abbrev Nm {x0:Int}{x1:List UInt8}{x2 x3 x4 x5:Int}:List AV:=[Iq x0,.str x1,Iq x2,Iq x3,Iq x4,Iq x5]
abbrev Ot {x0:AV}{x1:Int}:List AV:=[x0,Iq x1]
abbrev X6 {x0 x1:List UInt8}{x2:Int}{x3:AV}{x4:Int}:List AV:=[.str x0,.str x1,Iq x2,x3,Iq x4]
abbrev Yc {x0 x1:Int}{x2:List UInt8}:List AV:=[Iq x0,Iq x1,.str x2]
abbrev Zw {x0:Int}{x1:AV}{x2:Int}:List AV:=[Iq x0,x1,Iq x2]
abbrev lN :List AV:=[.int .i64 0,.int .i64 0]
abbrev pF {x0:List UInt8}{x1:Int}{x2:AV}{x3:Int}:List AV:=[.str x0,Iq x1,x2,Iq x3]
abbrev pG {x0:AV}{x1 x2 x3 x4 x5:Int}{x6:AV}{x7 x8 x9 x10 x11:Int}{x12:List UInt8}:List AV:=[x0,Iq x1,Iq x2,Iq x3,Iq x4,Iq x5,x6,Iq x7,Iq x8,Iq x9,Iq x10,Iq x11,.str x12]
abbrev tD {x0:Int}{x1:List UInt8}{x2:Int}:List AV:=[Iq x0,.str x1,Iq x2]
abbrev tE {x0:List UInt8}{x1:Int}{x2:AV}:List AV:=[.str x0,Iq x1,x2]
abbrev ggy {x0 x1:AV}{x2:Int}{x3:AV}{x4 x5 x6 x7 x8:Int}{x9:AV}{x10 x11 x12 x13 x14:Int}{x15:List UInt8}{x16:AV}:List AV:=[x0,x1,Iq x2,x3,Iq x4,Iq x5,Iq x6,Iq x7,Iq x8,x9,Iq x10,Iq x11,Iq x12,Iq x13,Iq x14,.str x15,x16]
abbrev ggz :List AV:=[.int .i64 0,.sl 8 [],.int .i64 0,.int .i64 0,.int .i64 0,.int .i64 0,.int .i64 0,.str []]
abbrev ghx :List AV:=[.int .i64 0,.sl 14 [],.int .i64 0,.int .i64 0,.int .i64 0,.int .i64 0,.int .i64 0,.sl 8 [],.int .i64 0,.int .i64 0,.int .i64 0,.int .i64 0,.int .i64 0,.str []]
abbrev ghy :List AV:=[.int .i64 0,.str [],.int .i64 0,.int .i64 0,.int .i64 0,.int .i64 0]
abbrev ghz :List AV:=[.str [],.sl 2 [],.sl 1 [],.int .i64 0,.sl 14 [],.int .i64 0,.int .i64 0,.int .i64 0,.int .i64 0,.int .i64 0,.sl 8 [],.int .i64 0,.int .i64 0,.int .i64 0,.int .i64 0,.int .i64 0,.str [],.sl 8 []]
abbrev gix {x0 x1 x2 x3:Int}{x4:AV}{x5 x6 x7 x8 x9:Int}{x10:List UInt8}:List AV:=[Iq x0,Iq x1,Iq x2,Iq x3,x4,Iq x5,Iq x6,Iq x7,Iq x8,Iq x9,.str x10]
abbrev giy {x0:AV}{x1 x2 x3 x4 x5:Int}:List AV:=[x0,Iq x1,Iq x2,Iq x3,Iq x4,Iq x5]
abbrev giz {x0:AV}{x1:Int}{x2:AV}{x3 x4 x5 x6 x7:Int}{x8:AV}{x9 x10 x11 x12 x13:Int}{x14:List UInt8}{x15:AV}:List AV:=[x0,Iq x1,x2,Iq x3,Iq x4,Iq x5,Iq x6,Iq x7,x8,Iq x9,Iq x10,Iq x11,Iq x12,Iq x13,.str x14,x15]
abbrev gjx {x0 x1 x2 x3 x4:Int}{x5:AV}{x6 x7 x8 x9 x10:Int}{x11:List UInt8}:List AV:=[Iq x0,Iq x1,Iq x2,Iq x3,Iq x4,x5,Iq x6,Iq x7,Iq x8,Iq x9,Iq x10,.str x11]
abbrev gjy {x0 x1 x2:Int}{x3:AV}{x4 x5 x6 x7 x8:Int}{x9:List UInt8}:List AV:=[Iq x0,Iq x1,Iq x2,x3,Iq x4,Iq x5,Iq x6,Iq x7,Iq x8,.str x9]
abbrev gjz {x0:Int}{x1:AV}{x2 x3 x4 x5 x6:Int}{x7:AV}{x8 x9 x10 x11 x12:Int}{x13:List UInt8}{x14:AV}:List AV:=[Iq x0,x1,Iq x2,Iq x3,Iq x4,Iq x5,Iq x6,x7,Iq x8,Iq x9,Iq x10,Iq x11,Iq x12,.str x13,x14]
abbrev gkx :List AV:=[.str [],.int .i64 0]
abbrev gky {x0 x1 x2 x3:Bool}:List AV:=[.bool x0,.bool x1,.bool x2,.bool x3]
abbrev gkz {x0 x1:Int}{x2:AV}{x3 x4 x5 x6 x7:Int}{x8:List UInt8}:List AV:=[Iq x0,Iq x1,x2,Iq x3,Iq x4,Iq x5,Iq x6,Iq x7,.str x8]
abbrev glx {x0 x1:Int}{x2 x3 x4 x5:Bool}:List AV:=[Iq x0,Iq x1,.bool x2,.bool x3,.bool x4,.bool x5]
section
variable {ops ops2:Array Oper} {K:St->Prop} {s:St} {d:Option Nat} {op:Op} {t:TypeId} {pos:String} {after:Array Edge} {r:List Oper} {x y:AV} {o:Oper} {c1 c2 c3:Code} {Q Q1 Q2:Exit->St->Prop} {N N1:St->Prop} {id id2:Nat}
theorem Ra (h:Q .ret s):AOL Tryz.prog ops (Gf (AW Tryz.prog .ret (Ly id (Gf N Q))) Q1 .normal) [] s:=Ax (AW.ret (Dz (A7 h)))
theorem Rf (h:N s):AW Tryz.prog .skip (Ly id (Gf N Q)) s:=AW.skip (J1 (Av h))
theorem Ri (h:N s):Gf N1 (Ly id (Gf N Q)) (.exit id) s:=B1 (U9 (Av h))
theorem Rj {Q1:Exit->St->Prop}(h:Q1 .ret s):Ly id (Gf N (Gf N1 (Ly id2 Q1))) .ret s:=Dz (A7 (A7 (Dz h)))
theorem Rk (h:N s):AOL Tryz.prog ops (Ly id (Gf N Q) .normal) [] s:=AOL.nil (J1 (Av h))
theorem Rc (h:Q .ret s):AOL Tryz.prog ops (Gf (AW Tryz.prog .ret (Gf N Q)) Q1 .normal) [] s:=Ax (lW h)
theorem Rb (h:Q .ret s):AOL Tryz.prog ops (Gf (AW Tryz.prog .ret Q) Q1 .normal) [] s:=Ax (AW.ret h)
theorem B5 (h:AOL Tryz.prog ops (Gf (AW Tryz.prog c2 (Gf (AW Tryz.prog c3 Q) Q)) (Gf (AW Tryz.prog c3 Q) Q) .normal) ops.toList s):AW Tryz.prog (.seq (.seq (.region id ops false) c2) c3) Q s:=AW.seq (Aa h)
theorem Re (h:AW Tryz.prog c1 (Gf (AW Tryz.prog c2 Q) Q) s):AOL Tryz.prog ops (Gf (AW Tryz.prog (.seq c1 c2) Q) Q1 .normal) [] s:=Ax (AW.seq h)
theorem wX {f:FuncId}{args:Array Operand}{ats:Array TypeId}{l:List AV}{v:AV}{H2:List HO}(hc:Cf Tryz.prog f s.H l fun r' H'=>r'=v/\H'=H2)(k:AOL Tryz.prog ops K r ⟨Ep d v s.sl,H2,s.n⟩)(hf:Xq Tryz.prog f=true:=by kernel_rfl)(hcal:Fy s.sl (.func f) = .fn (.func f) [] []:=by exact rfl)(ha:args.toList.map (Fy s.sl)=l:=by exact rfl)(hd:Of d s.n=true:=by exact rfl):AOL Tryz.prog ops K (⟨d,.call ⟨.value (.func f),args,ats⟩,t,pos,after,none⟩::r) s:=Qe (oB hf hcal ha hc) (fun _ _ ⟨h1,h2⟩=>by subst h1;subst h2;exact k) hd
theorem Rt {v:AV}{H2:List HO}(h:Nj Tryz.prog ⟨d,op,t,pos,after,none⟩ (Fy s.sl) s.H fun r' H'=>r'=v/\H'=H2)(k:AOL Tryz.prog ops K r ⟨Ep d v s.sl,H2,s.n⟩)(hd:Of d s.n=true:=by exact rfl):AOL Tryz.prog ops K (⟨d,op,t,pos,after,none⟩::r) s:=Qe h (fun _ _ ⟨h1,h2⟩=>by subst h1;subst h2;exact k) hd
theorem D5 {T:TypeId}(l:List AV)(k:∀b,AOL Tryz.prog ops K r ⟨Ep d (.val (.pointer (some ⟨b,0,none⟩))) s.sl,.box b T l::s.H,s.n⟩)(hz:zOK Tryz.prog T l=true:=by kernel_rfl)(hd:Of d s.n=true:=by exact rfl):AOL Tryz.prog ops K (⟨d,.alloc T,t,pos,after,none⟩::r) s:=Qe (Ke hz) (fun _ _ ⟨b,h1,h2⟩=>by subst h1;subst h2;exact k b) hd
end
section
variable {ops:Array Oper} {s:St} {d:Option Nat} {t:TypeId} {pos:String} {aft:Array Edge} {gd:Option (Nat×Bool)} {ρ:Operand->AV}
theorem Dq {f:FuncId}{args:Array Operand}{ats:Array TypeId}{l:List AV}{G:List HO}{R:AV->List HO->Prop}(ha:args.toList.map ρ=l)(hc:Cf Tryz.prog f G l R)(hf:Xq Tryz.prog f=true:=by kernel_rfl)(hcal:ρ (.func f) = .fn (.func f) [] []:=by exact rfl):Nj Tryz.prog ⟨d,.call ⟨.value (.func f),args,ats⟩,t,pos,aft,gd⟩ ρ G R:=oB hf hcal ha hc
theorem Mo {id:Nat}{Q:Exit->St->Prop}(h:Hq Tryz.prog ops (fun _=>True) (Q .normal) (Array.replicate ops.size false) s)(hdd:Fp ops=true:=by kernel_rfl):AW Tryz.prog (.region id ops true) Q s:=AW.draw mixed (fun _=>True) trivial hdd h
theorem Ig {K:List HO->Prop}{Q:St->Prop}{listed:Array Bool}(h:Q s)(hr:Region.ready .any ops listed = []:=by kernel_rfl):Hq Tryz.prog ops K Q listed s:=Hq.done listed s hr h
theorem rT {Q:St->Prop}{listed:Array Bool}{o:Oper}{R:AV->List HO->Prop}(i:Nat)(ho:ops[i]? = some o)(hp:Nj Tryz.prog o (Fy s.sl) s.H R)(h:∀x H',R x H'->Hq Tryz.prog ops (fun _=>True) Q (listed.setIfInBounds i true) ⟨Ep o.dst x s.sl,H',s.n⟩)(hr:Region.ready .any ops listed = [i]:=by kernel_rfl)(hd:Of o.dst s.n=true:=by exact rfl)(hw:o.guard=none:=by exact rfl):Hq Tryz.prog ops (fun _=>True) Q listed s:=Hq.eff listed s i o R ho hr hd hw hp (fun _ _ _=>trivial) h
theorem Oj {Q:St->Prop}{listed:Array Bool}{o:Oper}{v:AV}{G:List HO}(i:Nat)(ho:ops[i]? = some o)(hp:Nj Tryz.prog o (Fy s.sl) s.H fun x H'=>x=v/\H'=G)(h:Hq Tryz.prog ops (fun _=>True) Q (listed.setIfInBounds i true) ⟨Ep o.dst v s.sl,G,s.n⟩)(hr:Region.ready .any ops listed = [i]:=by kernel_rfl)(hd:Of o.dst s.n=true:=by exact rfl)(hw:o.guard=none:=by exact rfl):Hq Tryz.prog ops (fun _=>True) Q listed s:=rT i ho hp (fun _ _ ⟨h1,h2⟩=>by subst h1;subst h2;exact h) hr hd hw
theorem C2 {sl sl':List (Nat×AV)}{G G':List HO}{n:Nat}(h:Wk sl sl':=by (repeat refine ⟨rfl,?_⟩);exact trivial)(hs:G'.Sublist G:=by exact .refl _):GS ⟨sl,G,n⟩ ⟨sl',G',n⟩:=GS.weaken h hs
end
section
variable {ops:Array Oper} {K:St->Prop} {s:St} {d:Option Nat} {op:Op} {t:TypeId} {pos:String} {after:Array Edge} {r:List Oper} {x y:AV} {o:Oper} {G:List (Bool×Bool)} {c1 c2 c3:Code} {Q Q1:Exit->St->Prop} {N:St->Prop} {id:Nat} {b ob:Nat} {td te:TD} {TT t1 e z m:Nat} {xo yo:Operand} {cs:List AV} {c:Operand} {bb:Bool}
theorem Yw {sl:List (Nat×AV)}{L:List (Nat×AV)}(hw:Hp ops o sl=some G:=by exact rfl)(hL:gT G sl L:=by exact ⟨Ent.self _ _,Ent.self _ _,trivial⟩):Hp ops o sl=some G/\gT G sl L:=⟨hw,hL⟩
theorem Es {G:List (Bool×Bool)}{v:AV}:Ent G (.opt G v) v:=Ent.self _ _
theorem Yv {sl:List (Nat×AV)}{i j:Nat}{v w:AV}(hw:Hp ops o sl=some G)(h:Ent G (get sl i) v)(k:Ent G (get sl j) w):Hp ops o sl=some G/\gT G sl [(i,v),(j,w)]:=⟨hw,h,k,trivial⟩
theorem Yh (L:List (Nat×AV))(w:Hp ops o s.sl=some G/\gT G s.sl L)(h:N0 G->Dp Tryz.prog o (Fy (L++s.sl)) (fun _=>True) y)(k:AOL Tryz.prog ops K r ⟨Ep o.dst (.opt G y) s.sl,s.H,s.n⟩)(hd:Of o.dst s.n=true:=by exact rfl):AOL Tryz.prog ops K (o::r) s:=AOL.g G L w.1 (gT.all w.2) h hd k
theorem Ye {α:Type}{a b:α}{c:AV}(f:α->AV)(h:a=b)(hc:c=f b:=by exact rfl):c=f a:=hc.trans (congrArg f h).symm
theorem Rm {h:HO}(i:Nat)(hi:s.H[i]? = some h)(k:Hq Tryz.prog ops (fun H'=>h∈H') (Q .normal) (Array.replicate ops.size false) s)(hdd:Fp ops=true:=by kernel_rfl):AW Tryz.prog (.region id ops true) Q s:=AW.draw mixed (fun H'=>h∈H') (Aj hi) hdd k
theorem Yx {H:List HO}{l:List ResultVar}{q:AV}(xs:List AV)(hr:ResL Tryz.prog TL s l xs)(hs:H.Sublist s.H)(h:Ah xs=q):(Exit.ret = .normal\/Exit.ret = .ret)/\∃xs,ResL Tryz.prog TL s l xs/\H.Sublist s.H/\Ah xs=q:=⟨.inr rfl,xs,hr,hs,h⟩
theorem Yt {i:Nat}(h:get s.sl i=x:=by exact rfl):Res Tryz.prog TL s (.tmp i) x:=.tmp _ _ h
theorem Yb {a:Nat}{l:List AV}(k:Nat)(h:(get s.sl a,s.H[k]?,Bs TL t,td.agg,cs.take td.size,Nat.beq l.length td.size)=(.val (.pointer (some ⟨b,0,none⟩)),some (.box b TT cs),some td,true,l,true):=by exact rfl):Res Tryz.prog TL s (.cell a t) (.agg l):=by simp only [Prod.mk.injEq] at h;obtain ⟨q0,q1,q2,q3,q4,q5⟩:=h;exact .box _ _ _ k _ _ _ _ q0 q1 q2 q3 q4 q5
theorem Zb {a:Nat}{l:List AV}(k:Nat)(h:(get s.sl a,s.H[k]?,Bs TL t,td.agg,cs.take td.size,Nat.beq l.length td.size)=(.val (.pointer (some ⟨b,0,none⟩)),some (.box b TT cs),some td,true,l,true):=by exact rfl):ResL Tryz.prog TL s [.cell a t] [.agg l]:=.cons (Yb k h) .nil
theorem Zc {a:Nat}{l:List AV}(k:Nat)(h:(get s.sl a,s.H[k]?,Bs TL t,td.agg,cs.take td.size,Nat.beq l.length td.size)=(.val (.pointer (some ⟨b,0,none⟩)),some (.box b TT cs),some td,true,l,true):=by exact rfl){i:Nat}(hx:get s.sl i=x:=by exact rfl):ResL Tryz.prog TL s [.cell a t,.tmp i] [.agg l,x]:=.cons (Yb k h) (.cons (Yt hx) .nil)
theorem Zd {a:Nat}{l:List AV}(k:Nat)(h:(get s.sl a,s.H[k]?,Bs TL t,td.agg,cs.take td.size,Nat.beq l.length td.size)=(.val (.pointer (some ⟨b,0,none⟩)),some (.box b TT cs),some td,true,l,true):=by exact rfl){i j:Nat}(hx:get s.sl i=x:=by exact rfl)(hy:get s.sl j=y:=by exact rfl):ResL Tryz.prog TL s [.cell a t,.tmp i,.tmp j] [.agg l,x,y]:=.cons (Yb k h) (.cons (Yt hx) (.cons (Yt hy) .nil))
theorem Ze {i:Nat}(h:get s.sl i=x:=by exact rfl):ResL Tryz.prog TL s [.tmp i] [x]:=.cons (Yt h) .nil
theorem Zf {i j:Nat}(h:get s.sl i=x:=by exact rfl)(hy:get s.sl j=y:=by exact rfl):ResL Tryz.prog TL s [.tmp i,.tmp j] [x,y]:=.cons (Yt h) (Ze hy)
theorem Zg {z:AV}{i j k:Nat}(h:get s.sl i=x:=by exact rfl)(hy:get s.sl j=y:=by exact rfl)(hz:get s.sl k=z:=by exact rfl):ResL Tryz.prog TL s [.tmp i,.tmp j,.tmp k] [x,y,z]:=.cons (Yt h) (Zf hy hz)
theorem S0 {l:List HO}:l.Sublist (l):=.refl _
theorem S1 {l:List HO}{a:HO}:l.Sublist (a::l):=.cons _ (.refl _)
theorem S2 {l:List HO}{a b:HO}:l.Sublist (a::b::l):=.cons _ (.cons _ (.refl _))
theorem S3 {l:List HO}{a b c:HO}:l.Sublist (a::b::c::l):=.cons _ (.cons _ (.cons _ (.refl _)))
theorem S4 {l:List HO}{a b c d:HO}:l.Sublist (a::b::c::d::l):=.cons _ (.cons _ (.cons _ (.cons _ (.refl _))))
theorem S5 {l:List HO}{a b c d e:HO}:l.Sublist (a::b::c::d::e::l):=.cons _ (.cons _ (.cons _ (.cons _ (.cons _ (.refl _)))))
theorem S6 {l:List HO}{a b c d e f:HO}:l.Sublist (a::b::c::d::e::f::l):=.cons _ (.cons _ (.cons _ (.cons _ (.cons _ (.cons _ (.refl _))))))
theorem S7 {l:List HO}{a b c d e f g:HO}:l.Sublist (a::b::c::d::e::f::g::l):=.cons _ (.cons _ (.cons _ (.cons _ (.cons _ (.cons _ (.cons _ (.refl _)))))))
theorem Fb {f:FuncId}{fn:Func}{cc:Code}{args:List AV}{q:AV}(n:Nat)(hf:Tryz.prog.funcs[f]? = some fn)(hb:(fn.body,fn.ntmps,Nat.ble args.length n)=(some cc,n,true))(h:∀H,AW Tryz.prog cc (fun e s=>(e = .normal\/e = .ret)/\∃xs,ResL Tryz.prog TL s fn.results.toList xs/\H.Sublist s.H/\Ah xs=q) ⟨I9 0 args,H,n⟩):An Tryz.prog f args q:=An.body tok hf (congrArg (·.1) hb) (congrArg (·.2.1) hb) (congrArg (·.2.2) hb) h
theorem Jg {f:FuncId}{fn:Func}{cc:Code}{args:List AV}{H:List HO}{q:AV->List HO->Prop}(n:Nat)(hf:Tryz.prog.funcs[f]? = some fn)(hb:(fn.body,fn.ntmps,Nat.ble args.length n)=(some cc,n,true))(h:AW Tryz.prog cc (fun e s=>(e = .normal\/e = .ret)/\∃xs,ResL Tryz.prog TL s fn.results.toList xs/\∃H',H'.Sublist s.H/\q (Ah xs) H') ⟨I9 0 args,H,n⟩):Cf Tryz.prog f H args q:=Cf.body tok hf (congrArg (·.1) hb) (congrArg (·.2.1) hb) (congrArg (·.2.2) hb) h
theorem Bh {u v:Code}(ht:bb=true->AW Tryz.prog u Q s)(hf:bb=false->AW Tryz.prog v Q s)(hb:Fy s.sl c = .bool bb:=by exact rfl):AOL Tryz.prog ops (Gf (AW Tryz.prog (.cond c u v) Q) Q1 .normal) [] s:=Ax (Hb ht hf hb)
theorem Sb (k:Nat)(l:List AV)(h:(s.H[k]?,Fy s.sl xo,Bs TL t1,td.agg,(cs.drop ob).take td.size,Nat.beq l.length td.size,Of d s.n)=(some (.box b TT cs),.val (.pointer (some ⟨b,ob,none⟩)),some td,true,l,true,true))(kk:AOL Tryz.prog ops K r ⟨Ep d (.agg l) s.sl,s.H,s.n⟩):AOL Tryz.prog ops K (⟨d,.load t1 xo,t,pos,after,none⟩::r) s:=by simp only [Prod.mk.injEq] at h;obtain ⟨q0,q1,q2,q3,q4,q5,q6⟩:=h;exact AOL.Aag (If (k:=k) tok q1 q2 q3 q4 q5) q0 q6 kk
theorem Sw (k:Nat)(x:AV)(h:(s.H[k]?,Fy s.sl xo,Bs TL t1,td.agg,cs[ob]?,Of d s.n)=(some (.box b TT cs),.val (.pointer (some ⟨b,ob,none⟩)),some td,false,some x,true))(kk:AOL Tryz.prog ops K r ⟨Ep d x s.sl,s.H,s.n⟩):AOL Tryz.prog ops K (⟨d,.load t1 xo,t,pos,after,none⟩::r) s:=by simp only [Prod.mk.injEq] at h;obtain ⟨q0,q1,q2,q3,q4,q5⟩:=h;exact AOL.Aag (Cr (k:=k) tok q1 q2 q3 q4) q0 q5 kk
theorem Kc {sl:List (Nat×AV)}{H:List HO}{n:Nat}{l:List Oper}(t k:Nat)(h:(get sl t,H[k]?)=(.val (.pointer (some ⟨b,0,none⟩)),some (.box b TT cs)))(kk:AOL Tryz.prog ops K l ⟨(t,.ptr cs)::sl,H.eraseIdx k,n⟩):AOL Tryz.prog ops K l ⟨sl,H,n⟩:=AOL.ghost (GS.freeze k (congrArg (·.1) h) (congrArg (·.2) h)) kk
end
section
variable {ops:Array Oper} {K:List HO->Prop} {Q:St->Prop} {s:St} {o:Oper} {x y:AV} {G:List (Bool×Bool)} {listed:Array Bool}
theorem Yo (i:Nat)(ho:ops[i]? = some o)(L:List (Nat×AV))(w:Hp ops o s.sl=some G/\gT G s.sl L)(h:N0 G->Dp Tryz.prog o (Fy (L++s.sl)) K y)(k:Hq Tryz.prog ops K Q (listed.setIfInBounds i true) ⟨Ep o.dst (.opt G y) s.sl,s.H,s.n⟩)(hr:(Region.ready .any ops listed).contains i=true:=by kernel_rfl)(hf:Region.free .any ops listed i=true:=by kernel_rfl)(hd:Of o.dst s.n=true:=by exact rfl):Hq Tryz.prog ops K Q listed s:=Hq.pure listed s i o _ ho hr hf hd (.opt G y L w.1 (gT.all w.2) h rfl) k
theorem Xa {R:AV->List HO->Prop}(i:Nat)(ho:ops[i]? = some o)(hp:Nj Tryz.prog o (Fy s.sl) s.H R)(hK:∀x H',R x H'->K H')(h:∀x H',R x H'->Hq Tryz.prog ops K Q (listed.setIfInBounds i true) ⟨Ep o.dst x s.sl,H',s.n⟩)(hr:Region.ready .any ops listed = [i]:=by kernel_rfl)(hd:Of o.dst s.n=true:=by exact rfl)(hw:o.guard=none:=by exact rfl):Hq Tryz.prog ops K Q listed s:=Hq.eff listed s i o R ho hr hd hw hp hK h
theorem fY {R:AV->List HO->Prop}(i:Nat)(ho:ops[i]? = some o)(hp:Nj Tryz.prog o (Fy s.sl) s.H R)(h:∀x H',R x H'->Q ⟨Ep o.dst x s.sl,H',s.n⟩)(hl:lastB ops listed o i=true:=by kernel_rfl)(hr:Region.ready .any ops listed = [i]:=by kernel_rfl)(hd:Of o.dst s.n=true:=by exact rfl)(hw:o.guard=none:=by exact rfl):Hq Tryz.prog ops K Q listed s:=Hq.last listed s i o R ho hr hd hw hp hl h
end
section
variable {d:Option Nat} {ty:TypeId} {pos:String} {aft:Array Edge} {gd:Option (Nat×Bool)} {ρ:Operand->AV} {K:List HO->Prop} {xo yo:Operand} {t e z b ob TT:Nat} {td te:TD} {cs:List AV} {es:List (List AV)}
theorem Lw (c:AV)(h:(ρ xo,Bs TL t,td.agg,cs[ob]?)=(.val (.pointer (some ⟨b,ob,none⟩)),some td,false,some c)):Dp Tryz.prog ⟨d,.load t xo,ty,pos,aft,gd⟩ ρ (fun H=>HO.box b TT cs∈H) c:=by simp only [Prod.mk.injEq] at h;obtain ⟨q0,q1,q2,q3⟩:=h;exact Dp.mem (fun k=>Cr (k:=k) tok q0 q1 q2 q3) (fun _ h=>h)
theorem E6 (n:Nat)(h0:ρ xo = .sl z es)(h:(Bs TL t,td.kind)=(some td,.slice e))(hn:es.length=n):Dp Tryz.prog ⟨d,.call ⟨.builtin .len,#[xo],#[t]⟩,ty,pos,aft,gd⟩ ρ K (.int .i64 n):=by simp only [Prod.mk.injEq] at h;obtain ⟨q0,q1⟩:=h;exact rP tok h0 q0 q1 hn
theorem Eh {k:IntKind}{n:Int}(c:List AV)(hs:ρ xo = .sl z es)(h:(ρ yo,Bs TL t,td.kind,Bs TL e,te.size)=(.int k n,some td,.slice e,some te,z))(h0:0<=n)(hc:es[n.toNat]? = some c):Dp Tryz.prog ⟨d,.indexAddr t xo yo,ty,pos,aft,gd⟩ ρ K (.ptr c):=by simp only [Prod.mk.injEq] at h;obtain ⟨q0,q1,q2,q3,q4⟩:=h;exact rO tok hs q0 q1 q2 q3 q4 h0 hc
theorem Jh {n:Nat}{parts:Array (Nat×Operand)}(es:List (List AV))(h:(Bs TL t,td.kind,Bs TL e,te.size,Nat.beq parts.toList.length n,Nat.ble (n*z) 16777216,Yg z ρ 0 parts.toList,Nat.blt 0 z,Te ρ parts.toList)=(some td,.slice e,some te,z,true,true,true,true,es)):Dp Tryz.prog ⟨d,.buildSlice t n parts,ty,pos,aft,gd⟩ ρ K (.sl z es):=by simp only [Prod.mk.injEq] at h;obtain ⟨q0,q1,q2,q3,q4,q5,q6,q7,q8⟩:=h;exact Zy tok q0 q1 q2 q3 q4 q5 q6 q7 q8
theorem Kt {H:List HO}(k:Nat)(v:AV)(cs':List AV)(H2:List HO)(h:(ρ xo,ρ yo,Bs TL t,H[k]?,A0 (Cy v),Nat.beq (Cy v).length td.size,Nat.ble (ob+td.size) cs.length,J9 cs ob (Cy v),H.set k (.box b TT cs'))=(.val (.pointer (some ⟨b,ob,none⟩)),v,some td,some (.box b TT cs),true,true,true,cs',H2)):Nj Tryz.prog ⟨d,.store t xo yo,ty,pos,aft,gd⟩ ρ H (fun z H'=>z = .junk/\H'=H2):=by simp only [Prod.mk.injEq] at h;obtain ⟨q0,q1,q2,q3,q4,q5,q6,q7,q8⟩:=h;exact Tq tok q0 q1 q2 q3 q4 q5 q6 q7 q8
theorem W0 {H:List HO}{v:Value}{e2:List (List AV)}(k:Nat)(h:(ρ xo,ρ yo,Bs TL t,td.kind,Bs TL e,te.size,Nat.blt 0 z,H[k]?)=(.row v z es,.sl z e2,some td,.slice e,some te,z,true,some (.row v es.length e z)))(hs2:∀c∈e2,A0 c=true)(hs1:∀c∈es,A0 c=true)(hb:(es.length+e2.length)*te.bytes<=140737488355328)(hm:es.length+e2.length<=maxLen):Nj Tryz.prog ⟨d,.call ⟨.builtin .append,#[xo,yo],#[t,t]⟩,ty,pos,aft,gd⟩ ρ H (fun r H'=>∃v',r = .row v' z (es++e2)/\H'=H.set k (.row v' (es++e2).length e z)):=by simp only [Prod.mk.injEq] at h;obtain ⟨q0,q1,q2,q3,q4,q5,q6,q7⟩:=h;exact E_append tok q0 q1 q2 q3 q4 q5 q6 q7 hs2 hs1 hb hm
end

abbrev Ag:=List UInt8

def bt (s:Ag)(i:Nat):UInt8:=s.getD i 0
theorem Jl {s:Ag}{i:Nat}(h:i<s.length):s[i]? = some (bt s i):=by simp [bt,Ez,List.getElem?_eq_getElem h]

def Bn (c:UInt8):Bool:=decide (48<=(c.toNat:Int))&&decide ((c.toNat:Int)<=57)
def Di (c:UInt8):Bool:=(((c.toNat:Int)==95)||(decide (97<=(c.toNat:Int))&&decide ((c.toNat:Int)<=122)))||(decide (65<=(c.toNat:Int))&&decide ((c.toNat:Int)<=90))
def G5 (c:UInt8):Bool:=Di c||Bn c
def pY (c:UInt8):Bool:=!Di c && !Bn c
def lineS (c:UInt8):Bool:=(c.toNat:Int) != 10

def B4 (p:UInt8->Bool):Ag->Nat
 | []=>0
 | c::r=>if p c then B4 p r+1 else 0

structure Tok where
 kind:Int
 text:Ag
 pos:Int
deriving DecidableEq
structure Fo where
 tok:Tok
 bytes:Int
 pos:Int
 err:Int
deriving DecidableEq
def Wj:Tok:=⟨0,[],0⟩
def xW:Fo:=⟨Wj,0,0,0⟩
def Nw (pos err:Int):Fo:=⟨Wj,0,pos,err⟩
def Y4 (kind:Int)(text:Ag)(bytes:Int):Fo:=⟨⟨kind,text,0⟩,bytes,0,0⟩

def Kx (s:Ag):Fo:=if !Di (bt s 0) then xW else if decide (24<(B4 G5 s:Int)) then Nw 0 8 else Y4 0 (s.take (B4 G5 s)) (B4 G5 s)

def dvS (c:UInt8):Int:=IntKind.u8.wrap ((c.toNat:Int)-48)
def Jd:Ag->Int->Int×Int
 | [],n=>(n,0)
 | c::r,n=>if decide (1099511627776<10*n+dvS c) then (0,2) else Jd r (10*n+dvS c)
def Ua (s:Ag):Int×Int:=if (s == [])||decide ((B4 Bn s:Int)<(s.length:Int)) then (0,4) else Jd s 0

def F4 (s:Ag):Fo:=
 if ((B4 Bn s:Int)==0) then xW
 else if ((Ua (s.take (B4 Bn s))).2 != 0) then Nw 0 (Ua (s.take (B4 Bn s))).2
 else if (decide ((B4 Bn s:Int)<(s.length:Int))&&Di (bt s (B4 Bn s))) then Nw (B4 Bn s) 4
 else Y4 1 (s.take (B4 Bn s)) (B4 Bn s)

def fR:Ag:=[48,49,50,51,52,53,54,55,56,57,97,98,99,100,101,102]
abbrev pI (c:UInt8):Int:=Lib.indexByte fR c
def oI (n:Int):UInt8:=UInt8.ofNat (IntKind.u8.wrap n).toNat

def Kw (s:Ag):UInt8×Int:=
 if decide (2<=(s.length:Int))&&(((bt s 1).toNat:Int)==34||((bt s 1).toNat:Int)==92) then (bt s 1,2)
 else if decide (4<=(s.length:Int))&&(((bt s 1).toNat:Int)==120) then
  if decide (0<=pI (bt s 2))&&decide (0<=pI (bt s 3)) then (oI (16*pI (bt s 2)+pI (bt s 3)),4) else (0,0)
 else (0,0)

def Hr (s:Ag):Nat->Nat->Ag->Fo
  | 0,_,_=>Nw s.length 4
  | n+1,i,b=>
    if decide ((i:Int)<(s.length:Int)) then
      if (((bt s i).toNat:Int)==34) then
        if decide (64<(b.length:Int)) then Nw 0 13 else Y4 2 b ((i:Int)+1)
      else if (((bt s i).toNat:Int)==92) then
        if ((Kw (s.drop i)).2==0) then Nw i 4 else Hr s n (i+(Kw (s.drop i)).2.toNat) (b ++ [(Kw (s.drop i)).1])
      else if (decide (((bt s i).toNat:Int)<32)||decide (126<((bt s i).toNat:Int))) then Nw i 4
      else Hr s n (i+1) (b ++ [bt s i])
    else Nw s.length 4
def Lq (s:Ag):Fo:=if (((bt s 0).toNat:Int) != 34) then xW else Hr s (s.length+1) 1 []

def nT:List Ag:=[[60,61],[62,61],[61,61],[33,61],[40],[41],[123],[125],[44],[46],[58],[59],[43],[45],[60],[62],[61]]
def Ia (s:Ag):List Ag->Fo
 | []=>Nw 0 4
 | x::r=>if Lib.hasPrefix s x then Y4 3 x x.length else Ia s r
def Wf (s:Ag):Fo:=Ia s nT

def Kl (s:Ag):Int:=if (((bt s 0).toNat:Int)==35) then B4 lineS s else if decide (0<=Lib.indexByte [32,9,13,10] (bt s 0)) then 1 else 0

def Mv (f:Fo):Bool:=decide (0<f.bytes)||(f.err != 0)
def Ca (s:Ag):Fo:=if Mv (Kx s) then Kx s else if Mv (F4 s) then F4 s else if Mv (Lq s) then Lq s else Wf s

def J8 (s:Ag):Nat->Nat->List Tok->List Tok×Int×Int
  | 0,_,_=>([],0,0)
  | n+1,i,out=>
    if decide ((i:Int)<(s.length:Int)) then
      if decide (0<Kl (s.drop i)) then J8 s n (i+(Kl (s.drop i)).toNat) out
      else if ((Ca (s.drop i)).err != 0) then ([],(i:Int)+(Ca (s.drop i)).pos,(Ca (s.drop i)).err)
      else J8 s n (i+(Ca (s.drop i)).bytes.toNat) (out ++ [⟨(Ca (s.drop i)).tok.kind,(Ca (s.drop i)).tok.text,i⟩])
    else (out,0,0)
def Dx (s:Ag):List Tok×Int×Int:=if decide (65536<(s.length:Int)) then ([],0,13) else J8 s (s.length+1) 0 []

def jJ:Ag:=[32,97,108,108,32,97,108,116,32,97,110,100,32,98,111,111,108,32,98,121,32,99,111,117,110,116,32,102,97,108,115,101,32,102,105,114,115,116,32,105,102,32,105,110,116,32,108,97,99,107,115,32,108,97,115,116,32,109,97,116,99,104,32,109,97,120,32,109,105,110,32,110,111,116,32,111,114,32,112,108,117,115,32,113,117,101,114,121,32,114,101,116,117,114,110,32,115,101,113,32,115,116,114,105,110,103,32,115,117,109,32,116,105,109,101,32,116,114,117,101,32,116,121,112,101,32,119,104,101,114,101,32,119,105,116,104,105,110,32]
def Pk (s:Ag):Bool:=(!(s == []) && !Lib.contains s [32])&&Lib.contains jJ ([32]++s ++ [32])

def Lb (p:UInt8->Bool):Ag->Int
 | []=>-1
 | c::r=>if p c then 0 else if Lb p r = -1 then -1 else Lb p r+1
def Hf (s:Ag):Int:=
 if (((s == [])||decide (24<(s.length:Int)))||Bn (bt s 0))||Pk s then 8 else if decide (0<=Lb pY s) then 8 else 0

def Gy (c:UInt8):Ag:=
 if (((c.toNat:Int)==34)||((c.toNat:Int)==92)) then [92,c]
 else if (decide ((c.toNat:Int)<32)||decide (126<(c.toNat:Int))) then [92,120,bt fR (c.toNat / 16),bt fR (c.toNat % 16)]
 else [c]
def B0:Ag->Ag
 | []=>[]
 | c::r=>Gy c++B0 r
def Sj (s:Ag):Ag×Int:=if decide (64<(s.length:Int)) then ([],13) else ([34]++B0 s ++ [34],0)

def keyR (s:Ag):Bool:=
 (s == [97,108,108])||(s == [97,108,116])||(s == [97,110,100])||(s == [98,111,111,108])||(s == [98,121])||(s == [99,111,117,110,116])||(s == [102,97,108,115,101])||(s == [102,105,114,115,116])||(s == [105,102])||(s == [105,110,116])||(s == [108,97,99,107,115])||(s == [108,97,115,116])||(s == [109,97,116,99,104])||(s == [109,97,120])||(s == [109,105,110])||(s == [110,111,116])||(s == [111,114])||(s == [112,108,117,115])||(s == [113,117,101,114,121])||(s == [114,101,116,117,114,110])||(s == [115,101,113])||(s == [115,116,114,105,110,103])||(s == [115,117,109])||(s == [116,105,109,101])||(s == [116,114,117,101])||(s == [116,121,112,101])||(s == [119,104,101,114,101])||(s == [119,105,116,104,105,110])
def nameR (s:Ag):Int:=
 if ((((s == [])||decide (24<(s.length:Int))) || !Di (bt s 0))||((B4 G5 s:Int) != (s.length:Int)))||keyR s then 8 else 0
@[reducible] def cTok (t : Tok) : List AV := [.int .i64 t.kind, .str t.text, .int .i64 t.pos]
@[reducible] def cFo (f : Fo) : List AV := [.int .i64 f.tok.kind, .str f.tok.text, .int .i64 f.tok.pos, .int .i64 f.bytes, .int .i64 f.pos, .int .i64 f.err]
def tY (t:Tok):List AV:=cTok t


abbrev H6:Ag:=[58]
abbrev G0:Ag:=[105,110,116]
abbrev Ho:Ag:=[98,111,111,108]
abbrev Ha:Ag:=[115,116,114,105,110,103]
abbrev Dj:Ag:=[116,121,112,101]
abbrev Gt:Ag:=[123]
abbrev Fg:Ag:=[125]
abbrev C0:Ag:=[113,117,101,114,121]
abbrev Oa:Ag:=[98,121]
abbrev E4:Ag:=[109,97,116,99,104]
abbrev Dw:Ag:=[114,101,116,117,114,110]
abbrev dS:Ag:=[59]
abbrev D1:Ag:=[44]
abbrev Me:Ag:=[105,102]
abbrev Ee:Ag:=[40]
abbrev Jo:Ag:=[41]
abbrev Yq:Ag:=[115,101,113]
abbrev Yp:Ag:=[97,108,116]
abbrev Yn:Ag:=[97,108,108]
abbrev Sn:Ag:=[112,108,117,115]
abbrev Ni:Ag:=[108,97,99,107,115]
abbrev K5:Ag:=[119,105,116,104,105,110]
abbrev K4:Ag:=[119,104,101,114,101]
abbrev wO:Ag:=[111,114]
abbrev kZ:Ag:=[97,110,100]
abbrev w_add:Ag:=[43]
abbrev Oi:Ag:=[45]
abbrev F7:Ag:=[110,111,116]
abbrev w_lt:Ag:=[60]
abbrev w_le:Ag:=[60,61]
abbrev w_gt:Ag:=[62]
abbrev w_ge:Ag:=[62,61]
abbrev nY:Ag:=[61,61]
abbrev wN:Ag:=[33,61]
abbrev dU:Ag:=[109,105,110]
abbrev dT:Ag:=[109,97,120]
abbrev Tl:Ag:=[102,105,114,115,116]
abbrev X5:Ag:=[108,97,115,116]
abbrev Ir:Ag:=[46]
abbrev M6:Ag:=[115,117,109]
abbrev Gv:Ag:=[99,111,117,110,116]
abbrev F6:Ag:=[116,105,109,101]
abbrev K9:Ag:=[116,114,117,101]
abbrev Je:Ag:=[102,97,108,115,101]

structure Syn where
 kind:Int
 text:Ag
 name:Ag
 num:Int
 kids:List Syn
 pos:Int
def Gz:Syn:=⟨0,[],[],0,[],0⟩

structure PS where
 toks:List Tok
 pos:Nat
 fin:Int
 depth:Int
 bad:Int
 whr:Int

def rF (st:PS):Tok:=st.toks.getD st.pos Wj
def Fs (st:PS):Int:=if decide ((st.pos:Int)<(st.toks.length:Int)) then (rF st).pos else st.fin
def Hc (e:Int)(st:PS):PS:=if (st.bad==0) then { st with bad:=e,whr:=Fs st } else st
def adv (st:PS):PS:={ st with pos:=st.pos+1 }
def La (st:PS):PS:={ st with depth:=IntKind.i64.wrap (st.depth+1) }
def Km (st:PS):PS:={ st with depth:=IntKind.i64.wrap (st.depth-1) }
@[reducible] def endP (st : PS) : Bool := (st.bad != 0) || decide ((st.toks.length : Int) <= (st.pos : Int))

def Ea (w:Ag)(st:PS):Bool:=if endP st then false else ((rF st).text==w)&&(((rF st).kind==3)||(((rF st).kind==0)&&Pk w))
def Pb (w:Ag)(st:PS):PS:=if Ea w st then adv st else st
def Ce (w:Ag)(st:PS):PS:=if (st.bad==0) && !(Ea w st) then Hc 4 st else Pb w st
def Ps (k:Int)(st:PS):Bool:=if endP st then false else ((rF st).kind==k)&&((k != 0) || !(Pk (rF st).text))
def Ed (k:Int)(st:PS):PS:=if Ps k st then adv st else Hc 4 st
def Ib (k:Int)(st:PS):Ag:=if Ps k st then (rF st).text else []
def Tg (st:PS):Int:=if Ps 1 st then (Ua (rF st).text).1 else 0

def Np (read:Syn->PS->Syn×PS)(z:Syn)(st:PS):Syn×PS:=
 if ((if decide (64<=st.depth) then Hc 12 st else st).bad != 0) then (z,if decide (64<=st.depth) then Hc 12 st else st)
 else ((read z (adv (La st))).1,Km (read z (adv (La st))).2)

def Ht (F:PS->Syn×PS):Nat->PS->List Syn->List Syn×PS
 | 0,st,out=>(out,st)
 | n+1,st,out=>if Ea D1 st then Ht F n (F (adv st)).2 (out ++ [(F (adv st)).1]) else (out,st)
def A3 (st:PS):Nat:=st.toks.length-st.pos+1
def Po (F:PS->Syn×PS)(st:PS):List Syn×PS:=Ht F (A3 (F st).2) (F st).2 [(F st).1]

def J3 (st:PS):Syn×PS:=
 if Ea G0 (Ce H6 (Ed 0 st)) then (⟨2,Ib 0 st,[],0,[],Fs st⟩,adv (Ce H6 (Ed 0 st)))
 else if Ea Ho (Ce H6 (Ed 0 st)) then (⟨2,Ib 0 st,[],1,[],Fs st⟩,adv (Ce H6 (Ed 0 st)))
 else if Ea Ha (Ce H6 (Ed 0 st)) then (⟨2,Ib 0 st,[],2,[],Fs st⟩,adv (Ce H6 (Ed 0 st)))
 else (⟨2,Ib 0 st,[],0,[],Fs st⟩,Hc 4 (Ce H6 (Ed 0 st)))

def Jc (st:PS):Syn×PS:=
 let s1:=Ce Dj st
 let s2:=Ce Gt (Ed 0 s1)
 if (s2.bad==0) && !(Ea Fg s2) then (⟨1,Ib 0 s1,[],0,(Po J3 s2).1,Fs st⟩,Ce Fg (Po J3 s2).2)
 else (⟨1,Ib 0 s1,[],0,[],Fs st⟩,Ce Fg s2)

def Mr (op:Int)(a b:Syn)(at':Int):Syn:=⟨17,[],[],op,[a,b],at'⟩

def Eo (st:PS):Syn×PS:=
 if Ea Oi st then (⟨13,[],G0,0-Tg (adv st),[],Fs st⟩,Ed 1 (adv st))
 else if Ps 1 st then (⟨13,[],G0,Tg st,[],Fs st⟩,Ed 1 st)
 else if Ea K9 st then (⟨13,[],Ho,1,[],Fs st⟩,adv st)
 else if Ea Je st then (⟨13,[],Ho,0,[],Fs st⟩,adv st)
 else (⟨13,Ib 2 st,Ha,0,[],Fs st⟩,Ed 2 st)

def cM (st:PS):(Ag×Ag)×PS:=
 let s1:=Ce Ee st
 let s2:=Ce Ir (Ed 0 s1)
 ((Ib 0 s1,Ib 0 s2),Ed 0 s2)

def totL:List (Ag×Int):=[(dU,2),(dT,3),(Tl,4),(X5,5)]
def D3 (E:PS->Syn×PS)(st:PS):Syn×PS:=
  if Ea Ee st then Np (fun _ s=>((E s).1,Ce Jo (E s).2)) Gz st
  else match totL.find? (fun s=>Ea s.1 st) with
    | some s=>
      let i:=cM (adv st)
      let s1:=Ce D1 i.2
      (⟨16,i.1.1,i.1.2,s.2,[(Eo s1).1],Fs st⟩,Ce Jo (Eo s1).2)
    | none=>
      if Ea M6 st then
        let i:=cM (adv st)
        (⟨16,i.1.1,i.1.2,1,[],Fs st⟩,Ce Jo i.2)
      else if Ea Gv st then
        let s1:=Ce Ee (adv st)
        (⟨15,Ib 0 s1,[],0,[],Fs st⟩,Ce Jo (Ed 0 s1))
      else if Ps 0 st then
        let s1:=Ce Ir (Ed 0 st)
        if Ea F6 s1 then (⟨14,Ib 0 st,F6,0,[],Fs st⟩,adv s1)
        else (⟨14,Ib 0 st,Ib 0 s1,0,[],Fs st⟩,Ed 0 s1)
      else Eo st

def I0 (F:PS->Syn×PS)(sg:List (Ag×Int)):Nat->PS->Syn->Syn×PS
  | 0,st,out=>(out,st)
  | n+1,st,out=>match sg.find? (fun s=>Ea s.1 st) with
    | some s=>I0 F sg n (F (adv st)).2 (Mr s.2 out (F (adv st)).1 out.pos)
    | none=>(out,st)
def J2 (F:PS->Syn×PS)(sg:List (Ag×Int))(st:PS):Syn×PS:=I0 F sg (A3 (F st).2) (F st).2 (F st).1
def orL:List (Ag×Int):=[(wO,11)]
def rX:List (Ag×Int):=[(kZ,10)]
def zQ:List (Ag×Int):=[(w_add,5),(Oi,6)]
def Kn (E:PS->Syn×PS)(st:PS):Syn×PS:=J2 (D3 E) zQ st

def Ms (E:PS->Syn×PS)(st:PS):Syn×PS:=
 let a:=(Kn E st).1
 let s:=(Kn E st).2
 let b:=(Kn E (adv s)).1
 let s':=(Kn E (adv s)).2
 if Ea w_lt s then (Mr 7 a b a.pos,s')
 else if Ea w_le s then (Mr 8 a b a.pos,s')
 else if Ea w_gt s then (Mr 7 b a a.pos,s')
 else if Ea w_ge s then (Mr 8 b a a.pos,s')
 else if Ea nY s then (Mr 9 a b a.pos,s')
 else if Ea wN s then (⟨18,[],[],0,[Mr 9 a b a.pos],a.pos⟩,s')
 else (a,s)
def N3 (E N:PS->Syn×PS)(st:PS):Syn×PS:=
 if !(Ea F7 st) then Ms E st
 else Np (fun z s=>({ z with kids:=[(N s).1] },(N s).2)) ⟨18,[],[],0,[],Fs st⟩ st
def fO (E N:PS->Syn×PS)(st:PS):Syn×PS:=J2 (N3 E N) rX st
def orP (E N:PS->Syn×PS)(st:PS):Syn×PS:=J2 (fO E N) orL st
def Gd (st:PS):Syn×PS:=(Gz,st)
def My:Nat->(PS->Syn×PS)×(PS->Syn×PS)
 | 0=>(N3 Gd Gd,orP Gd Gd)
 | n+1=>(N3 (My n).2 (My n).1,orP (My n).2 (My n).1)
def exprN (n:Nat):PS->Syn×PS:=(My n).2

def I5 (E:PS->Syn×PS)(st:PS):Syn×PS:=
 let s2:=Ed 0 (Ed 0 st)
 if Ea Me s2 then (⟨5,Ib 0 st,Ib 0 (Ed 0 st),0,[(E (adv s2)).1],Fs st⟩,(E (adv s2)).2)
 else (⟨5,Ib 0 st,Ib 0 (Ed 0 st),0,[],Fs st⟩,s2)

def formL:List (Ag×Int):=[(Yq,6),(Yp,7),(Yn,8),(Sn,9),(Ni,10),(K5,11),(K4,12)]
def fV (T:PS->Syn×PS)(z:Syn)(st:PS):Syn×PS:=
 let r:=T (Ce D1 st)
 let l:=Ht T (A3 r.2) r.2 (z.kids ++ [r.1])
 ({ z with kids:=l.1 },l.2)
def Gs (E T:PS->Syn×PS)(k:Int)(z:Syn)(st:PS):Syn×PS:=
 if decide (k<=8) then fV T z st
 else if (k==9) then (z,st)
 else if (k==10) then ({ z with kids:=z.kids ++ [(I5 E (Ce D1 st)).1] },(I5 E (Ce D1 st)).2)
 else if (k==11) then ({ z with num:=Tg (Ce D1 st) },Ed 1 (Ce D1 st))
 else ({ z with kids:=z.kids ++ [(E (Ce D1 st)).1] },(E (Ce D1 st)).2)
def U2 (E T:PS->Syn×PS)(st:PS):Syn×PS:=
 match formL.find? (fun f=>Ea f.1 st) with
 | some f=>Np (fun z s=>
  let r:=T (Ce Ee s)
  let q:=Gs E T f.2 { z with kids:=[r.1] } r.2
  (q.1,Ce Jo q.2)) ⟨f.2,[],[],0,[],Fs st⟩ st
 | none=>I5 E st
def kD (E:PS->Syn×PS):Nat->PS->Syn×PS
 | 0=>U2 E Gd
 | n+1=>U2 E (kD E n)

def Y9 (st:PS)(at':Int):Syn×PS:=
 if Ea Oa st then (⟨4,Ib 0 (adv st),[],0,[],Fs (adv st)⟩,Ed 0 (adv st)) else (⟨4,[],[],0,[],at'⟩,st)
def Fe (E T:PS->Syn×PS)(st:PS):Syn×PS:=
 let s1:=Ce C0 st
 let k:=Y9 (Ed 0 s1) (Fs st)
 let p:=T (Ce E4 k.2)
 let l:=Po E (Ce Dw p.2)
 (⟨3,Ib 0 s1,[],0,[k.1,p.1]++l.1,Fs st⟩,Ce dS l.2)

def Hh (w:Ag)(F:PS->Syn×PS):Nat->PS->List Syn->List Syn×PS
 | 0,st,out=>(out,st)
 | n+1,st,out=>if Ea w st then Hh w F n (F st).2 (out ++ [(F st).1]) else (out,st)
def Kz (E T:PS->Syn×PS)(st:PS):Syn×PS:=
 let t:=Hh Dj Jc (A3 st) st []
 let q:=Hh C0 (Fe E T) (A3 t.2) t.2 t.1
 (⟨0,[],[],0,q.1,0⟩,q.2)

def J0 (l:List Tok)(n:Int):PS:=⟨l,0,n,0,0,0⟩
def Sz (r:Syn×PS):Syn×Int×Int:=
 let s:=if decide ((r.2.pos:Int)<(r.2.toks.length:Int)) then Hc 4 r.2 else r.2
 if (s.bad != 0) then (Gz,s.whr,s.bad) else (r.1,0,0)
def Df (F:PS->Syn×PS)(s:Ag):Syn×Int×Int:=
 if ((Dx s).2.2 != 0) then (Gz,(Dx s).2.1,(Dx s).2.2) else Sz (F (J0 (Dx s).1 s.length))
def EE:PS->Syn×PS:=exprN 64
def TT:PS->Syn×PS:=kD EE 64
mutual
def C6:Syn->List AV
 | ⟨kind,text,name,num,kids,pos⟩=>[.int .i64 kind,.str text,.str name,.int .i64 num,.sl 6 (sN kids),.int .i64 pos]
def sN:List Syn->List (List AV)
 | []=>[]
 | e::r=>C6 e::sN r
end
theorem mN:∀l:List Syn,sN l=l.map C6
 | []=>by simp [sN]
 | e::r=>by simp [sN,mN r]
@[reducible] def cSyn (e : Syn) : List AV := [.int .i64 e.kind, .str e.text, .str e.name, .int .i64 e.num, .sl 6 (e.kids.map C6), .int .i64 e.pos]
theorem Bf (e:Syn):C6 e=cSyn e:=by
 cases e
 simp [C6,cSyn,mN]
theorem Ie {l:List Syn}{k:Nat}{a:Syn}(h:l[k]? = some a):(l.map C6)[k]? = some (cSyn a):=by
 simp [h,Bf]
@[reducible] def cP (st : PS) : List AV := [.sl 3 (st.toks.map tY), .int .i64 (st.pos : Int), .int .i64 st.fin, .int .i64 st.depth, .int .i64 st.bad, .int .i64 st.whr]
theorem Syn.ind {P:Syn->Prop}(h:∀e,(∀a∈e.kids,P a)->P e):∀e,P e:=by
 intro e;exact Syn.rec (motive_1:=P) (motive_2:=fun l=>∀a∈l,P a) (fun k t n m kids p ih=>h _ ih) (by simp) (fun a l ha hl=>by simp only [Db,forall_eq_or_imp];exact ⟨ha,hl⟩) e

end Go.Proofs.YtckhoadldibflaaGreatDoor
