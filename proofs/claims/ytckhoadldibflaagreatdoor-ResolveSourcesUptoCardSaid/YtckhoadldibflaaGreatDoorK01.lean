/-
  Several texts in one: Az, M, M12, M13, EM, EM2. No condition.
-/
import Derived.Test.YtckhoadldibflaaGreatDoorAx
import Derived.Test.YtckhoadldibflaaGreatDoorTab
import Derived.KernelRfl
import Derived.Test.YtckhoadldibflaaGreatDoorAw
import Derived.Lib.IndexMore
import Derived.Lib.LastIndexLaws
import Derived.Lib.Join
import Derived.Lib.ItoaLen
import Derived.IntWalk
set_option linter.unusedVariables false
set_option linter.unusedSimpArgs false
namespace Go.Proofs.YtckhoadldibflaaGreatDoor
open Go Go.Aw
set_option maxRecDepth 100000

section
variable {d:Option Nat} {ty:TypeId} {pos:String} {aft:Array Edge} {gd:Option (Nat×Bool)} {ρ:Operand->AV} {K:List HO->Prop}
theorem Ah {x:Operand}{n:Int}(h:ρ x = .int .i64 n:=by exact rfl):Dc Tryz.prog ⟨d,.assign x,ty,pos,aft,gd⟩ ρ K (.int .i64 n):=Bb h
theorem Ai {x:Operand}{n:Int}(h:ρ x = .int .i64 n:=by exact rfl):Dc Tryz.prog ⟨d,.move x,ty,pos,aft,gd⟩ ρ K (.int .i64 n):=A0 h
theorem Be {t:TypeId}{td:TD}{x:Operand}{n:Int}{cs:List AV}(h:ρ x = .ptr (.int .i64 n::cs):=by exact rfl)(ht:Bu TL t=some td:=by exact rfl)(ha:td.agg=false:=by exact rfl):Dc Tryz.prog ⟨d,.load t x,ty,pos,aft,gd⟩ ρ K (.int .i64 n):=Fb tok h ht ha
theorem Km {x:Operand}{i:Nat}{vs:List AV}{n:Int}(h:ρ x = .tuple vs:=by exact rfl)(hv:vs[i]? = some (.int .i64 n):=by exact rfl):Dc Tryz.prog ⟨d,.extract x i,ty,pos,aft,gd⟩ ρ K (.int .i64 n):=Cq h hv
theorem Ao {x:Operand}{b:Bool}(h:ρ x = .bool b:=by exact rfl):Dc Tryz.prog ⟨d,.assign x,ty,pos,aft,gd⟩ ρ K (.bool b):=Bb h
theorem A8 {x:Operand}{b:Bool}(h:ρ x = .bool b:=by exact rfl):Dc Tryz.prog ⟨d,.move x,ty,pos,aft,gd⟩ ρ K (.bool b):=A0 h
theorem nE {t:TypeId}{td:TD}{x:Operand}{b:Bool}{cs:List AV}(h:ρ x = .ptr (.bool b::cs):=by exact rfl)(ht:Bu TL t=some td:=by exact rfl)(ha:td.agg=false:=by exact rfl):Dc Tryz.prog ⟨d,.load t x,ty,pos,aft,gd⟩ ρ K (.bool b):=Fb tok h ht ha
theorem bG {x:Operand}{i:Nat}{vs:List AV}{b:Bool}(h:ρ x = .tuple vs:=by exact rfl)(hv:vs[i]? = some (.bool b):=by exact rfl):Dc Tryz.prog ⟨d,.extract x i,ty,pos,aft,gd⟩ ρ K (.bool b):=Cq h hv
theorem Xk {x:Operand}{z:Nat}{es:List (List AV)}(h:ρ x = .sl z es:=by exact rfl):Dc Tryz.prog ⟨d,.assign x,ty,pos,aft,gd⟩ ρ K (.sl z es):=Bb h
theorem Ez {x:Operand}{z:Nat}{es:List (List AV)}(h:ρ x = .sl z es:=by exact rfl):Dc Tryz.prog ⟨d,.move x,ty,pos,aft,gd⟩ ρ K (.sl z es):=A0 h
theorem Cg {t:TypeId}{td:TD}{x:Operand}{z:Nat}{es:List (List AV)}{cs:List AV}(h:ρ x = .ptr (.sl z es::cs):=by exact rfl)(ht:Bu TL t=some td:=by exact rfl)(ha:td.agg=false:=by exact rfl):Dc Tryz.prog ⟨d,.load t x,ty,pos,aft,gd⟩ ρ K (.sl z es):=Fb tok h ht ha
theorem Qxs {x:Operand}{i:Nat}{vs:List AV}{z:Nat}{es:List (List AV)}(h:ρ x = .tuple vs:=by exact rfl)(hv:vs[i]? = some (.sl z es):=by exact rfl):Dc Tryz.prog ⟨d,.extract x i,ty,pos,aft,gd⟩ ρ K (.sl z es):=Cq h hv
theorem Qh {x:Operand}{v:Value}(h:ρ x = .val v:=by exact rfl):Dc Tryz.prog ⟨d,.assign x,ty,pos,aft,gd⟩ ρ K (.val v):=Bb h
theorem Ce {x:Operand}{v:Value}(h:ρ x = .val v:=by exact rfl):Dc Tryz.prog ⟨d,.move x,ty,pos,aft,gd⟩ ρ K (.val v):=A0 h
theorem Kb {t:TypeId}{td:TD}{x:Operand}{v:Value}{cs:List AV}(h:ρ x = .ptr (.val v::cs):=by exact rfl)(ht:Bu TL t=some td:=by exact rfl)(ha:td.agg=false:=by exact rfl):Dc Tryz.prog ⟨d,.load t x,ty,pos,aft,gd⟩ ρ K (.val v):=Fb tok h ht ha
theorem Qxv {x:Operand}{i:Nat}{vs:List AV}{v:Value}(h:ρ x = .tuple vs:=by exact rfl)(hv:vs[i]? = some (.val v):=by exact rfl):Dc Tryz.prog ⟨d,.extract x i,ty,pos,aft,gd⟩ ρ K (.val v):=Cq h hv
theorem Qaa {x:Operand}{l:List AV}(h:ρ x = .agg l:=by exact rfl):Dc Tryz.prog ⟨d,.assign x,ty,pos,aft,gd⟩ ρ K (.agg l):=Bb h
theorem Qma {x:Operand}{l:List AV}(h:ρ x = .agg l:=by exact rfl):Dc Tryz.prog ⟨d,.move x,ty,pos,aft,gd⟩ ρ K (.agg l):=A0 h
theorem Qla {t:TypeId}{td:TD}{x:Operand}{l:List AV}{cs:List AV}(h:ρ x = .ptr (.agg l::cs):=by exact rfl)(ht:Bu TL t=some td:=by exact rfl)(ha:td.agg=false:=by exact rfl):Dc Tryz.prog ⟨d,.load t x,ty,pos,aft,gd⟩ ρ K (.agg l):=Fb tok h ht ha
theorem Qxa {x:Operand}{i:Nat}{vs:List AV}{l:List AV}(h:ρ x = .tuple vs:=by exact rfl)(hv:vs[i]? = some (.agg l):=by exact rfl):Dc Tryz.prog ⟨d,.extract x i,ty,pos,aft,gd⟩ ρ K (.agg l):=Cq h hv
theorem Dj {x:Operand}{s:List UInt8}(h:ρ x = .str s:=by exact rfl):Dc Tryz.prog ⟨d,.assign x,ty,pos,aft,gd⟩ ρ K (.str s):=Bb h
theorem D3 {x:Operand}{s:List UInt8}(h:ρ x = .str s:=by exact rfl):Dc Tryz.prog ⟨d,.move x,ty,pos,aft,gd⟩ ρ K (.str s):=A0 h
theorem Dk {t:TypeId}{td:TD}{x:Operand}{s:List UInt8}{cs:List AV}(h:ρ x = .ptr (.str s::cs):=by exact rfl)(ht:Bu TL t=some td:=by exact rfl)(ha:td.agg=false:=by exact rfl):Dc Tryz.prog ⟨d,.load t x,ty,pos,aft,gd⟩ ρ K (.str s):=Fb tok h ht ha
theorem kT {x:Operand}{i:Nat}{vs:List AV}{s:List UInt8}(h:ρ x = .tuple vs:=by exact rfl)(hv:vs[i]? = some (.str s):=by exact rfl):Dc Tryz.prog ⟨d,.extract x i,ty,pos,aft,gd⟩ ρ K (.str s):=Cq h hv
theorem Qau {x:Operand}{l:List AV}(h:ρ x = .tuple l:=by exact rfl):Dc Tryz.prog ⟨d,.assign x,ty,pos,aft,gd⟩ ρ K (.tuple l):=Bb h
theorem Ml {x:Operand}{l:List AV}(h:ρ x = .tuple l:=by exact rfl):Dc Tryz.prog ⟨d,.move x,ty,pos,aft,gd⟩ ρ K (.tuple l):=A0 h
theorem Qlu {t:TypeId}{td:TD}{x:Operand}{l:List AV}{cs:List AV}(h:ρ x = .ptr (.tuple l::cs):=by exact rfl)(ht:Bu TL t=some td:=by exact rfl)(ha:td.agg=false:=by exact rfl):Dc Tryz.prog ⟨d,.load t x,ty,pos,aft,gd⟩ ρ K (.tuple l):=Fb tok h ht ha
theorem Qxu {x:Operand}{i:Nat}{vs:List AV}{l:List AV}(h:ρ x = .tuple vs:=by exact rfl)(hv:vs[i]? = some (.tuple l):=by exact rfl):Dc Tryz.prog ⟨d,.extract x i,ty,pos,aft,gd⟩ ρ K (.tuple l):=Cq h hv
theorem Qap {x:Operand}{l:List AV}(h:ρ x = .ptr l:=by exact rfl):Dc Tryz.prog ⟨d,.assign x,ty,pos,aft,gd⟩ ρ K (.ptr l):=Bb h
theorem Qmp {x:Operand}{l:List AV}(h:ρ x = .ptr l:=by exact rfl):Dc Tryz.prog ⟨d,.move x,ty,pos,aft,gd⟩ ρ K (.ptr l):=A0 h
theorem Qlp {t:TypeId}{td:TD}{x:Operand}{l:List AV}{cs:List AV}(h:ρ x = .ptr (.ptr l::cs):=by exact rfl)(ht:Bu TL t=some td:=by exact rfl)(ha:td.agg=false:=by exact rfl):Dc Tryz.prog ⟨d,.load t x,ty,pos,aft,gd⟩ ρ K (.ptr l):=Fb tok h ht ha
theorem Qxp {x:Operand}{i:Nat}{vs:List AV}{l:List AV}(h:ρ x = .tuple vs:=by exact rfl)(hv:vs[i]? = some (.ptr l):=by exact rfl):Dc Tryz.prog ⟨d,.extract x i,ty,pos,aft,gd⟩ ρ K (.ptr l):=Cq h hv
theorem B1 (l:List AV){t:TypeId}{td:TD}{x:Operand}{cs:List AV}(h:ρ x = .ptr cs:=by exact rfl)(ht:Bu TL t=some td:=by exact rfl)(ha:td.agg=true:=by exact rfl)(hl:cs.take td.size=l:=by exact rfl)(hs:Nat.beq l.length td.size=true:=by exact rfl):Dc Tryz.prog ⟨d,.load t x,ty,pos,aft,gd⟩ ρ K (.agg l):=G4 tok h ht ha hl hs
theorem Qf (cs':List AV){s f off z ft:Nat}{nm:Bool}{x:Operand}{cs:List AV}{td:TD}{gs:List (Nat×Nat×Bool×Nat)}(h:ρ x = .ptr cs:=by exact rfl)(ht:Bu TL s=some td:=by exact rfl)(hk:td.kind = .struct gs:=by exact rfl)(hf:gs[f]? = some (off,z,nm,ft):=by exact rfl)(hz:Nat.blt 0 z=true:=by exact rfl)(hc:cs.drop off=cs':=by exact rfl):Dc Tryz.prog ⟨d,.fieldAddr s x f,ty,pos,aft,gd⟩ ρ K (.ptr cs'):=Dw tok h ht hk hf hz hc
theorem Co {s f off z ft b o:Nat}{nm:Bool}{x:Operand}{td:TD}{gs:List (Nat×Nat×Bool×Nat)}{o':Nat}(h:ρ x = .val (.pointer (some ⟨b,o,none⟩)):=by exact rfl)(ht:Bu TL s=some td:=by exact rfl)(hk:td.kind = .struct gs:=by exact rfl)(hf:gs[f]? = some (off,z,nm,ft):=by exact rfl)(hz:Nat.blt 0 z=true:=by exact rfl)(ho:o+off=o':=by exact rfl):Dc Tryz.prog ⟨d,.fieldAddr s x f,ty,pos,aft,gd⟩ ρ K (.val (.pointer (some ⟨b,o',none⟩))):=Fx tok h ht hk hf hz ho
theorem Eh (cs:List AV){t:TypeId}{x:Operand}{l:List AV}(h:ρ x = .agg l:=by exact rfl)(hc:Cv (.agg l)=cs:=by exact rfl)(hs:A7 cs=true:=by exact rfl):Dc Tryz.prog ⟨d,.box t x,ty,pos,aft,gd⟩ ρ K (.ptr cs):=Vk h hc hs
theorem D0 (l:List AV){t:TypeId}{td:TD}{gs:List (Nat×Nat×Bool×Nat)}{parts:Array (Nat×Operand)}(ht:Bu TL t=some td:=by exact rfl)(hk:td.kind = .struct gs:=by exact rfl)(h:bJ gs td.zero (Pv ρ parts.toList)=some l:=by exact rfl):Dc Tryz.prog ⟨d,.build t parts,ty,pos,aft,gd⟩ ρ K (.agg l):=P_build tok ht hk h
theorem Pj {s f' off z ft:Nat}{nm:Bool}{x:Operand}{cs:List AV}{td:TD}{gs:List (Nat×Nat×Bool×Nat)}{a:Int}{b:AV}{c:Int}{d1:Int}{e:Int}{f:Int}{g:Int}{h:List UInt8}(i:ρ x = .ptr cs:=by exact rfl)(ht:Bu TL s=some td:=by exact rfl)(hk:td.kind = .struct gs:=by exact rfl)(hf:gs[f']? = some (off,z,nm,ft):=by exact rfl)(hz:Nat.blt 0 z=true:=by exact rfl)(hc:cs.drop off = [.int .i64 a,b,.int .i64 c,.int .i64 d1,.int .i64 e,.int .i64 f,.int .i64 g,.str h]:=by exact rfl):Dc Tryz.prog ⟨d,.fieldAddr s x f',ty,pos,aft,gd⟩ ρ K (.ptr [.int .i64 a,b,.int .i64 c,.int .i64 d1,.int .i64 e,.int .i64 f,.int .i64 g,.str h]):=Dw tok i ht hk hf hz hc
theorem Kt {t:TypeId}{td:TD}{x:Operand}{cs:List AV}{a:Int}{b:AV}{c:Int}{d1:Int}{e:Int}{f:Int}{g:Int}{h:List UInt8}(i:ρ x = .ptr cs:=by exact rfl)(ht:Bu TL t=some td:=by exact rfl)(ha:td.agg=true:=by exact rfl)(hl:cs.take td.size = [.int .i64 a,b,.int .i64 c,.int .i64 d1,.int .i64 e,.int .i64 f,.int .i64 g,.str h]:=by exact rfl)(hs:Nat.beq 8 td.size=true:=by exact rfl):Dc Tryz.prog ⟨d,.load t x,ty,pos,aft,gd⟩ ρ K (.agg [.int .i64 a,b,.int .i64 c,.int .i64 d1,.int .i64 e,.int .i64 f,.int .i64 g,.str h]):=G4 tok i ht ha hl hs
theorem iM {t:TypeId}{x:Operand}{l:List AV}{a:Int}{b:AV}{c:Int}{d1:Int}{e:Int}{f:Int}{g:Int}{h:List UInt8}(i:ρ x = .agg l:=by exact rfl)(hc:Cv (.agg l) = [.int .i64 a,b,.int .i64 c,.int .i64 d1,.int .i64 e,.int .i64 f,.int .i64 g,.str h]:=by exact rfl)(hs:A7 [.int .i64 a,b,.int .i64 c,.int .i64 d1,.int .i64 e,.int .i64 f,.int .i64 g,.str h]=true:=by exact rfl):Dc Tryz.prog ⟨d,.box t x,ty,pos,aft,gd⟩ ρ K (.ptr [.int .i64 a,b,.int .i64 c,.int .i64 d1,.int .i64 e,.int .i64 f,.int .i64 g,.str h]):=Vk i hc hs
theorem Y7 {s f' off z ft:Nat}{nm:Bool}{x:Operand}{cs:List AV}{td:TD}{gs:List (Nat×Nat×Bool×Nat)}{b:AV}{c:Int}{d1:Int}{e:Int}{f:Int}{g:Int}{h:List UInt8}(i:ρ x = .ptr cs:=by exact rfl)(ht:Bu TL s=some td:=by exact rfl)(hk:td.kind = .struct gs:=by exact rfl)(hf:gs[f']? = some (off,z,nm,ft):=by exact rfl)(hz:Nat.blt 0 z=true:=by exact rfl)(hc:cs.drop off = [b,.int .i64 c,.int .i64 d1,.int .i64 e,.int .i64 f,.int .i64 g,.str h]:=by exact rfl):Dc Tryz.prog ⟨d,.fieldAddr s x f',ty,pos,aft,gd⟩ ρ K (.ptr [b,.int .i64 c,.int .i64 d1,.int .i64 e,.int .i64 f,.int .i64 g,.str h]):=Dw tok i ht hk hf hz hc
theorem bF {s f' off z ft:Nat}{nm:Bool}{x:Operand}{cs:List AV}{td:TD}{gs:List (Nat×Nat×Bool×Nat)}{c:Int}{d1:Int}{e:Int}{f:Int}{g:Int}{h:List UInt8}(i:ρ x = .ptr cs:=by exact rfl)(ht:Bu TL s=some td:=by exact rfl)(hk:td.kind = .struct gs:=by exact rfl)(hf:gs[f']? = some (off,z,nm,ft):=by exact rfl)(hz:Nat.blt 0 z=true:=by exact rfl)(hc:cs.drop off = [.int .i64 c,.int .i64 d1,.int .i64 e,.int .i64 f,.int .i64 g,.str h]:=by exact rfl):Dc Tryz.prog ⟨d,.fieldAddr s x f',ty,pos,aft,gd⟩ ρ K (.ptr [.int .i64 c,.int .i64 d1,.int .i64 e,.int .i64 f,.int .i64 g,.str h]):=Dw tok i ht hk hf hz hc
theorem kS {s f' off z ft:Nat}{nm:Bool}{x:Operand}{cs:List AV}{td:TD}{gs:List (Nat×Nat×Bool×Nat)}{d1:Int}{e:Int}{f:Int}{g:Int}{h:List UInt8}(i:ρ x = .ptr cs:=by exact rfl)(ht:Bu TL s=some td:=by exact rfl)(hk:td.kind = .struct gs:=by exact rfl)(hf:gs[f']? = some (off,z,nm,ft):=by exact rfl)(hz:Nat.blt 0 z=true:=by exact rfl)(hc:cs.drop off = [.int .i64 d1,.int .i64 e,.int .i64 f,.int .i64 g,.str h]:=by exact rfl):Dc Tryz.prog ⟨d,.fieldAddr s x f',ty,pos,aft,gd⟩ ρ K (.ptr [.int .i64 d1,.int .i64 e,.int .i64 f,.int .i64 g,.str h]):=Dw tok i ht hk hf hz hc
theorem gZ {s f' off z ft:Nat}{nm:Bool}{x:Operand}{cs:List AV}{td:TD}{gs:List (Nat×Nat×Bool×Nat)}{e:Int}{f:Int}{g:Int}{h:List UInt8}(i:ρ x = .ptr cs:=by exact rfl)(ht:Bu TL s=some td:=by exact rfl)(hk:td.kind = .struct gs:=by exact rfl)(hf:gs[f']? = some (off,z,nm,ft):=by exact rfl)(hz:Nat.blt 0 z=true:=by exact rfl)(hc:cs.drop off = [.int .i64 e,.int .i64 f,.int .i64 g,.str h]:=by exact rfl):Dc Tryz.prog ⟨d,.fieldAddr s x f',ty,pos,aft,gd⟩ ρ K (.ptr [.int .i64 e,.int .i64 f,.int .i64 g,.str h]):=Dw tok i ht hk hf hz hc
theorem Vy {s f' off z ft:Nat}{nm:Bool}{x:Operand}{cs:List AV}{td:TD}{gs:List (Nat×Nat×Bool×Nat)}{f:Int}{g:Int}{h:List UInt8}(i:ρ x = .ptr cs:=by exact rfl)(ht:Bu TL s=some td:=by exact rfl)(hk:td.kind = .struct gs:=by exact rfl)(hf:gs[f']? = some (off,z,nm,ft):=by exact rfl)(hz:Nat.blt 0 z=true:=by exact rfl)(hc:cs.drop off = [.int .i64 f,.int .i64 g,.str h]:=by exact rfl):Dc Tryz.prog ⟨d,.fieldAddr s x f',ty,pos,aft,gd⟩ ρ K (.ptr [.int .i64 f,.int .i64 g,.str h]):=Dw tok i ht hk hf hz hc
theorem yN {s f' off z ft:Nat}{nm:Bool}{x:Operand}{cs:List AV}{td:TD}{gs:List (Nat×Nat×Bool×Nat)}{g:Int}{h:List UInt8}(i:ρ x = .ptr cs:=by exact rfl)(ht:Bu TL s=some td:=by exact rfl)(hk:td.kind = .struct gs:=by exact rfl)(hf:gs[f']? = some (off,z,nm,ft):=by exact rfl)(hz:Nat.blt 0 z=true:=by exact rfl)(hc:cs.drop off = [.int .i64 g,.str h]:=by exact rfl):Dc Tryz.prog ⟨d,.fieldAddr s x f',ty,pos,aft,gd⟩ ρ K (.ptr [.int .i64 g,.str h]):=Dw tok i ht hk hf hz hc
theorem Qf7 {s f' off z ft:Nat}{nm:Bool}{x:Operand}{cs:List AV}{td:TD}{gs:List (Nat×Nat×Bool×Nat)}{h:List UInt8}(i:ρ x = .ptr cs:=by exact rfl)(ht:Bu TL s=some td:=by exact rfl)(hk:td.kind = .struct gs:=by exact rfl)(hf:gs[f']? = some (off,z,nm,ft):=by exact rfl)(hz:Nat.blt 0 z=true:=by exact rfl)(hc:cs.drop off = [.str h]:=by exact rfl):Dc Tryz.prog ⟨d,.fieldAddr s x f',ty,pos,aft,gd⟩ ρ K (.ptr [.str h]):=Dw tok i ht hk hf hz hc
theorem Aj {x y:Operand}{t yt:TypeId}{k:IntKind}{n m:Int}(hx:ρ x = .int k n:=by exact rfl)(hy:ρ y = .int k m:=by exact rfl):Dc Tryz.prog ⟨d,.binOp .eql t x y yt,ty,pos,aft,gd⟩ ρ K (.bool (n==m)):=P_eql hx hy
theorem Bq {x y:Operand}{t yt:TypeId}{k:IntKind}{n m:Int}(hx:ρ x = .int k n:=by exact rfl)(hy:ρ y = .int k m:=by exact rfl):Dc Tryz.prog ⟨d,.binOp .neq t x y yt,ty,pos,aft,gd⟩ ρ K (.bool (n != m)):=P_neq hx hy
theorem Bt {x y:Operand}{t yt:TypeId}{k:IntKind}{n m:Int}(hx:ρ x = .int k n:=by exact rfl)(hy:ρ y = .int k m:=by exact rfl):Dc Tryz.prog ⟨d,.binOp .lss t x y yt,ty,pos,aft,gd⟩ ρ K (.bool (decide (n<m))):=P_lss hx hy
theorem De {x y:Operand}{t yt:TypeId}{k:IntKind}{n m:Int}(hx:ρ x = .int k n:=by exact rfl)(hy:ρ y = .int k m:=by exact rfl):Dc Tryz.prog ⟨d,.binOp .gtr t x y yt,ty,pos,aft,gd⟩ ρ K (.bool (decide (m<n))):=P_gtr hx hy
theorem Mk {x y:Operand}{t yt:TypeId}{k:IntKind}{n m:Int}(hx:ρ x = .int k n:=by exact rfl)(hy:ρ y = .int k m:=by exact rfl):Dc Tryz.prog ⟨d,.binOp .leq t x y yt,ty,pos,aft,gd⟩ ρ K (.bool (decide (n<=m))):=P_leq hx hy
theorem Fc {x y:Operand}{t yt:TypeId}{k:IntKind}{n m:Int}(hx:ρ x = .int k n:=by exact rfl)(hy:ρ y = .int k m:=by exact rfl):Dc Tryz.prog ⟨d,.binOp .geq t x y yt,ty,pos,aft,gd⟩ ρ K (.bool (decide (m<=n))):=P_geq hx hy
theorem Dt {x y:Operand}{t yt:TypeId}{n m r:Int}(hx:ρ x = .int .i64 n:=by exact rfl)(hy:ρ y = .int .i64 m:=by exact rfl)(hr:n+m=r:=by exact rfl)(hb : -9223372036854775808<=r/\r<=9223372036854775807:=by constructor <;> omega):Dc Tryz.prog ⟨d,.binOp .add t x y yt,ty,pos,aft,gd⟩ ρ K (.int .i64 r):=vD hx hy hr hb
theorem E7 {x:Operand}{t:TypeId}{b:Bool}(hx:ρ x = .bool b:=by exact rfl):Dc Tryz.prog ⟨d,.unOp .not t x,ty,pos,aft,gd⟩ ρ K (.bool (!b)):=P_not hx
theorem Ej {c a y:Operand}{b x:Bool}(hc:ρ c = .bool b:=by exact rfl)(ha:ρ a = .opt [(b,true)] (.bool x):=by exact rfl)(hy:ρ y = .bool false:=by exact rfl):Dc Tryz.prog ⟨d,.pick c a y,ty,pos,aft,gd⟩ ρ K (.bool (b&&x)):=sD hc ha hy
theorem Cr {c a y:Operand}{b x:Bool}(hc:ρ c = .bool b:=by exact rfl)(ha:ρ a = .bool true:=by exact rfl)(hy:ρ y = .opt [(b,false)] (.bool x):=by exact rfl):Dc Tryz.prog ⟨d,.pick c a y,ty,pos,aft,gd⟩ ρ K (.bool (b||x)):=yL hc ha hy
theorem Qc {f:FuncId}{args:Array Operand}{ats:Array TypeId}{l:List AV}{r:AV}(ha:args.toList.map ρ=l)(hc:Ak Tryz.prog f l r)(hf:U3 Tryz.prog f=true:=by kernel_rfl)(hcal:ρ (.func f) = .fn (.func f) [] []:=by exact rfl):Dc Tryz.prog ⟨d,.call ⟨.value (.func f),args,ats⟩,ty,pos,aft,gd⟩ ρ K r:=P_callf hf hcal ha hc
end
section
variable {ops:Array Oper} {K:St->Prop} {s:St} {d:Option Nat} {op:Op} {t:TypeId} {pos:String} {after:Array Edge} {r:List Oper} {x y:AV} {o:Oper} {G:List (Bool×Bool)} {b:Bool} {c1 c2:Code} {Q Q':Exit->St->Prop} {N:St->Prop} {id:Nat}
theorem Qp (h:Dc Tryz.prog ⟨d,op,t,pos,after,none⟩ (E8 s.sl) (fun _=>True) x)(k:AOL Tryz.prog ops K r ⟨Ec d x s.sl,s.H,s.n⟩)(hd:Nh d s.n=true:=by exact rfl):AOL Tryz.prog ops K (⟨d,op,t,pos,after,none⟩::r) s:=AOL.p h hd k
theorem Bw (k:Nat)(cs':List AV)(H2:List HO){b o:Nat}{td:TD}{TT t':TypeId}{cs:List AV}{v:AV}{x1 y1:Operand}(kk:AOL Tryz.prog ops K r ⟨Ec d .junk s.sl,H2,s.n⟩)(h:E8 s.sl x1 = .val (.pointer (some ⟨b,o,none⟩)):=by exact rfl)(hv:E8 s.sl y1=v:=by exact rfl)(ht:Bu TL t'=some td:=by exact rfl)(hk:s.H[k]? = some (.box b TT cs):=by exact rfl)(hs:A7 (Cv v)=true:=by exact rfl)(hl:Nat.beq (Cv v).length td.size=true:=by exact rfl)(hb:Nat.ble (o+td.size) cs.length=true:=by exact rfl)(hc:I3 cs o (Cv v)=cs':=by exact rfl)(hH2:s.H.set k (.box b TT cs')=H2:=by exact rfl)(hd:Nh d s.n=true:=by exact rfl):AOL Tryz.prog ops K (⟨d,.store t' x1 y1,t,pos,after,none⟩::r) s:=AOL.e (Nj (k:=k) tok h hv ht hk hs hl hb hc hH2) hd fun x' H' e=>by obtain ⟨e1,e2⟩:=e;subst e1;subst e2;exact kk
abbrev Iq (n:Int):AV:=.int .i64 n
theorem iN {α:Type}{b:Bool}[Decidable (b=true)]{x y:α}(h:b=false):(if b=true then x else y)=y:=if_neg (nD.mp h)
theorem Qe {R:AV->List HO->Prop}(h:Mj Tryz.prog ⟨d,op,t,pos,after,none⟩ (E8 s.sl) s.H R)(k:∀x H',R x H'->AOL Tryz.prog ops K r ⟨Ec d x s.sl,H',s.n⟩)(hd:Nh d s.n=true:=by exact rfl):AOL Tryz.prog ops K (⟨d,op,t,pos,after,none⟩::r) s:=AOL.e h hd k
theorem Qw {sl:List (Nat×AV)}{L:List (Nat×AV)}(hw:Gg ops o sl=some G:=by exact rfl)(hL:dN G sl L:=by first | exact trivial | exact ⟨vC.self _ _,trivial⟩ | exact ⟨vC.self _ _,vC.suf _ _ _,trivial⟩):Gg ops o sl=some G/\dN G sl L:=⟨hw,hL⟩
theorem Qg (L:List (Nat×AV))(w:Gg ops o s.sl=some G/\dN G s.sl L)(h:Dc Tryz.prog o (E8 (L++s.sl)) (fun _=>True) y)(k:AOL Tryz.prog ops K r ⟨Ec o.dst (.opt G y) s.sl,s.H,s.n⟩)(hd:Nh o.dst s.n=true:=by exact rfl):AOL Tryz.prog ops K (o::r) s:=AOL.g G L w.1 (dN.all w.2) (fun _=>h) hd k
theorem Aa (h:AOL Tryz.prog ops (Fu (AW Tryz.prog c2 Q) Q .normal) ops.toList s):AW Tryz.prog (.seq (.region id ops false) c2) Q s:=AW.seq (AW.region h)
theorem Aq (h:N s):AOL Tryz.prog ops (Fu N Q .normal) [] s:=AOL.nil (A2 h)
theorem B2 {ops':Array Oper}(h:AOL Tryz.prog ops' (Fu (AW Tryz.prog c2 Q) Q .normal) ops'.toList s):AOL Tryz.prog ops (Fu (AW Tryz.prog (.seq (.region id ops' false) c2) Q) Q' .normal) [] s:=AOL.nil (A2 (AW.seq (AW.region h)))
theorem E9 {c:Operand}{x y:Code}(ht:b=true->AW Tryz.prog x Q s)(hf:b=false->AW Tryz.prog y Q s)(hb:E8 s.sl c = .bool b:=by exact rfl):AW Tryz.prog (.cond c x y) Q s:=AW.cond hb ht hf
theorem A5 (h:N s):AW Tryz.prog .skip (Fu N Q) s:=AW.skip (A2 h)
theorem Qrt (h:Q .ret s):AW Tryz.prog .ret (Fu N Q) s:=AW.ret (Au h)
theorem Qr {H:List HO}{l:List ResultVar}{r:AV}(x:AV)(h:Ad [x]=r)(hr:ResL Tryz.prog TL s l [x]:=by exact .cons (.tmp _ _ rfl) .nil)(hs:H.Sublist s.H:=by exact .refl _):(Exit.ret = .normal\/Exit.ret = .ret)/\∃xs,ResL Tryz.prog TL s l xs/\H.Sublist s.H/\Ad xs=r:=⟨.inr rfl,[x],hr,hs,h⟩
theorem Ku {H:List HO}{l:List ResultVar}{r:AV}(x y:AV)(h:Ad [x,y]=r)(hr:ResL Tryz.prog TL s l [x,y]:=by exact .cons (.tmp _ _ rfl) (.cons (.tmp _ _ rfl) .nil))(hs:H.Sublist s.H:=by exact .refl _):(Exit.ret = .normal\/Exit.ret = .ret)/\∃xs,ResL Tryz.prog TL s l xs/\H.Sublist s.H/\Ad xs=r:=⟨.inr rfl,[x,y],hr,hs,h⟩
end
section
variable {ops:Array Oper} {K:List HO->Prop} {Q:St->Prop} {s:St} {o:Oper} {x y:AV} {G:List (Bool×Bool)} {listed:Array Bool}
theorem Qn (i:Nat)(ho:ops[i]? = some o)(h:Dc Tryz.prog o (E8 s.sl) K x)(k:Gi Tryz.prog ops K Q (listed.setIfInBounds i true) ⟨Ec o.dst x s.sl,s.H,s.n⟩)(hr:(Region.ready .any ops listed).contains i=true:=by kernel_rfl)(hf:Region.free .any ops listed i=true:=by kernel_rfl)(hd:Nh o.dst s.n=true:=by exact rfl)(hg:o.guard=none:=by exact rfl):Gi Tryz.prog ops K Q listed s:=Gi.pure listed s i o x ho hr hf hd (.run hg h) k
theorem Qo (i:Nat)(ho:ops[i]? = some o)(L:List (Nat×AV))(w:Gg ops o s.sl=some G/\dN G s.sl L)(h:Dc Tryz.prog o (E8 (L++s.sl)) K y)(k:Gi Tryz.prog ops K Q (listed.setIfInBounds i true) ⟨Ec o.dst (.opt G y) s.sl,s.H,s.n⟩)(hr:(Region.ready .any ops listed).contains i=true:=by kernel_rfl)(hf:Region.free .any ops listed i=true:=by kernel_rfl)(hd:Nh o.dst s.n=true:=by exact rfl):Gi Tryz.prog ops K Q listed s:=Gi.pure listed s i o _ ho hr hf hd (.opt G y L w.1 (dN.all w.2) (fun _=>h) rfl) k
end
abbrev Ag {x0:Int}{x1 x2:List UInt8}{x3:Int}{x4:AV}{x5:Int}:List AV:=[Iq x0,.str x1,.str x2,Iq x3,x4,Iq x5]
abbrev Cy {x0:Int}{x1:AV}{x2 x3 x4 x5 x6:Int}{x7:AV}{x8 x9 x10 x11 x12:Int}{x13:List UInt8}:List AV:=[Iq x0,x1,Iq x2,Iq x3,Iq x4,Iq x5,Iq x6,x7,Iq x8,Iq x9,Iq x10,Iq x11,Iq x12,.str x13]
abbrev E4 {x0:List UInt8}{x1:Int}:List AV:=[.str x0,Iq x1]
abbrev F1 :List AV:=[.int .i64 0,.str [],.str [],.int .i64 0,.sl 6 [],.int .i64 0]
abbrev Hh {x0:Int}{x1:AV}{x2 x3 x4 x5 x6:Int}{x7:List UInt8}:List AV:=[Iq x0,x1,Iq x2,Iq x3,Iq x4,Iq x5,Iq x6,.str x7]
abbrev Hw {x0:List UInt8}{x1 x2:AV}{x3:Int}{x4:AV}{x5 x6 x7 x8 x9:Int}{x10:AV}{x11 x12 x13 x14 x15:Int}{x16:List UInt8}{x17:AV}:List AV:=[.str x0,x1,x2,Iq x3,x4,Iq x5,Iq x6,Iq x7,Iq x8,Iq x9,x10,Iq x11,Iq x12,Iq x13,Iq x14,Iq x15,.str x16,x17]
abbrev Iv {x0:AV}{x1:Int}:List AV:=[x0,Iq x1]
abbrev Jl {x0:List UInt8}{x1:AV}:List AV:=[.str x0,x1]
abbrev Jt {x0 x1:Int}:List AV:=[Iq x0,Iq x1]
abbrev gdx {x0 x1:AV}:List AV:=[x0,x1]
abbrev Mf {x0 x1:Int}{x2:List UInt8}:List AV:=[Iq x0,Iq x1,.str x2]
abbrev Mq {x0:Int}{x1:List UInt8}{x2 x3 x4 x5:Int}:List AV:=[Iq x0,.str x1,Iq x2,Iq x3,Iq x4,Iq x5]
abbrev M7 {x0:Int}{x1:AV}{x2:Int}:List AV:=[Iq x0,x1,Iq x2]
abbrev Oy {x0 x1:List UInt8}{x2:Int}{x3:AV}{x4:Int}:List AV:=[.str x0,.str x1,Iq x2,x3,Iq x4]
abbrev Xe {x0:List UInt8}{x1:Int}{x2:AV}{x3:Int}:List AV:=[.str x0,Iq x1,x2,Iq x3]
abbrev bS {x0:AV}{x1 x2 x3 x4 x5:Int}{x6:AV}{x7 x8 x9 x10 x11:Int}{x12:List UInt8}:List AV:=[x0,Iq x1,Iq x2,Iq x3,Iq x4,Iq x5,x6,Iq x7,Iq x8,Iq x9,Iq x10,Iq x11,.str x12]
abbrev oN {x0:Int}{x1:List UInt8}{x2:Int}:List AV:=[Iq x0,.str x1,Iq x2]
abbrev oO :List AV:=[.int .i64 0,.int .i64 0]
abbrev oP {x0:List UInt8}{x1:Int}{x2:AV}:List AV:=[.str x0,Iq x1,x2]
abbrev rY {x0 x1:AV}{x2:Int}{x3:AV}{x4 x5 x6 x7 x8:Int}{x9:AV}{x10 x11 x12 x13 x14:Int}{x15:List UInt8}{x16:AV}:List AV:=[x0,x1,Iq x2,x3,Iq x4,Iq x5,Iq x6,Iq x7,Iq x8,x9,Iq x10,Iq x11,Iq x12,Iq x13,Iq x14,.str x15,x16]
abbrev yY :List AV:=[.int .i64 0,.sl 8 [],.int .i64 0,.int .i64 0,.int .i64 0,.int .i64 0,.int .i64 0,.str []]
abbrev ghx {x0 x1 x2 x3:Int}{x4:AV}{x5 x6 x7 x8 x9:Int}{x10:List UInt8}:List AV:=[Iq x0,Iq x1,Iq x2,Iq x3,x4,Iq x5,Iq x6,Iq x7,Iq x8,Iq x9,.str x10]
abbrev ghy {x0:AV}{x1:Int}{x2:AV}{x3 x4 x5 x6 x7:Int}{x8:AV}{x9 x10 x11 x12 x13:Int}{x14:List UInt8}{x15:AV}:List AV:=[x0,Iq x1,x2,Iq x3,Iq x4,Iq x5,Iq x6,Iq x7,x8,Iq x9,Iq x10,Iq x11,Iq x12,Iq x13,.str x14,x15]
abbrev ghz :List AV:=[.int .i64 0,.sl 14 [],.int .i64 0,.int .i64 0,.int .i64 0,.int .i64 0,.int .i64 0,.sl 8 [],.int .i64 0,.int .i64 0,.int .i64 0,.int .i64 0,.int .i64 0,.str []]
abbrev gix :List AV:=[.int .i64 0,.str [],.int .i64 0,.int .i64 0,.int .i64 0,.int .i64 0]
abbrev giy {x0:Int}{x1:AV}{x2 x3 x4 x5 x6:Int}{x7:AV}{x8 x9 x10 x11 x12:Int}{x13:List UInt8}{x14:AV}:List AV:=[Iq x0,x1,Iq x2,Iq x3,Iq x4,Iq x5,Iq x6,x7,Iq x8,Iq x9,Iq x10,Iq x11,Iq x12,.str x13,x14]
abbrev giz {x0 x1 x2 x3 x4:Int}{x5:AV}{x6 x7 x8 x9 x10:Int}{x11:List UInt8}:List AV:=[Iq x0,Iq x1,Iq x2,Iq x3,Iq x4,x5,Iq x6,Iq x7,Iq x8,Iq x9,Iq x10,.str x11]
abbrev gjx {x0 x1 x2:Int}{x3:AV}{x4 x5 x6 x7 x8:Int}{x9:List UInt8}:List AV:=[Iq x0,Iq x1,Iq x2,x3,Iq x4,Iq x5,Iq x6,Iq x7,Iq x8,.str x9]
abbrev gjy :List AV:=[.str [],.int .i64 0]
abbrev gjz {x0:AV}{x1 x2 x3 x4 x5:Int}:List AV:=[x0,Iq x1,Iq x2,Iq x3,Iq x4,Iq x5]
abbrev gkx :List AV:=[.str [],.sl 2 [],.sl 1 [],.int .i64 0,.sl 14 [],.int .i64 0,.int .i64 0,.int .i64 0,.int .i64 0,.int .i64 0,.sl 8 [],.int .i64 0,.int .i64 0,.int .i64 0,.int .i64 0,.int .i64 0,.str [],.sl 8 []]
abbrev gky {x0 x1:Int}{x2:AV}{x3 x4 x5 x6 x7:Int}{x8:List UInt8}:List AV:=[Iq x0,Iq x1,x2,Iq x3,Iq x4,Iq x5,Iq x6,Iq x7,.str x8]
abbrev gkz {x0 x1 x2 x3:Bool}:List AV:=[.bool x0,.bool x1,.bool x2,.bool x3]
abbrev glx {x0 x1:Int}{x2 x3 x4 x5:Bool}:List AV:=[Iq x0,Iq x1,.bool x2,.bool x3,.bool x4,.bool x5]
section
variable {ops ops2:Array Oper} {K:St->Prop} {s:St} {d:Option Nat} {op:Op} {t:TypeId} {pos:String} {after:Array Edge} {r:List Oper} {x y:AV} {o:Oper} {c1 c2 c3:Code} {Q Q1 Q2:Exit->St->Prop} {N N1:St->Prop} {id id2:Nat}
theorem Ra (h:Q .ret s):AOL Tryz.prog ops (Fu (AW Tryz.prog .ret (Kw id (Fu N Q))) Q1 .normal) [] s:=Aq (AW.ret (Cn (Au h)))
theorem Rf (h:N s):AW Tryz.prog .skip (Kw id (Fu N Q)) s:=AW.skip (Gv (A2 h))
theorem Ri (h:N s):Fu N1 (Kw id (Fu N Q)) (.exit id) s:=Bn (Tl (A2 h))
theorem Rj {Q1:Exit->St->Prop}(h:Q1 .ret s):Kw id (Fu N (Fu N1 (Kw id2 Q1))) .ret s:=Cn (Au (Au (Cn h)))
theorem Rk (h:N s):AOL Tryz.prog ops (Kw id (Fu N Q) .normal) [] s:=AOL.nil (Gv (A2 h))
theorem Rc (h:Q .ret s):AOL Tryz.prog ops (Fu (AW Tryz.prog .ret (Fu N Q)) Q1 .normal) [] s:=Aq (Qrt h)
theorem Rb (h:Q .ret s):AOL Tryz.prog ops (Fu (AW Tryz.prog .ret Q) Q1 .normal) [] s:=Aq (AW.ret h)
theorem Ba (h:AOL Tryz.prog ops (Fu (AW Tryz.prog c2 (Fu (AW Tryz.prog c3 Q) Q)) (Fu (AW Tryz.prog c3 Q) Q) .normal) ops.toList s):AW Tryz.prog (.seq (.seq (.region id ops false) c2) c3) Q s:=AW.seq (Aa h)
theorem Re (h:AW Tryz.prog c1 (Fu (AW Tryz.prog c2 Q) Q) s):AOL Tryz.prog ops (Fu (AW Tryz.prog (.seq c1 c2) Q) Q1 .normal) [] s:=Aq (AW.seq h)
theorem sH {f:FuncId}{args:Array Operand}{ats:Array TypeId}{l:List AV}{v:AV}{H2:List HO}(hc:Cj Tryz.prog f s.H l fun r' H'=>r'=v/\H'=H2)(k:AOL Tryz.prog ops K r ⟨Ec d v s.sl,H2,s.n⟩)(hf:U3 Tryz.prog f=true:=by kernel_rfl)(hcal:E8 s.sl (.func f) = .fn (.func f) [] []:=by exact rfl)(ha:args.toList.map (E8 s.sl)=l:=by exact rfl)(hd:Nh d s.n=true:=by exact rfl):AOL Tryz.prog ops K (⟨d,.call ⟨.value (.func f),args,ats⟩,t,pos,after,none⟩::r) s:=Qe (kP hf hcal ha hc) (fun _ _ ⟨h1,h2⟩=>by subst h1;subst h2;exact k) hd
theorem Rt {v:AV}{H2:List HO}(h:Mj Tryz.prog ⟨d,op,t,pos,after,none⟩ (E8 s.sl) s.H fun r' H'=>r'=v/\H'=H2)(k:AOL Tryz.prog ops K r ⟨Ec d v s.sl,H2,s.n⟩)(hd:Nh d s.n=true:=by exact rfl):AOL Tryz.prog ops K (⟨d,op,t,pos,after,none⟩::r) s:=Qe h (fun _ _ ⟨h1,h2⟩=>by subst h1;subst h2;exact k) hd
theorem Dx {T:TypeId}(l:List AV)(k:∀b,AOL Tryz.prog ops K r ⟨Ec d (.val (.pointer (some ⟨b,0,none⟩))) s.sl,.box b T l::s.H,s.n⟩)(hz:zOK Tryz.prog T l=true:=by kernel_rfl)(hd:Nh d s.n=true:=by exact rfl):AOL Tryz.prog ops K (⟨d,.alloc T,t,pos,after,none⟩::r) s:=Qe (Gp hz) (fun _ _ ⟨b,h1,h2⟩=>by subst h1;subst h2;exact k b) hd
end
section
variable {ops:Array Oper} {s:St} {d:Option Nat} {t:TypeId} {pos:String} {aft:Array Edge} {gd:Option (Nat×Bool)} {ρ:Operand->AV}
theorem Dr {f:FuncId}{args:Array Operand}{ats:Array TypeId}{l:List AV}{G:List HO}{R:AV->List HO->Prop}(ha:args.toList.map ρ=l)(hc:Cj Tryz.prog f G l R)(hf:U3 Tryz.prog f=true:=by kernel_rfl)(hcal:ρ (.func f) = .fn (.func f) [] []:=by exact rfl):Mj Tryz.prog ⟨d,.call ⟨.value (.func f),args,ats⟩,t,pos,aft,gd⟩ ρ G R:=kP hf hcal ha hc
theorem Id {id:Nat}{Q:Exit->St->Prop}(h:Gi Tryz.prog ops (fun _=>True) (Q .normal) (Array.replicate ops.size false) s)(hdd:E0 ops=true:=by kernel_rfl):AW Tryz.prog (.region id ops true) Q s:=AW.draw mixed (fun _=>True) trivial hdd h
theorem Fs {K:List HO->Prop}{Q:St->Prop}{listed:Array Bool}(h:Q s)(hr:Region.ready .any ops listed = []:=by kernel_rfl):Gi Tryz.prog ops K Q listed s:=Gi.done listed s hr h
theorem hJ {Q:St->Prop}{listed:Array Bool}{o:Oper}{R:AV->List HO->Prop}(i:Nat)(ho:ops[i]? = some o)(hp:Mj Tryz.prog o (E8 s.sl) s.H R)(h:∀x H',R x H'->Gi Tryz.prog ops (fun _=>True) Q (listed.setIfInBounds i true) ⟨Ec o.dst x s.sl,H',s.n⟩)(hr:Region.ready .any ops listed = [i]:=by kernel_rfl)(hd:Nh o.dst s.n=true:=by exact rfl)(hw:o.guard=none:=by exact rfl):Gi Tryz.prog ops (fun _=>True) Q listed s:=Gi.eff listed s i o R ho hr hd hw hp (fun _ _ _=>trivial) h
theorem Ma {Q:St->Prop}{listed:Array Bool}{o:Oper}{v:AV}{G:List HO}(i:Nat)(ho:ops[i]? = some o)(hp:Mj Tryz.prog o (E8 s.sl) s.H fun x H'=>x=v/\H'=G)(h:Gi Tryz.prog ops (fun _=>True) Q (listed.setIfInBounds i true) ⟨Ec o.dst v s.sl,G,s.n⟩)(hr:Region.ready .any ops listed = [i]:=by kernel_rfl)(hd:Nh o.dst s.n=true:=by exact rfl)(hw:o.guard=none:=by exact rfl):Gi Tryz.prog ops (fun _=>True) Q listed s:=hJ i ho hp (fun _ _ ⟨h1,h2⟩=>by subst h1;subst h2;exact h) hr hd hw
theorem Bx {sl sl':List (Nat×AV)}{G G':List HO}{n:Nat}(h:Wk sl sl':=by (repeat refine ⟨rfl,?_⟩);exact trivial)(hs:G'.Sublist G:=by exact .refl _):GS ⟨sl,G,n⟩ ⟨sl',G',n⟩:=GS.weaken h hs
end
section
variable {ops:Array Oper} {K:St->Prop} {s:St} {d:Option Nat} {op:Op} {t:TypeId} {pos:String} {after:Array Edge} {r:List Oper} {x y:AV} {o:Oper} {G:List (Bool×Bool)} {c1 c2 c3:Code} {Q Q1:Exit->St->Prop} {N:St->Prop} {id:Nat} {b ob:Nat} {td te:TD} {TT t1 e z m:Nat} {xo yo:Operand} {cs:List AV} {c:Operand} {bb:Bool}
theorem Yw {sl:List (Nat×AV)}{L:List (Nat×AV)}(hw:Gg ops o sl=some G:=by exact rfl)(hL:dN G sl L:=by exact ⟨vC.self _ _,vC.self _ _,trivial⟩):Gg ops o sl=some G/\dN G sl L:=⟨hw,hL⟩
theorem Es {G:List (Bool×Bool)}{v:AV}:vC G (.opt G v) v:=vC.self _ _
theorem Yv {sl:List (Nat×AV)}{i j:Nat}{v w:AV}(hw:Gg ops o sl=some G)(h:vC G (get sl i) v)(k:vC G (get sl j) w):Gg ops o sl=some G/\dN G sl [(i,v),(j,w)]:=⟨hw,h,k,trivial⟩
theorem Yh (L:List (Nat×AV))(w:Gg ops o s.sl=some G/\dN G s.sl L)(h:M2 G->Dc Tryz.prog o (E8 (L++s.sl)) (fun _=>True) y)(k:AOL Tryz.prog ops K r ⟨Ec o.dst (.opt G y) s.sl,s.H,s.n⟩)(hd:Nh o.dst s.n=true:=by exact rfl):AOL Tryz.prog ops K (o::r) s:=AOL.g G L w.1 (dN.all w.2) h hd k
theorem Ye {α:Type}{a b:α}{c:AV}(f:α->AV)(h:a=b)(hc:c=f b:=by exact rfl):c=f a:=hc.trans (congrArg f h).symm
theorem N3 {h:HO}(i:Nat)(hi:s.H[i]? = some h)(k:Gi Tryz.prog ops (fun H'=>h∈H') (Q .normal) (Array.replicate ops.size false) s)(hdd:E0 ops=true:=by kernel_rfl):AW Tryz.prog (.region id ops true) Q s:=AW.draw mixed (fun H'=>h∈H') (An hi) hdd k
theorem Yx {H:List HO}{l:List ResultVar}{q:AV}(xs:List AV)(hr:ResL Tryz.prog TL s l xs)(hs:H.Sublist s.H)(h:Ad xs=q):(Exit.ret = .normal\/Exit.ret = .ret)/\∃xs,ResL Tryz.prog TL s l xs/\H.Sublist s.H/\Ad xs=q:=⟨.inr rfl,xs,hr,hs,h⟩
theorem Yt {i:Nat}(h:get s.sl i=x:=by exact rfl):Res Tryz.prog TL s (.tmp i) x:=.tmp _ _ h
theorem Yb {a:Nat}{l:List AV}(k:Nat)(h:(get s.sl a,s.H[k]?,Bu TL t,td.agg,cs.take td.size,Nat.beq l.length td.size)=(.val (.pointer (some ⟨b,0,none⟩)),some (.box b TT cs),some td,true,l,true):=by exact rfl):Res Tryz.prog TL s (.cell a t) (.agg l):=by simp only [Prod.mk.injEq] at h;obtain ⟨q0,q1,q2,q3,q4,q5⟩:=h;exact .box _ _ _ k _ _ _ _ q0 q1 q2 q3 q4 q5
theorem Zb {a:Nat}{l:List AV}(k:Nat)(h:(get s.sl a,s.H[k]?,Bu TL t,td.agg,cs.take td.size,Nat.beq l.length td.size)=(.val (.pointer (some ⟨b,0,none⟩)),some (.box b TT cs),some td,true,l,true):=by exact rfl):ResL Tryz.prog TL s [.cell a t] [.agg l]:=.cons (Yb k h) .nil
theorem Zc {a:Nat}{l:List AV}(k:Nat)(h:(get s.sl a,s.H[k]?,Bu TL t,td.agg,cs.take td.size,Nat.beq l.length td.size)=(.val (.pointer (some ⟨b,0,none⟩)),some (.box b TT cs),some td,true,l,true):=by exact rfl){i:Nat}(hx:get s.sl i=x:=by exact rfl):ResL Tryz.prog TL s [.cell a t,.tmp i] [.agg l,x]:=.cons (Yb k h) (.cons (Yt hx) .nil)
theorem Zd {a:Nat}{l:List AV}(k:Nat)(h:(get s.sl a,s.H[k]?,Bu TL t,td.agg,cs.take td.size,Nat.beq l.length td.size)=(.val (.pointer (some ⟨b,0,none⟩)),some (.box b TT cs),some td,true,l,true):=by exact rfl){i j:Nat}(hx:get s.sl i=x:=by exact rfl)(hy:get s.sl j=y:=by exact rfl):ResL Tryz.prog TL s [.cell a t,.tmp i,.tmp j] [.agg l,x,y]:=.cons (Yb k h) (.cons (Yt hx) (.cons (Yt hy) .nil))
theorem Ze {i:Nat}(h:get s.sl i=x:=by exact rfl):ResL Tryz.prog TL s [.tmp i] [x]:=.cons (Yt h) .nil
theorem Zf {i j:Nat}(h:get s.sl i=x:=by exact rfl)(hy:get s.sl j=y:=by exact rfl):ResL Tryz.prog TL s [.tmp i,.tmp j] [x,y]:=.cons (Yt h) (Ze hy)
theorem Zg {z:AV}{i j k:Nat}(h:get s.sl i=x:=by exact rfl)(hy:get s.sl j=y:=by exact rfl)(hz:get s.sl k=z:=by exact rfl):ResL Tryz.prog TL s [.tmp i,.tmp j,.tmp k] [x,y,z]:=.cons (Yt h) (Zf hy hz)
theorem S0 {l:List HO}:l.Sublist (l):=.refl _
theorem S1 {l:List HO}{a:HO}:l.Sublist (a::l):=.cons _ (.refl _)
theorem S2 {l:List HO}{a b:HO}:l.Sublist (a::b::l):=.cons _ (.cons _ (.refl _))
theorem S3 {l:List HO}{a b c:HO}:l.Sublist (a::b::c::l):=.cons _ (.cons _ (.cons _ (.refl _)))
theorem S4 {l:List HO}{a b c d:HO}:l.Sublist (a::b::c::d::l):=.cons _ (.cons _ (.cons _ (.cons _ (.refl _))))
theorem S5 {l:List HO}{a b c d e:HO}:l.Sublist (a::b::c::d::e::l):=.cons _ (.cons _ (.cons _ (.cons _ (.cons _ (.refl _)))))
theorem S6 {l:List HO}{a b c d e f:HO}:l.Sublist (a::b::c::d::e::f::l):=.cons _ (.cons _ (.cons _ (.cons _ (.cons _ (.cons _ (.refl _))))))
theorem S7 {l:List HO}{a b c d e f g:HO}:l.Sublist (a::b::c::d::e::f::g::l):=.cons _ (.cons _ (.cons _ (.cons _ (.cons _ (.cons _ (.cons _ (.refl _)))))))
theorem Cw {f:FuncId}{fn:Func}{cc:Code}{args:List AV}{q:AV}(n:Nat)(hf:Tryz.prog.funcs[f]? = some fn)(hb:(fn.body,fn.ntmps,Nat.ble args.length n)=(some cc,n,true))(h:∀H,AW Tryz.prog cc (fun e s=>(e = .normal\/e = .ret)/\∃xs,ResL Tryz.prog TL s fn.results.toList xs/\H.Sublist s.H/\Ad xs=q) ⟨Hy 0 args,H,n⟩):Ak Tryz.prog f args q:=Ak.body tok hf (congrArg (·.1) hb) (congrArg (·.2.1) hb) (congrArg (·.2.2) hb) h
theorem Is {f:FuncId}{fn:Func}{cc:Code}{args:List AV}{H:List HO}{q:AV->List HO->Prop}(n:Nat)(hf:Tryz.prog.funcs[f]? = some fn)(hb:(fn.body,fn.ntmps,Nat.ble args.length n)=(some cc,n,true))(h:AW Tryz.prog cc (fun e s=>(e = .normal\/e = .ret)/\∃xs,ResL Tryz.prog TL s fn.results.toList xs/\∃H',H'.Sublist s.H/\q (Ad xs) H') ⟨Hy 0 args,H,n⟩):Cj Tryz.prog f H args q:=Cj.body tok hf (congrArg (·.1) hb) (congrArg (·.2.1) hb) (congrArg (·.2.2) hb) h
theorem Ap {u v:Code}(ht:bb=true->AW Tryz.prog u Q s)(hf:bb=false->AW Tryz.prog v Q s)(hb:E8 s.sl c = .bool bb:=by exact rfl):AOL Tryz.prog ops (Fu (AW Tryz.prog (.cond c u v) Q) Q1 .normal) [] s:=Aq (E9 ht hf hb)
theorem Nu (k:Nat)(l:List AV)(h:(s.H[k]?,E8 s.sl xo,Bu TL t1,td.agg,(cs.drop ob).take td.size,Nat.beq l.length td.size,Nh d s.n)=(some (.box b TT cs),.val (.pointer (some ⟨b,ob,none⟩)),some td,true,l,true,true))(kk:AOL Tryz.prog ops K r ⟨Ec d (.agg l) s.sl,s.H,s.n⟩):AOL Tryz.prog ops K (⟨d,.load t1 xo,t,pos,after,none⟩::r) s:=by simp only [Prod.mk.injEq] at h;obtain ⟨q0,q1,q2,q3,q4,q5,q6⟩:=h;exact AOL.Aas (G3 (k:=k) tok q1 q2 q3 q4 q5) q0 q6 kk
theorem Sw (k:Nat)(x:AV)(h:(s.H[k]?,E8 s.sl xo,Bu TL t1,td.agg,cs[ob]?,Nh d s.n)=(some (.box b TT cs),.val (.pointer (some ⟨b,ob,none⟩)),some td,false,some x,true))(kk:AOL Tryz.prog ops K r ⟨Ec d x s.sl,s.H,s.n⟩):AOL Tryz.prog ops K (⟨d,.load t1 xo,t,pos,after,none⟩::r) s:=by simp only [Prod.mk.injEq] at h;obtain ⟨q0,q1,q2,q3,q4,q5⟩:=h;exact AOL.Aas (Cl (k:=k) tok q1 q2 q3 q4) q0 q5 kk
theorem Ji {sl:List (Nat×AV)}{H:List HO}{n:Nat}{l:List Oper}(t k:Nat)(h:(get sl t,H[k]?)=(.val (.pointer (some ⟨b,0,none⟩)),some (.box b TT cs)))(kk:AOL Tryz.prog ops K l ⟨(t,.ptr cs)::sl,H.eraseIdx k,n⟩):AOL Tryz.prog ops K l ⟨sl,H,n⟩:=AOL.ghost (GS.freeze k (congrArg (·.1) h) (congrArg (·.2) h)) kk
end
section
variable {ops:Array Oper} {K:List HO->Prop} {Q:St->Prop} {s:St} {o:Oper} {x y:AV} {G:List (Bool×Bool)} {listed:Array Bool}
theorem Yo (i:Nat)(ho:ops[i]? = some o)(L:List (Nat×AV))(w:Gg ops o s.sl=some G/\dN G s.sl L)(h:M2 G->Dc Tryz.prog o (E8 (L++s.sl)) K y)(k:Gi Tryz.prog ops K Q (listed.setIfInBounds i true) ⟨Ec o.dst (.opt G y) s.sl,s.H,s.n⟩)(hr:(Region.ready .any ops listed).contains i=true:=by kernel_rfl)(hf:Region.free .any ops listed i=true:=by kernel_rfl)(hd:Nh o.dst s.n=true:=by exact rfl):Gi Tryz.prog ops K Q listed s:=Gi.pure listed s i o _ ho hr hf hd (.opt G y L w.1 (dN.all w.2) h rfl) k
theorem Ur {R:AV->List HO->Prop}(i:Nat)(ho:ops[i]? = some o)(hp:Mj Tryz.prog o (E8 s.sl) s.H R)(hK:∀x H',R x H'->K H')(h:∀x H',R x H'->Gi Tryz.prog ops K Q (listed.setIfInBounds i true) ⟨Ec o.dst x s.sl,H',s.n⟩)(hr:Region.ready .any ops listed = [i]:=by kernel_rfl)(hd:Nh o.dst s.n=true:=by exact rfl)(hw:o.guard=none:=by exact rfl):Gi Tryz.prog ops K Q listed s:=Gi.eff listed s i o R ho hr hd hw hp hK h
theorem bH {R:AV->List HO->Prop}(i:Nat)(ho:ops[i]? = some o)(hp:Mj Tryz.prog o (E8 s.sl) s.H R)(h:∀x H',R x H'->Q ⟨Ec o.dst x s.sl,H',s.n⟩)(hl:lastB ops listed o i=true:=by kernel_rfl)(hr:Region.ready .any ops listed = [i]:=by kernel_rfl)(hd:Nh o.dst s.n=true:=by exact rfl)(hw:o.guard=none:=by exact rfl):Gi Tryz.prog ops K Q listed s:=Gi.last listed s i o R ho hr hd hw hp hl h
end
section
variable {d:Option Nat} {ty:TypeId} {pos:String} {aft:Array Edge} {gd:Option (Nat×Bool)} {ρ:Operand->AV} {K:List HO->Prop} {xo yo:Operand} {t e z b ob TT:Nat} {td te:TD} {cs:List AV} {es:List (List AV)}
theorem Kn (c:AV)(h:(ρ xo,Bu TL t,td.agg,cs[ob]?)=(.val (.pointer (some ⟨b,ob,none⟩)),some td,false,some c)):Dc Tryz.prog ⟨d,.load t xo,ty,pos,aft,gd⟩ ρ (fun H=>HO.box b TT cs∈H) c:=by simp only [Prod.mk.injEq] at h;obtain ⟨q0,q1,q2,q3⟩:=h;exact Dc.mem (fun k=>Cl (k:=k) tok q0 q1 q2 q3) (fun _ h=>h)
theorem Da (n:Nat)(h0:ρ xo = .sl z es)(h:(Bu TL t,td.kind)=(some td,.slice e))(hn:es.length=n):Dc Tryz.prog ⟨d,.call ⟨.builtin .len,#[xo],#[t]⟩,ty,pos,aft,gd⟩ ρ K (.int .i64 n):=by simp only [Prod.mk.injEq] at h;obtain ⟨q0,q1⟩:=h;exact nO tok h0 q0 q1 hn
theorem Cp {k:IntKind}{n:Int}(c:List AV)(hs:ρ xo = .sl z es)(h:(ρ yo,Bu TL t,td.kind,Bu TL e,te.size)=(.int k n,some td,.slice e,some te,z))(h0:0<=n)(hc:es[n.toNat]? = some c):Dc Tryz.prog ⟨d,.indexAddr t xo yo,ty,pos,aft,gd⟩ ρ K (.ptr c):=by simp only [Prod.mk.injEq] at h;obtain ⟨q0,q1,q2,q3,q4⟩:=h;exact nN tok hs q0 q1 q2 q3 q4 h0 hc
theorem G0 {n:Nat}{parts:Array (Nat×Operand)}(es:List (List AV))(h:(Bu TL t,td.kind,Bu TL e,te.size,Nat.beq parts.toList.length n,Nat.ble (n*z) 16777216,Vn z ρ 0 parts.toList,Nat.blt 0 z,Qv ρ parts.toList)=(some td,.slice e,some te,z,true,true,true,true,es)):Dc Tryz.prog ⟨d,.buildSlice t n parts,ty,pos,aft,gd⟩ ρ K (.sl z es):=by simp only [Prod.mk.injEq] at h;obtain ⟨q0,q1,q2,q3,q4,q5,q6,q7,q8⟩:=h;exact Xi tok q0 q1 q2 q3 q4 q5 q6 q7 q8
theorem Hx {H:List HO}(k:Nat)(v:AV)(cs':List AV)(H2:List HO)(h:(ρ xo,ρ yo,Bu TL t,H[k]?,A7 (Cv v),Nat.beq (Cv v).length td.size,Nat.ble (ob+td.size) cs.length,I3 cs ob (Cv v),H.set k (.box b TT cs'))=(.val (.pointer (some ⟨b,ob,none⟩)),v,some td,some (.box b TT cs),true,true,true,cs',H2)):Mj Tryz.prog ⟨d,.store t xo yo,ty,pos,aft,gd⟩ ρ H (fun z H'=>z = .junk/\H'=H2):=by simp only [Prod.mk.injEq] at h;obtain ⟨q0,q1,q2,q3,q4,q5,q6,q7,q8⟩:=h;exact Nj tok q0 q1 q2 q3 q4 q5 q6 q7 q8
theorem Pk {H:List HO}{v:Value}{e2:List (List AV)}(k:Nat)(h:(ρ xo,ρ yo,Bu TL t,td.kind,Bu TL e,te.size,Nat.blt 0 z,H[k]?)=(.row v z es,.sl z e2,some td,.slice e,some te,z,true,some (.row v es.length e z)))(hs2:∀c∈e2,A7 c=true)(hs1:∀c∈es,A7 c=true)(hb:(es.length+e2.length)*te.bytes<=140737488355328)(hm:es.length+e2.length<=maxLen):Mj Tryz.prog ⟨d,.call ⟨.builtin .append,#[xo,yo],#[t,t]⟩,ty,pos,aft,gd⟩ ρ H (fun r H'=>∃v',r = .row v' z (es++e2)/\H'=H.set k (.row v' (es++e2).length e z)):=by simp only [Prod.mk.injEq] at h;obtain ⟨q0,q1,q2,q3,q4,q5,q6,q7⟩:=h;exact E_append tok q0 q1 q2 q3 q4 q5 q6 q7 hs2 hs1 hb hm
end

abbrev Av:=List UInt8

def bt (s:Av)(i:Nat):UInt8:=s.getD i 0
theorem Gk {s:Av}{i:Nat}(h:i<s.length):s[i]? = some (bt s i):=by simp [bt,Ii,List.getElem?_eq_getElem h]

def Eb (c:UInt8):Bool:=decide (48<=(c.toNat:Int))&&decide ((c.toNat:Int)<=57)
def Hq (c:UInt8):Bool:=(((c.toNat:Int)==95)||(decide (97<=(c.toNat:Int))&&decide ((c.toNat:Int)<=122)))||(decide (65<=(c.toNat:Int))&&decide ((c.toNat:Int)<=90))
def J0 (c:UInt8):Bool:=Hq c||Eb c
def lX (c:UInt8):Bool:=!Hq c && !Eb c
def wR (c:UInt8):Bool:=(c.toNat:Int) != 10

def Eo (p:UInt8->Bool):Av->Nat
 | []=>0
 | c::r=>if p c then Eo p r+1 else 0

structure Tok where
 kind:Int
 text:Av
 pos:Int
deriving DecidableEq
structure Fo where
 tok:Tok
 bytes:Int
 pos:Int
 err:Int
deriving DecidableEq
def On:Tok:=⟨0,[],0⟩
def foZ:Fo:=⟨On,0,0,0⟩
def Sy (pos err:Int):Fo:=⟨On,0,pos,err⟩
def sY (kind:Int)(text:Av)(bytes:Int):Fo:=⟨⟨kind,text,0⟩,bytes,0,0⟩

def O7 (s:Av):Fo:=if !Hq (bt s 0) then foZ else if decide (24<(Eo J0 s:Int)) then Sy 0 8 else sY 0 (s.take (Eo J0 s)) (Eo J0 s)

def dvS (c:UInt8):Int:=IntKind.u8.wrap ((c.toNat:Int)-48)
def O9:Av->Int->Int×Int
 | [],n=>(n,0)
 | c::r,n=>if decide (1099511627776<10*n+dvS c) then (0,2) else O9 r (10*n+dvS c)
def iD (s:Av):Int×Int:=if (s == [])||decide ((Eo Eb s:Int)<(s.length:Int)) then (0,4) else O9 s 0

def Im (s:Av):Fo:=
 if ((Eo Eb s:Int)==0) then foZ
 else if ((iD (s.take (Eo Eb s))).2 != 0) then Sy 0 (iD (s.take (Eo Eb s))).2
 else if (decide ((Eo Eb s:Int)<(s.length:Int))&&Hq (bt s (Eo Eb s))) then Sy (Eo Eb s) 4
 else sY 1 (s.take (Eo Eb s)) (Eo Eb s)

def Vi:Av:=[48,49,50,51,52,53,54,55,56,57,97,98,99,100,101,102]
abbrev lI (c:UInt8):Int:=Lib.indexByte Vi c
def dZ (n:Int):UInt8:=UInt8.ofNat (IntKind.u8.wrap n).toNat

def M4 (s:Av):UInt8×Int:=
 if decide (2<=(s.length:Int))&&(((bt s 1).toNat:Int)==34||((bt s 1).toNat:Int)==92) then (bt s 1,2)
 else if decide (4<=(s.length:Int))&&(((bt s 1).toNat:Int)==120) then
  if decide (0<=lI (bt s 2))&&decide (0<=lI (bt s 3)) then (dZ (16*lI (bt s 2)+lI (bt s 3)),4) else (0,0)
 else (0,0)

def Kh (s:Av):Nat->Nat->Av->Fo
  | 0,_,_=>Sy s.length 4
  | n+1,i,b=>
    if decide ((i:Int)<(s.length:Int)) then
      if (((bt s i).toNat:Int)==34) then
        if decide (64<(b.length:Int)) then Sy 0 13 else sY 2 b ((i:Int)+1)
      else if (((bt s i).toNat:Int)==92) then
        if ((M4 (s.drop i)).2==0) then Sy i 4 else Kh s n (i+(M4 (s.drop i)).2.toNat) (b ++ [(M4 (s.drop i)).1])
      else if (decide (((bt s i).toNat:Int)<32)||decide (126<((bt s i).toNat:Int))) then Sy i 4
      else Kh s n (i+1) (b ++ [bt s i])
    else Sy s.length 4
def Np (s:Av):Fo:=if (((bt s 0).toNat:Int) != 34) then foZ else Kh s (s.length+1) 1 []

def rD:List Av:=[[60,61],[62,61],[61,61],[33,61],[40],[41],[123],[125],[44],[46],[58],[59],[43],[45],[60],[62],[61]]
def Hs (s:Av):List Av->Fo
 | []=>Sy 0 4
 | x::r=>if Lib.hasPrefix s x then sY 3 x x.length else Hs s r
def cB (s:Av):Fo:=Hs s rD

def Sk (s:Av):Int:=if (((bt s 0).toNat:Int)==35) then Eo wR s else if decide (0<=Lib.indexByte [32,9,13,10] (bt s 0)) then 1 else 0

def Tg (f:Fo):Bool:=decide (0<f.bytes)||(f.err != 0)
def Du (s:Av):Fo:=if Tg (O7 s) then O7 s else if Tg (Im s) then Im s else if Tg (Np s) then Np s else cB s

def K8 (s:Av):Nat->Nat->List Tok->List Tok×Int×Int
  | 0,_,_=>([],0,0)
  | n+1,i,out=>
    if decide ((i:Int)<(s.length:Int)) then
      if decide (0<Sk (s.drop i)) then K8 s n (i+(Sk (s.drop i)).toNat) out
      else if ((Du (s.drop i)).err != 0) then ([],(i:Int)+(Du (s.drop i)).pos,(Du (s.drop i)).err)
      else K8 s n (i+(Du (s.drop i)).bytes.toNat) (out ++ [⟨(Du (s.drop i)).tok.kind,(Du (s.drop i)).tok.text,i⟩])
    else (out,0,0)
def In (s:Av):List Tok×Int×Int:=if decide (65536<(s.length:Int)) then ([],0,13) else K8 s (s.length+1) 0 []

def posS (s:Av)(k:Int):Int×Int×Int:=
 if decide (65536<(s.length:Int)) then (0,0,13)
 else if (decide (k<0)||decide ((s.length:Int)<k)) then (0,0,2)
 else ((Lib.countByte (s.take k.toNat) 10:Int)+1,k-Lib.lastIndex (s.take k.toNat) [10],0)

def fI:Av:=[32,97,108,108,32,97,108,116,32,97,110,100,32,98,111,111,108,32,98,121,32,99,111,117,110,116,32,102,97,108,115,101,32,102,105,114,115,116,32,105,102,32,105,110,116,32,108,97,99,107,115,32,108,97,115,116,32,109,97,116,99,104,32,109,97,120,32,109,105,110,32,110,111,116,32,111,114,32,112,108,117,115,32,113,117,101,114,121,32,114,101,116,117,114,110,32,115,101,113,32,115,116,114,105,110,103,32,115,117,109,32,116,105,109,101,32,116,114,117,101,32,116,121,112,101,32,119,104,101,114,101,32,119,105,116,104,105,110,32]
def tF (s:Av):Bool:=(!(s == []) && !Lib.contains s [32])&&Lib.contains fI ([32]++s ++ [32])

def J4 (p:UInt8->Bool):Av->Int
 | []=>-1
 | c::r=>if p c then 0 else if J4 p r = -1 then -1 else J4 p r+1
def F7 (s:Av):Int:=
 if (((s == [])||decide (24<(s.length:Int)))||Eb (bt s 0))||tF s then 8 else if decide (0<=J4 lX s) then 8 else 0

def Of (c:UInt8):Av:=
 if (((c.toNat:Int)==34)||((c.toNat:Int)==92)) then [92,c]
 else if (decide ((c.toNat:Int)<32)||decide (126<(c.toNat:Int))) then [92,120,bt Vi (c.toNat / 16),bt Vi (c.toNat % 16)]
 else [c]
def E5:Av->Av
 | []=>[]
 | c::r=>Of c++E5 r
def Og (s:Av):Av×Int:=if decide (64<(s.length:Int)) then ([],13) else ([34]++E5 s ++ [34],0)

def iC (s:Av):Bool:=
 (s == [97,108,108])||(s == [97,108,116])||(s == [97,110,100])||(s == [98,111,111,108])||(s == [98,121])||(s == [99,111,117,110,116])||(s == [102,97,108,115,101])||(s == [102,105,114,115,116])||(s == [105,102])||(s == [105,110,116])||(s == [108,97,99,107,115])||(s == [108,97,115,116])||(s == [109,97,116,99,104])||(s == [109,97,120])||(s == [109,105,110])||(s == [110,111,116])||(s == [111,114])||(s == [112,108,117,115])||(s == [113,117,101,114,121])||(s == [114,101,116,117,114,110])||(s == [115,101,113])||(s == [115,116,114,105,110,103])||(s == [115,117,109])||(s == [116,105,109,101])||(s == [116,114,117,101])||(s == [116,121,112,101])||(s == [119,104,101,114,101])||(s == [119,105,116,104,105,110])
def spaceR (c:UInt8):Bool:=((((c.toNat:Int)==32)||((c.toNat:Int)==9))||((c.toNat:Int)==13))||((c.toNat:Int)==10)
def mF (c:UInt8):Bool:=((decide (32<=(c.toNat:Int))&&decide ((c.toNat:Int)<=126))&&((c.toNat:Int) != 34))&&((c.toNat:Int) != 92)
def hexR (c:UInt8):Int:=if Eb c then dvS c else if decide (97<=(c.toNat:Int))&&decide ((c.toNat:Int)<=102) then IntKind.u8.wrap ((c.toNat:Int)-97)+10 else -1
def Il (s:Av):Int:=
 if ((((s == [])||decide (24<(s.length:Int))) || !Hq (bt s 0))||((Eo J0 s:Int) != (s.length:Int)))||iC s then 8 else 0
def numR (s:Av):Int×Int:=if (s == []) then (0,4) else if s.all Eb then O9 s 0 else (0,4)
def Nr (c:UInt8):Av:=
 if mF c then [c] else if (((c.toNat:Int)==34)||((c.toNat:Int)==92)) then [92,c] else [92,120,bt Vi (c.toNat / 16),bt Vi (c.toNat % 16)]
def Eu:Av->Av
 | []=>[]
 | c::r=>Nr c++Eu r
def Wt (s:Av):Av×Int:=if decide (64<(s.length:Int)) then ([],13) else ([34]++Eu s ++ [34],0)

def yX (s:Av)(i:Nat):UInt8×Int:=
 if decide ((s.length:Int)<=(i:Int)+1) then (0,0)
 else if (((bt s (i+1)).toNat:Int)==34||((bt s (i+1)).toNat:Int)==92) then (bt s (i+1),(i:Int)+2)
 else if ((((bt s (i+1)).toNat:Int) != 120||decide ((s.length:Int)<=(i:Int)+3))||decide (hexR (bt s (i+2))<0))||decide (hexR (bt s (i+3))<0) then (0,0)
 else (dZ (16*hexR (bt s (i+2))+hexR (bt s (i+3))),(i:Int)+4)

def Z5 (s:Av)(k:Nat):Nat->Nat->Av->Av×Int×Int
  | 0,_,_=>([],s.length,4)
  | n+1,i,b=>
    if decide ((s.length:Int)<=(i:Int)) then ([],s.length,4)
    else if (((bt s i).toNat:Int)==34) then if decide (64<(b.length:Int)) then ([],k,13) else (b,(i:Int)+1,0)
    else if mF (bt s i) then Z5 s k n (i+1) (b ++ [bt s i])
    else if (((bt s i).toNat:Int) != 92)||((yX s i).2==0) then ([],i,4)
    else Z5 s k n (yX s i).2.toNat (b ++ [(yX s i).1])
def litR (s:Av)(k:Nat):Av×Int×Int:=Z5 s k (s.length+1) (k+1) []

def sign1 (c:UInt8):Bool:=
 ((c.toNat:Int)==40)||((c.toNat:Int)==41)||((c.toNat:Int)==123)||((c.toNat:Int)==125)||((c.toNat:Int)==44)||((c.toNat:Int)==46)||((c.toNat:Int)==58)||((c.toNat:Int)==59)||((c.toNat:Int)==43)||((c.toNat:Int)==45)||((c.toNat:Int)==60)||((c.toNat:Int)==62)||((c.toNat:Int)==61)
abbrev sign2 (c:UInt8):Bool:=((((c.toNat:Int)==60)||((c.toNat:Int)==62))||((c.toNat:Int)==61))||((c.toNat:Int)==33)
def signR (s:Av)(k:Nat):Int:=
 if (sign2 (bt s k)&&decide ((k:Int)+1<(s.length:Int)))&&(((bt s (k+1)).toNat:Int)==61) then 2 else if sign1 (bt s k) then 1 else 0

def gS (s:Av)(k:Nat):Nat:=k+Eo J0 (s.drop k)
def Rp (s:Av)(k:Nat):Nat:=k+Eo Eb (s.drop k)

def Px (s:Av)(k:Nat):Tok×Int×Int:=
 if Hq (bt s k) then
  if decide (24<(gS s k:Int)-(k:Int)) then (On,k,8) else (⟨0,(s.take (gS s k)).drop k,k⟩,gS s k,0)
 else if Eb (bt s k) then
  if ((numR ((s.take (Rp s k)).drop k)).2 != 0) then (On,k,(numR ((s.take (Rp s k)).drop k)).2)
  else if (decide ((Rp s k:Int)<(s.length:Int))&&Hq (bt s (Rp s k))) then (On,Rp s k,4)
  else (⟨1,(s.take (Rp s k)).drop k,k⟩,Rp s k,0)
 else if (((bt s k).toNat:Int)==34) then
  if ((litR s k).2.2 != 0) then (On,(litR s k).2.1,(litR s k).2.2) else (⟨2,(litR s k).1,k⟩,(litR s k).2.1,0)
 else if (signR s k==0) then (On,k,4)
 else (⟨3,(s.take (k+(signR s k).toNat)).drop k,k⟩,(k:Int)+signR s k,0)

def Vf (s:Av):Nat->Nat->Bool->List Tok->List Tok×Int×Int
  | 0,_,_,_=>([],0,0)
  | n+1,i,comment,out=>
    if decide ((i:Int)<(s.length:Int)) then
      if ((comment||spaceR (bt s i))||(((bt s i).toNat:Int)==35)) then Vf s n (i+1) ((comment||(((bt s i).toNat:Int)==35))&&(((bt s i).toNat:Int) != 10)) out
      else if ((Px s i).2.2 != 0) then ([],(Px s i).2.1,(Px s i).2.2)
      else Vf s n (Px s i).2.1.toNat false (out ++ [(Px s i).1])
    else (out,0,0)
def xQ (s:Av):List Tok×Int×Int:=if decide (65536<(s.length:Int)) then ([],0,13) else Vf s (s.length+1) 0 false []

def tX:Av->Int×Int->Int×Int
 | [],p=>p
 | c::r,p=>tX r (if ((c.toNat:Int)==10) then (p.1+1,1) else (p.1,p.2+1))
def posR (s:Av)(k:Int):Int×Int×Int:=
 if decide (65536<(s.length:Int)) then (0,0,13)
 else if (decide (k<0)||decide ((s.length:Int)<k)) then (0,0,2)
 else ((tX (s.take k.toNat) (1,1)).1,(tX (s.take k.toNat) (1,1)).2,0)

@[reducible] def cTok (t : Tok) : List AV := [.int .i64 t.kind, .str t.text, .int .i64 t.pos]
@[reducible] def cFo (f : Fo) : List AV := [.int .i64 f.tok.kind, .str f.tok.text, .int .i64 f.tok.pos, .int .i64 f.bytes, .int .i64 f.pos, .int .i64 f.err]
def pF (t:Tok):List AV:=cTok t


abbrev Mg:Av:=[58]
abbrev Gd:Av:=[105,110,116]
abbrev E6:Av:=[98,111,111,108]
abbrev D4:Av:=[115,116,114,105,110,103]
abbrev Mi:Av:=[116,121,112,101]
abbrev gP:Av:=[123]
abbrev Rg:Av:=[125]
abbrev He:Av:=[113,117,101,114,121]
abbrev cR:Av:=[98,121]
abbrev H4:Av:=[109,97,116,99,104]
abbrev Ib:Av:=[114,101,116,117,114,110]
abbrev mW:Av:=[59]
abbrev Dm:Av:=[44]
abbrev cG:Av:=[105,102]
abbrev Fh:Av:=[40]
abbrev Ht:Av:=[41]
abbrev Vt:Av:=[115,101,113]
abbrev Vs:Av:=[97,108,116]
abbrev Vr:Av:=[97,108,108]
abbrev Oq:Av:=[112,108,117,115]
abbrev Mh:Av:=[108,97,99,107,115]
abbrev I6:Av:=[119,105,116,104,105,110]
abbrev I5:Av:=[119,104,101,114,101]
abbrev yI:Av:=[111,114]
abbrev mX:Av:=[97,110,100]
abbrev rR:Av:=[43]
abbrev cF:Av:=[45]
abbrev Wz:Av:=[110,111,116]
abbrev w_lt:Av:=[60]
abbrev w_le:Av:=[60,61]
abbrev w_gt:Av:=[62]
abbrev w_ge:Av:=[62,61]
abbrev rU:Av:=[61,61]
abbrev yH:Av:=[33,61]
abbrev mZ:Av:=[109,105,110]
abbrev mY:Av:=[109,97,120]
abbrev Y5:Av:=[102,105,114,115,116]
abbrev dJ:Av:=[108,97,115,116]
abbrev kK:Av:=[46]
abbrev nA:Av:=[115,117,109]
abbrev Y4:Av:=[99,111,117,110,116]
abbrev F6:Av:=[116,105,109,101]
abbrev Ns:Av:=[116,114,117,101]
abbrev Lc:Av:=[102,97,108,115,101]

structure Syn where
 kind:Int
 text:Av
 name:Av
 num:Int
 kids:List Syn
 pos:Int
def Hb:Syn:=⟨0,[],[],0,[],0⟩

structure PS where
 toks:List Tok
 pos:Nat
 fin:Int
 depth:Int
 bad:Int
 whr:Int

def mQ (st:PS):Tok:=st.toks.getD st.pos On
def D2 (st:PS):Int:=if decide ((st.pos:Int)<(st.toks.length:Int)) then (mQ st).pos else st.fin
def G8 (e:Int)(st:PS):PS:=if (st.bad==0) then { st with bad:=e,whr:=D2 st } else st
def adv (st:PS):PS:={ st with pos:=st.pos+1 }
def Jx (st:PS):PS:={ st with depth:=IntKind.i64.wrap (st.depth+1) }
def Jf (st:PS):PS:={ st with depth:=IntKind.i64.wrap (st.depth-1) }
@[reducible] def endP (st : PS) : Bool := (st.bad != 0) || decide ((st.toks.length : Int) <= (st.pos : Int))

def Jj (w:Av)(st:PS):Bool:=if endP st then false else ((mQ st).text==w)&&(((mQ st).kind==3)||(((mQ st).kind==0)&&tF w))
def Qj (w:Av)(st:PS):PS:=if Jj w st then adv st else st
def Df (w:Av)(st:PS):PS:=if (st.bad==0) && !(Jj w st) then G8 4 st else Qj w st
def Yk (k:Int)(st:PS):Bool:=if endP st then false else ((mQ st).kind==k)&&((k != 0) || !(tF (mQ st).text))
def Fr (k:Int)(st:PS):PS:=if Yk k st then adv st else G8 4 st
def Jh (k:Int)(st:PS):Av:=if Yk k st then (mQ st).text else []
def fT (st:PS):Int:=if Yk 1 st then (iD (mQ st).text).1 else 0

def O8 (read:Syn->PS->Syn×PS)(z:Syn)(st:PS):Syn×PS:=
 if ((if decide (64<=st.depth) then G8 12 st else st).bad != 0) then (z,if decide (64<=st.depth) then G8 12 st else st)
 else ((read z (adv (Jx st))).1,Jf (read z (adv (Jx st))).2)

def Lq (F:PS->Syn×PS):Nat->PS->List Syn->List Syn×PS
 | 0,st,out=>(out,st)
 | n+1,st,out=>if Jj Dm st then Lq F n (F (adv st)).2 (out ++ [(F (adv st)).1]) else (out,st)
def Bm (st:PS):Nat:=st.toks.length-st.pos+1
def Yc (F:PS->Syn×PS)(st:PS):List Syn×PS:=Lq F (Bm (F st).2) (F st).2 [(F st).1]

def fieldP (st:PS):Syn×PS:=
 if Jj Gd (Df Mg (Fr 0 st)) then (⟨2,Jh 0 st,[],0,[],D2 st⟩,adv (Df Mg (Fr 0 st)))
 else if Jj E6 (Df Mg (Fr 0 st)) then (⟨2,Jh 0 st,[],1,[],D2 st⟩,adv (Df Mg (Fr 0 st)))
 else if Jj D4 (Df Mg (Fr 0 st)) then (⟨2,Jh 0 st,[],2,[],D2 st⟩,adv (Df Mg (Fr 0 st)))
 else (⟨2,Jh 0 st,[],0,[],D2 st⟩,G8 4 (Df Mg (Fr 0 st)))

def kindP (st:PS):Syn×PS:=
 let s1:=Df Mi st
 let s2:=Df gP (Fr 0 s1)
 if (s2.bad==0) && !(Jj Rg s2) then (⟨1,Jh 0 s1,[],0,(Yc fieldP s2).1,D2 st⟩,Df Rg (Yc fieldP s2).2)
 else (⟨1,Jh 0 s1,[],0,[],D2 st⟩,Df Rg s2)

def Nk (op:Int)(a b:Syn)(at':Int):Syn:=⟨17,[],[],op,[a,b],at'⟩

def Hn (st:PS):Syn×PS:=
 if Jj cF st then (⟨13,[],Gd,0-fT (adv st),[],D2 st⟩,Fr 1 (adv st))
 else if Yk 1 st then (⟨13,[],Gd,fT st,[],D2 st⟩,Fr 1 st)
 else if Jj Ns st then (⟨13,[],E6,1,[],D2 st⟩,adv st)
 else if Jj Lc st then (⟨13,[],E6,0,[],D2 st⟩,adv st)
 else (⟨13,Jh 2 st,D4,0,[],D2 st⟩,Fr 2 st)

def tD (st:PS):(Av×Av)×PS:=
 let s1:=Df Fh st
 let s2:=Df kK (Fr 0 s1)
 ((Jh 0 s1,Jh 0 s2),Fr 0 s2)

def totL:List (Av×Int):=[(mZ,2),(mY,3),(Y5,4),(dJ,5)]
def Kk (E:PS->Syn×PS)(st:PS):Syn×PS:=
  if Jj Fh st then O8 (fun _ s=>((E s).1,Df Ht (E s).2)) Hb st
  else match totL.find? (fun s=>Jj s.1 st) with
    | some s=>
      let i:=tD (adv st)
      let s1:=Df Dm i.2
      (⟨16,i.1.1,i.1.2,s.2,[(Hn s1).1],D2 st⟩,Df Ht (Hn s1).2)
    | none=>
      if Jj nA st then
        let i:=tD (adv st)
        (⟨16,i.1.1,i.1.2,1,[],D2 st⟩,Df Ht i.2)
      else if Jj Y4 st then
        let s1:=Df Fh (adv st)
        (⟨15,Jh 0 s1,[],0,[],D2 st⟩,Df Ht (Fr 0 s1))
      else if Yk 0 st then
        let s1:=Df kK (Fr 0 st)
        if Jj F6 s1 then (⟨14,Jh 0 st,F6,0,[],D2 st⟩,adv s1)
        else (⟨14,Jh 0 st,Jh 0 s1,0,[],D2 st⟩,Fr 0 s1)
      else Hn st

def Rm (F:PS->Syn×PS)(sg:List (Av×Int)):Nat->PS->Syn->Syn×PS
  | 0,st,out=>(out,st)
  | n+1,st,out=>match sg.find? (fun s=>Jj s.1 st) with
    | some s=>Rm F sg n (F (adv st)).2 (Nk s.2 out (F (adv st)).1 out.pos)
    | none=>(out,st)
def Tm (F:PS->Syn×PS)(sg:List (Av×Int))(st:PS):Syn×PS:=Rm F sg (Bm (F st).2) (F st).2 (F st).1
def orL:List (Av×Int):=[(yI,11)]
def andL:List (Av×Int):=[(mX,10)]
def sumL:List (Av×Int):=[(rR,5),(cF,6)]
def L3 (E:PS->Syn×PS)(st:PS):Syn×PS:=Tm (Kk E) sumL st

def Qm (E:PS->Syn×PS)(st:PS):Syn×PS:=
 let a:=(L3 E st).1
 let s:=(L3 E st).2
 let b:=(L3 E (adv s)).1
 let s':=(L3 E (adv s)).2
 if Jj w_lt s then (Nk 7 a b a.pos,s')
 else if Jj w_le s then (Nk 8 a b a.pos,s')
 else if Jj w_gt s then (Nk 7 b a a.pos,s')
 else if Jj w_ge s then (Nk 8 b a a.pos,s')
 else if Jj rU s then (Nk 9 a b a.pos,s')
 else if Jj yH s then (⟨18,[],[],0,[Nk 9 a b a.pos],a.pos⟩,s')
 else (a,s)
def cN (E N:PS->Syn×PS)(st:PS):Syn×PS:=
 if !(Jj Wz st) then Qm E st
 else O8 (fun z s=>({ z with kids:=[(N s).1] },(N s).2)) ⟨18,[],[],0,[],D2 st⟩ st
def andP (E N:PS->Syn×PS)(st:PS):Syn×PS:=Tm (cN E N) andL st
def orP (E N:PS->Syn×PS)(st:PS):Syn×PS:=Tm (andP E N) orL st
def Ft (st:PS):Syn×PS:=(Hb,st)
def Wo:Nat->(PS->Syn×PS)×(PS->Syn×PS)
 | 0=>(cN Ft Ft,orP Ft Ft)
 | n+1=>(cN (Wo n).2 (Wo n).1,orP (Wo n).2 (Wo n).1)
def exprN (n:Nat):PS->Syn×PS:=(Wo n).2

def M5 (E:PS->Syn×PS)(st:PS):Syn×PS:=
 let s2:=Fr 0 (Fr 0 st)
 if Jj cG s2 then (⟨5,Jh 0 st,Jh 0 (Fr 0 st),0,[(E (adv s2)).1],D2 st⟩,(E (adv s2)).2)
 else (⟨5,Jh 0 st,Jh 0 (Fr 0 st),0,[],D2 st⟩,s2)

def formL:List (Av×Int):=[(Vt,6),(Vs,7),(Vr,8),(Oq,9),(Mh,10),(I6,11),(I5,12)]
def rA (T:PS->Syn×PS)(z:Syn)(st:PS):Syn×PS:=
 let r:=T (Df Dm st)
 let l:=Lq T (Bm r.2) r.2 (z.kids ++ [r.1])
 ({ z with kids:=l.1 },l.2)
def H1 (E T:PS->Syn×PS)(k:Int)(z:Syn)(st:PS):Syn×PS:=
 if decide (k<=8) then rA T z st
 else if (k==9) then (z,st)
 else if (k==10) then ({ z with kids:=z.kids ++ [(M5 E (Df Dm st)).1] },(M5 E (Df Dm st)).2)
 else if (k==11) then ({ z with num:=fT (Df Dm st) },Fr 1 (Df Dm st))
 else ({ z with kids:=z.kids ++ [(E (Df Dm st)).1] },(E (Df Dm st)).2)
def iE (E T:PS->Syn×PS)(st:PS):Syn×PS:=
 match formL.find? (fun f=>Jj f.1 st) with
 | some f=>O8 (fun z s=>
  let r:=T (Df Fh s)
  let q:=H1 E T f.2 { z with kids:=[r.1] } r.2
  (q.1,Df Ht q.2)) ⟨f.2,[],[],0,[],D2 st⟩ st
 | none=>M5 E st
def zS (E:PS->Syn×PS):Nat->PS->Syn×PS
 | 0=>iE E Ft
 | n+1=>iE E (zS E n)

def tE (st:PS)(at':Int):Syn×PS:=
 if Jj cR st then (⟨4,Jh 0 (adv st),[],0,[],D2 (adv st)⟩,Fr 0 (adv st)) else (⟨4,[],[],0,[],at'⟩,st)
def I0 (E T:PS->Syn×PS)(st:PS):Syn×PS:=
 let s1:=Df He st
 let k:=tE (Fr 0 s1) (D2 st)
 let p:=T (Df H4 k.2)
 let l:=Yc E (Df Ib p.2)
 (⟨3,Jh 0 s1,[],0,[k.1,p.1]++l.1,D2 st⟩,Df mW l.2)

def mG (w:Av)(F:PS->Syn×PS):Nat->PS->List Syn->List Syn×PS
 | 0,st,out=>(out,st)
 | n+1,st,out=>if Jj w st then mG w F n (F st).2 (out ++ [(F st).1]) else (out,st)
def progP (E T:PS->Syn×PS)(st:PS):Syn×PS:=
 let t:=mG Mi kindP (Bm st) st []
 let q:=mG He (I0 E T) (Bm t.2) t.2 t.1
 (⟨0,[],[],0,q.1,0⟩,q.2)

def Pn (l:List Tok)(n:Int):PS:=⟨l,0,n,0,0,0⟩
def Tn (r:Syn×PS):Syn×Int×Int:=
 let s:=if decide ((r.2.pos:Int)<(r.2.toks.length:Int)) then G8 4 r.2 else r.2
 if (s.bad != 0) then (Hb,s.whr,s.bad) else (r.1,0,0)
def Fg (F:PS->Syn×PS)(s:Av):Syn×Int×Int:=
 if ((In s).2.2 != 0) then (Hb,(In s).2.1,(In s).2.2) else Tn (F (Pn (In s).1 s.length))
def EE:PS->Syn×PS:=exprN 64
def TT:PS->Syn×PS:=zS EE 64
def pExpr (s:Av):Syn×Int×Int:=Fg EE s
def pPat (s:Av):Syn×Int×Int:=Fg TT s
def pQuery (s:Av):Syn×Int×Int:=Fg (I0 EE TT) s
def pProg (s:Av):Syn×Int×Int:=Fg (progP EE TT) s

def S8 (w:Av)(st:PS):Bool:=if endP st then false else ((mQ st).text==w)&&(((mQ st).kind==3)||((mQ st).kind==0))
def accR (w:Av)(st:PS):PS:=if S8 w st then adv st else st
def Kz (w:Av)(st:PS):PS:=if S8 w st then adv st else G8 4 st
def nxtR (k:Int)(st:PS):Bool:=if endP st then false else ((mQ st).kind==k)&&((k != 0) || !(iC (mQ st).text))
def Ug (k:Int)(st:PS):PS:=if nxtR k st then adv st else G8 4 st
def Py (k:Int)(st:PS):Av:=if nxtR k st then (mQ st).text else []
def numRR (st:PS):Int:=(numR (Py 1 st)).1
def openR (st:PS):PS:=Jx (if decide (64<=st.depth) then G8 12 st else st)

def fieldR (st:PS):Syn×PS:=
 let s1:=Kz Mg (Ug 0 st)
 if S8 E6 s1 then (⟨2,Py 0 st,[],1,[],D2 st⟩,adv s1)
 else if S8 D4 s1 then (⟨2,Py 0 st,[],2,[],D2 st⟩,adv s1)
 else (⟨2,Py 0 st,[],0,[],D2 st⟩,Kz Gd s1)
def dD (F:PS->Syn×PS):Nat->PS->List Syn->List Syn×PS
 | 0,st,out=>(out,st)
 | n+1,st,out=>if S8 Dm st then dD F n (F (adv st)).2 (out ++ [(F (adv st)).1]) else (out,st)
def typedR (st:PS):Syn×PS:=
 let s1:=Kz Mi st
 let s2:=Kz gP (Ug 0 s1)
 if S8 Rg s2 then (⟨1,Py 0 s1,[],0,[],D2 st⟩,adv s2)
 else
  let r:=fieldR s2
  let l:=dD fieldR (Bm r.2) r.2 [r.1]
  (⟨1,Py 0 s1,[],0,l.1,D2 st⟩,Kz Rg l.2)
def constR (st:PS):Syn×PS:=
 if S8 cF st then (⟨13,[],Gd,0-numRR (adv st),[],D2 st⟩,Ug 1 (adv st))
 else if S8 Ns st then (⟨13,[],E6,1,[],D2 st⟩,adv st)
 else if S8 Lc st then (⟨13,[],E6,0,[],D2 st⟩,adv st)
 else if nxtR 2 st then (⟨13,Py 2 st,D4,0,[],D2 st⟩,Ug 2 st)
 else (⟨13,[],Gd,numRR st,[],D2 st⟩,Ug 1 st)
def aggR (st:PS):Int:=
 if S8 nA st then 1 else if S8 mZ st then 2 else if S8 mY st then 3 else if S8 Y5 st then 4 else if S8 dJ st then 5 else 0
def totR (k:Int)(st:PS):Syn×PS:=
 let s1:=Kz Fh (adv st)
 let s2:=Kz kK (Ug 0 s1)
 let s3:=Ug 0 s2
 if (k != 1) then
  let c:=constR (Kz Dm s3)
  (⟨16,Py 0 s1,Py 0 s2,k,[c.1],D2 st⟩,Kz Ht c.2)
 else (⟨16,Py 0 s1,Py 0 s2,k,[],D2 st⟩,Kz Ht s3)
def yC (E:PS->Syn×PS)(st:PS):Syn×PS:=
 if S8 Fh st then
  let e:=E (Kz Fh (openR st))
  (e.1,Jf (Kz Ht e.2))
 else if S8 Y4 st then
  let s1:=Kz Fh (adv st)
  (⟨15,Py 0 s1,[],0,[],D2 st⟩,Kz Ht (Ug 0 s1))
 else if (aggR st != 0) then totR (aggR st) st
 else if !(nxtR 0 st) then constR st
 else
  let s1:=Kz kK (Ug 0 st)
  if S8 F6 s1 then (⟨14,Py 0 st,F6,0,[],D2 st⟩,adv s1)
  else (⟨14,Py 0 st,Py 0 s1,0,[],D2 st⟩,Ug 0 s1)
def sumGoR (F:PS->Syn×PS):Nat->PS->Syn->Syn×PS
 | 0,st,out=>(out,st)
 | n+1,st,out=>if S8 rR st||S8 cF st then sumGoR F n (F (adv st)).2 (Nk (if S8 cF st then 6 else 5) out (F (adv st)).1 out.pos) else (out,st)
def sumR (E:PS->Syn×PS)(st:PS):Syn×PS:=sumGoR (yC E) (Bm (yC E st).2) (yC E st).2 (yC E st).1
def cmpR (E:PS->Syn×PS)(st:PS):Syn×PS:=
 let a:=(sumR E st).1
 let s:=(sumR E st).2
 let b:=(sumR E (adv s)).1
 let s':=(sumR E (adv s)).2
 if S8 w_lt s then (Nk 7 a b a.pos,s')
 else if S8 w_le s then (Nk 8 a b a.pos,s')
 else if S8 w_gt s then (Nk 7 b a a.pos,s')
 else if S8 w_ge s then (Nk 8 b a a.pos,s')
 else if S8 rU s then (Nk 9 a b a.pos,s')
 else if S8 yH s then (⟨18,[],[],0,[Nk 9 a b a.pos],a.pos⟩,s')
 else (a,s)
def zI (E N:PS->Syn×PS)(st:PS):Syn×PS:=
 if !(S8 Wz st) then cmpR E st
 else
  let r:=N (Kz Wz (openR st))
  (⟨18,[],[],0,[r.1],D2 st⟩,Jf r.2)
def eA (w:Av)(op:Int)(F:PS->Syn×PS):Nat->PS->Syn->Syn×PS
 | 0,st,out=>(out,st)
 | n+1,st,out=>if S8 w st then eA w op F n (F (adv st)).2 (Nk op out (F (adv st)).1 out.pos) else (out,st)
def andR (E N:PS->Syn×PS)(st:PS):Syn×PS:=eA mX 10 (zI E N) (Bm (zI E N st).2) (zI E N st).2 (zI E N st).1
def orR (E N:PS->Syn×PS)(st:PS):Syn×PS:=eA yI 11 (andR E N) (Bm (andR E N st).2) (andR E N st).2 (andR E N st).1
def pR:Nat->(PS->Syn×PS)×(PS->Syn×PS)
 | 0=>(zI Ft Ft,orR Ft Ft)
 | n+1=>(zI (pR n).2 (pR n).1,orR (pR n).2 (pR n).1)
def exprNR (n:Nat):PS->Syn×PS:=(pR n).2
def sV (E:PS->Syn×PS)(st:PS):Syn×PS:=
 let s2:=Ug 0 (Ug 0 st)
 if S8 cG s2 then (⟨5,Py 0 st,Py 0 (Ug 0 st),0,[(E (adv s2)).1],D2 st⟩,(E (adv s2)).2)
 else (⟨5,Py 0 st,Py 0 (Ug 0 st),0,[],D2 st⟩,s2)
def operR (st:PS):Int:=
 if S8 Vt st then 6 else if S8 Vs st then 7 else if S8 Vr st then 8 else if S8 Oq st then 9 else if S8 Mh st then 10 else if S8 I6 st then 11 else if S8 I5 st then 12 else 5
def restR (E T:PS->Syn×PS)(k:Int)(z:Syn)(st:PS):Syn×PS:=
 if ((k==6)||(k==7))||(k==8) then
  let r:=T (Kz Dm st)
  let l:=dD T (Bm r.2) r.2 (z.kids ++ [r.1])
  ({ z with kids:=l.1 },l.2)
 else if (k==10) then ({ z with kids:=z.kids ++ [(sV E (Kz Dm st)).1] },(sV E (Kz Dm st)).2)
 else if (k==11) then ({ z with num:=numRR (Kz Dm st) },Ug 1 (Kz Dm st))
 else if (k==12) then ({ z with kids:=z.kids ++ [(E (Kz Dm st)).1] },(E (Kz Dm st)).2)
 else (z,st)
def patR (E T:PS->Syn×PS)(st:PS):Syn×PS:=
 if (operR st==5) then sV E st
 else
  let r:=T (Kz Fh (adv (openR st)))
  let q:=restR E T (operR st) ⟨operR st,[],[],0,[r.1],D2 st⟩ r.2
  (q.1,Jf (Kz Ht q.2))
def patNR (E:PS->Syn×PS):Nat->PS->Syn×PS
 | 0=>patR E Ft
 | n+1=>patR E (patNR E n)
def keyRR (st:PS)(at':Int):Syn×PS:=
 if S8 cR st then (⟨4,Py 0 (adv st),[],0,[],D2 (adv st)⟩,Ug 0 (adv st)) else (⟨4,[],[],0,[],at'⟩,st)
def queryR (E T:PS->Syn×PS)(st:PS):Syn×PS:=
 let s1:=Kz He st
 let k:=keyRR (Ug 0 s1) (D2 st)
 let p:=T (Kz H4 k.2)
 let e:=E (Kz Ib p.2)
 let l:=dD E (Bm e.2) e.2 [k.1,p.1,e.1]
 (⟨3,Py 0 s1,[],0,l.1,D2 st⟩,Kz mW l.2)
def mH (w:Av)(F:PS->Syn×PS):Nat->PS->List Syn->List Syn×PS
 | 0,st,out=>(out,st)
 | n+1,st,out=>if S8 w st then mH w F n (F st).2 (out ++ [(F st).1]) else (out,st)
def progR (E T:PS->Syn×PS)(st:PS):Syn×PS:=
 let t:=mH Mi typedR (Bm st) st []
 let q:=mH He (queryR E T) (Bm t.2) t.2 t.1
 (⟨0,[],[],0,q.1,0⟩,q.2)
def doneR (r:Syn×PS):Syn×Int×Int:=
 let s:=if (r.2.bad==0)&&decide ((r.2.pos:Int)<(r.2.toks.length:Int)) then G8 4 r.2 else r.2
 if (s.bad != 0) then (Hb,s.whr,s.bad) else (r.1,0,0)
def parseR (F:PS->Syn×PS)(s:Av):Syn×Int×Int:=
 if ((xQ s).2.2 != 0) then (Hb,(xQ s).2.1,(xQ s).2.2) else doneR (F (Pn (xQ s).1 s.length))
def EER:PS->Syn×PS:=exprNR 65
def TTR:PS->Syn×PS:=patNR EER 65

mutual
def C3:Syn->List AV
 | ⟨kind,text,name,num,kids,pos⟩=>[.int .i64 kind,.str text,.str name,.int .i64 num,.sl 6 (oC kids),.int .i64 pos]
def oC:List Syn->List (List AV)
 | []=>[]
 | e::r=>C3 e::oC r
end
theorem jD:∀l:List Syn,oC l=l.map C3
 | []=>by simp [oC]
 | e::r=>by simp [oC,jD r]
@[reducible] def cSyn (e : Syn) : List AV := [.int .i64 e.kind, .str e.text, .str e.name, .int .i64 e.num, .sl 6 (e.kids.map C3), .int .i64 e.pos]
theorem Bi (e:Syn):C3 e=cSyn e:=by
 cases e
 simp [C3,cSyn,jD]
theorem C8 {l:List Syn}{k:Nat}{a:Syn}(h:l[k]? = some a):(l.map C3)[k]? = some (cSyn a):=by
 simp [h,Bi]
@[reducible] def cP (st : PS) : List AV := [.sl 3 (st.toks.map pF), .int .i64 (st.pos : Int), .int .i64 st.fin, .int .i64 st.depth, .int .i64 st.bad, .int .i64 st.whr]
theorem Syn.ind {P:Syn->Prop}(h:∀e,(∀a∈e.kids,P a)->P e):∀e,P e:=by
 intro e;exact Syn.rec (motive_1:=P) (motive_2:=fun l=>∀a∈l,P a) (fun k t n m kids p ih=>h _ ih) (by simp) (fun a l ha hl=>by simp only [Dn,forall_eq_or_imp];exact ⟨ha,hl⟩) e


inductive Pl where
 | only (k:Int)
 | pats
 | exps
@[reducible] def isPat (k : Int) : Bool := decide (5 <= k) && decide (k <= 12)
@[reducible] def isExp (k : Int) : Bool := decide (13 <= k) && decide (k <= 18)
def Pl.at:Pl->Int->Bool
 | .only k,x=>x==k
 | .pats,x=>isPat x
 | .exps,x=>isExp x
def Pl.role:Pl->Int
 | .only k=>if k<=4 then k else if k==5 then 6 else 8
 | .pats=>5
 | .exps=>7
def Pl.ok:Pl->Prop
 | .only k=>k=0\/k=1\/k=2\/k=3\/k=4\/k=5\/k=13
 | _=>True

def Cd (t:Syn)(i:Nat):Syn:=t.kids.getD i Hb
def G1 (t:Syn)(i:Nat):Pl:=
 if (t.kind==0) then if ((Cd t i).kind==1)&&(((i:Int)==0)||((Cd t (i-1)).kind==1)) then .only 1 else .only 3
 else if (t.kind==1) then .only 2
 else if (t.kind==3) then if ((i:Int)==0) then .only 4 else if ((i:Int)==1) then .pats else .exps
 else if (t.kind==10) then if ((i:Int)==1) then .only 5 else .pats
 else if (t.kind==12) then if ((i:Int)==1) then .exps else .pats
 else if (t.kind==16) then .only 13
 else if ((t.kind==5)||(t.kind==17))||(t.kind==18) then .exps
 else .pats
def Fy (t:Syn):Bool:=
 if (t.kind==0)||(t.kind==1) then true
 else if (t.kind==3) then decide (3<=(t.kids.length:Int))
 else if (t.kind==5) then decide ((t.kids.length:Int)<=1)
 else if ((t.kind==6)||(t.kind==7))||(t.kind==8) then decide (2<=(t.kids.length:Int))
 else if ((t.kind==9)||(t.kind==11))||(t.kind==18) then ((t.kids.length:Int)==1)
 else if ((t.kind==10)||(t.kind==12))||(t.kind==17) then ((t.kids.length:Int)==2)
 else if (t.kind==16) then if (t.num==1) then ((t.kids.length:Int)==0) else ((t.kids.length:Int)==1)
 else ((t.kids.length:Int)==0)
def Te (k:Int):Bool×Bool:=
 if ((k==5)||(k==14))||(k==16) then (true,true)
 else if ((((k==1)||(k==2))||(k==3))||(k==4))||(k==15) then (true,false)
 else (false,false)
def Q3 (s:Av):Bool:=F7 s==0
def Wm (t:Syn):Bool:=
 if ((Te t.kind).1 && !Q3 t.text)&&((t.kind != 4) || !(t.text == [])) then false
 else (!(Te t.kind).2||Q3 t.name)||((t.kind==14)&&(t.name==F6))
def G7 (t:Syn):Int:=
 if (t.name==Gd) then if (decide (t.num < -1099511627776)||decide (1099511627776<t.num)) then 2 else if !(t.text == []) then 3 else 0
 else if (t.name==E6) then if (decide (t.num<0)||decide (1<t.num)) then 2 else if !(t.text == []) then 3 else 0
 else if (t.name==D4) then if decide (64<(t.text.length:Int)) then 13 else if (t.num != 0) then 3 else 0
 else 1
def Q5 (t:Syn):Int:=
 if (t.kind==2) then if (decide (t.num<0)||decide (2<t.num)) then 1 else 0
 else if (t.kind==16) then if (decide (t.num<1)||decide (5<t.num)) then 1 else 0
 else if (t.kind==17) then if (decide (t.num<5)||decide (11<t.num)) then 1 else 0
 else if (t.kind==11) then if (decide (t.num<0)||decide (1099511627776<t.num)) then 2 else 0
 else if (decide (t.num<0)||decide (0<t.num)) then 3 else 0
def D8 (t:Syn):Int:=
 if (t.kind==13) then G7 t
 else if (Q5 t != 0) then Q5 t
 else if (!(Te t.kind).1 && !(t.text == []))||(!(Te t.kind).2 && !(t.name == [])) then 3 else 0
def aD (p:Pl)(t:Syn):Int:=
 if !(p.at t.kind) then 1 else if !(Fy t) then 15 else if !(Wm t) then 8 else D8 t
def lF:List Int->Int
 | []=>0
 | x::r=>if (x != 0) then x else lF r
mutual
def Cb:Syn->Pl->Int
 | ⟨k,x,n,m,kids,p⟩,at'=>if (aD at' ⟨k,x,n,m,kids,p⟩ != 0) then aD at' ⟨k,x,n,m,kids,p⟩ else lF (eB kids ((List.range kids.length).map (G1 ⟨k,x,n,m,kids,p⟩)))
def eB:List Syn->List Pl->List Int
 | [],_=>[]
 | x::r,[]=>[]
 | x::r,p::q=>Cb x p::eB r q
end

def Gq (p k:Int):Bool:=if (p==17) then (k==17)||(k==18) else if (p==18) then (k==17) else false
mutual
def Hp:Syn->Nat
 | ⟨k,_,_,_,kids,_⟩=>J3 k kids+(if (k==18)||(isPat k&&(k != 5)) then 1 else 0)
def J3 (k:Int):List Syn->Nat
 | []=>0
 | x::r=>max (Hp x+(if Gq k x.kind then 1 else 0)) (J3 k r)
end

def C6:List Av->Av
 | []=>[]
 | [x]=>x
 | x::y::r=>x ++ [44,32]++C6 (y::r)
def K4 (n:Int):Av:=if (n==1) then E6 else if (n==2) then D4 else Gd
def Pm (n:Int):Av:=if (n==1) then nA else if (n==2) then mZ else if (n==3) then mY else if (n==4) then Y5 else dJ
def H0 (n:Int):Av:=
 if (n==5) then rR else if (n==6) then cF else if (n==7) then w_lt else if (n==8) then w_le else if (n==9) then rU else if (n==10) then mX else yI
def Mn (k:Int):Av:=
 if (k==6) then Vt else if (k==7) then Vs else if (k==8) then Vr else if (k==9) then Oq else if (k==10) then Mh else if (k==11) then I6 else I5
def O0 (t:Syn):Av:=
 if (t.name==Gd) then Lib.itoa t.num
 else if (t.name==E6) then if (t.num==1) then Ns else Lc
 else (Og t.text).1
def Fw (p:Syn)(k:Syn)(s:Av):Av:=if Gq p.kind k.kind then [40]++s ++ [41] else s
def D9 (t:Syn)(ws:List Av):Av:=
 if (t.kind==0) then ws.flatten
 else if (t.kind==1) then Mi ++ [32]++t.text ++ [32,123]++(if ws == [] then [] else [32]++C6 ws ++ [32]) ++ [125,10]
 else if (t.kind==2) then t.text ++ [58,32]++K4 t.num
 else if (t.kind==3) then He ++ [32]++t.text++(if (Cd t 0).text == [] then [] else [32]++cR ++ [32]++(Cd t 0).text) ++ [10]++H4 ++ [32]++ws.getD 1 [] ++ [10]++Ib ++ [32]++C6 (ws.drop 2) ++ [59,10]
 else if (t.kind==5) then t.text ++ [32]++t.name++(if ws == [] then [] else [32]++cG ++ [32]++ws.getD 0 [])
 else if (t.kind==13) then O0 t
 else if (t.kind==14) then t.text ++ [46]++t.name
 else if (t.kind==15) then Y4 ++ [40]++t.text ++ [41]
 else if (t.kind==16) then Pm t.num ++ [40]++t.text ++ [46]++t.name++(if ws == [] then [] else [44,32]++ws.getD 0 []) ++ [41]
 else if (t.kind==17) then Fw t (Cd t 0) (ws.getD 0 []) ++ [32]++H0 t.num ++ [32]++Fw t (Cd t 1) (ws.getD 1 [])
 else if (t.kind==18) then Wz ++ [32]++Fw t (Cd t 0) (ws.getD 0 [])
 else Mn t.kind ++ [40]++C6 ws++(if (t.kind==11) then [44,32]++Lib.itoa t.num else []) ++ [41]
mutual
def Ae:Syn->Av
 | ⟨k,x,n,m,kids,p⟩=>D9 ⟨k,x,n,m,kids,p⟩ (Sp kids)
def Sp:List Syn->List Av
 | []=>[]
 | x::r=>Ae x::Sp r
end
def B0 (t:Syn)(p:Pl):Av×Int:=
 if (Cb t p != 0) then ([],Cb t p)
 else if decide (64<(Hp t:Int)) then ([],12)
 else if decide (65536<((Ae t).length:Int)) then ([],13)
 else (Ae t,0)

mutual
def totalC:Syn->Int
 | ⟨_,_,_,_,kids,_⟩=>totalL kids 1
def totalL:List Syn->Int->Int
 | [],n=>n
 | x::r,n=>if decide (n<=200) then totalL r (IntKind.i64.wrap (n+totalC x)) else n
end
mutual
def deepC:Syn->Int
 | ⟨_,_,_,_,kids,_⟩=>IntKind.i64.wrap (deepL kids 0+1)
def deepL:List Syn->Int->Int
 | [],d=>d
 | x::r,d=>deepL r (max d (deepC x))
end
mutual
def fewC:Syn->Bool
 | ⟨k,x,n,m,kids,p⟩=>if (((decide (80<(x.length:Int))||decide (80<(n.length:Int)))||decide (200<totalC ⟨k,x,n,m,kids,p⟩))||decide (90<deepC ⟨k,x,n,m,kids,p⟩)) then false else fewL kids
def fewL:List Syn->Bool
 | []=>true
 | x::r=>if !(fewC x) then false else fewL r
end

theorem gW:∀l:List Syn,Sp l=l.map Ae
 | []=>by rw [Sp,Ca]
 | x::r=>by rw [Sp,gW r,Bj]
theorem D5 (t:Syn):Ae t=D9 t (t.kids.map Ae):=by cases t;rw [Ae,gW]
theorem iY (t:Syn):Hp t=J3 t.kind t.kids+(if (t.kind==18)||(isPat t.kind&&(t.kind != 5)) then 1 else 0):=by cases t;rw [Hp]
def Ng (t:Syn):Nat->List Syn->Int
 | _,[]=>0
 | i,x::r=>if (Cb x (G1 t i) != 0) then Cb x (G1 t i) else Ng t (i+1) r
theorem Zk (t:Syn)(p:Pl):Cb t p=if (aD p t != 0) then aD p t else Ng t 0 t.kids:=by
 have h:∀(l:List Syn) (i:Nat),lF (eB l ((List.range' i l.length).map (G1 t)))=Ng t i l:=by
  intro l
  induction l with
  | nil=>intro i;rw [eB,Ng];rfl
  | cons x r ih=>intro i;rw [A1,List.range'_succ,Bj,eB,lF,Ng,ih]
 rw [<-h t.kids 0,<-List.range_eq_range'];cases t;rw [Cb]

theorem Fq:({ data:=#[] }:ByteArray).data.toList=([]:List UInt8):=rfl

structure Vl where
 kind:Int
 num:Int
 text:List UInt8
deriving DecidableEq

structure Ex where
 op:Int
 args:List Ex
 var:Int
 field:Int
 kind:Int
 val:Vl

structure Ev where
 source:Int
 seq:Int
 type:Int
 time:Int
 values:List Vl

structure Ac where
 kind:Int
 count:Int
 val:Vl

def v0:Vl:=⟨0,0,[]⟩
def vS:Ev:=⟨0,0,0,0,[]⟩
def Zs:Ex:=⟨0,[],0,0,0,v0⟩
def ac0:Ac:=⟨0,0,v0⟩

@[reducible] def eqV (v w : Vl) : Bool := v.kind == w.kind && (v.num == w.num && v.text == w.text)
@[reducible] def isV0 (v : Vl) : Bool := v.kind == 0 && (v.num == 0 && v.text == [])
theorem isV0_iff (v:Vl):isV0 v=true↔v=v0:=by
 cases v;simp [isV0,v0]

def cV (v:Vl):List AV:=[.int .i64 v.kind,.int .i64 v.num,.str v.text]

mutual
def F5:Ex->List AV
 | ⟨op,args,var,field,kind,val⟩=>[.int .i64 op,.sl 8 (nZ args),.int .i64 var,.int .i64 field,.int .i64 kind,.int .i64 val.kind,.int .i64 val.num,.str val.text]
def nZ:List Ex->List (List AV)
 | []=>[]
 | e::r=>F5 e::nZ r
end

theorem jB:∀l:List Ex,nZ l=l.map F5
 | []=>by simp [nZ]
 | e::r=>by simp [nZ,jB r]

def cE (e:Ex):List AV:=[.int .i64 e.op,.sl 8 (e.args.map F5),.int .i64 e.var,.int .i64 e.field,.int .i64 e.kind,.int .i64 e.val.kind,.int .i64 e.val.num,.str e.val.text]
def cEv (e:Ev):List AV:=[.int .i64 e.source,.int .i64 e.seq,.int .i64 e.type,.int .i64 e.time,.sl 3 (e.values.map cV)]
def cAc (a:Ac):List AV:=[.int .i64 a.kind,.int .i64 a.count,.int .i64 a.val.kind,.int .i64 a.val.num,.str a.val.text]
def cEvs (l:List Ev):List AV:=[.sl 5 (l.map cEv)]
def cEnv (l:List (List Ev)):List AV:=[.sl 1 (l.map cEvs)]

theorem Ky (e:Ex):F5 e=cE e:=by
 cases e
 simp [F5,cE,jB]

theorem Ex.ind {P:Ex->Prop}(h:∀e,(∀a∈e.args,P a)->P e):∀e,P e:=by
 intro e;exact Ex.rec (motive_1:=P) (motive_2:=fun l=>∀a∈l,P a) (fun op args v f k val ih=>h _ ih) (by simp) (fun a l ha hl=>by simp only [Dn,forall_eq_or_imp];exact ⟨ha,hl⟩) e

theorem Nn {l:List Ex}{k:Nat}{a:Ex}(h:l[k]? = some a):(l.map F5)[k]? = some (cE a):=by
 simp [h,Ky]
theorem Bp {α:Type}{f:α->List AV}{l:List α}{k:Nat}{a:α}(h:l[k]? = some a):(l.map f)[k]? = some (f a):=by simp [h]

theorem B3 {α:Type}{l:List α}{k:Nat}(h:decide ((k:Int)<(l.length:Int))=true):∃a,l[k]? = some a:=by
 have:k<l.length:=by simpa using h
 exact ⟨_,List.getElem?_eq_getElem this⟩
theorem Bf {α:Type}{l:List α}{k:Nat}{a:α}(h:l[k]? = some a):k<l.length:=(List.getElem?_eq_some_iff.1 h).1
theorem Bd {α:Type}{l:List α}{k:Nat}{a:α}(h:l[k]? = some a):l.drop k=a::l.drop (k+1):=by
 obtain ⟨h1,h2⟩:=List.getElem?_eq_some_iff.1 h;rw [<-h2];exact Ou h1
theorem Cf {α:Type}{l:List α}{k:Nat}{a:α}(h:l[k]? = some a):l.take (k+1)=l.take k ++ [a]:=by
 rw [List.take_add_one,h];rfl
theorem B9 {α:Type}{l:List α}{k:Nat}(h:decide ((k:Int)<(l.length:Int))=false):l.take k=l:=by
 have:¬k<l.length:=by simpa using h
 exact gX (by omega)
theorem Ek {α:Type}{l:List α}{k:Nat}(h:decide ((k:Int)<(l.length:Int))=false):l.drop k = []:=by
 have:¬k<l.length:=by simpa using h
 exact L7 (by omega)


def Tq (b:Bool):Vl:=if b then ⟨1,1,[]⟩ else ⟨1,0,[]⟩

def P4 (v:Vl):Int:=
 if v.kind==0&&(decide (v.num < -1099511627776)||decide (1099511627776<v.num)) then 2
 else if v.kind==1&&v.num != 0&&v.num != 1 then 2
 else if decide (64<(v.text.length:Int)) then 13 else 0

def C4 (v:Vl):Int:=
 if v.kind==0||v.kind==1 then (if !(v.text == []) then 3 else P4 v)
 else if v.kind==2 then (if v.num != 0 then 3 else P4 v)
 else 1

def K7 (v:Vl):Int:=
 if decide (v.kind<0)||decide (2<v.kind) then 1
 else if v.kind==2 then (if v.num != 0 then 3 else if decide (64<(v.text.length:Int)) then 13 else 0)
 else if !(v.text == []) then 3
 else if v.kind==1&&(decide (v.num<0)||decide (1<v.num))||decide (v.num < -1099511627776)||decide (1099511627776<v.num) then 2 else 0
theorem J7 (v:Vl):K7 v=C4 v:=by
 unfold K7 C4 P4;obtain ⟨k,n,t⟩:=v;by_cases ht:t = []
 .
  subst ht;simp only [Ff,Cz,Dp,beq_iff_eq,bne_iff_ne,ne_eq,not_true,if_false,A6,BEq.rfl,Bc,Al,Bc,Al]
  repeat' split
  all_goals first | rfl | omega
 simp only [Ff,Cz,Dp,beq_iff_eq,bne_iff_ne,ne_eq,ht,not_false_eq_true,if_true,Bk,F0]
 repeat' split
 all_goals first | rfl | omega

def tJ (k:Int):Bool:=decide (0<=k)&&decide (k<=5)
def vF (k:Int)(v:Vl):Bool:=v.kind==0||(k != 1&&k != 2&&k != 3)
def Pb (k:Int)(v:Vl):Bool:=v.kind==0||k==0||k==4||k==5

def combS (k:Int)(a b:Vl):Vl:=
 if k==1 then ⟨0,IntKind.i64.wrap (a.num+b.num),[]⟩ else if k==2 then ⟨0,min a.num b.num,[]⟩ else if k==3 then ⟨0,max a.num b.num,[]⟩ else if k==4 then a else if k==5 then b else v0
def singleS (k:Int)(v:Vl):Vl:=if k==0 then v0 else v
def mergedS (a b:Ac):Ac:=if a.count==0 then b else if b.count==0 then a else ⟨a.kind,IntKind.i64.wrap (a.count+b.count),combS a.kind a.val b.val⟩

def Uv (a:Ac):Int:=
 if !tJ a.kind then 1
 else if decide (a.count<0)||decide (4096<a.count) then 2
 else if (if a.count==0||a.kind==0 then isV0 a.val
  else if a.kind==1 then a.val.kind==0&&a.val.text == []&&decide (0-a.count*1099511627776<=a.val.num)&&decide (a.val.num<=a.count*1099511627776)
  else C4 a.val==0&&vF a.kind a.val) then 0 else 3

def racheckS (a:Ac):Int:=
 if !tJ a.kind then 1
 else if decide (a.count<0)||decide (4096<a.count) then 2
 else if a.count==0||a.kind==0 then (if !isV0 a.val then 3 else 0)
 else if a.kind==1 then (if a.val.kind != 0 || !(a.val.text == [])||decide (a.val.num<0-a.count*1099511627776)||decide (a.count*1099511627776<a.val.num) then 3 else 0)
 else if C4 a.val != 0 || !Pb a.kind a.val then 3 else 0
def nC (k:Int)(v:Vl):Int:=if C4 v != 0 then C4 v else if !vF k v then 9 else 0

def resultS (a:Ac)(o:Vl):Vl×Int:=
 if Uv a != 0 then (v0,Uv a)
 else if nC a.kind o != 0 then (v0,nC a.kind o)
 else if a.kind==0 then (⟨0,a.count,[]⟩,0)
 else if a.count==0&&a.kind != 1 then (o,0)
 else (a.val,0)

def stepS (k:Int)(a:Ac)(v:Vl):Ac:=mergedS a ⟨k,1,singleS k v⟩
def foldS (k:Int)(l:List Vl):Ac:=l.foldl (stepS k) ⟨k,0,v0⟩

def Ch {α:Type}(f:α->Int):List α->Int
 | []=>0
 | a::r=>if f a != 0 then f a else Ch f r

def ofS (k:Int)(l:List Vl)(o:Vl):Vl×Int:=
 if !tJ k then (v0,1)
 else if decide (4096<(l.length:Int)) then (v0,5)
 else if Ch (nC k) l != 0 then (v0,Ch (nC k) l)
 else resultS (foldS k l) o


def Gz (op:Int):Bool×Bool:=if op=1\/op=4 then (true,true) else if op=2\/op=3 then (true,false) else (false,false)
def Iy (op:Int):Int:=if op<0\/12<op then 0 else if op<5 then 0 else if op=12 then 1 else 2
def Rr (k:Int)(v:Vl):Bool:=v.kind==0||k==4||k==5

def N8 (e:Ex):Int:=
 if C4 e.val != 0 then C4 e.val
 else if e.op==4&&(!Rr e.kind e.val||(e.kind==1 && !isV0 e.val)) then 9 else 0

def Ga (e:Ex):Int:=
 if !(Gz e.op).1&&e.var != 0||(!(Gz e.op).2&&e.field != 0)||(!(e.op==4)&&e.kind != 0)||(!(e.op==4||e.op==0) && !isV0 e.val) then 3 else 0

def Gt (e:Ex):Int:=
 if !decide (0<=e.op/\e.op<=12) then 1
 else if (e.args.length:Int) != Iy e.op then 15
 else if ((Gz e.op).1&&(decide (e.var<0)||decide (16<=e.var)))||((Gz e.op).2&&(decide (e.field<0)||decide (8<=e.field))) then 2
 else if e.op==4&&(decide (e.kind<1)||decide (5<e.kind)) then 1
 else if e.op==4||e.op==0 then (if N8 e != 0 then N8 e else Ga e)
 else Ga e

mutual
def J8 (f:Ex->Int):Ex->Int
 | ⟨op,args,var,field,kind,val⟩=>if f ⟨op,args,var,field,kind,val⟩ != 0 then f ⟨op,args,var,field,kind,val⟩ else gO f args
def gO (f:Ex->Int):List Ex->Int
 | []=>0
 | e::r=>if J8 f e != 0 then J8 f e else gO f r
end
theorem Y3 (f:Ex->Int):∀l,gO f l=Ch (J8 f) l
 | []=>by simp [gO,Ch]
 | e::r=>by simp [gO,Ch,Y3 f r]
theorem aV (f:Ex->Int)(e:Ex):J8 f e=if f e != 0 then f e else Ch (J8 f) e.args:=by
 cases e;rw [J8,Y3]
abbrev C0:Ex->Int:=J8 Gt
theorem Z9 (e:Ex):C0 e=if Gt e != 0 then Gt e else Ch C0 e.args:=aV Gt e

mutual
def Bz:Ex->Nat
 | ⟨_,args,_,_,_,_⟩=>1+gK args
def gK:List Ex->Nat
 | []=>0
 | e::r=>Bz e+gK r
end
mutual
def Ea:Ex->Nat
 | ⟨_,args,_,_,_,_⟩=>Xu args+1
def Xu:List Ex->Nat
 | []=>0
 | e::r=>max (Ea e) (Xu r)
end
theorem gL:∀l,gK l=(l.map Bz).sum
 | []=>by simp [gK]
 | e::r=>by simp [gK,gL r]
theorem Gb (e:Ex):Bz e=1+(e.args.map Bz).sum:=by cases e;rw [Bz,gL]
theorem Xv:∀l,Xu l=(l.map Ea).foldr max 0
 | []=>by simp [Xu]
 | e::r=>by simp [Xu,Xv r]
theorem Zn (e:Ex):Ea e=(e.args.map Ea).foldr max 0+1:=by cases e;rw [Ea,Xv]

theorem tN {l:List Ex}{a:Ex}(f:Ex->Nat)(h:a∈l):f a<=(l.map f).sum:=by
  induction l with
  | nil=>cases h
  | cons x r ih=>
    simp only [Bj,Ed];rcases Dn.1 h with rfl | h
    . omega
    have:=ih h;omega
theorem Gu {e a:Ex}(h:a∈e.args):Bz a<Bz e:=by
 have:=tN Bz h;have:=Gb e;omega
theorem Me (e:Ex):Ea e<=Bz e:=by
  refine Ex.ind (P:=fun e=>Ea e<=Bz e) (fun e ih=>?_) e;rw [Zn,Gb]
  have:∀l:List Ex,(∀a∈l,Ea a<=Bz a)->(l.map Ea).foldr max 0<=(l.map Bz).sum:=by
    intro l
    induction l with
    | nil=>intro _;exact B6 _
    | cons x r ihr=>
      intro h;simp only [Bj,List.foldr_cons,Ed];have h1:=h x (by simp);have h2:=ihr fun a ha=>h a (by simp [ha])
      omega
  have:=this e.args ih;omega

mutual
def Ho (L:Nat):Ex->Nat
 | ⟨_,args,_,_,_,_⟩=>Gr L args 1
def Gr (L:Nat):List Ex->Nat->Nat
 | [],n=>n
 | e::r,n=>if n<=L then Gr L r (n+Ho L e) else n
end
theorem iW (L:Nat)(e:Ex):Ho L e=Gr L e.args 1:=by cases e;rw [Ho]
theorem eG (L:Nat)(e:Ex):Ho L e=Bz e\/(L<Ho L e/\Ho L e<=Bz e):=by
  refine Ex.ind (P:=fun e=>Ho L e=Bz e\/(L<Ho L e/\Ho L e<=Bz e)) (fun e ih=>?_) e;rw [iW,Gb]
  have:∀(l:List Ex) (n:Nat),(∀a∈l,Ho L a=Bz a\/(L<Ho L a/\Ho L a<=Bz a))->Gr L l n=n+(l.map Bz).sum\/(L<Gr L l n/\Gr L l n<=n+(l.map Bz).sum):=by
    intro l
    induction l with
    | nil=>intro n _;simp [Gr]
    | cons x r ihr=>
      intro n h;simp only [Gr,Bj,Ed];have h1:=h x (by simp);have h2:=ihr (n+Ho L x) fun a ha=>h a (by simp [ha])
      split
      . have hmono:n+Ho L x<=Gr L r (n+Ho L x):=by
          have:∀(l:List Ex) (m:Nat),m<=Gr L l m:=by
            intro l
            induction l with
            | nil=>intro m;simp [Gr]
            | cons y s ihs => intro m; simp only [Gr]; split
                              . exact Fl (Nat.le_add_right _ _) (ihs _)
                              exact B6 _
          exact this r _
        omega
      omega
  have:=this e.args 1 ih;omega
theorem eF (L:Nat)(e:Ex):L<Ho L e↔L<Bz e:=by
 rcases eG L e with h | h
 . rw [h]
 omega
def C2 (e:Ex):Int:=if decide (64<(Bz e:Int)) then 5 else if decide (12<(Ea e:Int)) then 12 else C0 e

def e8okS (op k k0:Int):Bool:=if op==5||op==6||op==7||op==8 then k==0 else if op==10||op==11||op==12 then k==1 else if op==9 then k==k0 else true
def U8 (op:Int)(kinds:List Int):Int:=Ch (fun k=>if e8okS op k (kinds.headD 0) then 0 else 9) kinds
def demandS (op:Int):Int:=if op==5||op==6||op==7||op==8 then 0 else if op==10||op==11||op==12 then 1 else -1

structure Evr where
 vars:List (List Ev)
 own:Int
 event:Ev

def OPS:List (Int×AV):=[(5,.fn (.func 0) [] [.ptr [.fn (.func 0) [] []]]),(6,.fn (.func 0) [] [.ptr [.fn (.func 0) [] []]]),(7,.fn (.func 0) [] []),(8,.fn (.func 0) [] []),(10,.fn (.func 0) [] []),(11,.fn (.func 0) [] []),(12,.fn (.func 0) [] [])]
def cX (x:Evr):List AV:=[.sl 1 (x.vars.map cEvs),.int .i64 x.own,.int .i64 x.event.source,.int .i64 x.event.seq,.int .i64 x.event.type,.int .i64 x.event.time,.sl 3 (x.event.values.map cV),.mapv OPS]
def Evr.ok (x:Evr):Prop:=∀l∈x.vars,l.length<=1048576

def U0 (vars:List (List Ev))(v:Int):List Ev:=if decide (v<0)||decide ((vars.length:Int)<=v) then [] else (vars[v.toNat]?).getD []

def To (e:Ev)(k:Int):Vl×Int:=if decide ((e.values.length:Int)<=k) then (v0,6) else ((e.values[k.toNat]?).getD v0,0)

def totalS (x:Evr)(e:Ex):Vl×Int:=
 let l:=U0 x.vars e.var
 if Ch (fun v=>(To v e.field).2) l != 0 then (v0,Ch (fun v=>(To v e.field).2) l) else ofS e.kind (l.map fun v=>(To v e.field).1) e.val

def readS (last:Ev)(e:Ex):Vl×Int:=
 if e.op==2 then (⟨0,last.time,[]⟩,0)
 else if (To last e.field).2==0 then (if C4 (To last e.field).1 != 0 then (v0,C4 (To last e.field).1) else ((To last e.field).1,0))
 else (v0,(To last e.field).2)

def leafS (x:Evr)(e:Ex):Vl×Int:=
 if e.op==0 then (e.val,0)
 else if e.op==3 then (⟨0,(U0 x.vars e.var).length,[]⟩,0)
 else if e.op==4 then totalS x e
 else if e.var != x.own then (if ((U0 x.vars e.var).length:Int)==0 then (v0,10) else readS ((U0 x.vars e.var).getLast?.getD vS) e)
 else readS x.event e

def lastS (vars:List (List Ev))(v own:Int)(ev:Ev):Ev×Bool:=
 if v==own then (ev,true) else if ((U0 vars v).length:Int)==0 then (vS,false) else ((U0 vars v).getLast?.getD vS,true)
def applyS (op:Int)(a b:Int):Vl:=
 if op==5 then ⟨0,IntKind.i64.wrap (a+b),[]⟩ else if op==6 then ⟨0,IntKind.i64.wrap (a-b),[]⟩
 else if op==7 then Tq (decide (a<b)) else if op==8 then Tq (decide (a<=b))
 else if op==10 then Tq (a==1&&b==1) else if op==11 then Tq (a==1||b==1) else Tq (a != 1)

def twoS (op:Int)(v w:Vl):Vl:=if op==9 then Tq (eqV v w) else applyS op v.num w.num

def nodeV (op:Int)(l:List Vl):Vl×Int:=
 if U8 op (l.map (·.kind)) != 0 then (v0,U8 op (l.map (·.kind)))
 else if op==9 then (Tq (eqV (l.headD v0) ((l[1]?).getD v0)),0)
 else (applyS op (l.headD v0).num (l.getLastD v0).num,0)

mutual
def eQ (x:Evr):Ex->Vl×Int
  | ⟨op,args,var,field,kind,val⟩=>
    if args.isEmpty then leafS x ⟨op,args,var,field,kind,val⟩
    else if (jH x args).2 != 0 then (v0,(jH x args).2) else nodeV op (jH x args).1
def jH (x:Evr):List Ex->List Vl×Int
 | []=>([],0)
 | e::r=>if (eQ x e).2 != 0 then ([],(eQ x e).2) else if (jH x r).2 != 0 then ([],(jH x r).2) else ((eQ x e).1::(jH x r).1,0)
end

def EvalS (x:Evr)(e:Ex):Vl×Int:=if C2 e != 0 then (v0,C2 e) else eQ x e
def TruthS (x:Evr)(e:Ex):Bool:=(EvalS x e).2==0&&eqV (EvalS x e).1 (Tq true)


def dH (k:Int)(v:Vl):Int:=if C4 v != 0 then C4 v else if !Pb k v then 9 else 0
def rresultS (a:Ac)(o:Vl):Vl×Int:=
 if Uv a != 0 then (v0,Uv a)
 else if dH a.kind o != 0 then (v0,dH a.kind o)
 else if a.kind==0 then (⟨0,a.count,[]⟩,0)
 else if a.count==0&&a.kind != 1 then (o,0)
 else (a.val,0)
def addS (a:Ac)(v:Vl):Ac×Int:=
 if Uv a != 0 then (ac0,Uv a)
 else if dH a.kind v != 0 then (ac0,dH a.kind v)
 else if a.count==4096 then (ac0,5)
 else if a.kind==0 then (⟨a.kind,IntKind.i64.wrap (a.count+1),v0⟩,0)
 else if decide (0<a.count) then (⟨a.kind,IntKind.i64.wrap (a.count+1),combS a.kind a.val v⟩,0)
 else (⟨a.kind,IntKind.i64.wrap (a.count+1),v⟩,0)

end Go.Proofs.YtckhoadldibflaaGreatDoor
