/-
  Several texts in one: Az, M. No condition.
-/
import Derived.Test.YtckhoadldibflaaGreatDoorAx
import Derived.Test.YtckhoadldibflaaGreatDoorTab
import Derived.KernelRfl
import Derived.Test.YtckhoadldibflaaGreatDoorAw
import Derived.Lib.IndexMore
import Derived.Lib.LastIndexLaws
import Derived.Lib.Join
set_option linter.unusedVariables false
set_option linter.unusedSimpArgs false
namespace Go.Proofs.YtckhoadldibflaaGreatDoor
open Go Go.Aw
set_option maxRecDepth 100000

section
variable {d:Option Nat} {ty:TypeId} {pos:String} {aft:Array Edge} {gd:Option (Nat×Bool)} {ρ:Operand→AV} {K:List HO→Prop}
theorem A0 {x:Operand}{n:Int}(h:ρ x = .int .i64 n:=by exact rfl):Cf Tryz.prog ⟨d,.assign x,ty,pos,aft,gd⟩ ρ K (.int .i64 n):=A6 h
theorem A4 {x:Operand}{n:Int}(h:ρ x = .int .i64 n:=by exact rfl):Cf Tryz.prog ⟨d,.move x,ty,pos,aft,gd⟩ ρ K (.int .i64 n):=A1 h
theorem Bt {t:TypeId}{td:TD}{x:Operand}{n:Int}{cs:List AV}(h:ρ x = .ptr (.int .i64 n::cs):=by exact rfl)(ht:Bm TL t=some td:=by exact rfl)(ha:td.agg=false:=by exact rfl):Cf Tryz.prog ⟨d,.load t x,ty,pos,aft,gd⟩ ρ K (.int .i64 n):=De tok h ht ha
theorem Jw {x:Operand}{i:Nat}{vs:List AV}{n:Int}(h:ρ x = .tuple vs:=by exact rfl)(hv:vs[i]? = some (.int .i64 n):=by exact rfl):Cf Tryz.prog ⟨d,.extract x i,ty,pos,aft,gd⟩ ρ K (.int .i64 n):=Cc h hv
theorem A3 {x:Operand}{b:Bool}(h:ρ x = .bool b:=by exact rfl):Cf Tryz.prog ⟨d,.assign x,ty,pos,aft,gd⟩ ρ K (.bool b):=A6 h
theorem Bq {x:Operand}{b:Bool}(h:ρ x = .bool b:=by exact rfl):Cf Tryz.prog ⟨d,.move x,ty,pos,aft,gd⟩ ρ K (.bool b):=A1 h
theorem Yj {t:TypeId}{td:TD}{x:Operand}{b:Bool}{cs:List AV}(h:ρ x = .ptr (.bool b::cs):=by exact rfl)(ht:Bm TL t=some td:=by exact rfl)(ha:td.agg=false:=by exact rfl):Cf Tryz.prog ⟨d,.load t x,ty,pos,aft,gd⟩ ρ K (.bool b):=De tok h ht ha
theorem cF {x:Operand}{i:Nat}{vs:List AV}{b:Bool}(h:ρ x = .tuple vs:=by exact rfl)(hv:vs[i]? = some (.bool b):=by exact rfl):Cf Tryz.prog ⟨d,.extract x i,ty,pos,aft,gd⟩ ρ K (.bool b):=Cc h hv
theorem U8 {x:Operand}{z:Nat}{es:List (List AV)}(h:ρ x = .sl z es:=by exact rfl):Cf Tryz.prog ⟨d,.assign x,ty,pos,aft,gd⟩ ρ K (.sl z es):=A6 h
theorem K4 {x:Operand}{z:Nat}{es:List (List AV)}(h:ρ x = .sl z es:=by exact rfl):Cf Tryz.prog ⟨d,.move x,ty,pos,aft,gd⟩ ρ K (.sl z es):=A1 h
theorem Dg {t:TypeId}{td:TD}{x:Operand}{z:Nat}{es:List (List AV)}{cs:List AV}(h:ρ x = .ptr (.sl z es::cs):=by exact rfl)(ht:Bm TL t=some td:=by exact rfl)(ha:td.agg=false:=by exact rfl):Cf Tryz.prog ⟨d,.load t x,ty,pos,aft,gd⟩ ρ K (.sl z es):=De tok h ht ha
theorem Qxs {x:Operand}{i:Nat}{vs:List AV}{z:Nat}{es:List (List AV)}(h:ρ x = .tuple vs:=by exact rfl)(hv:vs[i]? = some (.sl z es):=by exact rfl):Cf Tryz.prog ⟨d,.extract x i,ty,pos,aft,gd⟩ ρ K (.sl z es):=Cc h hv
theorem N8 {x:Operand}{v:Value}(h:ρ x = .val v:=by exact rfl):Cf Tryz.prog ⟨d,.assign x,ty,pos,aft,gd⟩ ρ K (.val v):=A6 h
theorem Br {x:Operand}{v:Value}(h:ρ x = .val v:=by exact rfl):Cf Tryz.prog ⟨d,.move x,ty,pos,aft,gd⟩ ρ K (.val v):=A1 h
theorem G0 {t:TypeId}{td:TD}{x:Operand}{v:Value}{cs:List AV}(h:ρ x = .ptr (.val v::cs):=by exact rfl)(ht:Bm TL t=some td:=by exact rfl)(ha:td.agg=false:=by exact rfl):Cf Tryz.prog ⟨d,.load t x,ty,pos,aft,gd⟩ ρ K (.val v):=De tok h ht ha
theorem Qxv {x:Operand}{i:Nat}{vs:List AV}{v:Value}(h:ρ x = .tuple vs:=by exact rfl)(hv:vs[i]? = some (.val v):=by exact rfl):Cf Tryz.prog ⟨d,.extract x i,ty,pos,aft,gd⟩ ρ K (.val v):=Cc h hv
theorem Qaa {x:Operand}{l:List AV}(h:ρ x = .agg l:=by exact rfl):Cf Tryz.prog ⟨d,.assign x,ty,pos,aft,gd⟩ ρ K (.agg l):=A6 h
theorem Qma {x:Operand}{l:List AV}(h:ρ x = .agg l:=by exact rfl):Cf Tryz.prog ⟨d,.move x,ty,pos,aft,gd⟩ ρ K (.agg l):=A1 h
theorem Qla {t:TypeId}{td:TD}{x:Operand}{l:List AV}{cs:List AV}(h:ρ x = .ptr (.agg l::cs):=by exact rfl)(ht:Bm TL t=some td:=by exact rfl)(ha:td.agg=false:=by exact rfl):Cf Tryz.prog ⟨d,.load t x,ty,pos,aft,gd⟩ ρ K (.agg l):=De tok h ht ha
theorem Qxa {x:Operand}{i:Nat}{vs:List AV}{l:List AV}(h:ρ x = .tuple vs:=by exact rfl)(hv:vs[i]? = some (.agg l):=by exact rfl):Cf Tryz.prog ⟨d,.extract x i,ty,pos,aft,gd⟩ ρ K (.agg l):=Cc h hv
theorem Db {x:Operand}{s:List UInt8}(h:ρ x = .str s:=by exact rfl):Cf Tryz.prog ⟨d,.assign x,ty,pos,aft,gd⟩ ρ K (.str s):=A6 h
theorem Dh {x:Operand}{s:List UInt8}(h:ρ x = .str s:=by exact rfl):Cf Tryz.prog ⟨d,.move x,ty,pos,aft,gd⟩ ρ K (.str s):=A1 h
theorem Df {t:TypeId}{td:TD}{x:Operand}{s:List UInt8}{cs:List AV}(h:ρ x = .ptr (.str s::cs):=by exact rfl)(ht:Bm TL t=some td:=by exact rfl)(ha:td.agg=false:=by exact rfl):Cf Tryz.prog ⟨d,.load t x,ty,pos,aft,gd⟩ ρ K (.str s):=De tok h ht ha
theorem pP {x:Operand}{i:Nat}{vs:List AV}{s:List UInt8}(h:ρ x = .tuple vs:=by exact rfl)(hv:vs[i]? = some (.str s):=by exact rfl):Cf Tryz.prog ⟨d,.extract x i,ty,pos,aft,gd⟩ ρ K (.str s):=Cc h hv
theorem Qau {x:Operand}{l:List AV}(h:ρ x = .tuple l:=by exact rfl):Cf Tryz.prog ⟨d,.assign x,ty,pos,aft,gd⟩ ρ K (.tuple l):=A6 h
theorem L0 {x:Operand}{l:List AV}(h:ρ x = .tuple l:=by exact rfl):Cf Tryz.prog ⟨d,.move x,ty,pos,aft,gd⟩ ρ K (.tuple l):=A1 h
theorem Qlu {t:TypeId}{td:TD}{x:Operand}{l:List AV}{cs:List AV}(h:ρ x = .ptr (.tuple l::cs):=by exact rfl)(ht:Bm TL t=some td:=by exact rfl)(ha:td.agg=false:=by exact rfl):Cf Tryz.prog ⟨d,.load t x,ty,pos,aft,gd⟩ ρ K (.tuple l):=De tok h ht ha
theorem Qxu {x:Operand}{i:Nat}{vs:List AV}{l:List AV}(h:ρ x = .tuple vs:=by exact rfl)(hv:vs[i]? = some (.tuple l):=by exact rfl):Cf Tryz.prog ⟨d,.extract x i,ty,pos,aft,gd⟩ ρ K (.tuple l):=Cc h hv
theorem Qap {x:Operand}{l:List AV}(h:ρ x = .ptr l:=by exact rfl):Cf Tryz.prog ⟨d,.assign x,ty,pos,aft,gd⟩ ρ K (.ptr l):=A6 h
theorem Qmp {x:Operand}{l:List AV}(h:ρ x = .ptr l:=by exact rfl):Cf Tryz.prog ⟨d,.move x,ty,pos,aft,gd⟩ ρ K (.ptr l):=A1 h
theorem Qlp {t:TypeId}{td:TD}{x:Operand}{l:List AV}{cs:List AV}(h:ρ x = .ptr (.ptr l::cs):=by exact rfl)(ht:Bm TL t=some td:=by exact rfl)(ha:td.agg=false:=by exact rfl):Cf Tryz.prog ⟨d,.load t x,ty,pos,aft,gd⟩ ρ K (.ptr l):=De tok h ht ha
theorem Qxp {x:Operand}{i:Nat}{vs:List AV}{l:List AV}(h:ρ x = .tuple vs:=by exact rfl)(hv:vs[i]? = some (.ptr l):=by exact rfl):Cf Tryz.prog ⟨d,.extract x i,ty,pos,aft,gd⟩ ρ K (.ptr l):=Cc h hv
theorem B2 (l:List AV){t:TypeId}{td:TD}{x:Operand}{cs:List AV}(h:ρ x = .ptr cs:=by exact rfl)(ht:Bm TL t=some td:=by exact rfl)(ha:td.agg=true:=by exact rfl)(hl:cs.take td.size=l:=by exact rfl)(hs:Nat.beq l.length td.size=true:=by exact rfl):Cf Tryz.prog ⟨d,.load t x,ty,pos,aft,gd⟩ ρ K (.agg l):=L4 tok h ht ha hl hs
theorem Qf (cs':List AV){s f off z ft:Nat}{nm:Bool}{x:Operand}{cs:List AV}{td:TD}{gs:List (Nat×Nat×Bool×Nat)}(h:ρ x = .ptr cs:=by exact rfl)(ht:Bm TL s=some td:=by exact rfl)(hk:td.kind = .struct gs:=by exact rfl)(hf:gs[f]? = some (off,z,nm,ft):=by exact rfl)(hz:Nat.blt 0 z=true:=by exact rfl)(hc:cs.drop off=cs':=by exact rfl):Cf Tryz.prog ⟨d,.fieldAddr s x f,ty,pos,aft,gd⟩ ρ K (.ptr cs'):=Cv tok h ht hk hf hz hc
theorem Cb {s f off z ft b o:Nat}{nm:Bool}{x:Operand}{td:TD}{gs:List (Nat×Nat×Bool×Nat)}{o':Nat}(h:ρ x = .val (.pointer (some ⟨b,o,none⟩)):=by exact rfl)(ht:Bm TL s=some td:=by exact rfl)(hk:td.kind = .struct gs:=by exact rfl)(hf:gs[f]? = some (off,z,nm,ft):=by exact rfl)(hz:Nat.blt 0 z=true:=by exact rfl)(ho:o+off=o':=by exact rfl):Cf Tryz.prog ⟨d,.fieldAddr s x f,ty,pos,aft,gd⟩ ρ K (.val (.pointer (some ⟨b,o',none⟩))):=Sj tok h ht hk hf hz ho
theorem Eu (cs:List AV){t:TypeId}{x:Operand}{l:List AV}(h:ρ x = .agg l:=by exact rfl)(hc:B4 (.agg l)=cs:=by exact rfl)(hs:Ba cs=true:=by exact rfl):Cf Tryz.prog ⟨d,.box t x,ty,pos,aft,gd⟩ ρ K (.ptr cs):=Pn h hc hs
theorem Ea (l:List AV){t:TypeId}{td:TD}{gs:List (Nat×Nat×Bool×Nat)}{parts:Array (Nat×Operand)}(ht:Bm TL t=some td:=by exact rfl)(hk:td.kind = .struct gs:=by exact rfl)(h:R0 gs td.zero (Ka ρ parts.toList)=some l:=by exact rfl):Cf Tryz.prog ⟨d,.build t parts,ty,pos,aft,gd⟩ ρ K (.agg l):=rX tok ht hk h
theorem gC {s f' off z ft:Nat}{nm:Bool}{x:Operand}{cs:List AV}{td:TD}{gs:List (Nat×Nat×Bool×Nat)}{a:Int}{b:AV}{c:Int}{d1:Int}{e:Int}{f:Int}{g:Int}{h:List UInt8}(i:ρ x = .ptr cs:=by exact rfl)(ht:Bm TL s=some td:=by exact rfl)(hk:td.kind = .struct gs:=by exact rfl)(hf:gs[f']? = some (off,z,nm,ft):=by exact rfl)(hz:Nat.blt 0 z=true:=by exact rfl)(hc:cs.drop off = [.int .i64 a,b,.int .i64 c,.int .i64 d1,.int .i64 e,.int .i64 f,.int .i64 g,.str h]:=by exact rfl):Cf Tryz.prog ⟨d,.fieldAddr s x f',ty,pos,aft,gd⟩ ρ K (.ptr [.int .i64 a,b,.int .i64 c,.int .i64 d1,.int .i64 e,.int .i64 f,.int .i64 g,.str h]):=Cv tok i ht hk hf hz hc
theorem Wf {t:TypeId}{td:TD}{x:Operand}{cs:List AV}{a:Int}{b:AV}{c:Int}{d1:Int}{e:Int}{f:Int}{g:Int}{h:List UInt8}(i:ρ x = .ptr cs:=by exact rfl)(ht:Bm TL t=some td:=by exact rfl)(ha:td.agg=true:=by exact rfl)(hl:cs.take td.size = [.int .i64 a,b,.int .i64 c,.int .i64 d1,.int .i64 e,.int .i64 f,.int .i64 g,.str h]:=by exact rfl)(hs:Nat.beq 8 td.size=true:=by exact rfl):Cf Tryz.prog ⟨d,.load t x,ty,pos,aft,gd⟩ ρ K (.agg [.int .i64 a,b,.int .i64 c,.int .i64 d1,.int .i64 e,.int .i64 f,.int .i64 g,.str h]):=L4 tok i ht ha hl hs
theorem tR {t:TypeId}{x:Operand}{l:List AV}{a:Int}{b:AV}{c:Int}{d1:Int}{e:Int}{f:Int}{g:Int}{h:List UInt8}(i:ρ x = .agg l:=by exact rfl)(hc:B4 (.agg l) = [.int .i64 a,b,.int .i64 c,.int .i64 d1,.int .i64 e,.int .i64 f,.int .i64 g,.str h]:=by exact rfl)(hs:Ba [.int .i64 a,b,.int .i64 c,.int .i64 d1,.int .i64 e,.int .i64 f,.int .i64 g,.str h]=true:=by exact rfl):Cf Tryz.prog ⟨d,.box t x,ty,pos,aft,gd⟩ ρ K (.ptr [.int .i64 a,b,.int .i64 c,.int .i64 d1,.int .i64 e,.int .i64 f,.int .i64 g,.str h]):=Pn i hc hs
theorem iE {s f' off z ft:Nat}{nm:Bool}{x:Operand}{cs:List AV}{td:TD}{gs:List (Nat×Nat×Bool×Nat)}{b:AV}{c:Int}{d1:Int}{e:Int}{f:Int}{g:Int}{h:List UInt8}(i:ρ x = .ptr cs:=by exact rfl)(ht:Bm TL s=some td:=by exact rfl)(hk:td.kind = .struct gs:=by exact rfl)(hf:gs[f']? = some (off,z,nm,ft):=by exact rfl)(hz:Nat.blt 0 z=true:=by exact rfl)(hc:cs.drop off = [b,.int .i64 c,.int .i64 d1,.int .i64 e,.int .i64 f,.int .i64 g,.str h]:=by exact rfl):Cf Tryz.prog ⟨d,.fieldAddr s x f',ty,pos,aft,gd⟩ ρ K (.ptr [b,.int .i64 c,.int .i64 d1,.int .i64 e,.int .i64 f,.int .i64 g,.str h]):=Cv tok i ht hk hf hz hc
theorem wH {s f' off z ft:Nat}{nm:Bool}{x:Operand}{cs:List AV}{td:TD}{gs:List (Nat×Nat×Bool×Nat)}{c:Int}{d1:Int}{e:Int}{f:Int}{g:Int}{h:List UInt8}(i:ρ x = .ptr cs:=by exact rfl)(ht:Bm TL s=some td:=by exact rfl)(hk:td.kind = .struct gs:=by exact rfl)(hf:gs[f']? = some (off,z,nm,ft):=by exact rfl)(hz:Nat.blt 0 z=true:=by exact rfl)(hc:cs.drop off = [.int .i64 c,.int .i64 d1,.int .i64 e,.int .i64 f,.int .i64 g,.str h]:=by exact rfl):Cf Tryz.prog ⟨d,.fieldAddr s x f',ty,pos,aft,gd⟩ ρ K (.ptr [.int .i64 c,.int .i64 d1,.int .i64 e,.int .i64 f,.int .i64 g,.str h]):=Cv tok i ht hk hf hz hc
theorem wB {s f' off z ft:Nat}{nm:Bool}{x:Operand}{cs:List AV}{td:TD}{gs:List (Nat×Nat×Bool×Nat)}{d1:Int}{e:Int}{f:Int}{g:Int}{h:List UInt8}(i:ρ x = .ptr cs:=by exact rfl)(ht:Bm TL s=some td:=by exact rfl)(hk:td.kind = .struct gs:=by exact rfl)(hf:gs[f']? = some (off,z,nm,ft):=by exact rfl)(hz:Nat.blt 0 z=true:=by exact rfl)(hc:cs.drop off = [.int .i64 d1,.int .i64 e,.int .i64 f,.int .i64 g,.str h]:=by exact rfl):Cf Tryz.prog ⟨d,.fieldAddr s x f',ty,pos,aft,gd⟩ ρ K (.ptr [.int .i64 d1,.int .i64 e,.int .i64 f,.int .i64 g,.str h]):=Cv tok i ht hk hf hz hc
theorem pO {s f' off z ft:Nat}{nm:Bool}{x:Operand}{cs:List AV}{td:TD}{gs:List (Nat×Nat×Bool×Nat)}{e:Int}{f:Int}{g:Int}{h:List UInt8}(i:ρ x = .ptr cs:=by exact rfl)(ht:Bm TL s=some td:=by exact rfl)(hk:td.kind = .struct gs:=by exact rfl)(hf:gs[f']? = some (off,z,nm,ft):=by exact rfl)(hz:Nat.blt 0 z=true:=by exact rfl)(hc:cs.drop off = [.int .i64 e,.int .i64 f,.int .i64 g,.str h]:=by exact rfl):Cf Tryz.prog ⟨d,.fieldAddr s x f',ty,pos,aft,gd⟩ ρ K (.ptr [.int .i64 e,.int .i64 f,.int .i64 g,.str h]):=Cv tok i ht hk hf hz hc
theorem gQ {s f' off z ft:Nat}{nm:Bool}{x:Operand}{cs:List AV}{td:TD}{gs:List (Nat×Nat×Bool×Nat)}{f:Int}{g:Int}{h:List UInt8}(i:ρ x = .ptr cs:=by exact rfl)(ht:Bm TL s=some td:=by exact rfl)(hk:td.kind = .struct gs:=by exact rfl)(hf:gs[f']? = some (off,z,nm,ft):=by exact rfl)(hz:Nat.blt 0 z=true:=by exact rfl)(hc:cs.drop off = [.int .i64 f,.int .i64 g,.str h]:=by exact rfl):Cf Tryz.prog ⟨d,.fieldAddr s x f',ty,pos,aft,gd⟩ ρ K (.ptr [.int .i64 f,.int .i64 g,.str h]):=Cv tok i ht hk hf hz hc
theorem Qf6 {s f' off z ft:Nat}{nm:Bool}{x:Operand}{cs:List AV}{td:TD}{gs:List (Nat×Nat×Bool×Nat)}{g:Int}{h:List UInt8}(i:ρ x = .ptr cs:=by exact rfl)(ht:Bm TL s=some td:=by exact rfl)(hk:td.kind = .struct gs:=by exact rfl)(hf:gs[f']? = some (off,z,nm,ft):=by exact rfl)(hz:Nat.blt 0 z=true:=by exact rfl)(hc:cs.drop off = [.int .i64 g,.str h]:=by exact rfl):Cf Tryz.prog ⟨d,.fieldAddr s x f',ty,pos,aft,gd⟩ ρ K (.ptr [.int .i64 g,.str h]):=Cv tok i ht hk hf hz hc
theorem Qf7 {s f' off z ft:Nat}{nm:Bool}{x:Operand}{cs:List AV}{td:TD}{gs:List (Nat×Nat×Bool×Nat)}{h:List UInt8}(i:ρ x = .ptr cs:=by exact rfl)(ht:Bm TL s=some td:=by exact rfl)(hk:td.kind = .struct gs:=by exact rfl)(hf:gs[f']? = some (off,z,nm,ft):=by exact rfl)(hz:Nat.blt 0 z=true:=by exact rfl)(hc:cs.drop off = [.str h]:=by exact rfl):Cf Tryz.prog ⟨d,.fieldAddr s x f',ty,pos,aft,gd⟩ ρ K (.ptr [.str h]):=Cv tok i ht hk hf hz hc
theorem Av {x y:Operand}{t yt:TypeId}{k:IntKind}{n m:Int}(hx:ρ x = .int k n:=by exact rfl)(hy:ρ y = .int k m:=by exact rfl):Cf Tryz.prog ⟨d,.binOp .eql t x y yt,ty,pos,aft,gd⟩ ρ K (.bool (n==m)):=Rv hx hy
theorem B9 {x y:Operand}{t yt:TypeId}{k:IntKind}{n m:Int}(hx:ρ x = .int k n:=by exact rfl)(hy:ρ y = .int k m:=by exact rfl):Cf Tryz.prog ⟨d,.binOp .neq t x y yt,ty,pos,aft,gd⟩ ρ K (.bool (n != m)):=L6 hx hy
theorem B7 {x y:Operand}{t yt:TypeId}{k:IntKind}{n m:Int}(hx:ρ x = .int k n:=by exact rfl)(hy:ρ y = .int k m:=by exact rfl):Cf Tryz.prog ⟨d,.binOp .lss t x y yt,ty,pos,aft,gd⟩ ρ K (.bool (decide (n<m))):=vY hx hy
theorem D2 {x y:Operand}{t yt:TypeId}{k:IntKind}{n m:Int}(hx:ρ x = .int k n:=by exact rfl)(hy:ρ y = .int k m:=by exact rfl):Cf Tryz.prog ⟨d,.binOp .gtr t x y yt,ty,pos,aft,gd⟩ ρ K (.bool (decide (m<n))):=Ou hx hy
theorem Nj {x y:Operand}{t yt:TypeId}{k:IntKind}{n m:Int}(hx:ρ x = .int k n:=by exact rfl)(hy:ρ y = .int k m:=by exact rfl):Cf Tryz.prog ⟨d,.binOp .leq t x y yt,ty,pos,aft,gd⟩ ρ K (.bool (decide (n≤m))):=mT hx hy
theorem F6 {x y:Operand}{t yt:TypeId}{k:IntKind}{n m:Int}(hx:ρ x = .int k n:=by exact rfl)(hy:ρ y = .int k m:=by exact rfl):Cf Tryz.prog ⟨d,.binOp .geq t x y yt,ty,pos,aft,gd⟩ ρ K (.bool (decide (m≤n))):=oR hx hy
theorem Ei {x y:Operand}{t yt:TypeId}{n m r:Int}(hx:ρ x = .int .i64 n:=by exact rfl)(hy:ρ y = .int .i64 m:=by exact rfl)(hr:n+m=r:=by exact rfl)(hb : -9223372036854775808≤r∧r≤9223372036854775807:=by constructor <;> omega):Cf Tryz.prog ⟨d,.binOp .add t x y yt,ty,pos,aft,gd⟩ ρ K (.int .i64 r):=vX hx hy hr hb
theorem Fz {x:Operand}{t:TypeId}{b:Bool}(hx:ρ x = .bool b:=by exact rfl):Cf Tryz.prog ⟨d,.unOp .not t x,ty,pos,aft,gd⟩ ρ K (.bool (!b)):=P_not hx
theorem Et {c a y:Operand}{b x:Bool}(hc:ρ c = .bool b:=by exact rfl)(ha:ρ a = .opt [(b,true)] (.bool x):=by exact rfl)(hy:ρ y = .bool false:=by exact rfl):Cf Tryz.prog ⟨d,.pick c a y,ty,pos,aft,gd⟩ ρ K (.bool (b&&x)):=cU hc ha hy
theorem Cy {c a y:Operand}{b x:Bool}(hc:ρ c = .bool b:=by exact rfl)(ha:ρ a = .bool true:=by exact rfl)(hy:ρ y = .opt [(b,false)] (.bool x):=by exact rfl):Cf Tryz.prog ⟨d,.pick c a y,ty,pos,aft,gd⟩ ρ K (.bool (b||x)):=iU hc ha hy
theorem Qc {f:FuncId}{args:Array Operand}{ats:Array TypeId}{l:List AV}{r:AV}(ha:args.toList.map ρ=l)(hc:Ap Tryz.prog f l r)(hf:Oo Tryz.prog f=true:=by kernel_rfl)(hcal:ρ (.func f) = .fn (.func f) [] []:=by exact rfl):Cf Tryz.prog ⟨d,.call ⟨.value (.func f),args,ats⟩,ty,pos,aft,gd⟩ ρ K r:=Ed hf hcal ha hc
end
section
variable {ops:Array Oper} {K:St→Prop} {s:St} {d:Option Nat} {op:Op} {t:TypeId} {pos:String} {after:Array Edge} {r:List Oper} {x y:AV} {o:Oper} {G:List (Bool×Bool)} {b:Bool} {c1 c2:Code} {Q Q':Exit→St→Prop} {N:St→Prop} {id:Nat}
theorem Qp (h:Cf Tryz.prog ⟨d,op,t,pos,after,none⟩ (Ej s.sl) (fun _=>True) x)(k:AOL Tryz.prog ops K r ⟨D0 d x s.sl,s.H,s.n⟩)(hd:Lz d s.n=true:=by exact rfl):AOL Tryz.prog ops K (⟨d,op,t,pos,after,none⟩::r) s:=AOL.p h hd k
theorem B0 (k:Nat)(cs':List AV)(H2:List HO){b o:Nat}{td:TD}{TT t':TypeId}{cs:List AV}{v:AV}{x1 y1:Operand}(kk:AOL Tryz.prog ops K r ⟨D0 d .junk s.sl,H2,s.n⟩)(h:Ej s.sl x1 = .val (.pointer (some ⟨b,o,none⟩)):=by exact rfl)(hv:Ej s.sl y1=v:=by exact rfl)(ht:Bm TL t'=some td:=by exact rfl)(hk:s.H[k]? = some (.box b TT cs):=by exact rfl)(hs:Ba (B4 v)=true:=by exact rfl)(hl:Nat.beq (B4 v).length td.size=true:=by exact rfl)(hb:Nat.ble (o+td.size) cs.length=true:=by exact rfl)(hc:F7 cs o (B4 v)=cs':=by exact rfl)(hH2:s.H.set k (.box b TT cs')=H2:=by exact rfl)(hd:Lz d s.n=true:=by exact rfl):AOL Tryz.prog ops K (⟨d,.store t' x1 y1,t,pos,after,none⟩::r) s:=AOL.e (Be (k:=k) tok h hv ht hk hs hl hb hc hH2) hd fun x' H' e=>by obtain ⟨e1,e2⟩:=e;subst e1;subst e2;exact kk
abbrev Iq (n:Int):AV:=.int .i64 n
theorem iN {α:Type}{b:Bool}[Decidable (b=true)]{x y:α}(h:b=false):(if b=true then x else y)=y:=if_neg (Bool.eq_false_iff.mp h)
theorem Qe {R:AV→List HO→Prop}(h:Kw Tryz.prog ⟨d,op,t,pos,after,none⟩ (Ej s.sl) s.H R)(k:∀x H',R x H'→AOL Tryz.prog ops K r ⟨D0 d x s.sl,H',s.n⟩)(hd:Lz d s.n=true:=by exact rfl):AOL Tryz.prog ops K (⟨d,op,t,pos,after,none⟩::r) s:=AOL.e h hd k
theorem Qw {sl:List (Nat×AV)}{L:List (Nat×AV)}(hw:Gj ops o sl=some G:=by exact rfl)(hL:iB G sl L:=by first | exact trivial | exact ⟨Ent.Aao _ _,trivial⟩ | exact ⟨Ent.Aao _ _,jG.suf _ _ _,trivial⟩):Gj ops o sl=some G∧iB G sl L:=⟨hw,hL⟩
theorem Qg (L:List (Nat×AV))(w:Gj ops o s.sl=some G∧iB G s.sl L)(h:Cf Tryz.prog o (Ej (L++s.sl)) (fun _=>True) y)(k:AOL Tryz.prog ops K r ⟨D0 o.dst (.opt G y) s.sl,s.H,s.n⟩)(hd:Lz o.dst s.n=true:=by exact rfl):AOL Tryz.prog ops K (o::r) s:=AOL.Aap G L w.1 (iB.all w.2) (fun _=>h) hd k
theorem Ad (h:AOL Tryz.prog ops (Ih (AW Tryz.prog c2 Q) Q .normal) ops.toList s):AW Tryz.prog (.seq (.region id ops false) c2) Q s:=AW.seq (AW.region h)
theorem Aa (h:N s):AOL Tryz.prog ops (Ih N Q .normal) [] s:=AOL.nil (Af h)
theorem By {ops':Array Oper}(h:AOL Tryz.prog ops' (Ih (AW Tryz.prog c2 Q) Q .normal) ops'.toList s):AOL Tryz.prog ops (Ih (AW Tryz.prog (.seq (.region id ops' false) c2) Q) Q' .normal) [] s:=AOL.nil (Af (AW.seq (AW.region h)))
theorem Au {c:Operand}{x y:Code}(ht:b=true→AW Tryz.prog x Q s)(hf:b=false→AW Tryz.prog y Q s)(hb:Ej s.sl c = .bool b:=by exact rfl):AW Tryz.prog (.cond c x y) Q s:=AW.cond hb ht hf
theorem Bl (h:N s):AW Tryz.prog .skip (Ih N Q) s:=AW.skip (Af h)
theorem Cx (h:Q .ret s):AW Tryz.prog .ret (Ih N Q) s:=AW.ret (Ai h)
theorem Qr {H:List HO}{l:List ResultVar}{r:AV}(x:AV)(h:Ae [x]=r)(hr:ResL Tryz.prog TL s l [x]:=by exact .cons (.tmp _ _ rfl) .nil)(hs:H.Sublist s.H:=by exact .refl _):(Exit.ret = .normal∨Exit.ret = .ret)∧∃xs,ResL Tryz.prog TL s l xs∧H.Sublist s.H∧Ae xs=r:=⟨.inr rfl,[x],hr,hs,h⟩
theorem L1 {H:List HO}{l:List ResultVar}{r:AV}(x y:AV)(h:Ae [x,y]=r)(hr:ResL Tryz.prog TL s l [x,y]:=by exact .cons (.tmp _ _ rfl) (.cons (.tmp _ _ rfl) .nil))(hs:H.Sublist s.H:=by exact .refl _):(Exit.ret = .normal∨Exit.ret = .ret)∧∃xs,ResL Tryz.prog TL s l xs∧H.Sublist s.H∧Ae xs=r:=⟨.inr rfl,[x,y],hr,hs,h⟩
end
section
variable {ops:Array Oper} {K:List HO→Prop} {Q:St→Prop} {s:St} {o:Oper} {x y:AV} {G:List (Bool×Bool)} {listed:Array Bool}
theorem Qn (i:Nat)(ho:ops[i]? = some o)(h:Cf Tryz.prog o (Ej s.sl) K x)(k:Hs Tryz.prog ops K Q (listed.setIfInBounds i true) ⟨D0 o.dst x s.sl,s.H,s.n⟩)(hr:(Region.ready .any ops listed).contains i=true:=by kernel_rfl)(hf:Region.free .any ops listed i=true:=by kernel_rfl)(hd:Lz o.dst s.n=true:=by exact rfl)(hg:o.guard=none:=by exact rfl):Hs Tryz.prog ops K Q listed s:=Hs.pure listed s i o x ho hr hf hd (.run hg h) k
theorem Qo (i:Nat)(ho:ops[i]? = some o)(L:List (Nat×AV))(w:Gj ops o s.sl=some G∧iB G s.sl L)(h:Cf Tryz.prog o (Ej (L++s.sl)) K y)(k:Hs Tryz.prog ops K Q (listed.setIfInBounds i true) ⟨D0 o.dst (.opt G y) s.sl,s.H,s.n⟩)(hr:(Region.ready .any ops listed).contains i=true:=by kernel_rfl)(hf:Region.free .any ops listed i=true:=by kernel_rfl)(hd:Lz o.dst s.n=true:=by exact rfl):Hs Tryz.prog ops K Q listed s:=Hs.pure listed s i o _ ho hr hf hd (.opt G y L w.1 (iB.all w.2) (fun _=>h) rfl) k
end

abbrev Aq:=List UInt8

def bt (s:Aq)(i:Nat):UInt8:=s.getD i 0
theorem D6 {s:Aq}{i:Nat}(h:i<s.length):s[i]? = some (bt s i):=by simp [bt,List.getD_eq_getElem?_getD,List.getElem?_eq_getElem h]

def C1 (c:UInt8):Bool:=decide (48≤(c.toNat:Int))&&decide ((c.toNat:Int)≤57)
def F1 (c:UInt8):Bool:=(((c.toNat:Int)==95)||(decide (97≤(c.toNat:Int))&&decide ((c.toNat:Int)≤122)))||(decide (65≤(c.toNat:Int))&&decide ((c.toNat:Int)≤90))
def Hg (c:UInt8):Bool:=F1 c||C1 c
def Xe (c:UInt8):Bool:=!F1 c && !C1 c
def fR (c:UInt8):Bool:=(c.toNat:Int) != 10

def C3 (p:UInt8→Bool):Aq→Nat
 | []=>0
 | c::r=>if p c then C3 p r+1 else 0

structure Tok where
 kind:Int
 text:Aq
 pos:Int
deriving DecidableEq
structure Fo where
 tok:Tok
 bytes:Int
 pos:Int
 err:Int
deriving DecidableEq
def Jx:Tok:=⟨0,[],0⟩
def tA:Fo:=⟨Jx,0,0,0⟩
def Lv (pos err:Int):Fo:=⟨Jx,0,pos,err⟩
def fA (kind:Int)(text:Aq)(bytes:Int):Fo:=⟨⟨kind,text,0⟩,bytes,0,0⟩

def J4 (s:Aq):Fo:=if !F1 (bt s 0) then tA else if decide (24<(C3 Hg s:Int)) then Lv 0 8 else fA 0 (s.take (C3 Hg s)) (C3 Hg s)

def jD (c:UInt8):Int:=IntKind.u8.wrap ((c.toNat:Int)-48)
def J6:Aq→Int→Int×Int
 | [],n=>(n,0)
 | c::r,n=>if decide (1099511627776<10*n+jD c) then (0,2) else J6 r (10*n+jD c)
def U6 (s:Aq):Int×Int:=if (s == [])||decide ((C3 C1 s:Int)<(s.length:Int)) then (0,4) else J6 s 0

def Fh (s:Aq):Fo:=
 if ((C3 C1 s:Int)==0) then tA
 else if ((U6 (s.take (C3 C1 s))).2 != 0) then Lv 0 (U6 (s.take (C3 C1 s))).2
 else if (decide ((C3 C1 s:Int)<(s.length:Int))&&F1 (bt s (C3 C1 s))) then Lv (C3 C1 s) 4
 else fA 1 (s.take (C3 C1 s)) (C3 C1 s)

def Nk:Aq:=[48,49,50,51,52,53,54,55,56,57,97,98,99,100,101,102]
abbrev Yd (c:UInt8):Int:=Lib.indexByte Nk c
def Ue (n:Int):UInt8:=UInt8.ofNat (IntKind.u8.wrap n).toNat

def Io (s:Aq):UInt8×Int:=
 if decide (2≤(s.length:Int))&&(((bt s 1).toNat:Int)==34||((bt s 1).toNat:Int)==92) then (bt s 1,2)
 else if decide (4≤(s.length:Int))&&(((bt s 1).toNat:Int)==120) then
  if decide (0≤Yd (bt s 2))&&decide (0≤Yd (bt s 3)) then (Ue (16*Yd (bt s 2)+Yd (bt s 3)),4) else (0,0)
 else (0,0)

def Gw (s:Aq):Nat→Nat→Aq→Fo
  | 0,_,_=>Lv s.length 4
  | n+1,i,b=>
    if decide ((i:Int)<(s.length:Int)) then
      if (((bt s i).toNat:Int)==34) then
        if decide (64<(b.length:Int)) then Lv 0 13 else fA 2 b ((i:Int)+1)
      else if (((bt s i).toNat:Int)==92) then
        if ((Io (s.drop i)).2==0) then Lv i 4 else Gw s n (i+(Io (s.drop i)).2.toNat) (b ++ [(Io (s.drop i)).1])
      else if (decide (((bt s i).toNat:Int)<32)||decide (126<((bt s i).toNat:Int))) then Lv i 4
      else Gw s n (i+1) (b ++ [bt s i])
    else Lv s.length 4
def Ix (s:Aq):Fo:=if (((bt s 0).toNat:Int) != 34) then tA else Gw s (s.length+1) 1 []

def Zp:List Aq:=[[60,61],[62,61],[61,61],[33,61],[40],[41],[123],[125],[44],[46],[58],[59],[43],[45],[60],[62],[61]]
def E4 (s:Aq):List Aq→Fo
 | []=>Lv 0 4
 | x::r=>if Lib.hasPrefix s x then fA 3 x x.length else E4 s r
def Ru (s:Aq):Fo:=E4 s Zp

def N9 (s:Aq):Int:=if (((bt s 0).toNat:Int)==35) then C3 fR s else if decide (0≤Lib.indexByte [32,9,13,10] (bt s 0)) then 1 else 0

def Lx (f:Fo):Bool:=decide (0<f.bytes)||(f.err != 0)
def Cw (s:Aq):Fo:=if Lx (J4 s) then J4 s else if Lx (Fh s) then Fh s else if Lx (Ix s) then Ix s else Ru s

def He (s:Aq):Nat→Nat→List Tok→List Tok×Int×Int
  | 0,_,_=>([],0,0)
  | n+1,i,out=>
    if decide ((i:Int)<(s.length:Int)) then
      if decide (0<N9 (s.drop i)) then He s n (i+(N9 (s.drop i)).toNat) out
      else if ((Cw (s.drop i)).err != 0) then ([],(i:Int)+(Cw (s.drop i)).pos,(Cw (s.drop i)).err)
      else He s n (i+(Cw (s.drop i)).bytes.toNat) (out ++ [⟨(Cw (s.drop i)).tok.kind,(Cw (s.drop i)).tok.text,i⟩])
    else (out,0,0)
def F3 (s:Aq):List Tok×Int×Int:=if decide (65536<(s.length:Int)) then ([],0,13) else He s (s.length+1) 0 []

def posS (s:Aq)(k:Int):Int×Int×Int:=
 if decide (65536<(s.length:Int)) then (0,0,13)
 else if (decide (k<0)||decide ((s.length:Int)<k)) then (0,0,2)
 else ((Lib.countByte (s.take k.toNat) 10:Int)+1,k-Lib.lastIndex (s.take k.toNat) [10],0)

def Tn:Aq:=[32,97,108,108,32,97,108,116,32,97,110,100,32,98,111,111,108,32,98,121,32,99,111,117,110,116,32,102,97,108,115,101,32,102,105,114,115,116,32,105,102,32,105,110,116,32,108,97,99,107,115,32,108,97,115,116,32,109,97,116,99,104,32,109,97,120,32,109,105,110,32,110,111,116,32,111,114,32,112,108,117,115,32,113,117,101,114,121,32,114,101,116,117,114,110,32,115,101,113,32,115,116,114,105,110,103,32,115,117,109,32,116,105,109,101,32,116,114,117,101,32,116,121,112,101,32,119,104,101,114,101,32,119,105,116,104,105,110,32]
def iC (s:Aq):Bool:=(!(s == []) && !Lib.contains s [32])&&Lib.contains Tn ([32]++s ++ [32])

def Gn (p:UInt8→Bool):Aq→Int
 | []=>-1
 | c::r=>if p c then 0 else if Gn p r = -1 then -1 else Gn p r+1
def Tm (s:Aq):Int:=
 if (((s == [])||decide (24<(s.length:Int)))||C1 (bt s 0))||iC s then 8 else if decide (0≤Gn Xe s) then 8 else 0

def Jt (c:UInt8):Aq:=
 if (((c.toNat:Int)==34)||((c.toNat:Int)==92)) then [92,c]
 else if (decide ((c.toNat:Int)<32)||decide (126<(c.toNat:Int))) then [92,120,bt Nk (c.toNat / 16),bt Nk (c.toNat % 16)]
 else [c]
def Dd:Aq→Aq
 | []=>[]
 | c::r=>Jt c++Dd r
def Ja (s:Aq):Aq×Int:=if decide (64<(s.length:Int)) then ([],13) else ([34]++Dd s ++ [34],0)

def U7 (s:Aq):Bool:=
 (s == [97,108,108])||(s == [97,108,116])||(s == [97,110,100])||(s == [98,111,111,108])||(s == [98,121])||(s == [99,111,117,110,116])||(s == [102,97,108,115,101])||(s == [102,105,114,115,116])||(s == [105,102])||(s == [105,110,116])||(s == [108,97,99,107,115])||(s == [108,97,115,116])||(s == [109,97,116,99,104])||(s == [109,97,120])||(s == [109,105,110])||(s == [110,111,116])||(s == [111,114])||(s == [112,108,117,115])||(s == [113,117,101,114,121])||(s == [114,101,116,117,114,110])||(s == [115,101,113])||(s == [115,116,114,105,110,103])||(s == [115,117,109])||(s == [116,105,109,101])||(s == [116,114,117,101])||(s == [116,121,112,101])||(s == [119,104,101,114,101])||(s == [119,105,116,104,105,110])
def pL (c:UInt8):Bool:=((((c.toNat:Int)==32)||((c.toNat:Int)==9))||((c.toNat:Int)==13))||((c.toNat:Int)==10)
def X4 (c:UInt8):Bool:=((decide (32≤(c.toNat:Int))&&decide ((c.toNat:Int)≤126))&&((c.toNat:Int) != 34))&&((c.toNat:Int) != 92)
def uI (c:UInt8):Int:=if C1 c then jD c else if decide (97≤(c.toNat:Int))&&decide ((c.toNat:Int)≤102) then IntKind.u8.wrap ((c.toNat:Int)-97)+10 else -1
def Wu (s:Aq):Int:=
 if ((((s == [])||decide (24<(s.length:Int))) || !F1 (bt s 0))||((C3 Hg s:Int) != (s.length:Int)))||U7 s then 8 else 0
def yB (s:Aq):Int×Int:=if (s == []) then (0,4) else if s.all C1 then J6 s 0 else (0,4)
def I1 (c:UInt8):Aq:=
 if X4 c then [c] else if (((c.toNat:Int)==34)||((c.toNat:Int)==92)) then [92,c] else [92,120,bt Nk (c.toNat / 16),bt Nk (c.toNat % 16)]
def C6:Aq→Aq
 | []=>[]
 | c::r=>I1 c++C6 r
def N1 (s:Aq):Aq×Int:=if decide (64<(s.length:Int)) then ([],13) else ([34]++C6 s ++ [34],0)

def fT (s:Aq)(i:Nat):UInt8×Int:=
 if decide ((s.length:Int)≤(i:Int)+1) then (0,0)
 else if (((bt s (i+1)).toNat:Int)==34||((bt s (i+1)).toNat:Int)==92) then (bt s (i+1),(i:Int)+2)
 else if ((((bt s (i+1)).toNat:Int) != 120||decide ((s.length:Int)≤(i:Int)+3))||decide (uI (bt s (i+2))<0))||decide (uI (bt s (i+3))<0) then (0,0)
 else (Ue (16*uI (bt s (i+2))+uI (bt s (i+3))),(i:Int)+4)

def Rf (s:Aq)(k:Nat):Nat→Nat→Aq→Aq×Int×Int
  | 0,_,_=>([],s.length,4)
  | n+1,i,b=>
    if decide ((s.length:Int)≤(i:Int)) then ([],s.length,4)
    else if (((bt s i).toNat:Int)==34) then if decide (64<(b.length:Int)) then ([],k,13) else (b,(i:Int)+1,0)
    else if X4 (bt s i) then Rf s k n (i+1) (b ++ [bt s i])
    else if (((bt s i).toNat:Int) != 92)||((fT s i).2==0) then ([],i,4)
    else Rf s k n (fT s i).2.toNat (b ++ [(fT s i).1])
def jH (s:Aq)(k:Nat):Aq×Int×Int:=Rf s k (s.length+1) (k+1) []

def wG (c:UInt8):Bool:=
 ((c.toNat:Int)==40)||((c.toNat:Int)==41)||((c.toNat:Int)==123)||((c.toNat:Int)==125)||((c.toNat:Int)==44)||((c.toNat:Int)==46)||((c.toNat:Int)==58)||((c.toNat:Int)==59)||((c.toNat:Int)==43)||((c.toNat:Int)==45)||((c.toNat:Int)==60)||((c.toNat:Int)==62)||((c.toNat:Int)==61)
abbrev wD (c:UInt8):Bool:=((((c.toNat:Int)==60)||((c.toNat:Int)==62))||((c.toNat:Int)==61))||((c.toNat:Int)==33)
def mM (s:Aq)(k:Nat):Int:=
 if (wD (bt s k)&&decide ((k:Int)+1<(s.length:Int)))&&(((bt s (k+1)).toNat:Int)==61) then 2 else if wG (bt s k) then 1 else 0

def Uh (s:Aq)(k:Nat):Nat:=k+C3 Hg (s.drop k)
def K2 (s:Aq)(k:Nat):Nat:=k+C3 C1 (s.drop k)

def Kf (s:Aq)(k:Nat):Tok×Int×Int:=
 if F1 (bt s k) then
  if decide (24<(Uh s k:Int)-(k:Int)) then (Jx,k,8) else (⟨0,(s.take (Uh s k)).drop k,k⟩,Uh s k,0)
 else if C1 (bt s k) then
  if ((yB ((s.take (K2 s k)).drop k)).2 != 0) then (Jx,k,(yB ((s.take (K2 s k)).drop k)).2)
  else if (decide ((K2 s k:Int)<(s.length:Int))&&F1 (bt s (K2 s k))) then (Jx,K2 s k,4)
  else (⟨1,(s.take (K2 s k)).drop k,k⟩,K2 s k,0)
 else if (((bt s k).toNat:Int)==34) then
  if ((jH s k).2.2 != 0) then (Jx,(jH s k).2.1,(jH s k).2.2) else (⟨2,(jH s k).1,k⟩,(jH s k).2.1,0)
 else if (mM s k==0) then (Jx,k,4)
 else (⟨3,(s.take (k+(mM s k).toNat)).drop k,k⟩,(k:Int)+mM s k,0)

def Nc (s:Aq):Nat→Nat→Bool→List Tok→List Tok×Int×Int
  | 0,_,_,_=>([],0,0)
  | n+1,i,comment,out=>
    if decide ((i:Int)<(s.length:Int)) then
      if ((comment||pL (bt s i))||(((bt s i).toNat:Int)==35)) then Nc s n (i+1) ((comment||(((bt s i).toNat:Int)==35))&&(((bt s i).toNat:Int) != 10)) out
      else if ((Kf s i).2.2 != 0) then ([],(Kf s i).2.1,(Kf s i).2.2)
      else Nc s n (Kf s i).2.1.toNat false (out ++ [(Kf s i).1])
    else (out,0,0)
def eM (s:Aq):List Tok×Int×Int:=if decide (65536<(s.length:Int)) then ([],0,13) else Nc s (s.length+1) 0 false []

def bA:Aq→Int×Int→Int×Int
 | [],p=>p
 | c::r,p=>bA r (if ((c.toNat:Int)==10) then (p.1+1,1) else (p.1,p.2+1))
def posR (s:Aq)(k:Int):Int×Int×Int:=
 if decide (65536<(s.length:Int)) then (0,0,13)
 else if (decide (k<0)||decide ((s.length:Int)<k)) then (0,0,2)
 else ((bA (s.take k.toNat) (1,1)).1,(bA (s.take k.toNat) (1,1)).2,0)

@[reducible] def cTok (t : Tok) : List AV := [.int .i64 t.kind, .str t.text, .int .i64 t.pos]
@[reducible] def cFo (f : Fo) : List AV := [.int .i64 f.tok.kind, .str f.tok.text, .int .i64 f.tok.pos, .int .i64 f.bytes, .int .i64 f.pos, .int .i64 f.err]
def Ym (t:Tok):List AV:=cTok t

end Go.Proofs.YtckhoadldibflaaGreatDoor
