/-
  Several texts in one: Az, M, M2, M3, M4, M5, M7, M6, M8, M9, M10. No condition.
-/
import Derived.Test.YtkddpedfbicbeaaGreatDoorAx
import Derived.Test.YtkddpedfbicbeaaGreatDoorTab
import Derived.KernelRfl
import Derived.Test.YtkddpedfbicbeaaGreatDoorAw
import Derived.IntWalk
set_option linter.unusedVariables false
set_option linter.unusedSimpArgs false
namespace Go.Proofs.YtkddpedfbicbeaaGreatDoor
open Go Go.Aw
set_option maxRecDepth 100000

section
variable {d:Option Nat} {ty:TypeId} {pos:String} {aft:Array Edge} {gd:Option (Nat×Bool)} {ρ:Operand→AV} {K:List HO→Prop}
theorem Qai {x:Operand}{n:Int}(h:ρ x = .int .i64 n:=by exact rfl):OpP Tryz.prog ⟨d,.assign x,ty,pos,aft,gd⟩ ρ K (.int .i64 n):=P_assign h
theorem Qmi {x:Operand}{n:Int}(h:ρ x = .int .i64 n:=by exact rfl):OpP Tryz.prog ⟨d,.move x,ty,pos,aft,gd⟩ ρ K (.int .i64 n):=P_move h
theorem Qli {t:TypeId}{td:TD}{x:Operand}{n:Int}{cs:List AV}(h:ρ x = .ptr (.int .i64 n::cs):=by exact rfl)(ht:tget TL t=some td:=by exact rfl)(ha:td.agg=false:=by exact rfl):OpP Tryz.prog ⟨d,.load t x,ty,pos,aft,gd⟩ ρ K (.int .i64 n):=P_load_ptr tok h ht ha
theorem Qxi {x:Operand}{i:Nat}{vs:List AV}{n:Int}(h:ρ x = .tuple vs:=by exact rfl)(hv:vs[i]? = some (.int .i64 n):=by exact rfl):OpP Tryz.prog ⟨d,.extract x i,ty,pos,aft,gd⟩ ρ K (.int .i64 n):=P_extract h hv
theorem Qab {x:Operand}{b:Bool}(h:ρ x = .bool b:=by exact rfl):OpP Tryz.prog ⟨d,.assign x,ty,pos,aft,gd⟩ ρ K (.bool b):=P_assign h
theorem Qmb {x:Operand}{b:Bool}(h:ρ x = .bool b:=by exact rfl):OpP Tryz.prog ⟨d,.move x,ty,pos,aft,gd⟩ ρ K (.bool b):=P_move h
theorem Qlb {t:TypeId}{td:TD}{x:Operand}{b:Bool}{cs:List AV}(h:ρ x = .ptr (.bool b::cs):=by exact rfl)(ht:tget TL t=some td:=by exact rfl)(ha:td.agg=false:=by exact rfl):OpP Tryz.prog ⟨d,.load t x,ty,pos,aft,gd⟩ ρ K (.bool b):=P_load_ptr tok h ht ha
theorem Qxb {x:Operand}{i:Nat}{vs:List AV}{b:Bool}(h:ρ x = .tuple vs:=by exact rfl)(hv:vs[i]? = some (.bool b):=by exact rfl):OpP Tryz.prog ⟨d,.extract x i,ty,pos,aft,gd⟩ ρ K (.bool b):=P_extract h hv
theorem Qas {x:Operand}{z:Nat}{es:List (List AV)}(h:ρ x = .sl z es:=by exact rfl):OpP Tryz.prog ⟨d,.assign x,ty,pos,aft,gd⟩ ρ K (.sl z es):=P_assign h
theorem Qms {x:Operand}{z:Nat}{es:List (List AV)}(h:ρ x = .sl z es:=by exact rfl):OpP Tryz.prog ⟨d,.move x,ty,pos,aft,gd⟩ ρ K (.sl z es):=P_move h
theorem Qls {t:TypeId}{td:TD}{x:Operand}{z:Nat}{es:List (List AV)}{cs:List AV}(h:ρ x = .ptr (.sl z es::cs):=by exact rfl)(ht:tget TL t=some td:=by exact rfl)(ha:td.agg=false:=by exact rfl):OpP Tryz.prog ⟨d,.load t x,ty,pos,aft,gd⟩ ρ K (.sl z es):=P_load_ptr tok h ht ha
theorem Qxs {x:Operand}{i:Nat}{vs:List AV}{z:Nat}{es:List (List AV)}(h:ρ x = .tuple vs:=by exact rfl)(hv:vs[i]? = some (.sl z es):=by exact rfl):OpP Tryz.prog ⟨d,.extract x i,ty,pos,aft,gd⟩ ρ K (.sl z es):=P_extract h hv
theorem Qav {x:Operand}{v:Value}(h:ρ x = .val v:=by exact rfl):OpP Tryz.prog ⟨d,.assign x,ty,pos,aft,gd⟩ ρ K (.val v):=P_assign h
theorem Qmv {x:Operand}{v:Value}(h:ρ x = .val v:=by exact rfl):OpP Tryz.prog ⟨d,.move x,ty,pos,aft,gd⟩ ρ K (.val v):=P_move h
theorem Qlv {t:TypeId}{td:TD}{x:Operand}{v:Value}{cs:List AV}(h:ρ x = .ptr (.val v::cs):=by exact rfl)(ht:tget TL t=some td:=by exact rfl)(ha:td.agg=false:=by exact rfl):OpP Tryz.prog ⟨d,.load t x,ty,pos,aft,gd⟩ ρ K (.val v):=P_load_ptr tok h ht ha
theorem Qxv {x:Operand}{i:Nat}{vs:List AV}{v:Value}(h:ρ x = .tuple vs:=by exact rfl)(hv:vs[i]? = some (.val v):=by exact rfl):OpP Tryz.prog ⟨d,.extract x i,ty,pos,aft,gd⟩ ρ K (.val v):=P_extract h hv
theorem Qaa {x:Operand}{l:List AV}(h:ρ x = .agg l:=by exact rfl):OpP Tryz.prog ⟨d,.assign x,ty,pos,aft,gd⟩ ρ K (.agg l):=P_assign h
theorem Qma {x:Operand}{l:List AV}(h:ρ x = .agg l:=by exact rfl):OpP Tryz.prog ⟨d,.move x,ty,pos,aft,gd⟩ ρ K (.agg l):=P_move h
theorem Qla {t:TypeId}{td:TD}{x:Operand}{l:List AV}{cs:List AV}(h:ρ x = .ptr (.agg l::cs):=by exact rfl)(ht:tget TL t=some td:=by exact rfl)(ha:td.agg=false:=by exact rfl):OpP Tryz.prog ⟨d,.load t x,ty,pos,aft,gd⟩ ρ K (.agg l):=P_load_ptr tok h ht ha
theorem Qxa {x:Operand}{i:Nat}{vs:List AV}{l:List AV}(h:ρ x = .tuple vs:=by exact rfl)(hv:vs[i]? = some (.agg l):=by exact rfl):OpP Tryz.prog ⟨d,.extract x i,ty,pos,aft,gd⟩ ρ K (.agg l):=P_extract h hv
theorem Qat {x:Operand}{s:List UInt8}(h:ρ x = .str s:=by exact rfl):OpP Tryz.prog ⟨d,.assign x,ty,pos,aft,gd⟩ ρ K (.str s):=P_assign h
theorem Qmt {x:Operand}{s:List UInt8}(h:ρ x = .str s:=by exact rfl):OpP Tryz.prog ⟨d,.move x,ty,pos,aft,gd⟩ ρ K (.str s):=P_move h
theorem Qlt {t:TypeId}{td:TD}{x:Operand}{s:List UInt8}{cs:List AV}(h:ρ x = .ptr (.str s::cs):=by exact rfl)(ht:tget TL t=some td:=by exact rfl)(ha:td.agg=false:=by exact rfl):OpP Tryz.prog ⟨d,.load t x,ty,pos,aft,gd⟩ ρ K (.str s):=P_load_ptr tok h ht ha
theorem Qxt {x:Operand}{i:Nat}{vs:List AV}{s:List UInt8}(h:ρ x = .tuple vs:=by exact rfl)(hv:vs[i]? = some (.str s):=by exact rfl):OpP Tryz.prog ⟨d,.extract x i,ty,pos,aft,gd⟩ ρ K (.str s):=P_extract h hv
theorem Qau {x:Operand}{l:List AV}(h:ρ x = .tuple l:=by exact rfl):OpP Tryz.prog ⟨d,.assign x,ty,pos,aft,gd⟩ ρ K (.tuple l):=P_assign h
theorem Qmu {x:Operand}{l:List AV}(h:ρ x = .tuple l:=by exact rfl):OpP Tryz.prog ⟨d,.move x,ty,pos,aft,gd⟩ ρ K (.tuple l):=P_move h
theorem Qlu {t:TypeId}{td:TD}{x:Operand}{l:List AV}{cs:List AV}(h:ρ x = .ptr (.tuple l::cs):=by exact rfl)(ht:tget TL t=some td:=by exact rfl)(ha:td.agg=false:=by exact rfl):OpP Tryz.prog ⟨d,.load t x,ty,pos,aft,gd⟩ ρ K (.tuple l):=P_load_ptr tok h ht ha
theorem Qxu {x:Operand}{i:Nat}{vs:List AV}{l:List AV}(h:ρ x = .tuple vs:=by exact rfl)(hv:vs[i]? = some (.tuple l):=by exact rfl):OpP Tryz.prog ⟨d,.extract x i,ty,pos,aft,gd⟩ ρ K (.tuple l):=P_extract h hv
theorem Qap {x:Operand}{l:List AV}(h:ρ x = .ptr l:=by exact rfl):OpP Tryz.prog ⟨d,.assign x,ty,pos,aft,gd⟩ ρ K (.ptr l):=P_assign h
theorem Qmp {x:Operand}{l:List AV}(h:ρ x = .ptr l:=by exact rfl):OpP Tryz.prog ⟨d,.move x,ty,pos,aft,gd⟩ ρ K (.ptr l):=P_move h
theorem Qlp {t:TypeId}{td:TD}{x:Operand}{l:List AV}{cs:List AV}(h:ρ x = .ptr (.ptr l::cs):=by exact rfl)(ht:tget TL t=some td:=by exact rfl)(ha:td.agg=false:=by exact rfl):OpP Tryz.prog ⟨d,.load t x,ty,pos,aft,gd⟩ ρ K (.ptr l):=P_load_ptr tok h ht ha
theorem Qxp {x:Operand}{i:Nat}{vs:List AV}{l:List AV}(h:ρ x = .tuple vs:=by exact rfl)(hv:vs[i]? = some (.ptr l):=by exact rfl):OpP Tryz.prog ⟨d,.extract x i,ty,pos,aft,gd⟩ ρ K (.ptr l):=P_extract h hv
theorem Qlg (l:List AV){t:TypeId}{td:TD}{x:Operand}{cs:List AV}(h:ρ x = .ptr cs:=by exact rfl)(ht:tget TL t=some td:=by exact rfl)(ha:td.agg=true:=by exact rfl)(hl:cs.take td.size=l:=by exact rfl)(hs:Nat.beq l.length td.size=true:=by exact rfl):OpP Tryz.prog ⟨d,.load t x,ty,pos,aft,gd⟩ ρ K (.agg l):=P_load_ptr_agg tok h ht ha hl hs
theorem Qf (cs':List AV){s f off z ft:Nat}{nm:Bool}{x:Operand}{cs:List AV}{td:TD}{gs:List (Nat×Nat×Bool×Nat)}(h:ρ x = .ptr cs:=by exact rfl)(ht:tget TL s=some td:=by exact rfl)(hk:td.kind = .struct gs:=by exact rfl)(hf:gs[f]? = some (off,z,nm,ft):=by exact rfl)(hz:Nat.blt 0 z=true:=by exact rfl)(hc:cs.drop off=cs':=by exact rfl):OpP Tryz.prog ⟨d,.fieldAddr s x f,ty,pos,aft,gd⟩ ρ K (.ptr cs'):=P_fieldAddr_ptr tok h ht hk hf hz hc
theorem Qfv {s f off z ft b o:Nat}{nm:Bool}{x:Operand}{td:TD}{gs:List (Nat×Nat×Bool×Nat)}{o':Nat}(h:ρ x = .val (.pointer (some ⟨b,o,none⟩)):=by exact rfl)(ht:tget TL s=some td:=by exact rfl)(hk:td.kind = .struct gs:=by exact rfl)(hf:gs[f]? = some (off,z,nm,ft):=by exact rfl)(hz:Nat.blt 0 z=true:=by exact rfl)(ho:o+off=o':=by exact rfl):OpP Tryz.prog ⟨d,.fieldAddr s x f,ty,pos,aft,gd⟩ ρ K (.val (.pointer (some ⟨b,o',none⟩))):=P_fieldAddr_val tok h ht hk hf hz ho
theorem Qbx (cs:List AV){t:TypeId}{x:Operand}{l:List AV}(h:ρ x = .agg l:=by exact rfl)(hc:cellsA (.agg l)=cs:=by exact rfl)(hs:scalars cs=true:=by exact rfl):OpP Tryz.prog ⟨d,.box t x,ty,pos,aft,gd⟩ ρ K (.ptr cs):=P_box h hc hs
theorem Qbd (l:List AV){t:TypeId}{td:TD}{gs:List (Nat×Nat×Bool×Nat)}{parts:Array (Nat×Operand)}(ht:tget TL t=some td:=by exact rfl)(hk:td.kind = .struct gs:=by exact rfl)(h:afill gs td.zero (partsA ρ parts.toList)=some l:=by exact rfl):OpP Tryz.prog ⟨d,.build t parts,ty,pos,aft,gd⟩ ρ K (.agg l):=P_build tok ht hk h
theorem Qf0 {s f' off z ft:Nat}{nm:Bool}{x:Operand}{cs:List AV}{td:TD}{gs:List (Nat×Nat×Bool×Nat)}{a:Int}{b:AV}{c:Int}{d1:Int}{e:Int}{f:Int}{g:Int}{h:List UInt8}(i:ρ x = .ptr cs:=by exact rfl)(ht:tget TL s=some td:=by exact rfl)(hk:td.kind = .struct gs:=by exact rfl)(hf:gs[f']? = some (off,z,nm,ft):=by exact rfl)(hz:Nat.blt 0 z=true:=by exact rfl)(hc:cs.drop off = [.int .i64 a,b,.int .i64 c,.int .i64 d1,.int .i64 e,.int .i64 f,.int .i64 g,.str h]:=by exact rfl):OpP Tryz.prog ⟨d,.fieldAddr s x f',ty,pos,aft,gd⟩ ρ K (.ptr [.int .i64 a,b,.int .i64 c,.int .i64 d1,.int .i64 e,.int .i64 f,.int .i64 g,.str h]):=P_fieldAddr_ptr tok i ht hk hf hz hc
theorem Qle {t:TypeId}{td:TD}{x:Operand}{cs:List AV}{a:Int}{b:AV}{c:Int}{d1:Int}{e:Int}{f:Int}{g:Int}{h:List UInt8}(i:ρ x = .ptr cs:=by exact rfl)(ht:tget TL t=some td:=by exact rfl)(ha:td.agg=true:=by exact rfl)(hl:cs.take td.size = [.int .i64 a,b,.int .i64 c,.int .i64 d1,.int .i64 e,.int .i64 f,.int .i64 g,.str h]:=by exact rfl)(hs:Nat.beq 8 td.size=true:=by exact rfl):OpP Tryz.prog ⟨d,.load t x,ty,pos,aft,gd⟩ ρ K (.agg [.int .i64 a,b,.int .i64 c,.int .i64 d1,.int .i64 e,.int .i64 f,.int .i64 g,.str h]):=P_load_ptr_agg tok i ht ha hl hs
theorem Qbe {t:TypeId}{x:Operand}{l:List AV}{a:Int}{b:AV}{c:Int}{d1:Int}{e:Int}{f:Int}{g:Int}{h:List UInt8}(i:ρ x = .agg l:=by exact rfl)(hc:cellsA (.agg l) = [.int .i64 a,b,.int .i64 c,.int .i64 d1,.int .i64 e,.int .i64 f,.int .i64 g,.str h]:=by exact rfl)(hs:scalars [.int .i64 a,b,.int .i64 c,.int .i64 d1,.int .i64 e,.int .i64 f,.int .i64 g,.str h]=true:=by exact rfl):OpP Tryz.prog ⟨d,.box t x,ty,pos,aft,gd⟩ ρ K (.ptr [.int .i64 a,b,.int .i64 c,.int .i64 d1,.int .i64 e,.int .i64 f,.int .i64 g,.str h]):=P_box i hc hs
theorem Qf1 {s f' off z ft:Nat}{nm:Bool}{x:Operand}{cs:List AV}{td:TD}{gs:List (Nat×Nat×Bool×Nat)}{b:AV}{c:Int}{d1:Int}{e:Int}{f:Int}{g:Int}{h:List UInt8}(i:ρ x = .ptr cs:=by exact rfl)(ht:tget TL s=some td:=by exact rfl)(hk:td.kind = .struct gs:=by exact rfl)(hf:gs[f']? = some (off,z,nm,ft):=by exact rfl)(hz:Nat.blt 0 z=true:=by exact rfl)(hc:cs.drop off = [b,.int .i64 c,.int .i64 d1,.int .i64 e,.int .i64 f,.int .i64 g,.str h]:=by exact rfl):OpP Tryz.prog ⟨d,.fieldAddr s x f',ty,pos,aft,gd⟩ ρ K (.ptr [b,.int .i64 c,.int .i64 d1,.int .i64 e,.int .i64 f,.int .i64 g,.str h]):=P_fieldAddr_ptr tok i ht hk hf hz hc
theorem Qf2 {s f' off z ft:Nat}{nm:Bool}{x:Operand}{cs:List AV}{td:TD}{gs:List (Nat×Nat×Bool×Nat)}{c:Int}{d1:Int}{e:Int}{f:Int}{g:Int}{h:List UInt8}(i:ρ x = .ptr cs:=by exact rfl)(ht:tget TL s=some td:=by exact rfl)(hk:td.kind = .struct gs:=by exact rfl)(hf:gs[f']? = some (off,z,nm,ft):=by exact rfl)(hz:Nat.blt 0 z=true:=by exact rfl)(hc:cs.drop off = [.int .i64 c,.int .i64 d1,.int .i64 e,.int .i64 f,.int .i64 g,.str h]:=by exact rfl):OpP Tryz.prog ⟨d,.fieldAddr s x f',ty,pos,aft,gd⟩ ρ K (.ptr [.int .i64 c,.int .i64 d1,.int .i64 e,.int .i64 f,.int .i64 g,.str h]):=P_fieldAddr_ptr tok i ht hk hf hz hc
theorem Qf3 {s f' off z ft:Nat}{nm:Bool}{x:Operand}{cs:List AV}{td:TD}{gs:List (Nat×Nat×Bool×Nat)}{d1:Int}{e:Int}{f:Int}{g:Int}{h:List UInt8}(i:ρ x = .ptr cs:=by exact rfl)(ht:tget TL s=some td:=by exact rfl)(hk:td.kind = .struct gs:=by exact rfl)(hf:gs[f']? = some (off,z,nm,ft):=by exact rfl)(hz:Nat.blt 0 z=true:=by exact rfl)(hc:cs.drop off = [.int .i64 d1,.int .i64 e,.int .i64 f,.int .i64 g,.str h]:=by exact rfl):OpP Tryz.prog ⟨d,.fieldAddr s x f',ty,pos,aft,gd⟩ ρ K (.ptr [.int .i64 d1,.int .i64 e,.int .i64 f,.int .i64 g,.str h]):=P_fieldAddr_ptr tok i ht hk hf hz hc
theorem Qf4 {s f' off z ft:Nat}{nm:Bool}{x:Operand}{cs:List AV}{td:TD}{gs:List (Nat×Nat×Bool×Nat)}{e:Int}{f:Int}{g:Int}{h:List UInt8}(i:ρ x = .ptr cs:=by exact rfl)(ht:tget TL s=some td:=by exact rfl)(hk:td.kind = .struct gs:=by exact rfl)(hf:gs[f']? = some (off,z,nm,ft):=by exact rfl)(hz:Nat.blt 0 z=true:=by exact rfl)(hc:cs.drop off = [.int .i64 e,.int .i64 f,.int .i64 g,.str h]:=by exact rfl):OpP Tryz.prog ⟨d,.fieldAddr s x f',ty,pos,aft,gd⟩ ρ K (.ptr [.int .i64 e,.int .i64 f,.int .i64 g,.str h]):=P_fieldAddr_ptr tok i ht hk hf hz hc
theorem Qf5 {s f' off z ft:Nat}{nm:Bool}{x:Operand}{cs:List AV}{td:TD}{gs:List (Nat×Nat×Bool×Nat)}{f:Int}{g:Int}{h:List UInt8}(i:ρ x = .ptr cs:=by exact rfl)(ht:tget TL s=some td:=by exact rfl)(hk:td.kind = .struct gs:=by exact rfl)(hf:gs[f']? = some (off,z,nm,ft):=by exact rfl)(hz:Nat.blt 0 z=true:=by exact rfl)(hc:cs.drop off = [.int .i64 f,.int .i64 g,.str h]:=by exact rfl):OpP Tryz.prog ⟨d,.fieldAddr s x f',ty,pos,aft,gd⟩ ρ K (.ptr [.int .i64 f,.int .i64 g,.str h]):=P_fieldAddr_ptr tok i ht hk hf hz hc
theorem Qf6 {s f' off z ft:Nat}{nm:Bool}{x:Operand}{cs:List AV}{td:TD}{gs:List (Nat×Nat×Bool×Nat)}{g:Int}{h:List UInt8}(i:ρ x = .ptr cs:=by exact rfl)(ht:tget TL s=some td:=by exact rfl)(hk:td.kind = .struct gs:=by exact rfl)(hf:gs[f']? = some (off,z,nm,ft):=by exact rfl)(hz:Nat.blt 0 z=true:=by exact rfl)(hc:cs.drop off = [.int .i64 g,.str h]:=by exact rfl):OpP Tryz.prog ⟨d,.fieldAddr s x f',ty,pos,aft,gd⟩ ρ K (.ptr [.int .i64 g,.str h]):=P_fieldAddr_ptr tok i ht hk hf hz hc
theorem Qf7 {s f' off z ft:Nat}{nm:Bool}{x:Operand}{cs:List AV}{td:TD}{gs:List (Nat×Nat×Bool×Nat)}{h:List UInt8}(i:ρ x = .ptr cs:=by exact rfl)(ht:tget TL s=some td:=by exact rfl)(hk:td.kind = .struct gs:=by exact rfl)(hf:gs[f']? = some (off,z,nm,ft):=by exact rfl)(hz:Nat.blt 0 z=true:=by exact rfl)(hc:cs.drop off = [.str h]:=by exact rfl):OpP Tryz.prog ⟨d,.fieldAddr s x f',ty,pos,aft,gd⟩ ρ K (.ptr [.str h]):=P_fieldAddr_ptr tok i ht hk hf hz hc
theorem Qceq {x y:Operand}{t yt:TypeId}{k:IntKind}{n m:Int}(hx:ρ x = .int k n:=by exact rfl)(hy:ρ y = .int k m:=by exact rfl):OpP Tryz.prog ⟨d,.binOp .eql t x y yt,ty,pos,aft,gd⟩ ρ K (.bool (n==m)):=P_eql hx hy
theorem Qcne {x y:Operand}{t yt:TypeId}{k:IntKind}{n m:Int}(hx:ρ x = .int k n:=by exact rfl)(hy:ρ y = .int k m:=by exact rfl):OpP Tryz.prog ⟨d,.binOp .neq t x y yt,ty,pos,aft,gd⟩ ρ K (.bool (n != m)):=P_neq hx hy
theorem Qclt {x y:Operand}{t yt:TypeId}{k:IntKind}{n m:Int}(hx:ρ x = .int k n:=by exact rfl)(hy:ρ y = .int k m:=by exact rfl):OpP Tryz.prog ⟨d,.binOp .lss t x y yt,ty,pos,aft,gd⟩ ρ K (.bool (decide (n<m))):=P_lss hx hy
theorem Qcgt {x y:Operand}{t yt:TypeId}{k:IntKind}{n m:Int}(hx:ρ x = .int k n:=by exact rfl)(hy:ρ y = .int k m:=by exact rfl):OpP Tryz.prog ⟨d,.binOp .gtr t x y yt,ty,pos,aft,gd⟩ ρ K (.bool (decide (m<n))):=P_gtr hx hy
theorem Qclq {x y:Operand}{t yt:TypeId}{k:IntKind}{n m:Int}(hx:ρ x = .int k n:=by exact rfl)(hy:ρ y = .int k m:=by exact rfl):OpP Tryz.prog ⟨d,.binOp .leq t x y yt,ty,pos,aft,gd⟩ ρ K (.bool (decide (n≤m))):=P_leq hx hy
theorem Qcgq {x y:Operand}{t yt:TypeId}{k:IntKind}{n m:Int}(hx:ρ x = .int k n:=by exact rfl)(hy:ρ y = .int k m:=by exact rfl):OpP Tryz.prog ⟨d,.binOp .geq t x y yt,ty,pos,aft,gd⟩ ρ K (.bool (decide (m≤n))):=P_geq hx hy
theorem Qad {x y:Operand}{t yt:TypeId}{n m r:Int}(hx:ρ x = .int .i64 n:=by exact rfl)(hy:ρ y = .int .i64 m:=by exact rfl)(hr:n+m=r:=by exact rfl)(hb : -9223372036854775808≤r∧r≤9223372036854775807:=by constructor <;> omega):OpP Tryz.prog ⟨d,.binOp .add t x y yt,ty,pos,aft,gd⟩ ρ K (.int .i64 r):=P_add hx hy hr hb
theorem Qnt {x:Operand}{t:TypeId}{b:Bool}(hx:ρ x = .bool b:=by exact rfl):OpP Tryz.prog ⟨d,.unOp .not t x,ty,pos,aft,gd⟩ ρ K (.bool (!b)):=P_not hx
theorem Qpa {c a y:Operand}{b x:Bool}(hc:ρ c = .bool b:=by exact rfl)(ha:ρ a = .opt [(b,true)] (.bool x):=by exact rfl)(hy:ρ y = .bool false:=by exact rfl):OpP Tryz.prog ⟨d,.pick c a y,ty,pos,aft,gd⟩ ρ K (.bool (b&&x)):=P_pick_and hc ha hy
theorem Qpo {c a y:Operand}{b x:Bool}(hc:ρ c = .bool b:=by exact rfl)(ha:ρ a = .bool true:=by exact rfl)(hy:ρ y = .opt [(b,false)] (.bool x):=by exact rfl):OpP Tryz.prog ⟨d,.pick c a y,ty,pos,aft,gd⟩ ρ K (.bool (b||x)):=P_pick_or hc ha hy
theorem Qc {f:FuncId}{args:Array Operand}{ats:Array TypeId}{l:List AV}{r:AV}(ha:args.toList.map ρ=l)(hc:APure Tryz.prog f l r)(hf:fnB Tryz.prog f=true:=by kernel_rfl)(hcal:ρ (.func f) = .fn (.func f) [] []:=by exact rfl):OpP Tryz.prog ⟨d,.call ⟨.value (.func f),args,ats⟩,ty,pos,aft,gd⟩ ρ K r:=P_callf hf hcal ha hc
end
section
variable {ops:Array Oper} {K:St→Prop} {s:St} {d:Option Nat} {op:Op} {t:TypeId} {pos:String} {after:Array Edge} {r:List Oper} {x y:AV} {o:Oper} {G:List (Bool×Bool)} {b:Bool} {c1 c2:Code} {Q Q':Exit→St→Prop} {N:St→Prop} {id:Nat}
theorem Qp (h:OpP Tryz.prog ⟨d,op,t,pos,after,none⟩ (aval s.sl) (fun _=>True) x)(k:AOL Tryz.prog ops K r ⟨putS d x s.sl,s.H,s.n⟩)(hd:okd d s.n=true:=by exact rfl):AOL Tryz.prog ops K (⟨d,op,t,pos,after,none⟩::r) s:=AOL.p h hd k
theorem Qe {R:AV→List HO→Prop}(h:OpE Tryz.prog ⟨d,op,t,pos,after,none⟩ (aval s.sl) s.H R)(k:∀x H',R x H'→AOL Tryz.prog ops K r ⟨putS d x s.sl,H',s.n⟩)(hd:okd d s.n=true:=by exact rfl):AOL Tryz.prog ops K (⟨d,op,t,pos,after,none⟩::r) s:=AOL.e h hd k
theorem Qw {sl:List (Nat×AV)}{L:List (Nat×AV)}(hw:wantedG ops o sl=some G:=by exact rfl)(hL:EntL G sl L:=by first | exact trivial | exact ⟨Ent.self _ _,trivial⟩ | exact ⟨Ent.self _ _,Ent.suf _ _ _,trivial⟩):wantedG ops o sl=some G∧EntL G sl L:=⟨hw,hL⟩
theorem Qg (L:List (Nat×AV))(w:wantedG ops o s.sl=some G∧EntL G s.sl L)(h:OpP Tryz.prog o (aval (L++s.sl)) (fun _=>True) y)(k:AOL Tryz.prog ops K r ⟨putS o.dst (.opt G y) s.sl,s.H,s.n⟩)(hd:okd o.dst s.n=true:=by exact rfl):AOL Tryz.prog ops K (o::r) s:=AOL.g G L w.1 (EntL.all w.2) (fun _=>h) hd k
theorem Qsr (h:AOL Tryz.prog ops (thenS (AW Tryz.prog c2 Q) Q .normal) ops.toList s):AW Tryz.prog (.seq (.region id ops false) c2) Q s:=AW.seq (AW.region h)
theorem Qnn (h:N s):AOL Tryz.prog ops (thenS N Q .normal) [] s:=AOL.nil (thenN h)
theorem Qns {ops':Array Oper}(h:AOL Tryz.prog ops' (thenS (AW Tryz.prog c2 Q) Q .normal) ops'.toList s):AOL Tryz.prog ops (thenS (AW Tryz.prog (.seq (.region id ops' false) c2) Q) Q' .normal) [] s:=AOL.nil (thenN (AW.seq (AW.region h)))
theorem Qif {c:Operand}{x y:Code}(ht:b=true→AW Tryz.prog x Q s)(hf:b=false→AW Tryz.prog y Q s)(hb:aval s.sl c = .bool b:=by exact rfl):AW Tryz.prog (.cond c x y) Q s:=AW.cond hb ht hf
theorem Qst (h:N s):AW Tryz.prog .skip (thenS N Q) s:=AW.skip (thenN h)
theorem Qrt (h:Q .ret s):AW Tryz.prog .ret (thenS N Q) s:=AW.ret (thenR h)
theorem Qr {H:List HO}{l:List ResultVar}{r:AV}(x:AV)(h:resOf [x]=r)(hr:ResL Tryz.prog TL s l [x]:=by exact .cons (.tmp _ _ rfl) .nil)(hs:H.Sublist s.H:=by exact .refl _):(Exit.ret = .normal∨Exit.ret = .ret)∧∃xs,ResL Tryz.prog TL s l xs∧H.Sublist s.H∧resOf xs=r:=⟨.inr rfl,[x],hr,hs,h⟩
theorem Qrr {H:List HO}{l:List ResultVar}{r:AV}(x y:AV)(h:resOf [x,y]=r)(hr:ResL Tryz.prog TL s l [x,y]:=by exact .cons (.tmp _ _ rfl) (.cons (.tmp _ _ rfl) .nil))(hs:H.Sublist s.H:=by exact .refl _):(Exit.ret = .normal∨Exit.ret = .ret)∧∃xs,ResL Tryz.prog TL s l xs∧H.Sublist s.H∧resOf xs=r:=⟨.inr rfl,[x,y],hr,hs,h⟩
end
section
variable {ops:Array Oper} {K:List HO→Prop} {Q:St→Prop} {s:St} {o:Oper} {x y:AV} {G:List (Bool×Bool)} {listed:Array Bool}
theorem Qn (i:Nat)(ho:ops[i]? = some o)(h:OpP Tryz.prog o (aval s.sl) K x)(k:Canon Tryz.prog ops K Q (listed.setIfInBounds i true) ⟨putS o.dst x s.sl,s.H,s.n⟩)(hr:(Region.ready .any ops listed).contains i=true:=by kernel_rfl)(hf:Region.free .any ops listed i=true:=by kernel_rfl)(hd:okd o.dst s.n=true:=by exact rfl)(hg:o.guard=none:=by exact rfl):Canon Tryz.prog ops K Q listed s:=Canon.pure listed s i o x ho hr hf hd (.run hg h) k
theorem Qo (i:Nat)(ho:ops[i]? = some o)(L:List (Nat×AV))(w:wantedG ops o s.sl=some G∧EntL G s.sl L)(h:OpP Tryz.prog o (aval (L++s.sl)) K y)(k:Canon Tryz.prog ops K Q (listed.setIfInBounds i true) ⟨putS o.dst (.opt G y) s.sl,s.H,s.n⟩)(hr:(Region.ready .any ops listed).contains i=true:=by kernel_rfl)(hf:Region.free .any ops listed i=true:=by kernel_rfl)(hd:okd o.dst s.n=true:=by exact rfl):Canon Tryz.prog ops K Q listed s:=Canon.pure listed s i o _ ho hr hf hd (.opt G y L w.1 (EntL.all w.2) (fun _=>h) rfl) k
end

theorem str0:({ data:=#[] }:ByteArray).data.toList=([]:List UInt8):=rfl

structure Vl where
 kind:Int
 num:Int
 text:List UInt8
deriving DecidableEq

structure Ex where
 op:Int
 args:List Ex
 var:Int
 field:Int
 kind:Int
 val:Vl

structure Ev where
 source:Int
 seq:Int
 type:Int
 time:Int
 values:List Vl

structure Ac where
 kind:Int
 count:Int
 val:Vl

def v0:Vl:=⟨0,0,[]⟩
def ev0:Ev:=⟨0,0,0,0,[]⟩
def ex0:Ex:=⟨0,[],0,0,0,v0⟩
def ac0:Ac:=⟨0,0,v0⟩

/-- == on values, as the model counts it out -/
@[reducible] def eqV (v w : Vl) : Bool := v.kind == w.kind && (v.num == w.num && v.text == w.text)
@[reducible] def isV0 (v : Vl) : Bool := v.kind == 0 && (v.num == 0 && v.text == [])
theorem isV0_iff (v:Vl):isV0 v=true↔v=v0:=by
 cases v;simp [isV0,v0]

def cV (v:Vl):List AV:=[.int .i64 v.kind,.int .i64 v.num,.str v.text]

mutual
def encE:Ex→List AV
 | ⟨op,args,var,field,kind,val⟩=>[.int .i64 op,.sl 8 (encEs args),.int .i64 var,.int .i64 field,.int .i64 kind,.int .i64 val.kind,.int .i64 val.num,.str val.text]
def encEs:List Ex→List (List AV)
 | []=>[]
 | e::r=>encE e::encEs r
end

theorem encEs_map:∀l:List Ex,encEs l=l.map encE
 | []=>by simp [encEs]
 | e::r=>by simp [encEs,encEs_map r]

def cE (e:Ex):List AV:=[.int .i64 e.op,.sl 8 (e.args.map encE),.int .i64 e.var,.int .i64 e.field,.int .i64 e.kind,.int .i64 e.val.kind,.int .i64 e.val.num,.str e.val.text]
def cEv (e:Ev):List AV:=[.int .i64 e.source,.int .i64 e.seq,.int .i64 e.type,.int .i64 e.time,.sl 3 (e.values.map cV)]
def cAc (a:Ac):List AV:=[.int .i64 a.kind,.int .i64 a.count,.int .i64 a.val.kind,.int .i64 a.val.num,.str a.val.text]
def cEvs (l:List Ev):List AV:=[.sl 5 (l.map cEv)]
def cEnv (l:List (List Ev)):List AV:=[.sl 1 (l.map cEvs)]

theorem encE_eq (e:Ex):encE e=cE e:=by
 cases e
 simp [encE,cE,encEs_map]

theorem Ex.ind {P:Ex→Prop}(h:∀e,(∀a∈e.args,P a)→P e):∀e,P e:=by
 intro e
 exact Ex.rec (motive_1:=P) (motive_2:=fun l=>∀a∈l,P a) (fun op args v f k val ih=>h _ ih) (by simp) (fun a l ha hl=>by simp only [List.mem_cons,forall_eq_or_imp];exact ⟨ha,hl⟩) e

theorem encE_at {l:List Ex}{k:Nat}{a:Ex}(h:l[k]? = some a):(l.map encE)[k]? = some (cE a):=by
 simp [h,encE_eq]
theorem map_at {α:Type}{f:α→List AV}{l:List α}{k:Nat}{a:α}(h:l[k]? = some a):(l.map f)[k]? = some (f a):=by simp [h]

theorem get_lt {α:Type}{l:List α}{k:Nat}(h:decide ((k:Int)<(l.length:Int))=true):∃a,l[k]? = some a:=by
 have:k<l.length:=by simpa using h
 exact ⟨_,List.getElem?_eq_getElem this⟩
theorem get_lt' {α:Type}{l:List α}{k:Nat}{a:α}(h:l[k]? = some a):k<l.length:=(List.getElem?_eq_some_iff.1 h).1
theorem drop_cons {α:Type}{l:List α}{k:Nat}{a:α}(h:l[k]? = some a):l.drop k=a::l.drop (k+1):=by
 obtain ⟨h1,h2⟩:=List.getElem?_eq_some_iff.1 h
 rw [←h2];exact List.drop_eq_getElem_cons h1
theorem take_get {α:Type}{l:List α}{k:Nat}{a:α}(h:l[k]? = some a):l.take (k+1)=l.take k ++ [a]:=by
 rw [List.take_add_one,h];rfl
theorem take_end {α:Type}{l:List α}{k:Nat}(h:decide ((k:Int)<(l.length:Int))=false):l.take k=l:=by
 have:¬k<l.length:=by simpa using h
 exact List.take_of_length_le (by omega)
theorem get_int {α:Type}{l:List α}{v:Int}(h0:0≤v)(h:v<(l.length:Int)):∃a,l[v.toNat]? = some a:=⟨_,List.getElem?_eq_getElem (by omega)⟩
theorem get_end {α:Type}{l:List α}{k:Nat}(h:decide ((k:Int)<(l.length:Int))=false):l.drop k = []:=by
 have:¬k<l.length:=by simpa using h
 exact List.drop_eq_nil_of_le (by omega)

/-! ### Layer 1 -/

def flagS (b:Bool):Vl:=if b then ⟨1,1,[]⟩ else ⟨1,0,[]⟩

def vsizeS (v:Vl):Int:=
 if v.kind==0&&(decide (v.num < -1099511627776)||decide (1099511627776<v.num)) then 2
 else if v.kind==1&&v.num != 0&&v.num != 1 then 2
 else if decide (64<(v.text.length:Int)) then 13 else 0

def vcheckS (v:Vl):Int:=
 if v.kind==0||v.kind==1 then (if !(v.text == []) then 3 else vsizeS v)
 else if v.kind==2 then (if v.num != 0 then 3 else vsizeS v)
 else 1

/-- the same in the order of the reference -/
def rvcheckS (v:Vl):Int:=
 if decide (v.kind<0)||decide (2<v.kind) then 1
 else if v.kind==2 then (if v.num != 0 then 3 else if decide (64<(v.text.length:Int)) then 13 else 0)
 else if !(v.text == []) then 3
 else if v.kind==1&&(decide (v.num<0)||decide (1<v.num))||decide (v.num < -1099511627776)||decide (1099511627776<v.num) then 2 else 0
theorem rvcheck_eq (v:Vl):rvcheckS v=vcheckS v:=by
 unfold rvcheckS vcheckS vsizeS
 obtain ⟨k,n,t⟩:=v
 by_cases ht:t = []
 ·
  subst ht
  simp only [Bool.or_eq_true,Bool.and_eq_true,decide_eq_true_eq,beq_iff_eq,bne_iff_ne,ne_eq,not_true,if_false,List.length_nil,BEq.rfl,Bool.not_true,Bool.false_eq_true,Bool.not_true,Bool.false_eq_true]
  repeat' split
  all_goals first | rfl | omega
 ·
  simp only [Bool.or_eq_true,Bool.and_eq_true,decide_eq_true_eq,beq_iff_eq,bne_iff_ne,ne_eq,ht,not_false_eq_true,if_true,Bool.not_eq_true',beq_eq_false_iff_ne]
  repeat' split
  all_goals first | rfl | omega

/-! ### Layer 7 -/

def knownS (k:Int):Bool:=decide (0≤k)&&decide (k≤5)
def asuitsS (k:Int)(v:Vl):Bool:=v.kind==0||(k != 1&&k != 2&&k != 3)
def rsuitsS (k:Int)(v:Vl):Bool:=v.kind==0||k==0||k==4||k==5

def combS (k:Int)(a b:Vl):Vl:=
 if k==1 then ⟨0,IntKind.i64.wrap (a.num+b.num),[]⟩ else if k==2 then ⟨0,min a.num b.num,[]⟩ else if k==3 then ⟨0,max a.num b.num,[]⟩ else if k==4 then a else if k==5 then b else v0
def singleS (k:Int)(v:Vl):Vl:=if k==0 then v0 else v
def mergedS (a b:Ac):Ac:=if a.count==0 then b else if b.count==0 then a else ⟨a.kind,IntKind.i64.wrap (a.count+b.count),combS a.kind a.val b.val⟩

def acheckS (a:Ac):Int:=
 if !knownS a.kind then 1
 else if decide (a.count<0)||decide (4096<a.count) then 2
 else if (if a.count==0||a.kind==0 then isV0 a.val
  else if a.kind==1 then a.val.kind==0&&a.val.text == []&&decide (0-a.count*1099511627776≤a.val.num)&&decide (a.val.num≤a.count*1099511627776)
  else vcheckS a.val==0&&asuitsS a.kind a.val) then 0 else 3

def racheckS (a:Ac):Int:=
 if !knownS a.kind then 1
 else if decide (a.count<0)||decide (4096<a.count) then 2
 else if a.count==0||a.kind==0 then (if !isV0 a.val then 3 else 0)
 else if a.kind==1 then (if a.val.kind != 0 || !(a.val.text == [])||decide (a.val.num<0-a.count*1099511627776)||decide (a.count*1099511627776<a.val.num) then 3 else 0)
 else if vcheckS a.val != 0 || !rsuitsS a.kind a.val then 3 else 0
theorem suits_eq (k:Int)(v:Vl)(h:knownS k=true):rsuitsS k v=asuitsS k v:=by
 simp only [knownS,Bool.and_eq_true,decide_eq_true_eq] at h
 unfold rsuitsS asuitsS
 rw [Bool.eq_iff_iff]
 simp
 omega
def wrongS (k:Int)(v:Vl):Int:=if vcheckS v != 0 then vcheckS v else if !asuitsS k v then 9 else 0

def resultS (a:Ac)(o:Vl):Vl×Int:=
 if acheckS a != 0 then (v0,acheckS a)
 else if wrongS a.kind o != 0 then (v0,wrongS a.kind o)
 else if a.kind==0 then (⟨0,a.count,[]⟩,0)
 else if a.count==0&&a.kind != 1 then (o,0)
 else (a.val,0)

def stepS (k:Int)(a:Ac)(v:Vl):Ac:=mergedS a ⟨k,1,singleS k v⟩
def foldS (k:Int)(l:List Vl):Ac:=l.foldl (stepS k) ⟨k,0,v0⟩

/-- the first error of a list -/
def firstS {α:Type}(f:α→Int):List α→Int
 | []=>0
 | a::r=>if f a != 0 then f a else firstS f r

theorem merged_kind (a c:Ac)(h:knownS a.kind=true)(h':knownS c.kind=true):knownS (mergedS a c).kind=true:=by
 unfold mergedS;split
 · exact h'
 · split <;> exact h
theorem step_kind (k:Int)(a:Ac)(v:Vl)(h:knownS a.kind=true)(hk:knownS k=true):knownS (stepS k a v).kind=true:=merged_kind _ _ h hk

def ofS (k:Int)(l:List Vl)(o:Vl):Vl×Int:=
 if !knownS k then (v0,1)
 else if decide (4096<(l.length:Int)) then (v0,5)
 else if firstS (wrongS k) l != 0 then (v0,firstS (wrongS k) l)
 else resultS (foldS k l) o

/-! ### Layer 8: nodes -/

def usesS (op:Int):Bool×Bool:=if op=1∨op=4 then (true,true) else if op=2∨op=3 then (true,false) else (false,false)
def arityS (op:Int):Int:=if op<0∨12<op then 0 else if op<5 then 0 else if op=12 then 1 else 2
def esuitsS (k:Int)(v:Vl):Bool:=v.kind==0||k==4||k==5

def constS (e:Ex):Int:=
 if vcheckS e.val != 0 then vcheckS e.val
 else if e.op==4&&(!esuitsS e.kind e.val||(e.kind==1 && !isV0 e.val)) then 9 else 0

def formS (e:Ex):Int:=
 if !(usesS e.op).1&&e.var != 0||(!(usesS e.op).2&&e.field != 0)||(!(e.op==4)&&e.kind != 0)||(!(e.op==4||e.op==0) && !isV0 e.val) then 3 else 0

def nodeS (e:Ex):Int:=
 if !decide (0≤e.op∧e.op≤12) then 1
 else if (e.args.length:Int) != arityS e.op then 15
 else if ((usesS e.op).1&&(decide (e.var<0)||decide (16≤e.var)))||((usesS e.op).2&&(decide (e.field<0)||decide (8≤e.field))) then 2
 else if e.op==4&&(decide (e.kind<1)||decide (5<e.kind)) then 1
 else if e.op==4||e.op==0 then (if constS e != 0 then constS e else formS e)
 else formS e

mutual
def visitS (f:Ex→Int):Ex→Int
 | ⟨op,args,var,field,kind,val⟩=>if f ⟨op,args,var,field,kind,val⟩ != 0 then f ⟨op,args,var,field,kind,val⟩ else visitL f args
def visitL (f:Ex→Int):List Ex→Int
 | []=>0
 | e::r=>if visitS f e != 0 then visitS f e else visitL f r
end
theorem visitL_first (f:Ex→Int):∀l,visitL f l=firstS (visitS f) l
 | []=>by simp [visitL,firstS]
 | e::r=>by simp [visitL,firstS,visitL_first f r]
theorem visitS_eq (f:Ex→Int)(e:Ex):visitS f e=if f e != 0 then f e else firstS (visitS f) e.args:=by
 cases e;rw [visitS,visitL_first]
abbrev nodesS:Ex→Int:=visitS nodeS
theorem nodesS_eq (e:Ex):nodesS e=if nodeS e != 0 then nodeS e else firstS nodesS e.args:=visitS_eq nodeS e

mutual
def sizeN:Ex→Nat
 | ⟨_,args,_,_,_,_⟩=>1+sizeNs args
def sizeNs:List Ex→Nat
 | []=>0
 | e::r=>sizeN e+sizeNs r
end
mutual
def depthN:Ex→Nat
 | ⟨_,args,_,_,_,_⟩=>depthNs args+1
def depthNs:List Ex→Nat
 | []=>0
 | e::r=>max (depthN e) (depthNs r)
end
theorem sizeNs_sum:∀l,sizeNs l=(l.map sizeN).sum
 | []=>by simp [sizeNs]
 | e::r=>by simp [sizeNs,sizeNs_sum r]
theorem sizeN_eq (e:Ex):sizeN e=1+(e.args.map sizeN).sum:=by cases e;rw [sizeN,sizeNs_sum]
theorem depthNs_fold:∀l,depthNs l=(l.map depthN).foldr max 0
 | []=>by simp [depthNs]
 | e::r=>by simp [depthNs,depthNs_fold r]
theorem depthN_eq (e:Ex):depthN e=(e.args.map depthN).foldr max 0+1:=by cases e;rw [depthN,depthNs_fold]

theorem mem_sum_le {l:List Ex}{a:Ex}(f:Ex→Nat)(h:a∈l):f a≤(l.map f).sum:=by
  induction l with
  | nil=>cases h
  | cons x r ih=>
    simp only [List.map_cons,List.sum_cons]
    rcases List.mem_cons.1 h with rfl | h
    · omega
    · have:=ih h;omega
theorem size_arg {e a:Ex}(h:a∈e.args):sizeN a<sizeN e:=by
 have:=mem_sum_le sizeN h;have:=sizeN_eq e;omega
theorem depth_le_size (e:Ex):depthN e≤sizeN e:=by
  refine Ex.ind (P:=fun e=>depthN e≤sizeN e) (fun e ih=>?_) e
  rw [depthN_eq,sizeN_eq]
  have:∀l:List Ex,(∀a∈l,depthN a≤sizeN a)→(l.map depthN).foldr max 0≤(l.map sizeN).sum:=by
    intro l
    induction l with
    | nil=>intro _;exact Nat.le_refl _
    | cons x r ihr=>
      intro h
      simp only [List.map_cons,List.foldr_cons,List.sum_cons]
      have h1:=h x (by simp)
      have h2:=ihr fun a ha=>h a (by simp [ha])
      omega
  have:=this e.args ih
  omega

mutual
def countN (L:Nat):Ex→Nat
 | ⟨_,args,_,_,_,_⟩=>countNs L args 1
def countNs (L:Nat):List Ex→Nat→Nat
 | [],n=>n
 | e::r,n=>if n≤L then countNs L r (n+countN L e) else n
end
theorem countN_eq (L:Nat)(e:Ex):countN L e=countNs L e.args 1:=by cases e;rw [countN]
theorem count_spec (L:Nat)(e:Ex):countN L e=sizeN e∨(L<countN L e∧countN L e≤sizeN e):=by
  refine Ex.ind (P:=fun e=>countN L e=sizeN e∨(L<countN L e∧countN L e≤sizeN e)) (fun e ih=>?_) e
  rw [countN_eq,sizeN_eq]
  have:∀(l:List Ex) (n:Nat),(∀a∈l,countN L a=sizeN a∨(L<countN L a∧countN L a≤sizeN a))→countNs L l n=n+(l.map sizeN).sum∨(L<countNs L l n∧countNs L l n≤n+(l.map sizeN).sum):=by
    intro l
    induction l with
    | nil=>intro n _;simp [countNs]
    | cons x r ihr=>
      intro n h
      simp only [countNs,List.map_cons,List.sum_cons]
      have h1:=h x (by simp)
      have h2:=ihr (n+countN L x) fun a ha=>h a (by simp [ha])
      split
      · have hmono:n+countN L x≤countNs L r (n+countN L x):=by
          have:∀(l:List Ex) (m:Nat),m≤countNs L l m:=by
            intro l
            induction l with
            | nil=>intro m;simp [countNs]
            | cons y s ihs => intro m; simp only [countNs]; split
                              · exact Nat.le_trans (Nat.le_add_right _ _) (ihs _)
                              · exact Nat.le_refl _
          exact this r _
        omega
      · omega
  have:=this e.args 1 ih
  omega
theorem count_gt (L:Nat)(e:Ex):L<countN L e↔L<sizeN e:=by
 rcases count_spec L e with h | h
 · rw [h]
 · omega

def checkS (e:Ex):Int:=if decide (64<(sizeN e:Int)) then 5 else if decide (12<(depthN e:Int)) then 12 else nodesS e

def okS (op k k0:Int):Bool:=if op==5||op==6||op==7||op==8 then k==0 else if op==10||op==11||op==12 then k==1 else if op==9 then k==k0 else true
def operandsS (op:Int)(kinds:List Int):Int:=firstS (fun k=>if okS op k (kinds.headD 0) then 0 else 9) kinds
def demandS (op:Int):Int:=if op==5||op==6||op==7||op==8 then 0 else if op==10||op==11||op==12 then 1 else -1
theorem demand_ok (op k k0:Int):((decide (0≤demandS op)&&k != demandS op)||(op==9&&k != k0)) = !okS op k k0:=by
 unfold demandS okS
 by_cases h1:(op==5||op==6||op==7||op==8)=true
 ·
  have h9:(op==9)=false:=by simp at h1 ⊢;omega
  rw [if_pos h1,if_pos h1,h9];simp [bne]
 ·
  rw [if_neg h1,if_neg h1]
  by_cases h2:(op==10||op==11||op==12)=true
  ·
   have h9:(op==9)=false:=by simp at h2 ⊢;omega
   rw [if_pos h2,if_pos h2,h9];simp [bne]
  ·
   rw [if_neg h2,if_neg h2]
   by_cases h9:(op==9)=true
   · rw [if_pos h9,h9];simp [bne]
   · rw [if_neg h9];simp at h9;simp [h9]

/-! ### Values of expressions -/

structure Evr where
 vars:List (List Ev)
 own:Int
 event:Ev

def OPS:List (Int×AV):=[(5,.fn (.func 119) [] [.ptr [.fn (.func 118) [] []]]),(6,.fn (.func 120) [] [.ptr [.fn (.func 118) [] []]]),(7,.fn (.func 121) [] []),(8,.fn (.func 122) [] []),(10,.fn (.func 123) [] []),(11,.fn (.func 124) [] []),(12,.fn (.func 125) [] [])]
def cX (x:Evr):List AV:=[.sl 1 (x.vars.map cEvs),.int .i64 x.own,.int .i64 x.event.source,.int .i64 x.event.seq,.int .i64 x.event.type,.int .i64 x.event.time,.sl 3 (x.event.values.map cV),.mapv OPS]
/-- No list of events is longer than data can be. -/
def Evr.ok (x:Evr):Prop:=∀l∈x.vars,l.length≤1048576

def eventsS (vars:List (List Ev))(v:Int):List Ev:=if decide (v<0)||decide ((vars.length:Int)≤v) then [] else (vars[v.toNat]?).getD []

theorem events_le {x:Evr}(h:x.ok)(v:Int):(eventsS x.vars v).length≤1048576:=by
 unfold eventsS
 split
 · simp
 ·
  cases hl:x.vars[v.toNat]? with
  | none=>simp
  | some l=>simpa using h l (List.mem_of_getElem? hl)

def fieldS (e:Ev)(k:Int):Vl×Int:=if decide ((e.values.length:Int)≤k) then (v0,6) else ((e.values[k.toNat]?).getD v0,0)

def totalS (x:Evr)(e:Ex):Vl×Int:=
 let l:=eventsS x.vars e.var
 if firstS (fun v=>(fieldS v e.field).2) l != 0 then (v0,firstS (fun v=>(fieldS v e.field).2) l) else ofS e.kind (l.map fun v=>(fieldS v e.field).1) e.val

def readS (last:Ev)(e:Ex):Vl×Int:=
 if e.op==2 then (⟨0,last.time,[]⟩,0)
 else if (fieldS last e.field).2==0 then (if vcheckS (fieldS last e.field).1 != 0 then (v0,vcheckS (fieldS last e.field).1) else ((fieldS last e.field).1,0))
 else (v0,(fieldS last e.field).2)

def leafS (x:Evr)(e:Ex):Vl×Int:=
 if e.op==0 then (e.val,0)
 else if e.op==3 then (⟨0,(eventsS x.vars e.var).length,[]⟩,0)
 else if e.op==4 then totalS x e
 else if e.var != x.own then (if ((eventsS x.vars e.var).length:Int)==0 then (v0,10) else readS ((eventsS x.vars e.var).getLast?.getD ev0) e)
 else readS x.event e

def lastS (vars:List (List Ev))(v own:Int)(ev:Ev):Ev×Bool:=
 if v==own then (ev,true) else if ((eventsS vars v).length:Int)==0 then (ev0,false) else ((eventsS vars v).getLast?.getD ev0,true)
theorem last_get {α:Type}{l:List α}(h:((l.length:Int)==0)=false):∃a,l[((l.length:Int)-1).toNat]? = some a∧l.getLast? = some a:=by
 have h0:l.length≠0:=by simpa using h
 have e:((l.length:Int)-1).toNat=l.length-1:=by omega
 rw [e,List.getLast?_eq_getElem?]
 exact ⟨_,List.getElem?_eq_getElem (by omega),List.getElem?_eq_getElem (by omega)⟩

def applyS (op:Int)(a b:Int):Vl:=
 if op==5 then ⟨0,IntKind.i64.wrap (a+b),[]⟩ else if op==6 then ⟨0,IntKind.i64.wrap (a-b),[]⟩
 else if op==7 then flagS (decide (a<b)) else if op==8 then flagS (decide (a≤b))
 else if op==10 then flagS (a==1&&b==1) else if op==11 then flagS (a==1||b==1) else flagS (a != 1)

def twoS (op:Int)(v w:Vl):Vl:=if op==9 then flagS (eqV v w) else applyS op v.num w.num

/-- what an operation gives for values -/
def nodeV (op:Int)(l:List Vl):Vl×Int:=
 if operandsS op (l.map (·.kind)) != 0 then (v0,operandsS op (l.map (·.kind)))
 else if op==9 then (flagS (eqV (l.headD v0) ((l[1]?).getD v0)),0)
 else (applyS op (l.headD v0).num (l.getLastD v0).num,0)

mutual
def evalS (x:Evr):Ex→Vl×Int
  | ⟨op,args,var,field,kind,val⟩=>
    if args.isEmpty then leafS x ⟨op,args,var,field,kind,val⟩
    else if (evalL x args).2 != 0 then (v0,(evalL x args).2) else nodeV op (evalL x args).1
def evalL (x:Evr):List Ex→List Vl×Int
 | []=>([],0)
 | e::r=>if (evalS x e).2 != 0 then ([],(evalS x e).2) else if (evalL x r).2 != 0 then ([],(evalL x r).2) else ((evalS x e).1::(evalL x r).1,0)
end

theorem evalL_err (x:Evr):∀l,(evalL x l).2=firstS (fun a=>(evalS x a).2) l
  | []=>by simp [evalL,firstS]
  | e::r=>by
    have:=evalL_err x r
    by_cases h:((evalS x e).2 != 0)=true
    · rw [evalL,firstS,if_pos h,if_pos h]
    · rw [evalL,firstS,if_neg h,if_neg h,←this]
      by_cases h2:((evalL x r).2 != 0)=true
      · rw [if_pos h2]
      · rw [if_neg h2]
        have h3:(evalL x r).2=0:=by simpa using h2
        exact h3.symm

theorem evalL_ok (x:Evr):∀l,firstS (fun a=>(evalS x a).2) l=0→(evalL x l).1=l.map fun a=>(evalS x a).1
  | [],_=>by simp [evalL]
  | e::r,h=>by
    simp only [firstS] at h
    by_cases h1:((evalS x e).2 != 0)=true
    · rw [if_pos h1] at h;simp [h] at h1
    · rw [if_neg h1] at h
      have h2:¬((evalL x r).2 != 0)=true:=by rw [evalL_err,h];simp
      rw [evalL,if_neg h1,if_neg h2]
      simp [evalL_ok x r h]

theorem evalS_eq (x:Evr)(e:Ex):evalS x e=if e.args.isEmpty then leafS x e else if firstS (fun a=>(evalS x a).2) e.args != 0 then (v0,firstS (fun a=>(evalS x a).2) e.args) else nodeV e.op (e.args.map fun a=>(evalS x a).1):=by
 cases e with | mk op args var field kind val=>
 rw [evalS]
 simp only [evalL_err]
 by_cases h:firstS (fun a=>(evalS x a).2) args=0
 · simp [h,evalL_ok x args h]
 · simp [h]

def EvalS (x:Evr)(e:Ex):Vl×Int:=if checkS e != 0 then (v0,checkS e) else evalS x e
def TruthS (x:Evr)(e:Ex):Bool:=(EvalS x e).2==0&&eqV (EvalS x e).1 (flagS true)


def rwrongS (k:Int)(v:Vl):Int:=if vcheckS v != 0 then vcheckS v else if !rsuitsS k v then 9 else 0
theorem rwrong_eq (k:Int)(v:Vl)(h:knownS k=true):rwrongS k v=wrongS k v:=by
 unfold rwrongS wrongS;rw [suits_eq k v h]

theorem acheck_known {a:Ac}(h:acheckS a=0):knownS a.kind=true:=by
 unfold acheckS at h
 cases hk:knownS a.kind with
 | true=>rfl
 | false=>simp [hk] at h

def rresultS (a:Ac)(o:Vl):Vl×Int:=
 if acheckS a != 0 then (v0,acheckS a)
 else if rwrongS a.kind o != 0 then (v0,rwrongS a.kind o)
 else if a.kind==0 then (⟨0,a.count,[]⟩,0)
 else if a.count==0&&a.kind != 1 then (o,0)
 else (a.val,0)
def addS (a:Ac)(v:Vl):Ac×Int:=
 if acheckS a != 0 then (ac0,acheckS a)
 else if rwrongS a.kind v != 0 then (ac0,rwrongS a.kind v)
 else if a.count==4096 then (ac0,5)
 else if a.kind==0 then (⟨a.kind,IntKind.i64.wrap (a.count+1),v0⟩,0)
 else if decide (0<a.count) then (⟨a.kind,IntKind.i64.wrap (a.count+1),combS a.kind a.val v⟩,0)
 else (⟨a.kind,IntKind.i64.wrap (a.count+1),v⟩,0)

theorem vcheck_bound {v:Vl}(h:vcheckS v=0)(hk:v.kind=0):v.text = []∧-1099511627776≤v.num∧v.num≤1099511627776:=by
 unfold vcheckS vsizeS at h
 by_cases ht:v.text = []
 ·
  simp [hk,ht] at h
  exact ⟨ht,by omega⟩
 · simp [hk,ht] at h

theorem ac_count {a:Ac}(h:acheckS a=0):0≤a.count∧a.count≤4096:=by
 have hk:=acheck_known h
 unfold acheckS at h
 simp only [hk,Bool.not_true,Bool.false_eq_true,if_false] at h
 by_cases hc:(decide (a.count<0)||decide (4096<a.count))=true
 · rw [if_pos hc] at h;cases h
 · simp at hc;omega

theorem step_ok {k:Int}{a:Ac}{v:Vl}(h:acheckS a=0)(hk:a.kind=k)(hv:wrongS k v=0)(hc:a.count<4096) :
  acheckS (stepS k a v)=0∧(stepS k a v).kind=k∧(stepS k a v).count=a.count+1∧addS a v=(stepS k a v,0):=by
 have hkn:=acheck_known h
 have hcc:=ac_count h
 have hw:IntKind.i64.wrap (a.count+1)=a.count+1:=IntWalk.i64_in _ (by omega)
 have hadd:addS a v=if a.kind==0 then (⟨a.kind,a.count+1,v0⟩,0) else if decide (0<a.count) then (⟨a.kind,a.count+1,combS a.kind a.val v⟩,0) else (⟨a.kind,a.count+1,v⟩,0):=by
  unfold addS
  rw [hw,rwrong_eq _ _ hkn,h,hk,hv]
  have:(a.count==4096)=false:=by simp;omega
  simp [this]
 have hvc:vcheckS v=0:=by
  unfold wrongS at hv
  by_cases e:vcheckS v=0
  · exact e
  · simp [e] at hv
 have hvs:asuitsS k v=true:=by
  unfold wrongS at hv
  simp [hvc] at hv;exact hv
 rw [hadd]
 obtain ⟨ak,ac,av⟩:=a
 simp only at hk hkn hc hcc h hw ⊢
 subst hk
 have h2:=h
 unfold acheckS at h2
 simp only [hkn,Bool.not_true,Bool.false_eq_true,if_false] at h2
 have hn1:(decide (ac<0)||decide (4096<ac))=false:=by simp;omega
 simp only [hn1,Bool.false_eq_true,if_false] at h2
 simp only [knownS,Bool.and_eq_true,decide_eq_true_eq] at hkn
 have hn2:(decide (ac+1<0)||decide (4096<ac+1))=false:=by simp;omega
 have hk01:ak=0∨ak=1∨ak=2∨ak=3∨ak=4∨ak=5:=by omega
 by_cases h0:ac=0
 ·
  subst h0
  have hvi:ak=1→v.kind=0:=by
   intro e;subst e;simpa [asuitsS] using hvs
  rcases hk01 with rfl | rfl | rfl | rfl | rfl | rfl
  · refine ⟨by rfl,rfl,rfl,rfl⟩
  ·
   have hb:=vcheck_bound hvc (hvi rfl)
   refine ⟨?_,rfl,rfl,rfl⟩
   simp [stepS,mergedS,singleS,acheckS,knownS,hvi rfl,hb.1,hb.2]
  all_goals
   refine ⟨?_,rfl,rfl,rfl⟩
   simp [stepS,mergedS,singleS,acheckS,knownS,hvc,hvs]
 ·
  have hpos:0<ac:=by omega
  have e0:(ac==0)=false:=by simp [h0]
  have hst:stepS ak ⟨ak,ac,av⟩ v=⟨ak,ac+1,combS ak av (singleS ak v)⟩:=by
   simp [stepS,mergedS,h0,hw]
  rw [hst]
  refine ⟨?_,rfl,rfl,?_⟩
  ·
   unfold acheckS
   have hkk:knownS ak=true:=by simp [knownS];omega
   have e1:(ac+1==0)=false:=by simp;omega
   simp only [hkk,Bool.not_true,hn2,Bool.false_eq_true,if_false,e1,Bool.false_or]
   simp only [e0,Bool.false_or] at h2
   rcases hk01 with rfl | rfl | rfl | rfl | rfl | rfl
   · rfl
   ·
    have hvi:v.kind=0:=by simpa [asuitsS] using hvs
    have hb:=vcheck_bound hvc hvi
    simp at h2
    have:IntKind.i64.wrap (av.num+v.num)=av.num+v.num:=IntWalk.i64_in _ (by omega)
    simp [combS,singleS,this]
    omega
   ·
    have hvi:v.kind=0:=by simpa [asuitsS] using hvs
    have hb:=vcheck_bound hvc hvi
    simp at h2
    have hai:av.kind=0:=by simpa [asuitsS] using h2.2
    have hba:=vcheck_bound h2.1 hai
    have hm : -1099511627776≤min av.num v.num∧min av.num v.num≤1099511627776:=by omega
    simp [combS,singleS,vcheckS,vsizeS,asuitsS]
    omega
   ·
    have hvi:v.kind=0:=by simpa [asuitsS] using hvs
    have hb:=vcheck_bound hvc hvi
    simp at h2
    have hai:av.kind=0:=by simpa [asuitsS] using h2.2
    have hba:=vcheck_bound h2.1 hai
    have hm : -1099511627776≤max av.num v.num∧max av.num v.num≤1099511627776:=by omega
    simp [combS,singleS,vcheckS,vsizeS,asuitsS]
    omega
   · simpa [combS] using h2
   · simp [combS,singleS,hvc,hvs]
  ·
   have hd:decide (0<ac)=true:=by simp [hpos]
   rcases hk01 with rfl | rfl | rfl | rfl | rfl | rfl <;> simp [hd,combS,singleS]

theorem fold_ok {k:Int}:∀(l:List Vl) (a:Ac),acheckS a=0→a.kind=k→firstS (wrongS k) l=0→a.count+l.length≤4096→acheckS (l.foldl (stepS k) a)=0
  | [],a,h,_,_,_=>h
  | v::r,a,h,hk,hf,hc=>by
    simp only [firstS] at hf
    simp only [List.length_cons,Int.natCast_add,Int.cast_ofNat_Int] at hc
    by_cases hv:wrongS k v=0
    · rw [if_neg (by simp [hv])] at hf
      obtain ⟨h1,h2,h3,_⟩:=step_ok h hk hv (by omega)
      exact fold_ok r _ h1 h2 hf (by rw [h3];omega)
    · rw [if_pos (by simp [hv])] at hf;exact absurd hf hv


theorem foldr_max_drop {l:List Ex}{k:Nat}{a:Ex}(d:Nat)(h:l[k]? = some a):max d (((l.drop k).map depthN).foldr max 0)=max (max d (depthN a)) (((l.drop (k+1)).map depthN).foldr max 0):=by
 rw [drop_cons h];simp only [List.map_cons,List.foldr_cons];omega
theorem sum_drop {l:List Ex}{k:Nat}{a:Ex}(n:Nat)(h:l[k]? = some a):n+((l.drop k).map sizeN).sum=(n+sizeN a)+((l.drop (k+1)).map sizeN).sum:=by
 rw [drop_cons h];simp only [List.map_cons,List.sum_cons];omega

theorem size_pos (e:Ex):1≤sizeN e:=by rw [sizeN_eq];omega
theorem args_le (e:Ex)(h:sizeN e≤1048576):e.args.length≤1048576:=by
 rw [sizeN_eq] at h
 have:∀l:List Ex,l.length≤(l.map sizeN).sum:=by
  intro l
  induction l with
  | nil=>exact Nat.le_refl _
  | cons x r ih=>simp only [List.length_cons,List.map_cons,List.sum_cons];have:=size_pos x;omega
 have:=this e.args
 omega
theorem countNs_stop {L n:Nat}(h:L<n):∀l:List Ex,countNs L l n=n
 | []=>rfl
 | _::_=>by rw [countNs,if_neg (by omega)]

/-- What the reference says of a node. -/
def rnodeS (e:Ex):Int:=
 if decide ((if 0≤e.op∧e.op≤12 then arityS e.op else -1)<0) then 1
 else if (e.args.length:Int) != (if 0≤e.op∧e.op≤12 then arityS e.op else -1) then 15
 else if ((usesS e.op).1&&(decide (e.var<0)||decide (16≤e.var)))||((usesS e.op).2&&(decide (e.field<0)||decide (8≤e.field))) then 2
 else if e.op==4&&(decide (e.kind<1)||decide (5<e.kind)) then 1
 else if e.op==4||e.op==0 then (if vcheckS e.val != 0 then vcheckS e.val else if e.op==4&&(!rsuitsS e.kind e.val||(e.kind==1 && !isV0 e.val)) then 9 else formS e)
 else if e.op==4&&(!rsuitsS e.kind e.val||(e.kind==1 && !isV0 e.val)) then 9
 else formS e

theorem rnode_eq (e:Ex):rnodeS e=nodeS e:=by
  unfold rnodeS nodeS
  by_cases h:0≤e.op∧e.op≤12
  · have ha : ¬ arityS e.op < 0 := by unfold arityS; repeat' split
                                      all_goals omega
    simp only [h,and_self,if_true,decide_true,Bool.not_true,Bool.false_eq_true,if_false,ha,decide_false]
    split
    · rfl
    split
    · rfl
    by_cases h4:e.op=4
    · simp only [h4,BEq.rfl,Bool.true_and,Bool.true_or,if_true]
      by_cases hk:(decide (e.kind<1)||decide (5<e.kind))=true
      · rw [if_pos hk,if_pos hk]
      · rw [if_neg hk,if_neg hk]
        have hs:rsuitsS e.kind e.val=esuitsS e.kind e.val:=by
          simp at hk
          unfold rsuitsS esuitsS
          have:(e.kind==0)=false:=by simp;omega
          rw [this];simp
        unfold constS
        rw [hs,h4]
        by_cases hv:vcheckS e.val=0
        · rw [hv]
          simp only [bne_self_eq_false,Bool.false_eq_true,if_false,BEq.rfl,Bool.true_and]
          by_cases hb:(!esuitsS e.kind e.val||(e.kind==1 && !isV0 e.val))=true
          · rw [if_pos hb,if_pos hb];rfl
          · rw [if_neg hb,if_neg hb];rfl
        · simp [hv]
    · have h4':(e.op==4)=false:=by simp [h4]
      simp only [h4',Bool.false_and,Bool.false_eq_true,if_false,Bool.false_or]
      unfold constS
      simp only [h4',Bool.false_and,Bool.false_eq_true,if_false]
      by_cases hv:vcheckS e.val=0
      · simp [hv]
      · simp [hv]
  · simp [h]


theorem first_zero {α:Type}{f:α→Int}:∀{l:List α},firstS f l=0→∀a∈l,f a=0
  | [],_,_,h=>by cases h
  | x::r,h,a,ha=>by
    simp only [firstS] at h
    by_cases hx:f x=0
    · rw [if_neg (by simp [hx])] at h
      rcases List.mem_cons.1 ha with rfl | ha
      · exact hx
      · exact first_zero h a ha
    · rw [if_pos (by simpa using hx)] at h;exact absurd h hx

theorem nodes_zero {e:Ex}(h:nodesS e=0):nodeS e=0∧∀a∈e.args,nodesS a=0:=by
 rw [nodesS_eq] at h
 by_cases hx:nodeS e=0
 ·
  rw [if_neg (by simp [hx])] at h
  exact ⟨hx,first_zero h⟩
 · rw [if_pos (by simpa using hx)] at h;exact absurd h hx

theorem node_shape {e:Ex}(h:nodeS e=0):0≤e.op∧e.op≤12∧(e.args.length:Int)=arityS e.op:=by
 unfold nodeS at h
 split at h
 · cases h
 split at h
 · cases h
 rename_i h1 h2
 simp at h1 h2
 exact ⟨h1.1,h1.2,h2⟩

theorem node_field {e:Ex}(h:nodeS e=0):0≤e.field:=by
  have hf:formS e=0→(usesS e.op).2=false→e.field=0:=by
    intro h1 h2
    unfold formS at h1
    split at h1
    · cases h1
    · rename_i h3
      simp [h2] at h3
      exact h3.1.1.2
  unfold nodeS at h
  split at h
  · cases h
  split at h
  · cases h
  split at h
  · cases h
  rename_i h1 h2 h3
  cases hu:(usesS e.op).2 with
  | true=>
    simp [hu] at h3
    omega
  | false=>
    have:formS e=0:=by
      split at h
      · cases h
      split at h
      · split at h
        · rename_i h4
          exact absurd h (by simpa using h4)
        · exact h
      · exact h
    rw [hf this hu];exact Int.le_refl _

theorem node_args {e:Ex}(h:nodeS e=0)(hne:((e.args.length:Int)==0)=false):(e.args.length=1∧e.op=12)∨(e.args.length=2∧5≤e.op∧e.op≤11):=by
 obtain ⟨h1,h2,h3⟩:=node_shape h
 have hne':e.args.length≠0:=by simpa using hne
 unfold arityS at h3
 split at h3
 · omega
 split at h3
 · omega
 split at h3
 · omega
 · omega


mutual
def rebS (f:Ex→Ex):Ex→Ex
 | ⟨op,args,var,field,kind,val⟩=>f ⟨op,rebL f args,var,field,kind,val⟩
def rebL (f:Ex→Ex):List Ex→List Ex
 | []=>[]
 | e::r=>rebS f e::rebL f r
end
/-- the node with its arguments rebuilt -/
def outS (f:Ex→Ex)(e:Ex):Ex:=⟨e.op,e.args.map (rebS f),e.var,e.field,e.kind,e.val⟩
def arg0 (e:Ex):Ex:=e.args.headD ex0
def arg1 (e:Ex):Ex:=(e.args[1]?).getD ex0
def constE (v:Vl):Ex:=⟨0,[],0,0,0,v⟩
def isC (a:Ex)(b:Bool):Bool:=a.op==0&&eqV a.val (flagS b)

theorem get0 {e:Ex}(h:0<e.args.length):e.args[(0:Int).toNat]? = some (arg0 e):=by
 unfold arg0
 cases e with | mk op args a b c d=>
 cases args with
 | nil=>simp at h
 | cons x r=>rfl
theorem get1 {e:Ex}(h:1<e.args.length):e.args[(1:Int).toNat]? = some (arg1 e):=by
 unfold arg1
 have:e.args[1]? = some e.args[1]:=List.getElem?_eq_getElem h
 show e.args[1]? = _
 rw [this];rfl
theorem arg0_at {e:Ex}(h:0<e.args.length):(e.args.map encE)[(0:Int).toNat]? = some (cE (arg0 e)):=encE_at (get0 h)
theorem arg1_at {e:Ex}(h:1<e.args.length):(e.args.map encE)[(1:Int).toNat]? = some (cE (arg1 e)):=encE_at (get1 h)
theorem arg0_mem {e:Ex}(h:0<e.args.length):arg0 e∈e.args:=List.mem_of_getElem? (get0 h)
theorem arg1_mem {e:Ex}(h:1<e.args.length):arg1 e∈e.args:=List.mem_of_getElem? (get1 h)

theorem len_not {e:Ex}(h:nodeS e=0)(ho:e.op=12):0<e.args.length:=by
 obtain ⟨_,_,h3⟩:=node_shape h
 rw [ho] at h3
 have:arityS 12=1:=by decide
 omega
def knownS' (x:Evr)(e:Ex):Vl×Bool:=
 if e.args.any (fun a=>a.op != 0) then (v0,false) else if (e.args.length:Int)==0 then (v0,false) else ((evalS x e).1,(evalS x e).2==0&&vcheckS (evalS x e).1==0)

/-- what replaces a node whose arguments are folded -/
def fnodeS (x:Evr)(e:Ex):Ex:=
 if (knownS' x e).2 then constE (knownS' x e).1
 else if e.op==12&&(arg0 e).op==12 then arg0 (arg0 e)
 else if e.op != 10&&e.op != 11 then e
 else if isC (arg0 e) (e.op==10) then arg1 e
 else if isC (arg1 e) (e.op==10) then arg0 e
 else if isC (arg0 e) (!(e.op==10))||isC (arg1 e) (!(e.op==10)) then constE (flagS (!(e.op==10)))
 else e

/-- the evaluator of folding -/
def xz:Evr:=⟨[],-1,ev0⟩
def FoldS (e:Ex):Ex×Int:=if checkS e != 0 then (ex0,checkS e) else (rebS (fnodeS xz) e,0)

/-! ### Likeness -/
def headS (a b:Ex):Bool:=a.op != b.op||a.var != b.var||a.field != b.field||a.kind != b.kind || !eqV a.val b.val||(a.args.length:Int) != (b.args.length:Int)

mutual
def sameS:Ex→Ex→Bool
 | ⟨op,args,var,field,kind,val⟩,b=>if headS ⟨op,args,var,field,kind,val⟩ b then false else sameL args b.args
def sameL:List Ex→List Ex→Bool
 | [],_=>true
 | a::r,l=>if !sameS a (l.headD ex0) then false else sameL r l.tail
end
theorem sameS_eq (a b:Ex):sameS a b=if headS a b then false else sameL a.args b.args:=by cases a;rw [sameS]

theorem sameS_iff (a b:Ex):sameS a b=true↔a=b:=by
  induction a using Ex.ind generalizing b with
  | h a ih=>
    have hL:∀(l m:List Ex),(∀x∈l,∀y,sameS x y=true↔x=y)→l.length=m.length→(sameL l m=true↔l=m):=by
      intro l
      induction l with
      | nil=>intro m _ hl;cases m with | nil=>simp [sameL] | cons _ _=>simp at hl
      | cons x r ihl=>
        intro m hx hl
        cases m with
        | nil=>simp at hl
        | cons y s=>
          have h1:=hx x (by simp) y
          have h2:=ihl s (fun z hz=>hx z (by simp [hz])) (by simpa using hl)
          rw [List.cons.injEq]
          show (if (!sameS x y)=true then false else sameL r s)=true↔x=y∧r=s
          by_cases hs:sameS x y=true
          · rw [if_neg (by simp [hs]),h2];simp [h1.1 hs]
          · rw [if_pos (by simp [hs])]
            have:¬x=y:=fun e=>hs (h1.2 e)
            simp [this]
    rw [sameS_eq]
    by_cases hh:headS a b=true
    · rw [if_pos hh]
      constructor
      · intro h;cases h
      · intro e;subst e
        simp [headS] at hh
    · rw [if_neg hh]
      have hh':=hh
      simp [headS] at hh
      obtain ⟨⟨⟨⟨⟨h1,h2⟩,h3⟩,h4⟩,h5⟩,h6⟩:=hh
      rw [hL _ _ (fun x hx y=>ih x hx y) (by omega)]
      cases a with | mk _ _ _ _ _ av=>cases b with | mk _ _ _ _ _ bv=>
        cases av;cases bv
        simp_all
theorem sameS_refl (a:Ex):sameS a a=true:=(sameS_iff a a).2 rfl


/-! ### Folding again -/

/-- folded: each node stays as it is -/
inductive Fd (f:Ex→Ex):Ex→Prop where
 | mk (e:Ex) (ha:∀a∈e.args,Fd f a) (h:f e=e):Fd f e
/-! ### Depth -/
theorem check_parts {e:Ex}(h:checkS e=0):sizeN e≤64∧depthN e≤12∧nodesS e=0:=by
 unfold checkS at h
 split at h
 · cases h
 rename_i h1
 split at h
 · cases h
 rename_i h2
 simp at h1 h2
 exact ⟨by omega,by omega,h⟩
theorem check_of {e:Ex}(h1:sizeN e≤64)(h2:depthN e≤12)(h3:nodesS e=0):checkS e=0:=by
 unfold checkS
 rw [if_neg (by simp;omega),if_neg (by simp;omega)];exact h3

/-! ### The value -/
def okB (v:Vl):Prop:=v.kind=1→v=flagS (v.num==1)
theorem eval_leaf {x:Evr}{e:Ex}(h:e.args = []):evalS x e=leafS x e:=by rw [evalS_eq,if_pos (by simp [h])]
theorem eval_node' {x:Evr}{e:Ex}(hne:e.args≠[])(h:∀a∈e.args,(evalS x a).2=0):evalS x e=nodeV e.op (e.args.map fun a=>(evalS x a).1):=by
  have h0:¬e.args.isEmpty=true:=by simpa using hne
  have h1:firstS (fun a=>(evalS x a).2) e.args=0:=by
    have:∀l:List Ex,(∀a∈l,(evalS x a).2=0)→firstS (fun a=>(evalS x a).2) l=0:=by
      intro l
      induction l with
      | nil=>intro _;rfl
      | cons y r ih=>
        intro hl
        rw [firstS,if_neg (by simp [hl y (by simp)])]
        exact ih fun a ha=>hl a (by simp [ha])
    exact this _ h
  rw [evalS_eq,if_neg h0,if_neg (by simp [h1])]

theorem eval_const (x:Evr)(v:Vl):evalS x (constE v)=(v,0):=by rw [eval_leaf rfl];rfl

def atS (to:List Int)(v:Int):Int:=(to[v.toNat]?).getD 0
def renErrS (to:List Int)(e:Ex):Int:=
 if !(usesS e.op).1 then 0 else if decide ((to.length:Int)≤e.var) then 6 else if decide (atS to e.var<0)||decide (16≤atS to e.var) then 2 else 0
def renNodeS (to:List Int)(e:Ex):Ex:=if (usesS e.op).1 then ⟨e.op,e.args,atS to e.var,e.field,e.kind,e.val⟩ else e
def renS (to:List Int)(e:Ex):Ex×Int:=if visitS (renErrS to) e != 0 then (ex0,visitS (renErrS to) e) else (rebS (renNodeS to) e,0)
def RenameS (e:Ex)(to:List Int):Ex×Int:=if checkS e != 0 then (ex0,checkS e) else renS to e

theorem node_var {e:Ex}(h:nodeS e=0):0≤e.var∧e.var<16:=by
  have hf:formS e=0→(usesS e.op).1=false→e.var=0:=by
    intro h1 h2
    unfold formS at h1
    split at h1
    · cases h1
    · rename_i h3
      simp [h2] at h3
      exact h3.1.1.1
  unfold nodeS at h
  split at h
  · cases h
  split at h
  · cases h
  split at h
  · cases h
  rename_i h1 h2 h3
  cases hu:(usesS e.op).1 with
  | true=>
    simp [hu] at h3
    omega
  | false=>
    have:formS e=0:=by
      split at h
      · cases h
      split at h
      · split at h
        · rename_i h4
          exact absurd h (by simpa using h4)
        · exact h
      · exact h
    rw [hf this hu];omega


def ownS (e:Ex):List Nat:=if (usesS e.op).1&&decide (0≤e.var)&&decide (e.var<16) then [e.var.toNat] else []
mutual
def usedS:Ex→List Nat
 | ⟨op,args,var,field,kind,val⟩=>ownS ⟨op,args,var,field,kind,val⟩++usedL args
def usedL:List Ex→List Nat
 | []=>[]
 | e::r=>usedS e++usedL r
end
def cSeen (S:List Nat):List AV:=(List.range 16).map fun v=>.bool (S.contains v)
theorem seen_len (S:List Nat):(cSeen S).length=16:=rfl
def uptoS (S:List Nat)(k:Nat):List Int:=((List.range k).filter fun v=>S.contains v).map fun (v:Nat)=>(v:Int)
theorem upto_zero (S:List Nat):uptoS S 0 = []:=rfl
def varsS (e:Ex):List Int:=uptoS (usedS e) 16


/-! ### The two environments -/
/-- where a variable goes -/
def tvS (n b v:Nat):Int:=((v:Int)+(b:Int)).tmod (n:Int)
def toS (n b:Nat):List Int:=(List.range n).map (tvS n b)

structure Fi where
 name:List UInt8
 kind:Int
structure Sc where
 name:List UInt8
 fields:List Fi
structure Va where
 name:List UInt8
 type:Int
def cFi (f:Fi):List AV:=[.str f.name,.int .i64 f.kind]
def cSc (s:Sc):List AV:=[.str s.name,.sl 2 (s.fields.map cFi)]
def cVa (v:Va):List AV:=[.str v.name,.int .i64 v.type]
def sc0:Sc:=⟨[],[]⟩
def fi0:Fi:=⟨[],0⟩
def va0:Va:=⟨[],0⟩

def letS (n:Int):Bool:=n==95||(decide (97≤n)&&decide (n≤122))||(decide (65≤n)&&decide (n≤90))
def digS (n:Int):Bool:=decide (48≤n)&&decide (n≤57)
def chS (b:UInt8):Bool:=letS b.toNat||digS b.toNat
def nameS (s:List UInt8):Bool:=!(s.length==0)&&decide (s.length≤24) && !digS ((s.headD 0).toNat)&&s.all chS
def timeB:List UInt8:=[116,105,109,101]
def fnameS (s:List UInt8):Bool:=nameS s && !(s==timeB)

def fieldE (seen:List (List UInt8))(f:Fi):Int:=
 if !fnameS f.name then 8 else if seen.contains f.name then 7 else if decide (f.kind<0)||decide (3≤f.kind) then 1 else 0
def fieldsS:List (List UInt8)→List Fi→Int
 | _,[]=>0
 | seen,f::r=>if fieldE seen f != 0 then fieldE seen f else fieldsS (seen ++ [f.name]) r
def schS (s:Sc):Int:=if !nameS s.name then 8 else if decide (8<(s.fields.length:Int)) then 5 else fieldsS [] s.fields
def typeE (seen:List (List UInt8))(s:Sc):Int:=if schS s != 0 then schS s else if seen.contains s.name then 7 else 0
def typesS:List (List UInt8)→List Sc→Int
 | _,[]=>0
 | seen,s::r=>if typeE seen s != 0 then typeE seen s else typesS (seen ++ [s.name]) r
def allTS (l:List Sc):Int:=if decide (16<(l.length:Int)) then 5 else typesS [] l

/-- the first place of a name -/
def placeS (ns:List (List UInt8))(n:List UInt8):Int:=if ns.contains n then ((ns.idxOf n:Nat):Int) else -1
theorem place_lt {ns:List (List UInt8)}{k:Nat}{n:List UInt8}(h:ns[k]? = some n):decide (placeS ns n<(k:Int))=(ns.take k).contains n:=by
 have hm:n∈ns:=List.mem_of_getElem? h
 have hc:ns.contains n=true:=by simpa using hm
 unfold placeS
 rw [if_pos hc]
 have key:ns.idxOf n<k↔n∈ns.take k:=by
  constructor
  ·
   intro hlt
   have h1:ns.idxOf n<ns.length:=List.idxOf_lt_length_of_mem hm
   have h2:ns[ns.idxOf n]=n:=List.getElem_idxOf h1
   rw [List.mem_take_iff_getElem]
   exact ⟨ns.idxOf n,by omega,h2⟩
  ·
   intro hmem
   obtain ⟨i,hi,he⟩:=List.mem_take_iff_getElem.1 hmem
   have:ns.idxOf n≤i:=by
    refine Nat.le_of_not_lt fun hlt=>?_
    have h4:=List.not_of_lt_findIdx (p:=fun x=>x==n) (xs:=ns) (i:=i) hlt
    simp only [he] at h4
    simp at h4
   omega
 by_cases hk:ns.idxOf n<k
 ·
  have h2:=key.1 hk
  have e1:decide (((ns.idxOf n:Nat):Int)<(k:Int))=true:=by simp;omega
  rw [e1];symm;simpa using h2
 ·
  have h2:¬n∈ns.take k:=fun h=>hk (key.2 h)
  have e1:decide (((ns.idxOf n:Nat):Int)<(k:Int))=false:=by simp;omega
  rw [e1];symm;simpa using h2
/-! ### Kinds -/
def varE (n:Int)(v:Va):Int:=if decide (v.type<0)||decide (n≤v.type) then 6 else 0
def varsE (types:List Sc)(vars:List Va):Int:=if decide (16<(vars.length:Int)) then 5 else firstS (varE types.length) vars

def fldsS (types:List Sc)(vars:List Va)(v:Int):List Fi:=((types[((vars[v.toNat]?).getD va0).type.toNat]?).getD sc0).fields
def kindAt (l:List Fi)(k:Int):Int:=((l[k.toNat]?).getD fi0).kind
def leafK (types:List Sc)(vars:List Va)(e:Ex):Int×Int:=
 if e.op==0 then (e.val.kind,0)
 else if decide ((vars.length:Int)≤e.var) then (0,6)
 else if e.op==2||e.op==3 then (0,0)
 else if decide (((fldsS types vars e.var).length:Int)≤e.field) then (0,6)
 else if e.op==4&&(kindAt (fldsS types vars e.var) e.field != e.val.kind || !esuitsS e.kind ⟨kindAt (fldsS types vars e.var) e.field,0,[]⟩) then (0,9)
 else (kindAt (fldsS types vars e.var) e.field,0)
def resK (op:Int):Int:=if op==5||op==6 then 0 else 1

mutual
def kindS (types:List Sc)(vars:List Va):Ex→Int×Int
  | ⟨op,args,var,field,kind,val⟩=>
    if args.isEmpty then leafK types vars ⟨op,args,var,field,kind,val⟩
    else if (kindL types vars args).2 != 0 then (0,(kindL types vars args).2)
    else if operandsS op (kindL types vars args).1 != 0 then (0,operandsS op (kindL types vars args).1) else (resK op,0)
def kindL (types:List Sc)(vars:List Va):List Ex→List Int×Int
 | []=>([],0)
 | e::r=>if (kindS types vars e).2 != 0 then ([],(kindS types vars e).2) else if (kindL types vars r).2 != 0 then ([],(kindL types vars r).2) else ((kindS types vars e).1::(kindL types vars r).1,0)
end
theorem kindL_err (types:List Sc)(vars:List Va):∀l,(kindL types vars l).2=firstS (fun a=>(kindS types vars a).2) l
  | []=>by simp [kindL,firstS]
  | e::r=>by
    have:=kindL_err types vars r
    by_cases h:((kindS types vars e).2 != 0)=true
    · rw [kindL,firstS,if_pos h,if_pos h]
    · rw [kindL,firstS,if_neg h,if_neg h,←this]
      by_cases h2:((kindL types vars r).2 != 0)=true
      · rw [if_pos h2]
      · rw [if_neg h2]
        have h3:(kindL types vars r).2=0:=by simpa using h2
        exact h3.symm
theorem kindL_ok (types:List Sc)(vars:List Va):∀l,firstS (fun a=>(kindS types vars a).2) l=0→(kindL types vars l).1=l.map fun a=>(kindS types vars a).1
  | [],_=>by simp [kindL]
  | e::r,h=>by
    simp only [firstS] at h
    by_cases h1:((kindS types vars e).2 != 0)=true
    · rw [if_pos h1] at h;simp [h] at h1
    · rw [if_neg h1] at h
      have h2:¬((kindL types vars r).2 != 0)=true:=by rw [kindL_err,h];simp
      rw [kindL,if_neg h1,if_neg h2]
      simp [kindL_ok types vars r h]
theorem kindS_eq (types:List Sc)(vars:List Va)(e:Ex):kindS types vars e=if e.args.isEmpty then leafK types vars e else if firstS (fun a=>(kindS types vars a).2) e.args != 0 then (0,firstS (fun a=>(kindS types vars a).2) e.args)
  else if operandsS e.op (e.args.map fun a=>(kindS types vars a).1) != 0 then (0,operandsS e.op (e.args.map fun a=>(kindS types vars a).1)) else (resK e.op,0):=by
 cases e with | mk op args var field kind val=>
 rw [kindS]
 simp only [kindL_err]
 by_cases h:firstS (fun a=>(kindS types vars a).2) args=0
 · simp [h,kindL_ok types vars args h]
 · simp [h]
def KindS (types:List Sc)(vars:List Va)(e:Ex):Int×Int:=
 if allTS types != 0 then (0,allTS types) else if varsE types vars != 0 then (0,varsE types vars) else if checkS e != 0 then (0,checkS e) else kindS types vars e

/-- what the bound of the law says -/
def shortS (types:List Sc)(vars:List Va):Bool:=!((types.take 30).any fun s=>decide (12<(s.fields.length:Int)))&&(decide ((types.length:Int)≤20)&&decide ((vars.length:Int)≤20))

end Go.Proofs.YtkddpedfbicbeaaGreatDoor
