/-
  Several texts in one: B14, Ac. No condition.
-/
import Derived.Test.YtckhoadldibflaaGreatDoorRows
import Derived.Test.YtckhoadldibflaaGreatDoorK02
import Derived.Test.YtckhoadldibflaaGreatDoorK10
import Derived.Test.YtckhoadldibflaaGreatDoorK17
import Derived.JoinedCond
import Derived.ProofKit
import Derived.WideShapes
set_option linter.unusedVariables false
set_option linter.unusedSimpArgs false
namespace Go.Proofs.YtckhoadldibflaaGreatDoor
open Go Go.Aw
set_option maxRecDepth 20000

theorem M0 {H:Type}:Bulk (Rows.uptoBulk (H:=H)) Rows.uptoBulkAll where
 nil:=by simp [Rows.uptoBulkAll]
 cons:=by intro x r;simp [Rows.uptoBulkAll]
 agg:=by intro ps;simp [Rows.uptoBulk]
 slice:=by intro es sp;simp only [Rows.uptoBulk];omega
 str:=by intro s;simp [Rows.uptoBulk]
 one:=by
  intro d;cases d with
  | lit l=>cases l <;> simp [Rows.uptoBulk]
  | _=>simp [Rows.uptoBulk]
theorem u_Sy : Tryz.prog.underlying 25 = some (.struct #[⟨ "Kind", 3, 0, false, "", "", 0⟩, ⟨ "Text", 9, 1, false, "", "", 8⟩, ⟨ "Name", 9, 2, false, "", "", 24⟩, ⟨ "Num", 3, 3, false, "", "", 40⟩, ⟨ "Kids", 23, 4, false, "", "", 48⟩, ⟨ "At", 3, 5, false, "", "", 72⟩]) := by kernel_rfl
theorem z_Sy:Tryz.prog.cellsOf 25=6:=by kernel_rfl
theorem u_Sys:Tryz.prog.underlying 23=some (.slice 25):=by kernel_rfl
theorem z_Sys:Tryz.prog.cellsOf 23=1:=by kernel_rfl
theorem u_Sc : Tryz.prog.underlying 69 = some (.struct #[⟨ "Name", 9, 0, false, "", "", 0⟩, ⟨ "Fields", 67, 1, false, "", "", 16⟩]) := by kernel_rfl
theorem z_Sc:Tryz.prog.cellsOf 69=2:=by kernel_rfl
theorem vP:Tryz.prog.underlying 22=some (.slice 69):=by kernel_rfl
theorem u_Fi : Tryz.prog.underlying 111 = some (.struct #[⟨ "Name", 9, 0, false, "", "", 0⟩, ⟨ "Kind", 3, 1, false, "", "", 16⟩]) := by kernel_rfl
theorem z_Fi:Tryz.prog.cellsOf 111=2:=by kernel_rfl
theorem u_Fis:Tryz.prog.underlying 67=some (.slice 111):=by kernel_rfl
theorem z_Fis:Tryz.prog.cellsOf 67=1:=by kernel_rfl
def I64 (n:Int):Prop:=-9223372036854775808≤n∧n≤9223372036854775807
theorem wf_I64 {n:Int}(h:(Lit.int .i64 n).wf=true):I64 n:=by
 have h1:(decide (-9223372036854775808≤n)&&decide (n≤9223372036854775807))=true:=h;simp only [Gs,H5] at h1;exact h1
theorem Xn {α:Type}{f:α→Nat}(h:∀x,1≤f x):∀l:List α,l.length≤(l.map f).sum
 | []=>C4 _
 | a::r=>by have:=Xn h r;have:=h a;simp only [Ep,Dn,Ki];omega
theorem Ye {α:Type}{f:α→Nat}:∀{l:List α} {x:α},x∈l→f x≤(l.map f).sum
  | a::r,x,h=>by
    rcases G2.1 h with rfl | h
    · simp only [Dn,Ki];omega
    have:=Ye (f:=f) h;simp only [Dn,Ki];omega
def scN (s:e8Sc):Nat:=s.name.length+(s.fields.map fun f=>f.name.length+1).sum+1
def tysN (l:List e8Sc):Nat:=(l.map scN).sum+1
theorem sc_ok {s:e8Sc}(h:scN s≤1048576):Zj s:=by
 unfold scN at h;have h1:=Xn (f:=fun f:Fi=>f.name.length+1) (fun _=>Nat.succ_le_succ (E2 _)) s.fields;exact ⟨by omega,by omega,fun f hf=>by have:=Ye (f:=fun f:Fi=>f.name.length+1) hf;have h2:f.name.length+1≤(s.fields.map fun f=>f.name.length+1).sum:=this;omega⟩
theorem cC {l:List e8Sc}(h:tysN l≤1048576):l.length≤1048576∧∀s∈l,Zj s:=by
 unfold tysN at h;have h1:=Xn (f:=scN) (fun s=>by unfold scN;omega) l;exact ⟨by omega,fun s hs=>sc_ok (by have:=Ye (f:=scN) hs;omega)⟩

section
variable {H:Type} {enc:TypeId×Value→H} {w:World} {sp:Nat→Bool} {hd:Bool}
abbrev R (enc:TypeId×Value→H)(w:World)(sp:Nat→Bool)(hd:Bool){α:Type}(A8:Nat)(t:TypeId)(f:α→List AV)(ok:α→Prop)(bk:α→Nat):Prop:=Rd enc Tryz.prog w sp hd Rows.uptoBulk A8 t f ok bk
theorem rI (A8:Nat):R enc w sp hd A8 3 (fun n:Int=>[.int .i64 n]) I64 (fun _=>1):=(Rd.int (k:=.i64) (by kernel_rfl) M0).congr rfl (fun _ h=>wf_I64 h) (fun _=>C4 _)
theorem rS (A8:Nat):R enc w sp hd A8 9 (fun s:List UInt8=>[.str s]) (fun s=>s.length≤maxLen) (fun s=>s.length+1):=Rd.str (by kernel_rfl) M0
theorem z3:Tryz.prog.cellsOf 3=1:=by kernel_rfl
theorem z9:Tryz.prog.cellsOf 9=1:=by kernel_rfl
theorem xY:Cl=cSyn:=funext Ba
theorem rSy (A8:Nat):R enc w sp hd A8 25 cSyn (fun _=>True) (fun _=>0):=by
  induction A8 using Nat.strongRecOn with
  | _ n ih=>
    exact (Rd.struct' u_Sy M0 rfl (by kernel_rfl) (by kernel_rfl) fun m hm=>Rds.cons M0 z3 (rI m) <| Rds.cons M0 z9 (rS m) <| Rds.cons M0 z9 (rS m) <| Rds.cons M0 z3 (rI m) <|
      Rds.cons M0 z_Sys (Rd.slice' (z:=6) u_Sys z_Sy (by decide) M0 fun k hk=>ih k (Nat.lt_trans hk hm)) <| Rds.cons M0 z3 (rI m) Rds.nil).map
      (fun x=>(⟨x.1,x.2.1,x.2.2.1,x.2.2.2.1,x.2.2.2.2.1,x.2.2.2.2.2.1⟩:Syn)) (fun x=>by simp [cSyn,xY]) (fun _ _=>trivial) (fun x=>E2 _)
theorem rFi (A8:Nat):R enc w sp hd A8 111 cFi (fun _=>True) (fun f=>f.name.length+1):=
 (Rd.struct' u_Fi M0 rfl (by kernel_rfl) (by kernel_rfl) fun m _=>Rds.cons M0 z9 (rS m) <| Rds.cons M0 z3 (rI m) Rds.nil).map
  (fun x=>(⟨x.1,x.2.1⟩:Fi)) (fun _=>rfl) (fun _ _=>trivial) (fun _=>by simp only;omega)
theorem rSc (A8:Nat):R enc w sp hd A8 69 Mt (fun _=>True) scN:=
 (Rd.struct' u_Sc M0 rfl (by kernel_rfl) (by kernel_rfl) fun m _=>Rds.cons M0 z9 (rS m) <| Rds.cons M0 z_Fis (Rd.slice' (z:=2) u_Fis z_Fi (by decide) M0 fun k _=>rFi k) Rds.nil).map
  (fun x=>(⟨x.1,x.2.1⟩:e8Sc)) (fun _=>rfl) (fun _ _=>trivial) (fun _=>by simp only [scN];omega)
theorem rTys (A8:Nat):R enc w sp hd A8 22 (fun l:List e8Sc=>[.sl 2 (l.map Mt)]) (fun _=>True) tysN:=
 (Rd.slice' (z:=2) vP z_Sc (by decide) M0 fun k _=>rSc k).congr rfl (fun _ _=>trivial) (fun _=>C4 _)
end
end Go.Proofs.YtckhoadldibflaaGreatDoor

namespace Go.Aw
open Go
section
variable {P:Program} {w:World} {r:Reach} {base:Nat} {t:TypeId} {v:Value}
end
end Go.Aw
