/-
  How this seat's arguments read: expressions, events, environments, event types, variables. No condition.
-/
import Derived.Test.YtjedflcpjlgokaaGreatDoorRows
import Derived.Test.YtjedflcpjlgokaaGreatDoorK22
import Derived.Test.YtjedflcpjlgokaaGreatDoorK41
import Derived.JoinedCond
import Derived.ProofKit
namespace Go.Proofs.YtjedflcpjlgokaaGreatDoor
open Go Go.Aw
set_option linter.unusedVariables false
set_option linter.unusedSimpArgs false
set_option maxRecDepth 20000

theorem I1 {H:Type}:Bulk (Rows.uptoBulk (H:=H)) Rows.uptoBulkAll where
 nil:=by simp [Rows.uptoBulkAll]
 cons:=by intro x r;simp [Rows.uptoBulkAll]
 agg:=by intro ps;simp [Rows.uptoBulk]
 slice:=by intro es sp;simp only [Rows.uptoBulk];omega
 str:=by intro s;simp [Rows.uptoBulk]
 one:=by
  intro d
  cases d with
  | lit l=>cases l <;> simp [Rows.uptoBulk]
  | _=>simp [Rows.uptoBulk]
theorem u_V : Tryz.prog.underlying 28 = some (.struct #[⟨ "Kind", 3, 0, false, "", "", 0⟩, ⟨ "Num", 3, 1, false, "", "", 8⟩, ⟨ "Text", 9, 2, false, "", "", 16⟩]) := by kernel_rfl
theorem z_V:Tryz.prog.cellsOf 28=3:=by kernel_rfl
theorem u_E : Tryz.prog.underlying 30 = some (.struct #[⟨ "Op", 3, 0, false, "", "", 0⟩, ⟨ "Args", 26, 1, false, "", "", 8⟩, ⟨ "Var", 3, 2, false, "", "", 32⟩, ⟨ "Field", 3, 3, false, "", "", 40⟩, ⟨ "Kind", 3, 4, false, "", "", 48⟩, ⟨ "Value", 28, 5, false, "", "", 56⟩]) := by kernel_rfl
theorem z_E:Tryz.prog.cellsOf 30=8:=by kernel_rfl
theorem u_Es:Tryz.prog.underlying 26=some (.slice 30):=by kernel_rfl
theorem z_Es:Tryz.prog.cellsOf 26=1:=by kernel_rfl
theorem u_Fi : Tryz.prog.underlying 74 = some (.struct #[⟨ "Name", 9, 0, false, "", "", 0⟩, ⟨ "Kind", 3, 1, false, "", "", 16⟩]) := by kernel_rfl
theorem z_Fi:Tryz.prog.cellsOf 74=2:=by kernel_rfl
theorem u_Fis:Tryz.prog.underlying 70=some (.slice 74):=by kernel_rfl
theorem z_Fis:Tryz.prog.cellsOf 70=1:=by kernel_rfl
theorem u_Sc : Tryz.prog.underlying 72 = some (.struct #[⟨ "Name", 9, 0, false, "", "", 0⟩, ⟨ "Fields", 70, 1, false, "", "", 16⟩]) := by kernel_rfl
theorem z_Sc:Tryz.prog.cellsOf 72=2:=by kernel_rfl
theorem u_Tys:Tryz.prog.underlying 22=some (.slice 72):=by kernel_rfl
theorem z_Tys:Tryz.prog.cellsOf 22=1:=by kernel_rfl
theorem u_Va : Tryz.prog.underlying 69 = some (.struct #[⟨ "Name", 9, 0, false, "", "", 0⟩, ⟨ "Type", 3, 1, false, "", "", 16⟩]) := by kernel_rfl
theorem z_Va:Tryz.prog.cellsOf 69=2:=by kernel_rfl
theorem u_Vas:Tryz.prog.underlying 23=some (.slice 69):=by kernel_rfl
theorem z_Vas:Tryz.prog.cellsOf 23=1:=by kernel_rfl
theorem u_Scn : Tryz.prog.underlying 25 = some (.struct #[⟨ "Types", 22, 0, false, "", "", 0⟩, ⟨ "Vars", 23, 1, false, "", "", 24⟩]) := by kernel_rfl
def I64 (n:Int):Prop:=-9223372036854775808≤n∧n≤9223372036854775807
theorem wf_I64 {n:Int}(h:(Lit.int .i64 n).wf=true):I64 n:=by
 have h1:(decide (-9223372036854775808≤n)&&decide (n≤9223372036854775807))=true:=h
 simp only [Bool.and_eq_true,decide_eq_true_eq] at h1
 exact h1
theorem Vj {α:Type}{f:α→Nat}(h:∀x,1≤f x):∀l:List α,l.length≤(l.map f).sum
 | []=>Nat.le_refl _
 | a::r=>by have:=Vj h r;have:=h a;simp only [List.length_cons,List.map_cons,List.sum_cons];omega
theorem Xn {α:Type}{f:α→Nat}:∀{l:List α} {x:α},x∈l→f x≤(l.map f).sum
  | a::r,x,h=>by
    rcases List.mem_cons.1 h with rfl | h
    · simp only [List.map_cons,List.sum_cons];omega
    · have:=Xn (f:=f) h;simp only [List.map_cons,List.sum_cons];omega
theorem qG {α:Type}(l:List α):(l.map fun _=>1).sum=l.length:=by
 induction l with
 | nil=>rfl
 | cons a r ih=>simp only [List.map_cons,List.sum_cons,List.length_cons,ih];omega
def vN (v:Vl):Nat:=v.text.length+1
def evN (e:Ev):Nat:=(e.values.map vN).sum+1
def evsN (l:List Ev):Nat:=(l.map evN).sum+1
def envN (l:List (List Ev)):Nat:=(l.map evsN).sum+1
def scN (s:Sc):Nat:=s.name.length+(s.fields.map fun f=>f.name.length+1).sum+1
def zR (l:List Sc):Nat:=(l.map scN).sum+1
structure EvOK8 (e:Ev):Prop where
 len:e.values.length≤1048576
 texts:∀v∈e.values,v.text.length≤1048576
theorem sc_ok {s:Sc}(h:scN s≤1048576):Ig s:=by
 unfold scN at h
 have h1:=Vj (f:=fun f:Fi=>f.name.length+1) (fun _=>Nat.succ_le_succ (Nat.zero_le _)) s.fields
 exact ⟨by omega,by omega,fun f hf=>by have:=Xn (f:=fun f:Fi=>f.name.length+1) hf;have h2:f.name.length+1≤(s.fields.map fun f=>f.name.length+1).sum:=this;omega⟩
theorem vF {l:List Sc}(h:zR l≤1048576):l.length≤1048576∧∀s∈l,Ig s:=by
 unfold zR at h
 have h1:=Vj (f:=scN) (fun s=>by unfold scN;omega) l
 exact ⟨by omega,fun s hs=>sc_ok (by have:=Xn (f:=scN) hs;omega)⟩

section
variable {H:Type} {enc:TypeId×Value→H} {w:World} {sp:Nat→Bool} {hd:Bool}
abbrev R (enc:TypeId×Value→H)(w:World)(sp:Nat→Bool)(hd:Bool){α:Type}(fuel:Nat)(t:TypeId)(f:α→List AV)(ok:α→Prop)(bk:α→Nat):Prop:=Rd enc Tryz.prog w sp hd Rows.uptoBulk fuel t f ok bk
theorem rI (fuel:Nat):R enc w sp hd fuel 3 (fun n:Int=>[.int .i64 n]) I64 (fun _=>1):=(Rd.int (k:=.i64) (by kernel_rfl) I1).congr rfl (fun _ h=>wf_I64 h) (fun _=>Nat.le_refl _)
theorem rS (fuel:Nat):R enc w sp hd fuel 9 (fun s:List UInt8=>[.str s]) (fun s=>s.length≤maxLen) (fun s=>s.length+1):=Rd.str (by kernel_rfl) I1
theorem z3:Tryz.prog.cellsOf 3=1:=by kernel_rfl
theorem z9:Tryz.prog.cellsOf 9=1:=by kernel_rfl
theorem rV (fuel:Nat):R enc w sp hd fuel 28 cV (fun v=>I64 v.num) vN:=
 (Rd.struct' u_V I1 rfl (by kernel_rfl) (by kernel_rfl) fun m _=>Rds.cons I1 z3 (rI m) <| Rds.cons I1 z3 (rI m) <| Rds.cons I1 z9 (rS m) Rds.nil).map
  (fun x=>(⟨x.1,x.2.1,x.2.2.1⟩:Vl)) (fun _=>rfl) (fun _ h=>h.2.1) (fun _=>by simp only [vN];omega)
theorem uA:G8=cE:=funext Lr
theorem rE (fuel:Nat):R enc w sp hd fuel 30 cE (fun _=>True) Ar:=by
  induction fuel using Nat.strongRecOn with
  | _ n ih=>
    exact (Rd.struct' u_E I1 rfl (by kernel_rfl) (by kernel_rfl) fun m hm=>Rds.cons I1 z3 (rI m) <| Rds.cons I1 z_Es (Rd.slice' (z:=8) u_Es z_E (by decide) I1 fun k hk=>ih k (Nat.lt_trans hk hm)) <|
      Rds.cons I1 z3 (rI m) <| Rds.cons I1 z3 (rI m) <| Rds.cons I1 z3 (rI m) <| Rds.cons I1 z_V (rV m) Rds.nil).map
      (fun x=>(⟨x.1,x.2.1,x.2.2.1,x.2.2.2.1,x.2.2.2.2.1,x.2.2.2.2.2.1⟩:Ex)) (fun x=>by simp [cE,cV,uA]) (fun _ _=>trivial) (fun x=>by rw [Dp];simp only;omega)
theorem rFi (fuel:Nat):R enc w sp hd fuel 74 cFi (fun _=>True) (fun f=>f.name.length+1):=
 (Rd.struct' u_Fi I1 rfl (by kernel_rfl) (by kernel_rfl) fun m _=>Rds.cons I1 z9 (rS m) <| Rds.cons I1 z3 (rI m) Rds.nil).map
  (fun x=>(⟨x.1,x.2.1⟩:Fi)) (fun _=>rfl) (fun _ _=>trivial) (fun _=>by simp only;omega)
theorem rSc (fuel:Nat):R enc w sp hd fuel 72 Ob (fun _=>True) scN:=
 (Rd.struct' u_Sc I1 rfl (by kernel_rfl) (by kernel_rfl) fun m _=>Rds.cons I1 z9 (rS m) <| Rds.cons I1 z_Fis (Rd.slice' (z:=2) u_Fis z_Fi (by decide) I1 fun k _=>rFi k) Rds.nil).map
  (fun x=>(⟨x.1,x.2.1⟩:Sc)) (fun _=>rfl) (fun _ _=>trivial) (fun _=>by simp only [scN];omega)
theorem rTys (fuel:Nat):R enc w sp hd fuel 22 (fun l:List Sc=>[.sl 2 (l.map Ob)]) (fun _=>True) zR:=
 (Rd.slice' (z:=2) u_Tys z_Sc (by decide) I1 fun k _=>rSc k).congr rfl (fun _ _=>trivial) (fun _=>Nat.le_refl _)
theorem rVa (fuel:Nat):R enc w sp hd fuel 69 S4 (fun _=>True) (fun _=>1):=
 (Rd.struct' u_Va I1 rfl (by kernel_rfl) (by kernel_rfl) fun m _=>Rds.cons I1 z9 (rS m) <| Rds.cons I1 z3 (rI m) Rds.nil).map
  (fun x=>(⟨x.1,x.2.1⟩:Va)) (fun _=>rfl) (fun _ _=>trivial) (fun x=>by show 1≤x.1.length+1+(1+0);omega)
theorem rVas (fuel:Nat):R enc w sp hd fuel 23 (fun l:List Va=>[.sl 2 (l.map S4)]) (fun _=>True) (fun l=>l.length+1):=
 (Rd.slice' (z:=2) u_Vas z_Va (by decide) I1 fun k _=>rVa k).congr rfl (fun _ _=>trivial) (fun l=>by rw [qG];exact Nat.le_refl _)
theorem rScn (fuel:Nat):R enc w sp hd fuel 25 (fun s:List Sc×List Va=>Cf s.1 s.2) (fun _=>True) (fun s=>zR s.1+s.2.length):=
 (Rd.struct' u_Scn I1 rfl (by kernel_rfl) (by kernel_rfl) fun m _=>Rds.cons I1 z_Tys (rTys m) <| Rds.cons I1 z_Vas (rVas m) Rds.nil).map
  (fun x=>(x.1,x.2.1)) (fun _=>rfl) (fun _ _=>trivial) (fun _=>by simp only;omega)
end
end Go.Proofs.YtjedflcpjlgokaaGreatDoor
