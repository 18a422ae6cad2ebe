/-
  Several texts in one: Y16, G11, B11. No condition.
-/
import Derived.Test.YtkddpedfbicbeaaGreatDoorK01
import Derived.Test.YtkddpedfbicbeaaGreatDoorK15
import Derived.KernelRfl
import Derived.Test.YtkddpedfbicbeaaGreatDoorAx
import Derived.Test.YtkddpedfbicbeaaGreatDoorCards
import Derived.Test.YtkddpedfbicbeaaGreatDoorTie
import Derived.Deep.DeepHandedRow
import Derived.Lib.LaidTab
import Derived.Test.YtkddpedfbicbeaaGreatDoorRows
import Derived.Test.YtkddpedfbicbeaaGreatDoorK08
import Derived.JoinedCond
import Derived.ProofKit
namespace Go.Proofs.YtkddpedfbicbeaaGreatDoor
open Go Go.Aw
set_option maxHeartbeats 3200000
set_option maxRecDepth 20000
set_option linter.unusedVariables false
set_option linter.unusedSimpArgs false

set_option maxRecDepth 100000
theorem okL_sum:∀(l:List (Ex×Int)),((okL l).1.map sizeN).sum≤(l.map fun p=>sizeN p.1).sum
  | []=>Nat.le_refl _
  | p::r=>by
    rw [okL]
    split
    · simp
    · have:=okL_sum r;simp only [List.map_cons,List.sum_cons];omega
theorem okL_some:∀{l:List (Ex×Int)} {p},(okL l).2=some p→p∈l
  | [],_,h=>by cases h
  | q::r,p,h=>by
    rw [okL] at h
    split at h
    · cases h;exact List.mem_cons_self ..
    · exact List.mem_cons_of_mem _ (okL_some h)
theorem sum_le {α:Type}{f g:α→Nat}:∀{l:List α},(∀x∈l,f x≤g x)→(l.map f).sum≤(l.map g).sum
  | [],_=>Nat.le_refl _
  | a::r,h=>by
    have h1:=h a (List.mem_cons_self ..)
    have h2:=sum_le (l:=r) fun x hx=>h x (List.mem_cons_of_mem _ hx)
    simp only [List.map_cons,List.sum_cons];omega
theorem mem_sum {α:Type}{f:α→Nat}:∀{l:List α} {x:α},x∈l→f x≤(l.map f).sum
  | a::r,x,h=>by
    rcases List.mem_cons.1 h with rfl | h
    · simp only [List.map_cons,List.sum_cons];omega
    · have:=mem_sum (f:=f) h;simp only [List.map_cons,List.sum_cons];omega
theorem known_size (vars:List (List Ev))(e:Ex):sizeN (knownE vars e).1≤sizeN e:=by
  induction e using Ex.ind with
  | h e ih=>
    have hs:sizeN e=1+(e.args.map sizeN).sum:=by rw [sizeN_eq]
    have hk:((e.args.map (knownE vars)).map fun p=>sizeN p.1).sum≤(e.args.map sizeN).sum:=by rw [List.map_map];exact sum_le fun x hx=>ih x hx
    rw [knownE_eq,knownN]
    split
    · split
      · exact Nat.le_refl _
      · show sizeN (constE _)≤_
        rw [sizeN_eq];simp [constE];omega
    · cases h:(okL (e.args.map (knownE vars))).2 with
      | some p=>
        obtain ⟨x,hx,rfl⟩:=List.mem_map.1 (okL_some h)
        have:=ih x hx
        have:=mem_sum (f:=sizeN) hx
        simp only;omega
      | none=>
        have:=okL_sum (e.args.map (knownE vars))
        simp only;rw [sizeN_eq];simp only;omega
theorem Known_size (vars:List (List Ev))(e:Ex)(h:sizeN e≤1048576):sizeN (KnownS vars e).1≤1048576:=by
  unfold KnownS
  split
  · exact (show sizeN ex0≤1048576 by decide)
  · split
    · exact (show sizeN ex0≤1048576 by decide)
    · exact Nat.le_trans (known_size vars e) h
theorem Negate_size (e:Ex):sizeN (NegateS e).1≤1048576:=by
  unfold NegateS
  split
  · exact (show sizeN ex0≤1048576 by decide)
  · rename_i h1
    split
    · exact (show sizeN ex0≤1048576 by decide)
    · rename_i h2
      exact Nat.le_trans (check_size (Bool.eq_false_iff.2 h2)) (by decide)
theorem same_refl (e:Ex):sameS e e=true:=(sameS_iff e e).2 rfl
theorem l_ConditionKnows (e:Ex)(hs:sizeN e≤1048576)(vars:List (List Ev))(hv:vars.length≤1048576)(hx:∀l∈vars,l.length≤1048576)(hy:∀l∈vars,∀v∈l,v.values.length≤1048576):APure Tryz.prog 4 [.agg (cE e),.agg (cEnv vars)] (.bool true):=by
 refine APure.body (n:=65) tok Tryz.func4 rfl rfl rfl fun H=>?_
 refine Qsr (Qp Qbe ?_)
 refine Qp (Qbx [_]) ?_
 refine Qp Qab ?_
 refine Qnn (AW.seq (Qsr (Qp Qle ?_)))
 refine Qp (Qc rfl (c34 e hs)) ?_
 refine Qp Qnt ?_
 refine Qp Qmb ?_
 refine Qg [] Qw (Qlg [_]) ?_
 refine Qg [(17,_)] Qw (Qc rfl (c12 vars hv hx)) ?_
 refine Qg [(18,_)] Qw Qnt ?_
 refine Qp Qpo ?_
 refine Qnn (Qif (fun hc1=>?_) fun hc1=>?_)
 ·
  refine Qsr (Qp (Qc rfl (l_awake)) ?_)
  refine Qp Qab ?_
  refine Qnn (Qrt (Qr (.bool _) ?_))
  rfl
 ·
  refine Qst (Qsr (Qp Qle ?_))
  refine Qp (Qc rfl (d_Negate e hs)) ?_
  refine Qp Qmu ?_
  refine Qp (P_extract (v:=.agg [.int .i64 _,_,.int .i64 _,.int .i64 _,.int .i64 _,.int .i64 _,.int .i64 _,.str _]) rfl rfl) ?_
  refine Qp Qxi ?_
  refine Qe (E_alloc (l:=[.int .i64 0,.sl 8 [],.int .i64 0,.int .i64 0,.int .i64 0,.int .i64 0,.int .i64 0,.str []]) (by kernel_rfl)) ?_
  rintro _ _ ⟨b5,rfl,rfl⟩
  refine Qe (E_store (k:=0) (v:=.agg _) (cs':=[.int .i64 _,_,.int .i64 _,.int .i64 _,.int .i64 _,.int .i64 _,.int .i64 _,.str _]) (H2:=_::_) tok rfl rfl rfl rfl (rfl) rfl rfl rfl rfl) ?_
  rintro _ _ ⟨rfl,rfl⟩
  refine Qp Qai ?_
  refine AOL.ghost (GS.freeze (t:=5) 0 rfl rfl) ?_
  refine Qns (Qp Qle ?_)
  refine Qp (Qc rfl (r_Negate e hs)) ?_
  refine Qp Qmu ?_
  refine Qp (P_extract (v:=.agg [.int .i64 _,_,.int .i64 _,.int .i64 _,.int .i64 _,.int .i64 _,.int .i64 _,.str _]) rfl rfl) ?_
  refine Qp Qxi ?_
  refine Qe (E_alloc (l:=[.int .i64 0,.sl 8 [],.int .i64 0,.int .i64 0,.int .i64 0,.int .i64 0,.int .i64 0,.str []]) (by kernel_rfl)) ?_
  rintro _ _ ⟨b7,rfl,rfl⟩
  refine Qe (E_store (k:=0) (v:=.agg _) (cs':=[.int .i64 _,_,.int .i64 _,.int .i64 _,.int .i64 _,.int .i64 _,.int .i64 _,.str _]) (H2:=_::_) tok rfl rfl rfl rfl (rfl) rfl rfl rfl rfl) ?_
  rintro _ _ ⟨rfl,rfl⟩
  refine Qp Qai ?_
  refine AOL.ghost (GS.freeze (t:=7) 0 rfl rfl) ?_
  refine Qns (Qp Qle ?_)
  refine Qp (Qlg [_]) ?_
  refine Qp (Qc rfl (d_Known vars hv hx hy e hs)) ?_
  refine Qp Qmu ?_
  refine Qp (P_extract (v:=.agg [.int .i64 _,_,.int .i64 _,.int .i64 _,.int .i64 _,.int .i64 _,.int .i64 _,.str _]) rfl rfl) ?_
  refine Qp Qxi ?_
  refine Qe (E_alloc (l:=[.int .i64 0,.sl 8 [],.int .i64 0,.int .i64 0,.int .i64 0,.int .i64 0,.int .i64 0,.str []]) (by kernel_rfl)) ?_
  rintro _ _ ⟨b9,rfl,rfl⟩
  refine Qe (E_store (k:=0) (v:=.agg _) (cs':=[.int .i64 _,_,.int .i64 _,.int .i64 _,.int .i64 _,.int .i64 _,.int .i64 _,.str _]) (H2:=_::_) tok rfl rfl rfl rfl (rfl) rfl rfl rfl rfl) ?_
  rintro _ _ ⟨rfl,rfl⟩
  refine Qp Qai ?_
  refine AOL.ghost (GS.freeze (t:=9) 0 rfl rfl) ?_
  refine Qns (Qp Qle ?_)
  refine Qp (Qlg [_]) ?_
  refine Qp (Qc rfl (r_Known vars hv hx hy e hs)) ?_
  refine Qp Qmu ?_
  refine Qp (P_extract (v:=.agg [.int .i64 _,_,.int .i64 _,.int .i64 _,.int .i64 _,.int .i64 _,.int .i64 _,.str _]) rfl rfl) ?_
  refine Qp Qxi ?_
  refine Qe (E_alloc (l:=[.int .i64 0,.sl 8 [],.int .i64 0,.int .i64 0,.int .i64 0,.int .i64 0,.int .i64 0,.str []]) (by kernel_rfl)) ?_
  rintro _ _ ⟨b11,rfl,rfl⟩
  refine Qe (E_store (k:=0) (v:=.agg _) (cs':=[.int .i64 _,_,.int .i64 _,.int .i64 _,.int .i64 _,.int .i64 _,.int .i64 _,.str _]) (H2:=_::_) tok rfl rfl rfl rfl (rfl) rfl rfl rfl rfl) ?_
  rintro _ _ ⟨rfl,rfl⟩
  refine Qp Qai ?_
  refine AOL.ghost (GS.freeze (t:=11) 0 rfl rfl) ?_
  refine Qns (Qp (Qc rfl (l_awake)) ?_)
  refine Qp Qmb ?_
  refine Qg [] Qw Qle ?_
  refine Qg [] Qw Qle ?_
  refine AOL.g (y:=.bool _) _ [(46,_),(47,_)] rfl (EntL.all ⟨Ent.self _ _,Ent.self _ _,trivial⟩) (fun hG=>P_callf (by kernel_rfl) rfl rfl (c20 _ _ (Negate_size e))) rfl ?_
  refine Qp Qpa ?_
  refine Qp Qmb ?_
  refine Qg [] Qw Qmi ?_
  refine Qg [] Qw Qmi ?_
  refine AOL.g (y:=.bool _) _ [(51,_),(52,_)] rfl (EntL.all ⟨Ent.self _ _,Ent.self _ _,trivial⟩) (fun hG=>P_eql rfl rfl) rfl ?_
  refine Qp Qpa ?_
  refine Qp Qmb ?_
  refine Qg [] Qw Qle ?_
  refine Qg [] Qw Qle ?_
  refine AOL.g (y:=.bool _) _ [(56,_),(57,_)] rfl (EntL.all ⟨Ent.self _ _,Ent.self _ _,trivial⟩) (fun hG=>P_callf (by kernel_rfl) rfl rfl (c20 _ _ (Known_size vars e hs))) rfl ?_
  refine Qp Qpa ?_
  refine Qp Qmb ?_
  refine Qg [] Qw Qmi ?_
  refine Qg [] Qw Qmi ?_
  refine AOL.g (y:=.bool _) _ [(61,_),(62,_)] rfl (EntL.all ⟨Ent.self _ _,Ent.self _ _,trivial⟩) (fun hG=>P_eql rfl rfl) rfl ?_
  refine Qp Qpa ?_
  refine Qp Qab ?_
  refine Qnn (AW.ret (Qr (.bool _) ?_))
  show AV.bool _=AV.bool true
  simp only [same_refl,beq_self_eq_true,Bool.and_self,Bool.and_true,Bool.true_and]
end Go.Proofs.YtkddpedfbicbeaaGreatDoor

namespace Go.Proofs.YtkddpedfbicbeaaGreatDoor
open Go Go.Aw Go.ChangeShapes Go.WideShapes Go.ChangeAt Go.RowKit
set_option linter.unusedVariables false
set_option linter.unusedSimpArgs false
set_option maxRecDepth 100000

theorem laid:laidOutB Tryz.prog=true:=by kernel_rfl
theorem own:ownKnob Tryz.prog.godebug=none:=by kernel_rfl
def pow10L:List Int:=[1,10,100,1000,10000,100000,1000000,10000000,100000000,1000000000,10000000000,100000000000,1000000000000,10000000000000,100000000000000,1000000000000000,10000000000000000,100000000000000000,1000000000000000000,10000000000000000000]
theorem pow_of {W : World} (h : laidMet Tryz.prog Rows.conditionKnowsRow.laid W) : Lib.TabIs Tryz.prog W "internal/strconv.uint64pow10" .u64 pow10L := by
  obtain ⟨ps,⟨_,_,_,_,_,_,_,_,_,_,⟨_,_,_,_,_,_,_,_,_,_,⟨g',t',cs,fuel,p,q,hg',ht',hvar,hd,_,_⟩,_⟩,_⟩,_⟩:=h
  obtain rfl := Option.some.inj ((show Tryz.prog.globalNamed "internal/strconv.uint64pow10" = some 0 by kernel_rfl).symm.trans hg')
  obtain rfl:=Option.some.inj ((show (Tryz.prog.globals[0]?).map (·.type)=some 266 by kernel_rfl).symm.trans ht')
  have:=Lib.cells_of_tab (k:=.u64) (zs:=pow10L) (n:=20) (e:=254) (by kernel_rfl) (by kernel_rfl) (by kernel_rfl) (by kernel_rfl) hd
  unfold Lib.TabIs
  rw [hvar,←this]
theorem pow_heap {W : World} (h : Lib.TabIs Tryz.prog W "internal/strconv.uint64pow10" .u64 pow10L) : ∃ T fr, W.heap[0]? = some (.cells (pow10L.map fun z => Value.int .u64 z).toArray T fr) := by
  have e : Tryz.prog.globalNamed "internal/strconv.uint64pow10" = some 0 := by kernel_rfl
  unfold Lib.TabIs World.var? at h
  rw [e] at h
  have hk:∀(X:Array Value) (o:Option Obj),(match o with | some (Obj.cells cs _ _)=>some cs | _=>none)=some X→∃T fr,o=some (Obj.cells X T fr):=by
    intro X o h
    match o,h with
    | some (Obj.cells cs T fr),h=>exact ⟨T,fr,by rw [Option.some.inj h]⟩
  exact hk _ _ h
theorem globOK {W:World}(h:laidMet Tryz.prog Rows.conditionKnowsRow.laid W)(hS:W.ShapedOpen Tryz.prog):GlobOK g0 W:=by
  have ht:=pow_of h
  refine ⟨fun p hp=>?_,fun p hp=>?_⟩
  · obtain rfl:=List.mem_singleton.1 hp
    refine ⟨pow10Cells,rfl,?_⟩
    have hcell : ∀ j, W.cell? ⟨0, j, none⟩ = (pow10L.map fun z => Value.int .u64 z).toArray[j]? := fun j => World.var?_cell (show Tryz.prog.globalNamed "internal/strconv.uint64pow10" = some 0 by kernel_rfl) ht j
    have hs:pow10Cells=pow10L.map fun z=>AV.int .u64 z:=rfl
    rw [hs]
    refine .ptr 0 0 _ (fun j=>Value.int .u64 (pow10L.getD j 0)) (fun j x hj=>?_) (fun j x hj=>?_)
    · rw [List.getElem?_map] at hj
      cases hq:pow10L[j]? with
      | none=>rw [hq] at hj;cases hj
      | some y=>
        refine ⟨trivial,?_⟩
        rw [Nat.zero_add,hcell j]
        simp [hq,List.getD_eq_getElem?_getD]
    · rw [List.getElem?_map] at hj
      cases hq:pow10L[j]? with
      | none=>rw [hq] at hj;cases hj
      | some y=>
        rw [hq] at hj
        simp only [Option.map_some,Option.some.injEq] at hj
        subst hj
        have e:pow10L.getD j 0=y:=by rw [List.getD_eq_getElem?_getD,hq];rfl
        rw [e]
        exact .int _ _
  · obtain rfl:=List.mem_singleton.1 hp
    exact ⟨rfl,pow_heap ht⟩
/-- A world for the witness: the settled one, with the tables as the program's text lays them. -/
def setTab (k:IntKind)(l:List Int):Obj→Obj
  | .cells _ t frozen=>.cells (l.map fun z=>Value.int k z).toArray t frozen
  | o=>o
def ofTab (d:DataW Unit):List Int:=match d with
  | .agg l=>l.map fun | .lit (.int _ n)=>n | _=>0
  | _=>[]
noncomputable def laidWorld (os:Os):World:=
  { World.holding Tryz.prog os ⟨#[],#[],[]⟩ with heap:=(((World.holding Tryz.prog os ⟨#[],#[],[]⟩).heap.modify 0 (setTab .u64 pow10L)).modify 1 (setTab .u8 (ofTab Rows.laid_math_bits_deBruijn32tab))).modify 2 (setTab .u8 (ofTab Rows.laid_math_bits_deBruijn64tab)) }
end Go.Proofs.YtkddpedfbicbeaaGreatDoor

namespace Go.Proofs.YtkddpedfbicbeaaGreatDoor
open Go Go.Aw
set_option linter.unusedVariables false
set_option linter.unusedSimpArgs false
set_option maxRecDepth 20000

theorem bulk {H:Type}:Bulk (Rows.uptoBulk (H:=H)) Rows.uptoBulkAll where
  nil:=by simp [Rows.uptoBulkAll]
  cons:=by intro x r;simp [Rows.uptoBulkAll]
  agg:=by intro ps;simp [Rows.uptoBulk]
  slice:=by intro es sp;simp only [Rows.uptoBulk];omega
  str:=by intro s;simp [Rows.uptoBulk]
  one:=by
    intro d
    cases d with
    | lit l=>cases l <;> simp [Rows.uptoBulk]
    | _=>simp [Rows.uptoBulk]
theorem u_V : Tryz.prog.underlying 28 = some (.struct #[⟨ "Kind", 3, 0, false, "", "", 0⟩, ⟨ "Num", 3, 1, false, "", "", 8⟩, ⟨ "Text", 9, 2, false, "", "", 16⟩]) := by kernel_rfl
theorem z_V:Tryz.prog.cellsOf 28=3:=by kernel_rfl
theorem u_Vs:Tryz.prog.underlying 65=some (.slice 28):=by kernel_rfl
theorem z_Vs:Tryz.prog.cellsOf 65=1:=by kernel_rfl
theorem u_E : Tryz.prog.underlying 30 = some (.struct #[⟨ "Op", 3, 0, false, "", "", 0⟩, ⟨ "Args", 26, 1, false, "", "", 8⟩, ⟨ "Var", 3, 2, false, "", "", 32⟩, ⟨ "Field", 3, 3, false, "", "", 40⟩, ⟨ "Kind", 3, 4, false, "", "", 48⟩, ⟨ "Value", 28, 5, false, "", "", 56⟩]) := by kernel_rfl
theorem z_E:Tryz.prog.cellsOf 30=8:=by kernel_rfl
theorem u_Es:Tryz.prog.underlying 26=some (.slice 30):=by kernel_rfl
theorem z_Es:Tryz.prog.cellsOf 26=1:=by kernel_rfl
theorem u_Ev : Tryz.prog.underlying 67 = some (.struct #[⟨ "Source", 3, 0, false, "", "", 0⟩, ⟨ "Seq", 3, 1, false, "", "", 8⟩, ⟨ "Type", 3, 2, false, "", "", 16⟩, ⟨ "Time", 3, 3, false, "", "", 24⟩, ⟨ "Values", 65, 4, false, "", "", 32⟩]) := by kernel_rfl
theorem z_Ev:Tryz.prog.cellsOf 67=5:=by kernel_rfl
theorem u_Evs:Tryz.prog.underlying 58=some (.slice 67):=by kernel_rfl
theorem z_Evs:Tryz.prog.cellsOf 58=1:=by kernel_rfl
theorem u_Evss:Tryz.prog.underlying 45=some (.slice 58):=by kernel_rfl
theorem z_Evss:Tryz.prog.cellsOf 45=1:=by kernel_rfl
theorem u_Env : Tryz.prog.underlying 47 = some (.struct #[⟨ "Vars", 45, 0, false, "", "", 0⟩]) := by kernel_rfl
def I64 (n:Int):Prop:=-9223372036854775808≤n∧n≤9223372036854775807
theorem wf_I64 {n:Int}(h:(Lit.int .i64 n).wf=true):I64 n:=by
  have h1:(decide (-9223372036854775808≤n)&&decide (n≤9223372036854775807))=true:=h
  simp only [Bool.and_eq_true,decide_eq_true_eq] at h1
  exact h1
theorem sumB_len {α:Type}{f:α→Nat}(h:∀x,1≤f x):∀l:List α,l.length≤(l.map f).sum
  | []=>Nat.le_refl _
  | a::r=>by have:=sumB_len h r;have:=h a;simp only [List.length_cons,List.map_cons,List.sum_cons];omega
theorem sumB_mem {α:Type}{f:α→Nat}:∀{l:List α} {x:α},x∈l→f x≤(l.map f).sum
  | a::r,x,h=>by
    rcases List.mem_cons.1 h with rfl | h
    · simp only [List.map_cons,List.sum_cons];omega
    · have:=sumB_mem (f:=f) h;simp only [List.map_cons,List.sum_cons];omega
def vN (v:Vl):Nat:=v.text.length+1
def evN (e:Ev):Nat:=(e.values.map vN).sum+1
def evsN (l:List Ev):Nat:=(l.map evN).sum+1
def envN (l:List (List Ev)):Nat:=(l.map evsN).sum+1
def scN (s:Sc):Nat:=s.name.length+(s.fields.map fun f=>f.name.length+1).sum+1
def tysN (l:List Sc):Nat:=(l.map scN).sum+1
structure EvOK8 (e:Ev):Prop where
  len:e.values.length≤1048576
  texts:∀v∈e.values,v.text.length≤1048576
theorem ev_ok {e:Ev}(h:evN e≤1048576):EvOK8 e:=by
  unfold evN at h
  have h1:=sumB_len (f:=vN) (fun _=>Nat.succ_le_succ (Nat.zero_le _)) e.values
  exact ⟨by omega,fun v hv=>by have:=sumB_mem (f:=vN) hv;unfold vN at this h;omega⟩
theorem evs_ok {l:List Ev}(h:evsN l≤1048576):l.length≤1048576∧∀e∈l,EvOK8 e:=by
  unfold evsN at h
  have h1:=sumB_len (f:=evN) (fun _=>Nat.succ_le_succ (Nat.zero_le _)) l
  exact ⟨by omega,fun e he=>ev_ok (by have:=sumB_mem (f:=evN) he;omega)⟩
theorem env_ok {l:List (List Ev)}(h:envN l≤1048576):l.length≤1048576∧(∀x∈l,x.length≤1048576)∧∀x∈l,∀e∈x,e.values.length≤1048576:=by
  unfold envN at h
  have h1:=sumB_len (f:=evsN) (fun _=>Nat.succ_le_succ (Nat.zero_le _)) l
  have h2:∀x∈l,evsN x≤1048576:=fun x hx=>by have:=sumB_mem (f:=evsN) hx;omega
  exact ⟨by omega,fun x hx=>(evs_ok (h2 x hx)).1,fun x hx e he=>((evs_ok (h2 x hx)).2 e he).len⟩
section
variable {H:Type} {enc:TypeId×Value→H} {w:World} {sp:Nat→Bool} {hd:Bool}
abbrev R (enc:TypeId×Value→H)(w:World)(sp:Nat→Bool)(hd:Bool){α:Type}(fuel:Nat)(t:TypeId)(f:α→List AV)(ok:α→Prop)(bk:α→Nat):Prop:=Rd enc Tryz.prog w sp hd Rows.uptoBulk fuel t f ok bk
theorem rI (fuel:Nat):R enc w sp hd fuel 3 (fun n:Int=>[.int .i64 n]) I64 (fun _=>1):=(Rd.int (k:=.i64) (by kernel_rfl) bulk).congr rfl (fun _ h=>wf_I64 h) (fun _=>Nat.le_refl _)
theorem rS (fuel:Nat):R enc w sp hd fuel 9 (fun s:List UInt8=>[.str s]) (fun s=>s.length≤maxLen) (fun s=>s.length+1):=Rd.str (by kernel_rfl) bulk
theorem z3:Tryz.prog.cellsOf 3=1:=by kernel_rfl
theorem z9:Tryz.prog.cellsOf 9=1:=by kernel_rfl
theorem rV (fuel:Nat):R enc w sp hd fuel 28 cV (fun v=>I64 v.num) vN:=
  (Rd.struct' u_V bulk rfl (by kernel_rfl) (by kernel_rfl) fun m _=>Rds.cons bulk z3 (rI m) <| Rds.cons bulk z3 (rI m) <| Rds.cons bulk z9 (rS m) Rds.nil).map
    (fun x=>(⟨x.1,x.2.1,x.2.2.1⟩:Vl)) (fun _=>rfl) (fun _ h=>h.2.1) (fun _=>by simp only [vN];omega)
theorem encE_fun:encE=cE:=funext encE_eq
theorem rE (fuel:Nat):R enc w sp hd fuel 30 cE (fun _=>True) sizeN:=by
  induction fuel using Nat.strongRecOn with
  | _ n ih=>
    exact (Rd.struct' u_E bulk rfl (by kernel_rfl) (by kernel_rfl) fun m hm=>Rds.cons bulk z3 (rI m) <| Rds.cons bulk z_Es (Rd.slice' (z:=8) u_Es z_E (by decide) bulk fun k hk=>ih k (Nat.lt_trans hk hm)) <|
      Rds.cons bulk z3 (rI m) <| Rds.cons bulk z3 (rI m) <| Rds.cons bulk z3 (rI m) <| Rds.cons bulk z_V (rV m) Rds.nil).map
      (fun x=>(⟨x.1,x.2.1,x.2.2.1,x.2.2.2.1,x.2.2.2.2.1,x.2.2.2.2.2.1⟩:Ex)) (fun x=>by simp [cE,cV,encE_fun]) (fun _ _=>trivial) (fun x=>by rw [sizeN_eq];simp only;omega)
theorem rEv (fuel:Nat):R enc w sp hd fuel 67 cEv (fun _=>True) evN:=
  (Rd.struct' u_Ev bulk rfl (by kernel_rfl) (by kernel_rfl) fun m _=>Rds.cons bulk z3 (rI m) <| Rds.cons bulk z3 (rI m) <| Rds.cons bulk z3 (rI m) <| Rds.cons bulk z3 (rI m) <|
    Rds.cons bulk z_Vs (Rd.slice' (z:=3) u_Vs z_V (by decide) bulk fun k _=>rV k) Rds.nil).map
    (fun x=>(⟨x.1,x.2.1,x.2.2.1,x.2.2.2.1,x.2.2.2.2.1⟩:Ev)) (fun _=>rfl) (fun _ _=>trivial) (fun _=>by simp only [evN];omega)
theorem rEvs (fuel:Nat):R enc w sp hd fuel 58 cEvs (fun _=>True) evsN:=
  (Rd.slice' (z:=5) u_Evs z_Ev (by decide) bulk fun k _=>rEv k).congr rfl (fun _ _=>trivial) (fun _=>Nat.le_refl _)
theorem rEnv (fuel:Nat):R enc w sp hd fuel 47 cEnv (fun _=>True) envN:=
  (Rd.struct' u_Env bulk rfl (by kernel_rfl) (by kernel_rfl) fun m _=>Rds.cons bulk z_Evss (Rd.slice' (z:=1) u_Evss z_Evs (by decide) bulk fun k _=>rEvs k) Rds.nil).map
    (fun x=>x.1) (fun _=>rfl) (fun _ _=>trivial) (fun _=>by simp only [envN];omega)
end
end Go.Proofs.YtkddpedfbicbeaaGreatDoor
