/-
  Several texts in one: Y1, Y6b. No condition.
-/
import Derived.Test.YtkddpedfbicbeaaGreatDoorK01
import Derived.Test.YtkddpedfbicbeaaGreatDoorK02
import Derived.Test.YtkddpedfbicbeaaGreatDoorK05
import Derived.Test.YtkddpedfbicbeaaGreatDoorK07
import Derived.Test.YtkddpedfbicbeaaGreatDoorK08
import Derived.KernelRfl
import Derived.Test.YtkddpedfbicbeaaGreatDoorK09
import Derived.Test.YtkddpedfbicbeaaGreatDoorK13
set_option linter.unusedVariables false
set_option linter.unusedSimpArgs false
namespace Go.Proofs.YtkddpedfbicbeaaGreatDoor
open Go Go.Aw
set_option maxHeartbeats 400000
set_option maxRecDepth 20000

theorem d_two (op:Int)(x y:Ex):APure Tryz.prog 91 [.int .i64 op,.agg (cE x),.agg (cE y)] (.agg (cE (two op x y))):=by
 refine APure.body (n:=12) tok Tryz.func91 rfl rfl rfl fun H=>?_
 refine Qsr (Qp Qbe (Qp Qbe ?_))
 refine Qe (E_alloc (l:=[.int .i64 0,.sl 8 [],.int .i64 0,.int .i64 0,.int .i64 0,.int .i64 0,.int .i64 0,.str []]) (by kernel_rfl)) ?_
 rintro _ _ ⟨b6,rfl,rfl⟩
 refine Qns (Qp Qmi (Qp Qle (Qp Qle ?_)))
 refine Qp (P_buildSlice (es:=[[.int .i64 _,_,.int .i64 _,.int .i64 _,.int .i64 _,.int .i64 _,.int .i64 _,.str _],[.int .i64 _,_,.int .i64 _,.int .i64 _,.int .i64 _,.int .i64 _,.int .i64 _,.str _]]) tok rfl rfl rfl rfl rfl rfl rfl rfl rfl) ?_
 refine Qp (Qbd [.int .i64 _,_,.int .i64 _,.int .i64 _,.int .i64 _,.int .i64 _,.int .i64 _,.str _]) ?_
 refine Qe (E_store (k:=0) (v:=.agg _) (cs':=[.int .i64 _,_,.int .i64 _,.int .i64 _,.int .i64 _,.int .i64 _,.int .i64 _,.str _]) (H2:=_::_) tok rfl rfl rfl rfl (rfl) rfl rfl rfl rfl) ?_
 rintro _ _ ⟨rfl,rfl⟩
 refine Qnn (AW.ret ?_)
 refine ⟨.inr rfl,[.agg [.int .i64 _,_,.int .i64 _,.int .i64 _,.int .i64 _,.int .i64 _,.int .i64 _,.str _]],.cons (.box _ _ _ 0 _ _ _ _ rfl rfl rfl rfl rfl rfl) <| .nil,.cons _ (.refl _),?_⟩
 rw [two_cells];rfl
theorem l_two (op:Int)(x y:Ex):APure Tryz.prog 28 [.int .i64 op,.agg (cE x),.agg (cE y)] (.agg (cE (two op x y))):=by
 refine APure.body (n:=12) tok Tryz.func28 rfl rfl rfl fun H=>?_
 refine Qsr (Qp Qbe (Qp Qbe ?_))
 refine Qe (E_alloc (l:=[.int .i64 0,.sl 8 [],.int .i64 0,.int .i64 0,.int .i64 0,.int .i64 0,.int .i64 0,.str []]) (by kernel_rfl)) ?_
 rintro _ _ ⟨b6,rfl,rfl⟩
 refine Qns (Qp Qmi (Qp Qle (Qp Qle ?_)))
 refine Qp (P_buildSlice (es:=[[.int .i64 _,_,.int .i64 _,.int .i64 _,.int .i64 _,.int .i64 _,.int .i64 _,.str _],[.int .i64 _,_,.int .i64 _,.int .i64 _,.int .i64 _,.int .i64 _,.int .i64 _,.str _]]) tok rfl rfl rfl rfl rfl rfl rfl rfl rfl) ?_
 refine Qp (Qbd [.int .i64 _,_,.int .i64 _,.int .i64 _,.int .i64 _,.int .i64 _,.int .i64 _,.str _]) ?_
 refine Qe (E_store (k:=0) (v:=.agg _) (cs':=[.int .i64 _,_,.int .i64 _,.int .i64 _,.int .i64 _,.int .i64 _,.int .i64 _,.str _]) (H2:=_::_) tok rfl rfl rfl rfl (rfl) rfl rfl rfl rfl) ?_
 rintro _ _ ⟨rfl,rfl⟩
 refine Qnn (AW.ret ?_)
 refine ⟨.inr rfl,[.agg [.int .i64 _,_,.int .i64 _,.int .i64 _,.int .i64 _,.int .i64 _,.int .i64 _,.str _]],.cons (.box _ _ _ 0 _ _ _ _ rfl rfl rfl rfl rfl rfl) <| .nil,.cons _ (.refl _),?_⟩
 rw [two_cells];rfl
theorem l_not (x:Ex):APure Tryz.prog 42 [.agg (cE x)] (.agg (cE (notE x))):=by
 refine APure.body (n:=6) tok Tryz.func42 rfl rfl rfl fun H=>?_
 refine Qsr (Qp Qbe ?_)
 refine Qe (E_alloc (l:=[.int .i64 0,.sl 8 [],.int .i64 0,.int .i64 0,.int .i64 0,.int .i64 0,.int .i64 0,.str []]) (by kernel_rfl)) ?_
 rintro _ _ ⟨b2,rfl,rfl⟩
 refine Qns (Qp Qle ?_)
 refine Qp (P_buildSlice (es:=[[.int .i64 _,_,.int .i64 _,.int .i64 _,.int .i64 _,.int .i64 _,.int .i64 _,.str _]]) tok rfl rfl rfl rfl rfl rfl rfl rfl rfl) ?_
 refine Qp (Qbd [.int .i64 _,_,.int .i64 _,.int .i64 _,.int .i64 _,.int .i64 _,.int .i64 _,.str _]) ?_
 refine Qe (E_store (k:=0) (v:=.agg _) (cs':=[.int .i64 _,_,.int .i64 _,.int .i64 _,.int .i64 _,.int .i64 _,.int .i64 _,.str _]) (H2:=_::_) tok rfl rfl rfl rfl (rfl) rfl rfl rfl rfl) ?_
 rintro _ _ ⟨rfl,rfl⟩
 refine Qnn (AW.ret ?_)
 refine ⟨.inr rfl,[.agg [.int .i64 _,_,.int .i64 _,.int .i64 _,.int .i64 _,.int .i64 _,.int .i64 _,.str _]],.cons (.box _ _ _ 0 _ _ _ _ rfl rfl rfl rfl rfl rfl) <| .nil,.cons _ (.refl _),?_⟩
 rw [not_cells];rfl
theorem d_truth (x:Bool):APure Tryz.prog 96 [.bool x] (.agg (cE (truthE x))):=by
 refine APure.body (n:=6) tok Tryz.func96 rfl rfl rfl fun H=>?_
 refine Qsr ?_
 refine Qe (E_alloc (l:=[.int .i64 0,.sl 8 [],.int .i64 0,.int .i64 0,.int .i64 0,.int .i64 0,.int .i64 0,.str []]) (by kernel_rfl)) ?_
 rintro _ _ ⟨b2,rfl,rfl⟩
 refine Qns (Qp Qmb ?_)
 refine Qp (Qc rfl (c75 x)) ?_
 refine Qp (Qbd [.int .i64 _,_,.int .i64 _,.int .i64 _,.int .i64 _,.int .i64 _,.int .i64 _,.str _]) ?_
 refine Qe (E_store (k:=0) (v:=.agg _) (cs':=[.int .i64 _,_,.int .i64 _,.int .i64 _,.int .i64 _,.int .i64 _,.int .i64 _,.str _]) (H2:=_::_) tok rfl rfl rfl rfl (rfl) rfl rfl rfl rfl) ?_
 rintro _ _ ⟨rfl,rfl⟩
 refine Qnn (AW.ret ?_)
 refine ⟨.inr rfl,[.agg [.int .i64 _,_,.int .i64 _,.int .i64 _,.int .i64 _,.int .i64 _,.int .i64 _,.str _]],.cons (.box _ _ _ 0 _ _ _ _ rfl rfl rfl rfl rfl rfl) <| .nil,.cons _ (.refl _),?_⟩
 rfl
theorem l_number (n:Int):APure Tryz.prog 41 [.int .i64 n] (.agg (cE (constE ⟨0,n,[]⟩))):=by
 refine APure.body (n:=6) tok Tryz.func41 rfl rfl rfl fun H=>?_
 refine Qsr ?_
 refine Qe (E_alloc (l:=[.int .i64 0,.sl 8 [],.int .i64 0,.int .i64 0,.int .i64 0,.int .i64 0,.int .i64 0,.str []]) (by kernel_rfl)) ?_
 rintro _ _ ⟨b2,rfl,rfl⟩
 refine Qns (Qp Qmi (Qp (Qbd [.int .i64 _,.int .i64 _,.str _]) (Qp (Qbd [.int .i64 _,_,.int .i64 _,.int .i64 _,.int .i64 _,.int .i64 _,.int .i64 _,.str _]) ?_)))
 refine Qe (E_store (k:=0) (v:=.agg _) (cs':=[.int .i64 _,_,.int .i64 _,.int .i64 _,.int .i64 _,.int .i64 _,.int .i64 _,.str _]) (H2:=_::_) tok rfl rfl rfl rfl (rfl) rfl rfl rfl rfl) ?_
 rintro _ _ ⟨rfl,rfl⟩
 refine Qnn (AW.ret ?_)
 refine ⟨.inr rfl,[.agg [.int .i64 _,_,.int .i64 _,.int .i64 _,.int .i64 _,.int .i64 _,.int .i64 _,.str _]],.cons (.box _ _ _ 0 _ _ _ _ rfl rfl rfl rfl rfl rfl) <| .nil,.cons _ (.refl _),?_⟩
 rfl
theorem l_price (v:Int):APure Tryz.prog 40 [.int .i64 v] (.agg (cE ⟨1,[],v,1,0,v0⟩)):=by
 refine APure.body (n:=5) tok Tryz.func40 rfl rfl rfl fun H=>?_
 refine Qsr ?_
 refine Qe (E_alloc (l:=[.int .i64 0,.sl 8 [],.int .i64 0,.int .i64 0,.int .i64 0,.int .i64 0,.int .i64 0,.str []]) (by kernel_rfl)) ?_
 rintro _ _ ⟨b2,rfl,rfl⟩
 refine Qns (Qp Qmi (Qp (Qbd [.int .i64 _,_,.int .i64 _,.int .i64 _,.int .i64 _,.int .i64 _,.int .i64 _,.str _]) ?_))
 refine Qe (E_store (k:=0) (v:=.agg _) (cs':=[.int .i64 _,_,.int .i64 _,.int .i64 _,.int .i64 _,.int .i64 _,.int .i64 _,.str _]) (H2:=_::_) tok rfl rfl rfl rfl (rfl) rfl rfl rfl rfl) ?_
 rintro _ _ ⟨rfl,rfl⟩
 refine Qnn (AW.ret ?_)
 refine ⟨.inr rfl,[.agg [.int .i64 _,_,.int .i64 _,.int .i64 _,.int .i64 _,.int .i64 _,.int .i64 _,.str _]],.cons (.box _ _ _ 0 _ _ _ _ rfl rfl rfl rfl rfl rfl) <| .nil,.cons _ (.refl _),?_⟩
 rfl
theorem l_symbol (v:Int):APure Tryz.prog 48 [.int .i64 v] (.agg (cE ⟨1,[],v,0,0,v0⟩)):=by
 refine APure.body (n:=5) tok Tryz.func48 rfl rfl rfl fun H=>?_
 refine Qsr ?_
 refine Qe (E_alloc (l:=[.int .i64 0,.sl 8 [],.int .i64 0,.int .i64 0,.int .i64 0,.int .i64 0,.int .i64 0,.str []]) (by kernel_rfl)) ?_
 rintro _ _ ⟨b2,rfl,rfl⟩
 refine Qns (Qp Qmi (Qp (Qbd [.int .i64 _,_,.int .i64 _,.int .i64 _,.int .i64 _,.int .i64 _,.int .i64 _,.str _]) ?_))
 refine Qe (E_store (k:=0) (v:=.agg _) (cs':=[.int .i64 _,_,.int .i64 _,.int .i64 _,.int .i64 _,.int .i64 _,.int .i64 _,.str _]) (H2:=_::_) tok rfl rfl rfl rfl (rfl) rfl rfl rfl rfl) ?_
 rintro _ _ ⟨rfl,rfl⟩
 refine Qnn (AW.ret ?_)
 refine ⟨.inr rfl,[.agg [.int .i64 _,_,.int .i64 _,.int .i64 _,.int .i64 _,.int .i64 _,.int .i64 _,.str _]],.cons (.box _ _ _ 0 _ _ _ _ rfl rfl rfl rfl rfl rfl) <| .nil,.cons _ (.refl _),?_⟩
 rfl
set_option maxHeartbeats 6400000
set_option maxRecDepth 20000

theorem d_times (a b:Cs)(n m:Nat)(ha:csOK n a)(hb:csOK m b)(hn:n≤1048576)(hm:m≤1048576):APure Tryz.prog 65 [.agg (cCs a),.agg (cCs b)] (.agg (cCs (timesS a b))):=by
 have hla:=ha.len
 have hlb:=hb.len
 have hxa:=fun x hx=>Nat.le_trans (ha.lits x hx) hn
 have hxb:=fun x hx=>Nat.le_trans (hb.lits x hx) hm
 refine APure.body (n:=27) tok Tryz.func65 rfl rfl rfl fun H=>?_
 refine Qsr (Qp (Qbx [_,.bool _]) (Qp (Qbx [_,.bool _]) ?_))
 refine Qe (E_alloc (l:=[.sl 1 [],.bool false]) (by kernel_rfl)) ?_
 rintro _ _ ⟨b4,rfl,rfl⟩
 refine Qnn (AW.seq (Qsr (Qp (Qf [.bool _]) (Qp Qlb (Qp Qnt (Qp Qmb (Qg [] Qw (Qf [.bool _]) (Qg [(11,_)] Qw Qlb (Qg [(12,_)] Qw Qnt ?_)))))))))
 refine Qp Qpo (Qnn (Qif (fun hc1=>?_) fun hc1=>?_))
 ·
  refine Qsr (Qp (Qbd [_,.bool _]) ?_)
  refine Qe (E_store (k:=0) (v:=.agg _) (cs':=[_,.bool _]) (H2:=_::_) tok rfl rfl rfl rfl (rfl) rfl rfl rfl rfl) ?_
  rintro _ _ ⟨rfl,rfl⟩
  refine Qnn (Qrt ?_)
  refine ⟨.inr rfl,[.agg [_,.bool _]],.cons (.box _ _ _ 0 _ _ _ _ rfl rfl rfl rfl rfl rfl) <| .nil,.cons _ (.refl _),?_⟩
  exact Eq.trans rfl (congrArg (fun q:Cs=>AV.agg (cCs q)) (times_no hc1)).symm
 ·
  refine Qst (Qsr (Qp (Qf [_,.bool _]) (Qp Qls (Qp (Qf [_,.bool _]) (Qp Qls ?_)))))
  refine Qp (Qc rfl (d_product a.1 b.1 (by omega) (by omega) hxa hxb)) ?_
  refine Qp Qmu (Qp Qxs (Qp Qxb (Qp Qas (Qp Qab (Qns (Qp Qms (Qp Qmb (Qp (Qbd [_,.bool _]) ?_))))))))
  refine Qe (E_store (k:=0) (v:=.agg _) (cs':=[_,.bool _]) (H2:=_::_) tok rfl rfl rfl rfl (rfl) rfl rfl rfl rfl) ?_
  rintro _ _ ⟨rfl,rfl⟩
  refine Qnn (AW.ret ?_)
  refine ⟨.inr rfl,[.agg [_,.bool _]],.cons (.box _ _ _ 0 _ _ _ _ rfl rfl rfl rfl rfl rfl) <| .nil,.cons _ (.refl _),?_⟩
  exact Eq.trans rfl (congrArg (fun q:Cs=>AV.agg (cCs q)) (times_yes hc1)).symm
theorem d_plus (a b:Cs)(n m:Nat)(ha:csOK n a)(hb:csOK m b)(hn:n≤1048576)(hm:m≤1048576):APure Tryz.prog 88 [.agg (cCs a),.agg (cCs b)] (.agg (cCs (plusS a b))):=by
 have hla:=ha.len
 have hlb:=hb.len
 have hxa:=fun x hx=>Nat.le_trans (ha.lits x hx) hn
 have hxb:=fun x hx=>Nat.le_trans (hb.lits x hx) hm
 have hb2:allG [(!a.2 || !b.2,false)]→True:=fun _=>trivial
 have hsa:∀c∈(a.1.map cCl),scalars c=true:=sc_map fun _=>rfl
 have hsb:∀c∈(b.1.map cCl),scalars c=true:=sc_map fun _=>rfl
 have hsab:∀c∈(a.1.map cCl++b.1.map cCl),scalars c=true:=fun c hc=>(List.mem_append.1 hc).elim (hsa c) (hsb c)
 refine APure.body (n:=32) tok Tryz.func88 rfl rfl rfl fun H=>?_
 refine Qsr (Qp (Qbx [_,.bool _]) (Qp (Qbx [_,.bool _]) ?_))
 refine Qe (E_alloc (l:=[.sl 1 [],.bool false]) (by kernel_rfl)) ?_
 rintro _ _ ⟨b4,rfl,rfl⟩
 refine Qnn (AW.seq (Qsr (Qp (Qf [.bool _]) (Qp Qlb (Qp Qnt (Qp Qmb (Qg [] Qw (Qf [.bool _]) (Qg [(9,_)] Qw Qlb (Qg [(10,_)] Qw Qnt ?_)))))))))
 refine Qp Qpo (Qp Qmb (Qg [] Qw (Qf [_,.bool _]) (Qg [(14,_)] Qw Qls ?_)))
 refine AOL.g (y:=.int .i64 _) _ [(15,_)] rfl (EntL.all ⟨Ent.self _ _,trivial⟩) (fun hG=>P_len_sl (n:=a.1.length) tok rfl rfl rfl (by simp)) rfl ?_
 refine Qg [] Qw (Qf [_,.bool _]) (Qg [(17,_)] Qw Qls ?_)
 refine AOL.g (y:=.int .i64 _) _ [(18,_)] rfl (EntL.all ⟨Ent.self _ _,trivial⟩) (fun hG=>P_len_sl (n:=b.1.length) tok rfl rfl rfl (by simp)) rfl ?_
 refine AOL.g (y:=.int .i64 _) _ [(16,_),(19,_)] rfl (EntL.all ⟨Ent.self _ _,Ent.self _ _,trivial⟩) (fun hG=>P_add rfl rfl rfl (by constructor <;> omega)) rfl ?_
 refine Qg [(20,_)] Qw Qcgt (Qp Qpo (Qnn (Qif (fun hc1=>?_) fun hc1=>?_)))
 ·
  refine Qsr (Qp (Qbd [_,.bool _]) ?_)
  refine Qe (E_store (k:=0) (v:=.agg _) (cs':=[_,.bool _]) (H2:=_::_) tok rfl rfl rfl rfl (rfl) rfl rfl rfl rfl) ?_
  rintro _ _ ⟨rfl,rfl⟩
  refine Qnn (Qrt ?_)
  refine ⟨.inr rfl,[.agg [_,.bool _]],.cons (.box _ _ _ 0 _ _ _ _ rfl rfl rfl rfl rfl rfl) <| .nil,.cons _ (.refl _),?_⟩
  exact Eq.trans rfl (congrArg (fun q:Cs=>AV.agg (cCs q)) (plus_no hc1)).symm
 ·
  refine Qst (AW.seq ?_)
  refine AW.draw mixed (fun _=>True) trivial (by kernel_rfl) ?_
  refine Qn 1 rfl (Qf [_,.bool _]) (Qn 2 rfl Qls (Qn 4 rfl (Qf [_,.bool _]) (Qn 5 rfl Qls ?_)))
  refine Canon.eff _ _ 0 _ _ rfl (by kernel_rfl) rfl rfl (E_buildSlice (es:=[]) tok rfl rfl rfl rfl rfl rfl rfl rfl rfl) (fun _ _ _=>trivial) ?_
  rintro _ _ ⟨v24,rfl,rfl⟩
  refine Canon.eff _ _ 3 _ _ rfl (by kernel_rfl) rfl rfl (E_append (k:=0) tok rfl rfl rfl rfl rfl rfl rfl rfl (hsa) (sc_nil) (by simp;omega) (by simp [maxLen];omega)) (fun _ _ _=>trivial) ?_
  rintro _ _ ⟨v27,rfl,rfl⟩
  refine Canon.eff _ _ 6 _ _ rfl (by kernel_rfl) rfl rfl (E_append (k:=0) tok rfl rfl rfl rfl rfl rfl rfl rfl (hsb) (hsa) (by simp;omega) (by simp [maxLen];omega)) (fun _ _ _=>trivial) ?_
  rintro _ _ ⟨v30,rfl,rfl⟩
  refine Qn 7 rfl (Qbd [_,.bool _]) ?_
  refine Canon.eff _ _ 8 _ _ rfl (by kernel_rfl) rfl rfl (E_store (k:=1) (v:=.agg _) (cs':=[_,.bool _]) (H2:=_::_::_) tok rfl rfl rfl rfl (rfl) rfl rfl rfl rfl) (fun _ _ _=>trivial) ?_
  rintro _ _ ⟨rfl,rfl⟩
  refine Canon.done _ _ (by kernel_rfl) ?_
  refine thenN ?_
  refine AW.ghost (GS.cell (H2:=_::_::_) 1 0 rfl rfl rfl rfl unrow_cell) ?_
  refine AW.ret ?_
  refine ⟨.inr rfl,[.agg [_,.bool _]],.cons (.box _ _ _ 1 _ _ _ _ rfl rfl rfl rfl rfl rfl) <| .nil,.cons _ (.cons _ (.refl _)),?_⟩
  rw [List.nil_append,←List.map_append]
  exact Eq.trans rfl (congrArg (fun q:Cs=>AV.agg (cCs q)) (plus_yes hc1)).symm
theorem d_single (l:List Lit)(hl:l.length≤256):APure Tryz.prog 90 [.sl 9 (l.map cLit)] (.agg (cCs (singleC l))):=by
 refine APure.body (n:=22) tok Tryz.func90 rfl rfl rfl fun H=>?_
 refine Qsr ?_
 refine Qe (E_alloc (l:=[.sl 1 [],.bool false]) (by kernel_rfl)) ?_
 rintro _ _ ⟨b2,rfl,rfl⟩
 refine Qns ?_
 refine Qp (P_buildZ (l0:=[.val (.slice none 0 0),.bool false]) (l:=[_,_]) tok rfl rfl (by kernel_rfl) rfl) ?_
 refine Qe (E_alloc (l:=[.sl 1 [],.bool false]) (by kernel_rfl)) ?_
 rintro _ _ ⟨b3,rfl,rfl⟩
 refine Qe (E_store (k:=0) (v:=.agg _) (cs':=[_,.bool _]) (H2:=_::_::_) tok rfl rfl rfl rfl (rfl) rfl rfl rfl rfl) ?_
 rintro _ _ ⟨rfl,rfl⟩
 refine AOL.ghost (GS.cellRow 0 0 71 1 rfl rfl rfl rfl) ?_
 refine Qnn (AW.seq (Qsr (Qp Qms ?_)))
 refine Qp (P_len_sl (n:=l.length) tok rfl rfl rfl (by simp)) ?_
 refine Qp Qmi (Qnn (AW.block ?_))
 refine AW.loopS (fun (p:Nat×List (List AV)×Value)=>(⟨[(2,.val (.pointer (some ⟨b2,0,none⟩))),(3,.val (.pointer (some ⟨b3,0,none⟩))),(7,.sl 9 (l.map cLit)),(8,.int .i64 l.length),(9,.int .i64 (p.1:Int))],.row p.2.2 p.2.1.length 71 1 :: .box b3 103 [.row p.2.2 1 p.2.1,.bool true] :: .box b2 103 [.sl 1 [],.bool false]::H,22⟩:St)) (fun (p:Nat×List (List AV)×Value)=>p.1≤l.length∧p.2.1=((l.take p.1).map fun x=>[x]).map cCl) (fun (p:Nat×List (List AV)×Value)=>l.length-p.1) ((0,[],.slice none 0 0)) ?_ (GS.weaken ⟨rfl,rfl,rfl,rfl,rfl,trivial⟩ (.refl _)) ?_
 · exact ⟨Nat.zero_le _,rfl⟩
 ·
  rintro p hR
  have hsc:∀c∈p.2.1,scalars c=true:=by rw [hR.2];exact sc_map fun _=>rfl
  have hpl:p.2.1.length≤p.1:=by rw [hR.2];simp;omega
  refine Qsr (Qp Qclt (Qnn (AW.seq (Qif (fun hc1=>?_) fun hc1=>?_))))
  ·
   obtain ⟨x,hx⟩:=get_lt hc1
   have hlx:=get_lt' hx
   refine Qst (AW.seq (AW.block (Qsr ?_)))
   refine Qp (P_indexAddr (c:=[.int .i64 _,_,.int .i64 _,.int .i64 _,.int .i64 _,.int .i64 _,.int .i64 _,.str _,.bool _]) tok rfl rfl rfl rfl rfl rfl (by omega) (map_at hx)) ?_
   refine Qp (Qlg [.int .i64 _,_,.int .i64 _,.int .i64 _,.int .i64 _,.int .i64 _,.int .i64 _,.str _,.bool _]) ?_
   refine Qe (E_alloc (l:=[.int .i64 0,.sl 8 [],.int .i64 0,.int .i64 0,.int .i64 0,.int .i64 0,.int .i64 0,.str [],.bool false]) (by kernel_rfl)) ?_
   rintro _ _ ⟨b5,rfl,rfl⟩
   refine Qe (E_store (k:=0) (v:=.agg _) (cs':=[.int .i64 _,_,.int .i64 _,.int .i64 _,.int .i64 _,.int .i64 _,.int .i64 _,.str _,.bool _]) (H2:=_::_::_::_::_) tok rfl rfl rfl rfl (rfl) rfl rfl rfl rfl) ?_
   rintro _ _ ⟨rfl,rfl⟩
   refine AOL.ghost (GS.freeze (t:=5) 0 rfl rfl) ?_
   refine Qnn (AW.region (Qp Qfv ?_))
   refine AOL.pk (P_load_box (k:=1) (c:=.row _ _ _) tok rfl rfl rfl rfl) rfl rfl ?_
   refine Qp (Qlg [.int .i64 _,_,.int .i64 _,.int .i64 _,.int .i64 _,.int .i64 _,.int .i64 _,.str _,.bool _]) ?_
   refine Qp (P_buildSlice (es:=[[.int .i64 _,_,.int .i64 _,.int .i64 _,.int .i64 _,.int .i64 _,.int .i64 _,.str _,.bool _]]) tok rfl rfl rfl rfl rfl rfl rfl rfl rfl) ?_
   refine Qp (P_buildSlice (es:=[[_]]) tok rfl rfl rfl rfl rfl rfl rfl rfl rfl) ?_
   refine Qe (E_append (k:=0) tok rfl rfl rfl rfl rfl rfl rfl rfl (sc_one rfl) (hsc) (by simp;omega) (by simp [maxLen];omega)) ?_
   rintro _ _ ⟨v18,rfl,rfl⟩
   refine Qp Qfv ?_
   refine Qe (E_store (k:=1) (v:=.row _ _ _) (cs':=[_,.bool _]) (H2:=_::_::_::_) tok rfl rfl rfl rfl (rfl) rfl rfl rfl rfl) ?_
   rintro _ _ ⟨rfl,rfl⟩
   refine AOL.nil (blkN (thenN (AW.region (Qp Qad (Qp Qmi (Qnn ?_))))))
   refine ⟨(p.1+1,p.2.1 ++ [[.sl 9 [cLit x]]],v18),?_,?_,GS.weaken ⟨rfl,rfl,rfl,rfl,rfl,trivial⟩ (.refl _)⟩
   · exact ⟨hlx,by simp only;rw [take_get hx,hR.2];simp [cCl]⟩
   · simp only;omega
  ·
   have hte:=take_end hc1
   have hall:=hR.2
   rw [hte] at hall
   refine AW.exit ?_
   refine thenE (thenE (blkHit (thenN (Qsr ?_))))
   refine AOL.ghost (GS.cell (H2:=_::_::_::_) 1 0 rfl rfl rfl rfl unrow_cell) ?_
   refine AOL.pk (P_load_box_agg (k:=1) (l:=[_,.bool _]) tok rfl rfl rfl rfl rfl) rfl rfl ?_
   refine Qe (E_store (k:=2) (v:=.agg _) (cs':=[_,.bool _]) (H2:=_::_::_::_) tok rfl rfl rfl rfl (rfl) rfl rfl rfl rfl) ?_
   rintro _ _ ⟨rfl,rfl⟩
   refine Qnn (AW.ret ?_)
   refine ⟨.inr rfl,[.agg [_,.bool _]],.cons (.box _ _ _ 2 _ _ _ _ rfl rfl rfl rfl rfl rfl) <| .nil,.cons _ (.cons _ (.cons _ (.refl _))),?_⟩
   rw [hall];rfl
theorem d_normal1 (T:List Sc)(V:List Va)(e:Ex)(ih:∀a∈e.args,∀s,APure Tryz.prog 53 [.agg (cScene T V),.agg (cE a),.bool s] (.agg (cCs (normS T V a s))))(i:Nat)(a:Ex)(ha:e.args[i]? = some a)(s:Bool):APure Tryz.prog 87 [.int .i64 (i:Int),.bool s,.ptr (cScene T V),.ptr (cE e)] (.agg (cCs (normS T V a s))):=by
 refine APure.body (n:=15) tok Tryz.func87 rfl rfl rfl fun H=>?_
 refine Qsr ?_
 refine Qe (E_alloc (l:=[.sl 1 [],.bool false]) (by kernel_rfl)) ?_
 rintro _ _ ⟨b6,rfl,rfl⟩
 refine Qnn (AW.seq ?_)
 refine AW.draw mixed (fun _=>True) trivial (by kernel_rfl) ?_
 refine Qn 0 rfl (Qlg [_,_]) (Qn 1 rfl Qf1 (Qn 2 rfl Qls (Qn 3 rfl Qmi ?_)))
 refine Qn 4 rfl (P_indexAddr (c:=[.int .i64 _,_,.int .i64 _,.int .i64 _,.int .i64 _,.int .i64 _,.int .i64 _,.str _]) tok rfl rfl rfl rfl rfl rfl (by omega) (encE_at ha)) ?_
 refine Qn 5 rfl Qle (Qn 6 rfl Qmb ?_)
 refine Qn 7 rfl (Qc rfl (ih a (List.mem_of_getElem? ha) s)) ?_
 refine Canon.eff _ _ 8 _ _ rfl (by kernel_rfl) rfl rfl (E_store (k:=0) (v:=.agg _) (cs':=[_,.bool _]) (H2:=_::_) tok rfl rfl rfl rfl (rfl) rfl rfl rfl rfl) (fun _ _ _=>trivial) ?_
 rintro _ _ ⟨rfl,rfl⟩
 refine Canon.done _ _ (by kernel_rfl) ?_
 refine thenN (AW.ret ?_)
 refine ⟨.inr rfl,[.agg [_,.bool _]],.cons (.box _ _ _ 0 _ _ _ _ rfl rfl rfl rfl rfl rfl) <| .nil,.cons _ (.refl _),?_⟩
 rfl
theorem d_normal (T:List Sc)(V:List Va)(e:Ex)(hk:KOK T V e)(hse:sizeN e≤64)(s:Bool):APure Tryz.prog 53 [.agg (cScene T V),.agg (cE e),.bool s] (.agg (cCs (normS T V e s))):=by
 revert s hk hse
 induction e using Ex.ind
 rename_i e ih0
 intro hk hse s
 have ih:∀a∈e.args,∀s,APure Tryz.prog 53 [.agg (cScene T V),.agg (cE a),.bool s] (.agg (cCs (normS T V a s))):=fun a ha s=>ih0 a ha (kok_arg hk ha) (Nat.le_trans (Nat.le_of_lt (size_arg ha)) hse) s
 have hz:=nodes_zero hk.nodes
 refine APure.body (n:=111) tok Tryz.func53 rfl rfl rfl fun H=>?_
 refine Qsr (Qp (Qbx [_,_]) (Qp Qbe ?_))
 refine Qe (E_alloc (l:=[.sl 1 [],.bool false]) (by kernel_rfl)) ?_
 rintro _ _ ⟨b6,rfl,rfl⟩
 refine Qns ?_
 refine Qp (P_makeFunc (l:=[]) (l':=[.ptr _,.ptr _]) rfl rfl) ?_
 refine Qp (P_assign (v:=.fn _ _ _) rfl) ?_
 refine Qnn (AW.seq (Qsr (Qp Qf0 (Qp Qli (Qnn (AW.block (Qsr (Qp Qceq (Qp Qab ?_)))))))))
 refine Qnn (Qif (fun hc1=>?_) fun hc1=>?_)
 ·
  refine AW.seq (Qsr (Qp Qf5 (Qp Qf6 (Qp Qli (Qp Qceq (Qp Qmb ?_))))))
  refine Qp (P_eql_bool tok rfl rfl rfl rfl) ?_
  refine Qnn (Qif (fun hc2=>?_) fun hc2=>?_)
  ·
   refine Qsr ?_
   refine Qp (OpP.weakV (P_buildSlice (es:=[[_]]) tok rfl rfl rfl rfl rfl rfl rfl rfl rfl) nilsl_sl) ?_
   refine Qp (Qbd [_,.bool _]) ?_
   refine Qe (E_store (k:=0) (v:=.agg _) (cs':=[_,.bool _]) (H2:=_::_) tok rfl rfl rfl rfl (rfl) rfl rfl rfl rfl) ?_
   rintro _ _ ⟨rfl,rfl⟩
   refine Qnn (Qrt (blkR (thenR ?_)))
   refine ⟨.inr rfl,[.agg [_,.bool _]],.cons (.box _ _ _ 0 _ _ _ _ rfl rfl rfl rfl rfl rfl) <| .nil,.cons _ (.refl _),?_⟩
   first
    | exact absurd (‹(e.op==10)=true›.symm.trans ‹(e.op==10)=false›) (by decide)
    | exact absurd (‹(e.op==11)=true›.symm.trans ‹(e.op==11)=false›) (by decide)
    | exact absurd (‹(e.op==9)=true›.symm.trans ‹(e.op==9)=false›) (by decide)
    | exact Eq.trans rfl (congrArg (fun q:Cs=>AV.agg (cCs q)) (norm_0t ‹(e.op==0)=true› ‹((e.val.num==1)==s)=true›)).symm
    | exact Eq.trans rfl (congrArg (fun q:Cs=>AV.agg (cCs q)) (norm_0f ‹(e.op==0)=true› ‹((e.val.num==1)==s)=false›)).symm
    | exact Eq.trans rfl (congrArg (fun q:Cs=>AV.agg (cCs q)) (norm_12 h00 ‹(e.op==12)=true›)).symm
    | exact Eq.trans rfl (congrArg (fun q:Cs=>AV.agg (cCs q)) (norm_1t hl2 h10 ‹((e.op==10)==s)=true›)).symm
    | exact Eq.trans rfl (congrArg (fun q:Cs=>AV.agg (cCs q)) (norm_1f hl2 h10 ‹((e.op==10)==s)=false›)).symm
    | exact Eq.trans rfl (congrArg (fun q:Cs=>AV.agg (cCs q)) (norm_9b hl2 h9 ‹(kindR T V (arg0 e)==1)=true›)).symm
    | exact Eq.trans rfl (congrArg (fun q:Cs=>AV.agg (cCs q)) (norm_9i h9 ‹(kindR T V (arg0 e)==1)=false› ‹(kindR T V (arg0 e)==0 && !s)=true›)).symm
    | exact Eq.trans rfl (congrArg (fun q:Cs=>AV.agg (cCs q)) (norm_9o h9 ‹(kindR T V (arg0 e)==1)=false› ‹(kindR T V (arg0 e)==0 && !s)=false›)).symm
    | exact Eq.trans rfl (congrArg (fun q:Cs=>AV.agg (cCs q)) (norm_o ‹(e.op==0)=false› ‹(e.op==12)=false› (or0 ‹(e.op==10)=false› ‹(e.op==11)=false›) ‹(e.op==9)=false›)).symm
  ·
   refine Qst (Qsr (Qp (Qbd [_,.bool _]) ?_))
   refine Qe (E_store (k:=0) (v:=.agg _) (cs':=[_,.bool _]) (H2:=_::_) tok rfl rfl rfl rfl (rfl) rfl rfl rfl rfl) ?_
   rintro _ _ ⟨rfl,rfl⟩
   refine AOL.ghost (GS.cell (H2:=_::_) 0 0 rfl rfl rfl rfl (nil_cell (z:=1))) ?_
   refine Qnn (AW.ret (blkR (thenR ?_)))
   refine ⟨.inr rfl,[.agg [_,.bool _]],.cons (.box _ _ _ 0 _ _ _ _ rfl rfl rfl rfl rfl rfl) <| .nil,.cons _ (.refl _),?_⟩
   first
    | exact absurd (‹(e.op==10)=true›.symm.trans ‹(e.op==10)=false›) (by decide)
    | exact absurd (‹(e.op==11)=true›.symm.trans ‹(e.op==11)=false›) (by decide)
    | exact absurd (‹(e.op==9)=true›.symm.trans ‹(e.op==9)=false›) (by decide)
    | exact Eq.trans rfl (congrArg (fun q:Cs=>AV.agg (cCs q)) (norm_0t ‹(e.op==0)=true› ‹((e.val.num==1)==s)=true›)).symm
    | exact Eq.trans rfl (congrArg (fun q:Cs=>AV.agg (cCs q)) (norm_0f ‹(e.op==0)=true› ‹((e.val.num==1)==s)=false›)).symm
    | exact Eq.trans rfl (congrArg (fun q:Cs=>AV.agg (cCs q)) (norm_12 h00 ‹(e.op==12)=true›)).symm
    | exact Eq.trans rfl (congrArg (fun q:Cs=>AV.agg (cCs q)) (norm_1t hl2 h10 ‹((e.op==10)==s)=true›)).symm
    | exact Eq.trans rfl (congrArg (fun q:Cs=>AV.agg (cCs q)) (norm_1f hl2 h10 ‹((e.op==10)==s)=false›)).symm
    | exact Eq.trans rfl (congrArg (fun q:Cs=>AV.agg (cCs q)) (norm_9b hl2 h9 ‹(kindR T V (arg0 e)==1)=true›)).symm
    | exact Eq.trans rfl (congrArg (fun q:Cs=>AV.agg (cCs q)) (norm_9i h9 ‹(kindR T V (arg0 e)==1)=false› ‹(kindR T V (arg0 e)==0 && !s)=true›)).symm
    | exact Eq.trans rfl (congrArg (fun q:Cs=>AV.agg (cCs q)) (norm_9o h9 ‹(kindR T V (arg0 e)==1)=false› ‹(kindR T V (arg0 e)==0 && !s)=false›)).symm
    | exact Eq.trans rfl (congrArg (fun q:Cs=>AV.agg (cCs q)) (norm_o ‹(e.op==0)=false› ‹(e.op==12)=false› (or0 ‹(e.op==10)=false› ‹(e.op==11)=false›) ‹(e.op==9)=false›)).symm
 ·
  refine Qsr (Qp Qceq (Qp Qab (Qnn (Qif (fun hc3=>?_) fun hc3=>?_))))
  ·
   refine AW.seq ?_
   have h00:=len_not hz.1 (eq_of_beq ‹(e.op==12)=true›)
   have ha0:=arg_at0 h00
   refine AW.region ?_
   refine Qp (P_move (v:=.fn _ _ _) rfl) ?_
   refine Qp Qmb (Qp Qnt ?_)
   refine Qp (P_call (by kernel_rfl) rfl rfl rfl (d_normal1 T V e ih 0 (arg0 e) ha0 (!s))) ?_
   refine Qe (E_store (k:=0) (v:=.agg _) (cs':=[_,.bool _]) (H2:=_::_) tok rfl rfl rfl rfl (rfl) rfl rfl rfl rfl) ?_
   rintro _ _ ⟨rfl,rfl⟩
   refine Qnn (AW.ret (blkR (thenR ?_)))
   refine ⟨.inr rfl,[.agg [_,.bool _]],.cons (.box _ _ _ 0 _ _ _ _ rfl rfl rfl rfl rfl rfl) <| .nil,.cons _ (.refl _),?_⟩
   first
    | exact absurd (‹(e.op==10)=true›.symm.trans ‹(e.op==10)=false›) (by decide)
    | exact absurd (‹(e.op==11)=true›.symm.trans ‹(e.op==11)=false›) (by decide)
    | exact absurd (‹(e.op==9)=true›.symm.trans ‹(e.op==9)=false›) (by decide)
    | exact Eq.trans rfl (congrArg (fun q:Cs=>AV.agg (cCs q)) (norm_0t ‹(e.op==0)=true› ‹((e.val.num==1)==s)=true›)).symm
    | exact Eq.trans rfl (congrArg (fun q:Cs=>AV.agg (cCs q)) (norm_0f ‹(e.op==0)=true› ‹((e.val.num==1)==s)=false›)).symm
    | exact Eq.trans rfl (congrArg (fun q:Cs=>AV.agg (cCs q)) (norm_12 h00 ‹(e.op==12)=true›)).symm
    | exact Eq.trans rfl (congrArg (fun q:Cs=>AV.agg (cCs q)) (norm_1t hl2 h10 ‹((e.op==10)==s)=true›)).symm
    | exact Eq.trans rfl (congrArg (fun q:Cs=>AV.agg (cCs q)) (norm_1f hl2 h10 ‹((e.op==10)==s)=false›)).symm
    | exact Eq.trans rfl (congrArg (fun q:Cs=>AV.agg (cCs q)) (norm_9b hl2 h9 ‹(kindR T V (arg0 e)==1)=true›)).symm
    | exact Eq.trans rfl (congrArg (fun q:Cs=>AV.agg (cCs q)) (norm_9i h9 ‹(kindR T V (arg0 e)==1)=false› ‹(kindR T V (arg0 e)==0 && !s)=true›)).symm
    | exact Eq.trans rfl (congrArg (fun q:Cs=>AV.agg (cCs q)) (norm_9o h9 ‹(kindR T V (arg0 e)==1)=false› ‹(kindR T V (arg0 e)==0 && !s)=false›)).symm
    | exact Eq.trans rfl (congrArg (fun q:Cs=>AV.agg (cCs q)) (norm_o ‹(e.op==0)=false› ‹(e.op==12)=false› (or0 ‹(e.op==10)=false› ‹(e.op==11)=false›) ‹(e.op==9)=false›)).symm
  ·
   refine AW.seq (Qsr (Qp Qceq (Qp Qab (Qnn (Qif (fun hc4=>?_) fun hc4=>?_)))))
   ·
    refine Qst (Qif (fun hc5=>?_) fun hc5=>?_)
    ·
     refine AW.seq (Qsr (Qp Qf0 (Qp Qli (Qp Qceq (Qp Qmb ?_)))))
     refine Qp (P_eql_bool tok rfl rfl rfl rfl) ?_
     refine Qnn (Qif (fun hc6=>?_) fun hc6=>?_)
     ·
      refine AW.seq ?_
      have h10:(e.op==10||e.op==11)=true:=by first | exact or1 ‹(e.op==10)=true› | exact or2 ‹(e.op==11)=true›
      have hl2:=len_two' hz.1 (by simp at h10;omega)
      have h00:0<e.args.length:=by omega
      have ha0:=arg_at0 h00
      have ha1:=arg_at1 hl2
      have m0:=arg0_mem h00
      have m1:=arg1_mem hl2
      have k0:=norm_ok _ (kok_arg hk m0)
      have k1:=norm_ok _ (kok_arg hk m1)
      have hs01:=arg_sizes hl2
      refine AW.region ?_
      refine Qp (P_move (v:=.fn _ _ _) rfl) ?_
      refine Qp Qmb ?_
      refine Qp (P_call (by kernel_rfl) rfl rfl rfl (d_normal1 T V e ih 0 (arg0 e) ha0 s)) ?_
      refine Qp (P_move (v:=.fn _ _ _) rfl) ?_
      refine Qp Qmb ?_
      refine Qp (P_call (by kernel_rfl) rfl rfl rfl (d_normal1 T V e ih 1 (arg1 e) ha1 s)) ?_
      refine Qp (Qc rfl (d_times _ _ _ _ (k0 s) (k1 s) (by omega) (by omega))) ?_
      refine Qe (E_store (k:=0) (v:=.agg _) (cs':=[_,.bool _]) (H2:=_::_) tok rfl rfl rfl rfl (rfl) rfl rfl rfl rfl) ?_
      rintro _ _ ⟨rfl,rfl⟩
      refine Qnn (Qrt (blkR (thenR ?_)))
      refine ⟨.inr rfl,[.agg [_,.bool _]],.cons (.box _ _ _ 0 _ _ _ _ rfl rfl rfl rfl rfl rfl) <| .nil,.cons _ (.refl _),?_⟩
      first
       | exact absurd (‹(e.op==10)=true›.symm.trans ‹(e.op==10)=false›) (by decide)
       | exact absurd (‹(e.op==11)=true›.symm.trans ‹(e.op==11)=false›) (by decide)
       | exact absurd (‹(e.op==9)=true›.symm.trans ‹(e.op==9)=false›) (by decide)
       | exact Eq.trans rfl (congrArg (fun q:Cs=>AV.agg (cCs q)) (norm_0t ‹(e.op==0)=true› ‹((e.val.num==1)==s)=true›)).symm
       | exact Eq.trans rfl (congrArg (fun q:Cs=>AV.agg (cCs q)) (norm_0f ‹(e.op==0)=true› ‹((e.val.num==1)==s)=false›)).symm
       | exact Eq.trans rfl (congrArg (fun q:Cs=>AV.agg (cCs q)) (norm_12 h00 ‹(e.op==12)=true›)).symm
       | exact Eq.trans rfl (congrArg (fun q:Cs=>AV.agg (cCs q)) (norm_1t hl2 h10 ‹((e.op==10)==s)=true›)).symm
       | exact Eq.trans rfl (congrArg (fun q:Cs=>AV.agg (cCs q)) (norm_1f hl2 h10 ‹((e.op==10)==s)=false›)).symm
       | exact Eq.trans rfl (congrArg (fun q:Cs=>AV.agg (cCs q)) (norm_9b hl2 h9 ‹(kindR T V (arg0 e)==1)=true›)).symm
       | exact Eq.trans rfl (congrArg (fun q:Cs=>AV.agg (cCs q)) (norm_9i h9 ‹(kindR T V (arg0 e)==1)=false› ‹(kindR T V (arg0 e)==0 && !s)=true›)).symm
       | exact Eq.trans rfl (congrArg (fun q:Cs=>AV.agg (cCs q)) (norm_9o h9 ‹(kindR T V (arg0 e)==1)=false› ‹(kindR T V (arg0 e)==0 && !s)=false›)).symm
       | exact Eq.trans rfl (congrArg (fun q:Cs=>AV.agg (cCs q)) (norm_o ‹(e.op==0)=false› ‹(e.op==12)=false› (or0 ‹(e.op==10)=false› ‹(e.op==11)=false›) ‹(e.op==9)=false›)).symm
     ·
      refine Qst (AW.seq ?_)
      have h10:(e.op==10||e.op==11)=true:=by first | exact or1 ‹(e.op==10)=true› | exact or2 ‹(e.op==11)=true›
      have hl2:=len_two' hz.1 (by simp at h10;omega)
      have h00:0<e.args.length:=by omega
      have ha0:=arg_at0 h00
      have ha1:=arg_at1 hl2
      have m0:=arg0_mem h00
      have m1:=arg1_mem hl2
      have k0:=norm_ok _ (kok_arg hk m0)
      have k1:=norm_ok _ (kok_arg hk m1)
      have hs01:=arg_sizes hl2
      refine AW.region ?_
      refine Qp (P_move (v:=.fn _ _ _) rfl) ?_
      refine Qp Qmb ?_
      refine Qp (P_call (by kernel_rfl) rfl rfl rfl (d_normal1 T V e ih 0 (arg0 e) ha0 s)) ?_
      refine Qp (P_move (v:=.fn _ _ _) rfl) ?_
      refine Qp Qmb ?_
      refine Qp (P_call (by kernel_rfl) rfl rfl rfl (d_normal1 T V e ih 1 (arg1 e) ha1 s)) ?_
      refine Qp (Qc rfl (d_plus _ _ _ _ ((k0 s).mono (Nat.le_trans (by omega) hse)) ((k1 s).mono (Nat.le_trans (by omega) hse)) (by omega) (by omega))) ?_
      refine Qe (E_store (k:=0) (v:=.agg _) (cs':=[_,.bool _]) (H2:=_::_) tok rfl rfl rfl rfl (rfl) rfl rfl rfl rfl) ?_
      rintro _ _ ⟨rfl,rfl⟩
      refine Qnn (AW.ret (blkR (thenR ?_)))
      refine ⟨.inr rfl,[.agg [_,.bool _]],.cons (.box _ _ _ 0 _ _ _ _ rfl rfl rfl rfl rfl rfl) <| .nil,.cons _ (.refl _),?_⟩
      first
       | exact absurd (‹(e.op==10)=true›.symm.trans ‹(e.op==10)=false›) (by decide)
       | exact absurd (‹(e.op==11)=true›.symm.trans ‹(e.op==11)=false›) (by decide)
       | exact absurd (‹(e.op==9)=true›.symm.trans ‹(e.op==9)=false›) (by decide)
       | exact Eq.trans rfl (congrArg (fun q:Cs=>AV.agg (cCs q)) (norm_0t ‹(e.op==0)=true› ‹((e.val.num==1)==s)=true›)).symm
       | exact Eq.trans rfl (congrArg (fun q:Cs=>AV.agg (cCs q)) (norm_0f ‹(e.op==0)=true› ‹((e.val.num==1)==s)=false›)).symm
       | exact Eq.trans rfl (congrArg (fun q:Cs=>AV.agg (cCs q)) (norm_12 h00 ‹(e.op==12)=true›)).symm
       | exact Eq.trans rfl (congrArg (fun q:Cs=>AV.agg (cCs q)) (norm_1t hl2 h10 ‹((e.op==10)==s)=true›)).symm
       | exact Eq.trans rfl (congrArg (fun q:Cs=>AV.agg (cCs q)) (norm_1f hl2 h10 ‹((e.op==10)==s)=false›)).symm
       | exact Eq.trans rfl (congrArg (fun q:Cs=>AV.agg (cCs q)) (norm_9b hl2 h9 ‹(kindR T V (arg0 e)==1)=true›)).symm
       | exact Eq.trans rfl (congrArg (fun q:Cs=>AV.agg (cCs q)) (norm_9i h9 ‹(kindR T V (arg0 e)==1)=false› ‹(kindR T V (arg0 e)==0 && !s)=true›)).symm
       | exact Eq.trans rfl (congrArg (fun q:Cs=>AV.agg (cCs q)) (norm_9o h9 ‹(kindR T V (arg0 e)==1)=false› ‹(kindR T V (arg0 e)==0 && !s)=false›)).symm
       | exact Eq.trans rfl (congrArg (fun q:Cs=>AV.agg (cCs q)) (norm_o ‹(e.op==0)=false› ‹(e.op==12)=false› (or0 ‹(e.op==10)=false› ‹(e.op==11)=false›) ‹(e.op==9)=false›)).symm
    ·
     exact absurd (hc5.symm.trans hc4) (by decide)
   ·
    refine AW.region (Qp Qceq (Qp Qab (Qnn (Qif (fun hc7=>?_) fun hc7=>?_))))
    ·
     refine AW.seq (Qsr (Qp Qf0 (Qp Qli (Qp Qceq (Qp Qmb ?_)))))
     refine Qp (P_eql_bool tok rfl rfl rfl rfl) ?_
     refine Qnn (Qif (fun hc8=>?_) fun hc8=>?_)
     ·
      refine AW.seq ?_
      have h10:(e.op==10||e.op==11)=true:=by first | exact or1 ‹(e.op==10)=true› | exact or2 ‹(e.op==11)=true›
      have hl2:=len_two' hz.1 (by simp at h10;omega)
      have h00:0<e.args.length:=by omega
      have ha0:=arg_at0 h00
      have ha1:=arg_at1 hl2
      have m0:=arg0_mem h00
      have m1:=arg1_mem hl2
      have k0:=norm_ok _ (kok_arg hk m0)
      have k1:=norm_ok _ (kok_arg hk m1)
      have hs01:=arg_sizes hl2
      refine AW.region ?_
      refine Qp (P_move (v:=.fn _ _ _) rfl) ?_
      refine Qp Qmb ?_
      refine Qp (P_call (by kernel_rfl) rfl rfl rfl (d_normal1 T V e ih 0 (arg0 e) ha0 s)) ?_
      refine Qp (P_move (v:=.fn _ _ _) rfl) ?_
      refine Qp Qmb ?_
      refine Qp (P_call (by kernel_rfl) rfl rfl rfl (d_normal1 T V e ih 1 (arg1 e) ha1 s)) ?_
      refine Qp (Qc rfl (d_times _ _ _ _ (k0 s) (k1 s) (by omega) (by omega))) ?_
      refine Qe (E_store (k:=0) (v:=.agg _) (cs':=[_,.bool _]) (H2:=_::_) tok rfl rfl rfl rfl (rfl) rfl rfl rfl rfl) ?_
      rintro _ _ ⟨rfl,rfl⟩
      refine Qnn (Qrt (blkR (thenR ?_)))
      refine ⟨.inr rfl,[.agg [_,.bool _]],.cons (.box _ _ _ 0 _ _ _ _ rfl rfl rfl rfl rfl rfl) <| .nil,.cons _ (.refl _),?_⟩
      first
       | exact absurd (‹(e.op==10)=true›.symm.trans ‹(e.op==10)=false›) (by decide)
       | exact absurd (‹(e.op==11)=true›.symm.trans ‹(e.op==11)=false›) (by decide)
       | exact absurd (‹(e.op==9)=true›.symm.trans ‹(e.op==9)=false›) (by decide)
       | exact Eq.trans rfl (congrArg (fun q:Cs=>AV.agg (cCs q)) (norm_0t ‹(e.op==0)=true› ‹((e.val.num==1)==s)=true›)).symm
       | exact Eq.trans rfl (congrArg (fun q:Cs=>AV.agg (cCs q)) (norm_0f ‹(e.op==0)=true› ‹((e.val.num==1)==s)=false›)).symm
       | exact Eq.trans rfl (congrArg (fun q:Cs=>AV.agg (cCs q)) (norm_12 h00 ‹(e.op==12)=true›)).symm
       | exact Eq.trans rfl (congrArg (fun q:Cs=>AV.agg (cCs q)) (norm_1t hl2 h10 ‹((e.op==10)==s)=true›)).symm
       | exact Eq.trans rfl (congrArg (fun q:Cs=>AV.agg (cCs q)) (norm_1f hl2 h10 ‹((e.op==10)==s)=false›)).symm
       | exact Eq.trans rfl (congrArg (fun q:Cs=>AV.agg (cCs q)) (norm_9b hl2 h9 ‹(kindR T V (arg0 e)==1)=true›)).symm
       | exact Eq.trans rfl (congrArg (fun q:Cs=>AV.agg (cCs q)) (norm_9i h9 ‹(kindR T V (arg0 e)==1)=false› ‹(kindR T V (arg0 e)==0 && !s)=true›)).symm
       | exact Eq.trans rfl (congrArg (fun q:Cs=>AV.agg (cCs q)) (norm_9o h9 ‹(kindR T V (arg0 e)==1)=false› ‹(kindR T V (arg0 e)==0 && !s)=false›)).symm
       | exact Eq.trans rfl (congrArg (fun q:Cs=>AV.agg (cCs q)) (norm_o ‹(e.op==0)=false› ‹(e.op==12)=false› (or0 ‹(e.op==10)=false› ‹(e.op==11)=false›) ‹(e.op==9)=false›)).symm
     ·
      refine Qst (AW.seq ?_)
      have h10:(e.op==10||e.op==11)=true:=by first | exact or1 ‹(e.op==10)=true› | exact or2 ‹(e.op==11)=true›
      have hl2:=len_two' hz.1 (by simp at h10;omega)
      have h00:0<e.args.length:=by omega
      have ha0:=arg_at0 h00
      have ha1:=arg_at1 hl2
      have m0:=arg0_mem h00
      have m1:=arg1_mem hl2
      have k0:=norm_ok _ (kok_arg hk m0)
      have k1:=norm_ok _ (kok_arg hk m1)
      have hs01:=arg_sizes hl2
      refine AW.region ?_
      refine Qp (P_move (v:=.fn _ _ _) rfl) ?_
      refine Qp Qmb ?_
      refine Qp (P_call (by kernel_rfl) rfl rfl rfl (d_normal1 T V e ih 0 (arg0 e) ha0 s)) ?_
      refine Qp (P_move (v:=.fn _ _ _) rfl) ?_
      refine Qp Qmb ?_
      refine Qp (P_call (by kernel_rfl) rfl rfl rfl (d_normal1 T V e ih 1 (arg1 e) ha1 s)) ?_
      refine Qp (Qc rfl (d_plus _ _ _ _ ((k0 s).mono (Nat.le_trans (by omega) hse)) ((k1 s).mono (Nat.le_trans (by omega) hse)) (by omega) (by omega))) ?_
      refine Qe (E_store (k:=0) (v:=.agg _) (cs':=[_,.bool _]) (H2:=_::_) tok rfl rfl rfl rfl (rfl) rfl rfl rfl rfl) ?_
      rintro _ _ ⟨rfl,rfl⟩
      refine Qnn (AW.ret (blkR (thenR ?_)))
      refine ⟨.inr rfl,[.agg [_,.bool _]],.cons (.box _ _ _ 0 _ _ _ _ rfl rfl rfl rfl rfl rfl) <| .nil,.cons _ (.refl _),?_⟩
      first
       | exact absurd (‹(e.op==10)=true›.symm.trans ‹(e.op==10)=false›) (by decide)
       | exact absurd (‹(e.op==11)=true›.symm.trans ‹(e.op==11)=false›) (by decide)
       | exact absurd (‹(e.op==9)=true›.symm.trans ‹(e.op==9)=false›) (by decide)
       | exact Eq.trans rfl (congrArg (fun q:Cs=>AV.agg (cCs q)) (norm_0t ‹(e.op==0)=true› ‹((e.val.num==1)==s)=true›)).symm
       | exact Eq.trans rfl (congrArg (fun q:Cs=>AV.agg (cCs q)) (norm_0f ‹(e.op==0)=true› ‹((e.val.num==1)==s)=false›)).symm
       | exact Eq.trans rfl (congrArg (fun q:Cs=>AV.agg (cCs q)) (norm_12 h00 ‹(e.op==12)=true›)).symm
       | exact Eq.trans rfl (congrArg (fun q:Cs=>AV.agg (cCs q)) (norm_1t hl2 h10 ‹((e.op==10)==s)=true›)).symm
       | exact Eq.trans rfl (congrArg (fun q:Cs=>AV.agg (cCs q)) (norm_1f hl2 h10 ‹((e.op==10)==s)=false›)).symm
       | exact Eq.trans rfl (congrArg (fun q:Cs=>AV.agg (cCs q)) (norm_9b hl2 h9 ‹(kindR T V (arg0 e)==1)=true›)).symm
       | exact Eq.trans rfl (congrArg (fun q:Cs=>AV.agg (cCs q)) (norm_9i h9 ‹(kindR T V (arg0 e)==1)=false› ‹(kindR T V (arg0 e)==0 && !s)=true›)).symm
       | exact Eq.trans rfl (congrArg (fun q:Cs=>AV.agg (cCs q)) (norm_9o h9 ‹(kindR T V (arg0 e)==1)=false› ‹(kindR T V (arg0 e)==0 && !s)=false›)).symm
       | exact Eq.trans rfl (congrArg (fun q:Cs=>AV.agg (cCs q)) (norm_o ‹(e.op==0)=false› ‹(e.op==12)=false› (or0 ‹(e.op==10)=false› ‹(e.op==11)=false›) ‹(e.op==9)=false›)).symm
    ·
     refine Qsr (Qp Qceq (Qp Qab (Qnn (Qif (fun hc9=>?_) fun hc9=>?_))))
     ·
      refine AW.seq ?_
      have h9:(e.op==9)=true:=‹(e.op==9)=true›
      have hl2:=len_two' hz.1 (by simp at h9;omega)
      have h00:0<e.args.length:=by omega
      have ha0:=arg_at0 h00
      have ha1:=arg_at1 hl2
      have m0:=arg0_mem h00
      have m1:=arg1_mem hl2
      have k0:=norm_ok _ (kok_arg hk m0)
      have k1:=norm_ok _ (kok_arg hk m1)
      have hs01:=arg_sizes hl2
      refine AW.draw mixed (fun _=>True) trivial (by kernel_rfl) ?_
      refine Qn 0 rfl (Qlg [_,_]) (Qn 1 rfl Qf1 (Qn 2 rfl Qls ?_))
      refine Qn 3 rfl (P_indexAddr (c:=[.int .i64 _,_,.int .i64 _,.int .i64 _,.int .i64 _,.int .i64 _,.int .i64 _,.str _]) tok rfl rfl rfl rfl rfl rfl (by decide) (arg0_at h00)) ?_
      refine Qn 4 rfl Qle ?_
      refine Qn 5 rfl (Qc rfl (d_kind T V _ (kok_arg hk m0))) ?_
      refine Qn 6 rfl Qai ?_
      refine Canon.done _ _ (by kernel_rfl) ?_
      refine thenN (AW.block (Qsr (Qp Qmi (Qp Qceq (Qp Qab (Qnn (Qif (fun hc10=>?_) fun hc10=>?_)))))))
      ·
       refine Qsr ?_
       refine Qp (P_move (v:=.fn _ _ _) rfl) ?_
       refine Qp (P_call (by kernel_rfl) rfl rfl rfl (d_normal1 T V e ih 0 (arg0 e) ha0 true)) ?_
       refine Qp (P_move (v:=.fn _ _ _) rfl) ?_
       refine Qp Qmb ?_
       refine Qp (P_call (by kernel_rfl) rfl rfl rfl (d_normal1 T V e ih 1 (arg1 e) ha1 s)) ?_
       refine Qp (Qc rfl (d_times _ _ _ _ (k0 true) (k1 s) (by omega) (by omega))) ?_
       refine Qp (P_move (v:=.fn _ _ _) rfl) ?_
       refine Qp (P_call (by kernel_rfl) rfl rfl rfl (d_normal1 T V e ih 0 (arg0 e) ha0 false)) ?_
       refine Qp (P_move (v:=.fn _ _ _) rfl) ?_
       refine Qp Qmb (Qp Qnt ?_)
       refine Qp (P_call (by kernel_rfl) rfl rfl rfl (d_normal1 T V e ih 1 (arg1 e) ha1 (!s))) ?_
       refine Qp (Qc rfl (d_times _ _ _ _ (k0 false) (k1 (!s)) (by omega) (by omega))) ?_
       refine Qp (Qc rfl (d_plus _ _ _ _ ((times_ok (k0 true) (k1 s)).mono (Nat.le_trans (by omega) hse)) ((times_ok (k0 false) (k1 (!s))).mono (Nat.le_trans (by omega) hse)) (by omega) (by omega))) ?_
       refine Qe (E_store (k:=0) (v:=.agg _) (cs':=[_,.bool _]) (H2:=_::_) tok rfl rfl rfl rfl (rfl) rfl rfl rfl rfl) ?_
       rintro _ _ ⟨rfl,rfl⟩
       refine Qnn (AW.ret (blkR (blkR (thenR ?_))))
       refine ⟨.inr rfl,[.agg [_,.bool _]],.cons (.box _ _ _ 0 _ _ _ _ rfl rfl rfl rfl rfl rfl) <| .nil,.cons _ (.refl _),?_⟩
       first
        | exact absurd (‹(e.op==10)=true›.symm.trans ‹(e.op==10)=false›) (by decide)
        | exact absurd (‹(e.op==11)=true›.symm.trans ‹(e.op==11)=false›) (by decide)
        | exact absurd (‹(e.op==9)=true›.symm.trans ‹(e.op==9)=false›) (by decide)
        | exact Eq.trans rfl (congrArg (fun q:Cs=>AV.agg (cCs q)) (norm_0t ‹(e.op==0)=true› ‹((e.val.num==1)==s)=true›)).symm
        | exact Eq.trans rfl (congrArg (fun q:Cs=>AV.agg (cCs q)) (norm_0f ‹(e.op==0)=true› ‹((e.val.num==1)==s)=false›)).symm
        | exact Eq.trans rfl (congrArg (fun q:Cs=>AV.agg (cCs q)) (norm_12 h00 ‹(e.op==12)=true›)).symm
        | exact Eq.trans rfl (congrArg (fun q:Cs=>AV.agg (cCs q)) (norm_1t hl2 h10 ‹((e.op==10)==s)=true›)).symm
        | exact Eq.trans rfl (congrArg (fun q:Cs=>AV.agg (cCs q)) (norm_1f hl2 h10 ‹((e.op==10)==s)=false›)).symm
        | exact Eq.trans rfl (congrArg (fun q:Cs=>AV.agg (cCs q)) (norm_9b hl2 h9 ‹(kindR T V (arg0 e)==1)=true›)).symm
        | exact Eq.trans rfl (congrArg (fun q:Cs=>AV.agg (cCs q)) (norm_9i h9 ‹(kindR T V (arg0 e)==1)=false› ‹(kindR T V (arg0 e)==0 && !s)=true›)).symm
        | exact Eq.trans rfl (congrArg (fun q:Cs=>AV.agg (cCs q)) (norm_9o h9 ‹(kindR T V (arg0 e)==1)=false› ‹(kindR T V (arg0 e)==0 && !s)=false›)).symm
        | exact Eq.trans rfl (congrArg (fun q:Cs=>AV.agg (cCs q)) (norm_o ‹(e.op==0)=false› ‹(e.op==12)=false› (or0 ‹(e.op==10)=false› ‹(e.op==11)=false›) ‹(e.op==9)=false›)).symm
      ·
       refine Qsr (Qp Qmi (Qp Qceq (Qp Qmb (Qg [] Qw Qmb (Qg [(80,_)] Qw Qnt (Qp Qpa (Qp Qab (Qnn (Qif (fun hc11=>?_) fun hc11=>?_)))))))))
       ·
        refine AW.seq ?_
        refine AW.draw mixed (fun _=>True) trivial (by kernel_rfl) ?_
        refine Qn 0 rfl Qf1 (Qn 1 rfl Qls ?_)
        refine Qn 2 rfl (P_indexAddr (c:=[.int .i64 _,_,.int .i64 _,.int .i64 _,.int .i64 _,.int .i64 _,.int .i64 _,.str _]) tok rfl rfl rfl rfl rfl rfl (by decide) (arg0_at h00)) ?_
        refine Qn 3 rfl Qle (Qn 4 rfl Qf1 (Qn 5 rfl Qls ?_))
        refine Qn 6 rfl (P_indexAddr (c:=[.int .i64 _,_,.int .i64 _,.int .i64 _,.int .i64 _,.int .i64 _,.int .i64 _,.str _]) tok rfl rfl rfl rfl rfl rfl (by decide) (arg1_at hl2)) ?_
        refine Qn 7 rfl Qle ?_
        refine Qn 8 rfl (Qc rfl (d_two 7 _ _)) ?_
        refine Qn 9 rfl (Qbd [.int .i64 _,_,.int .i64 _,.int .i64 _,.int .i64 _,.int .i64 _,.int .i64 _,.str _,.bool _]) (Qn 10 rfl Qf1 (Qn 11 rfl Qls ?_))
        refine Qn 12 rfl (P_indexAddr (c:=[.int .i64 _,_,.int .i64 _,.int .i64 _,.int .i64 _,.int .i64 _,.int .i64 _,.str _]) tok rfl rfl rfl rfl rfl rfl (by decide) (arg1_at hl2)) ?_
        refine Qn 13 rfl Qle (Qn 14 rfl Qf1 (Qn 15 rfl Qls ?_))
        refine Qn 16 rfl (P_indexAddr (c:=[.int .i64 _,_,.int .i64 _,.int .i64 _,.int .i64 _,.int .i64 _,.int .i64 _,.str _]) tok rfl rfl rfl rfl rfl rfl (by decide) (arg0_at h00)) ?_
        refine Qn 17 rfl Qle ?_
        refine Qn 18 rfl (Qc rfl (d_two 7 _ _)) ?_
        refine Qn 19 rfl (Qbd [.int .i64 _,_,.int .i64 _,.int .i64 _,.int .i64 _,.int .i64 _,.int .i64 _,.str _,.bool _]) ?_
        refine Qn 20 rfl (P_buildSlice (es:=[[.int .i64 _,_,.int .i64 _,.int .i64 _,.int .i64 _,.int .i64 _,.int .i64 _,.str _,.bool _],[.int .i64 _,_,.int .i64 _,.int .i64 _,.int .i64 _,.int .i64 _,.int .i64 _,.str _,.bool _]]) tok rfl rfl rfl rfl rfl rfl rfl rfl rfl) ?_
        refine Qn 21 rfl (Qc rfl (d_single [⟨two 7 (arg0 e) (arg1 e),false⟩,⟨two 7 (arg1 e) (arg0 e),false⟩] (show 2≤256 by decide))) ?_
        refine Canon.eff _ _ 22 _ _ rfl (by kernel_rfl) rfl rfl (E_store (k:=0) (v:=.agg _) (cs':=[_,.bool _]) (H2:=_::_) tok rfl rfl rfl rfl (rfl) rfl rfl rfl rfl) (fun _ _ _=>trivial) ?_
        rintro _ _ ⟨rfl,rfl⟩
        refine Canon.done _ _ (by kernel_rfl) ?_
        refine thenN (AW.ret (blkR (blkR (thenR ?_))))
        refine ⟨.inr rfl,[.agg [_,.bool _]],.cons (.box _ _ _ 0 _ _ _ _ rfl rfl rfl rfl rfl rfl) <| .nil,.cons _ (.refl _),?_⟩
        first
         | exact absurd (‹(e.op==10)=true›.symm.trans ‹(e.op==10)=false›) (by decide)
         | exact absurd (‹(e.op==11)=true›.symm.trans ‹(e.op==11)=false›) (by decide)
         | exact absurd (‹(e.op==9)=true›.symm.trans ‹(e.op==9)=false›) (by decide)
         | exact Eq.trans rfl (congrArg (fun q:Cs=>AV.agg (cCs q)) (norm_0t ‹(e.op==0)=true› ‹((e.val.num==1)==s)=true›)).symm
         | exact Eq.trans rfl (congrArg (fun q:Cs=>AV.agg (cCs q)) (norm_0f ‹(e.op==0)=true› ‹((e.val.num==1)==s)=false›)).symm
         | exact Eq.trans rfl (congrArg (fun q:Cs=>AV.agg (cCs q)) (norm_12 h00 ‹(e.op==12)=true›)).symm
         | exact Eq.trans rfl (congrArg (fun q:Cs=>AV.agg (cCs q)) (norm_1t hl2 h10 ‹((e.op==10)==s)=true›)).symm
         | exact Eq.trans rfl (congrArg (fun q:Cs=>AV.agg (cCs q)) (norm_1f hl2 h10 ‹((e.op==10)==s)=false›)).symm
         | exact Eq.trans rfl (congrArg (fun q:Cs=>AV.agg (cCs q)) (norm_9b hl2 h9 ‹(kindR T V (arg0 e)==1)=true›)).symm
         | exact Eq.trans rfl (congrArg (fun q:Cs=>AV.agg (cCs q)) (norm_9i h9 ‹(kindR T V (arg0 e)==1)=false› ‹(kindR T V (arg0 e)==0 && !s)=true›)).symm
         | exact Eq.trans rfl (congrArg (fun q:Cs=>AV.agg (cCs q)) (norm_9o h9 ‹(kindR T V (arg0 e)==1)=false› ‹(kindR T V (arg0 e)==0 && !s)=false›)).symm
         | exact Eq.trans rfl (congrArg (fun q:Cs=>AV.agg (cCs q)) (norm_o ‹(e.op==0)=false› ‹(e.op==12)=false› (or0 ‹(e.op==10)=false› ‹(e.op==11)=false›) ‹(e.op==9)=false›)).symm
       ·
        refine AW.skip (blkN (blkN (thenN (Qsr (Qp Qle (Qp Qmb (Qp Qnt (Qp (Qbd [.int .i64 _,_,.int .i64 _,.int .i64 _,.int .i64 _,.int .i64 _,.int .i64 _,.str _,.bool _]) ?_))))))))
        refine Qp (P_buildSlice (es:=[[.int .i64 _,_,.int .i64 _,.int .i64 _,.int .i64 _,.int .i64 _,.int .i64 _,.str _,.bool _]]) tok rfl rfl rfl rfl rfl rfl rfl rfl rfl) ?_
        refine Qp (Qc rfl (d_single [⟨e,!s⟩] (show 1≤256 by decide))) ?_
        refine Qe (E_store (k:=0) (v:=.agg _) (cs':=[_,.bool _]) (H2:=_::_) tok rfl rfl rfl rfl (rfl) rfl rfl rfl rfl) ?_
        rintro _ _ ⟨rfl,rfl⟩
        refine Qnn (AW.ret ?_)
        refine ⟨.inr rfl,[.agg [_,.bool _]],.cons (.box _ _ _ 0 _ _ _ _ rfl rfl rfl rfl rfl rfl) <| .nil,.cons _ (.refl _),?_⟩
        first
         | exact absurd (‹(e.op==10)=true›.symm.trans ‹(e.op==10)=false›) (by decide)
         | exact absurd (‹(e.op==11)=true›.symm.trans ‹(e.op==11)=false›) (by decide)
         | exact absurd (‹(e.op==9)=true›.symm.trans ‹(e.op==9)=false›) (by decide)
         | exact Eq.trans rfl (congrArg (fun q:Cs=>AV.agg (cCs q)) (norm_0t ‹(e.op==0)=true› ‹((e.val.num==1)==s)=true›)).symm
         | exact Eq.trans rfl (congrArg (fun q:Cs=>AV.agg (cCs q)) (norm_0f ‹(e.op==0)=true› ‹((e.val.num==1)==s)=false›)).symm
         | exact Eq.trans rfl (congrArg (fun q:Cs=>AV.agg (cCs q)) (norm_12 h00 ‹(e.op==12)=true›)).symm
         | exact Eq.trans rfl (congrArg (fun q:Cs=>AV.agg (cCs q)) (norm_1t hl2 h10 ‹((e.op==10)==s)=true›)).symm
         | exact Eq.trans rfl (congrArg (fun q:Cs=>AV.agg (cCs q)) (norm_1f hl2 h10 ‹((e.op==10)==s)=false›)).symm
         | exact Eq.trans rfl (congrArg (fun q:Cs=>AV.agg (cCs q)) (norm_9b hl2 h9 ‹(kindR T V (arg0 e)==1)=true›)).symm
         | exact Eq.trans rfl (congrArg (fun q:Cs=>AV.agg (cCs q)) (norm_9i h9 ‹(kindR T V (arg0 e)==1)=false› ‹(kindR T V (arg0 e)==0 && !s)=true›)).symm
         | exact Eq.trans rfl (congrArg (fun q:Cs=>AV.agg (cCs q)) (norm_9o h9 ‹(kindR T V (arg0 e)==1)=false› ‹(kindR T V (arg0 e)==0 && !s)=false›)).symm
         | exact Eq.trans rfl (congrArg (fun q:Cs=>AV.agg (cCs q)) (norm_o ‹(e.op==0)=false› ‹(e.op==12)=false› (or0 ‹(e.op==10)=false› ‹(e.op==11)=false›) ‹(e.op==9)=false›)).symm
     ·
      refine AW.skip (blkN (thenN (Qsr (Qp Qle (Qp Qmb (Qp Qnt (Qp (Qbd [.int .i64 _,_,.int .i64 _,.int .i64 _,.int .i64 _,.int .i64 _,.int .i64 _,.str _,.bool _]) ?_)))))))
      refine Qp (P_buildSlice (es:=[[.int .i64 _,_,.int .i64 _,.int .i64 _,.int .i64 _,.int .i64 _,.int .i64 _,.str _,.bool _]]) tok rfl rfl rfl rfl rfl rfl rfl rfl rfl) ?_
      refine Qp (Qc rfl (d_single [⟨e,!s⟩] (show 1≤256 by decide))) ?_
      refine Qe (E_store (k:=0) (v:=.agg _) (cs':=[_,.bool _]) (H2:=_::_) tok rfl rfl rfl rfl (rfl) rfl rfl rfl rfl) ?_
      rintro _ _ ⟨rfl,rfl⟩
      refine Qnn (AW.ret ?_)
      refine ⟨.inr rfl,[.agg [_,.bool _]],.cons (.box _ _ _ 0 _ _ _ _ rfl rfl rfl rfl rfl rfl) <| .nil,.cons _ (.refl _),?_⟩
      first
       | exact absurd (‹(e.op==10)=true›.symm.trans ‹(e.op==10)=false›) (by decide)
       | exact absurd (‹(e.op==11)=true›.symm.trans ‹(e.op==11)=false›) (by decide)
       | exact absurd (‹(e.op==9)=true›.symm.trans ‹(e.op==9)=false›) (by decide)
       | exact Eq.trans rfl (congrArg (fun q:Cs=>AV.agg (cCs q)) (norm_0t ‹(e.op==0)=true› ‹((e.val.num==1)==s)=true›)).symm
       | exact Eq.trans rfl (congrArg (fun q:Cs=>AV.agg (cCs q)) (norm_0f ‹(e.op==0)=true› ‹((e.val.num==1)==s)=false›)).symm
       | exact Eq.trans rfl (congrArg (fun q:Cs=>AV.agg (cCs q)) (norm_12 h00 ‹(e.op==12)=true›)).symm
       | exact Eq.trans rfl (congrArg (fun q:Cs=>AV.agg (cCs q)) (norm_1t hl2 h10 ‹((e.op==10)==s)=true›)).symm
       | exact Eq.trans rfl (congrArg (fun q:Cs=>AV.agg (cCs q)) (norm_1f hl2 h10 ‹((e.op==10)==s)=false›)).symm
       | exact Eq.trans rfl (congrArg (fun q:Cs=>AV.agg (cCs q)) (norm_9b hl2 h9 ‹(kindR T V (arg0 e)==1)=true›)).symm
       | exact Eq.trans rfl (congrArg (fun q:Cs=>AV.agg (cCs q)) (norm_9i h9 ‹(kindR T V (arg0 e)==1)=false› ‹(kindR T V (arg0 e)==0 && !s)=true›)).symm
       | exact Eq.trans rfl (congrArg (fun q:Cs=>AV.agg (cCs q)) (norm_9o h9 ‹(kindR T V (arg0 e)==1)=false› ‹(kindR T V (arg0 e)==0 && !s)=false›)).symm
       | exact Eq.trans rfl (congrArg (fun q:Cs=>AV.agg (cCs q)) (norm_o ‹(e.op==0)=false› ‹(e.op==12)=false› (or0 ‹(e.op==10)=false› ‹(e.op==11)=false›) ‹(e.op==9)=false›)).symm
theorem d_Clauses (T:List Sc)(hl:T.length≤1048576)(hst:∀s∈T,scOK s)(V:List Va)(hvl:V.length≤1048576)(e:Ex)(hse:sizeN e≤1048576):APure Tryz.prog 13 [.sl 2 (T.map cSc),.sl 2 (V.map cVa),.agg (cE e)] (.tuple [.sl 1 ((ClausesS T V e).1.map cCl),.int .i64 (ClausesS T V e).2]):=by
 refine APure.body (n:=28) tok Tryz.func13 rfl rfl rfl fun H=>?_
 refine Qsr (Qp Qbe ?_)
 refine Qp (P_assign_nil (z:=1) rfl) ?_
 refine Qp Qai (Qns (Qp Qms (Qp Qms (Qp (Qbd [_,_]) ?_))))
 refine Qe (E_alloc (l:=[.sl 2 [],.sl 2 []]) (by kernel_rfl)) ?_
 rintro _ _ ⟨b8,rfl,rfl⟩
 refine Qe (E_store (k:=0) (v:=.agg _) (cs':=[_,_]) (H2:=_::_) tok rfl rfl rfl rfl (rfl) rfl rfl rfl rfl) ?_
 rintro _ _ ⟨rfl,rfl⟩
 refine AOL.ghost (GS.freeze (t:=8) 0 rfl rfl) ?_
 refine Qnn (AW.seq (Qsr (Qp (Qlg [_,_]) (Qp Qle ?_))))
 refine Qp (Qc rfl (d_condition T hl hst V hvl e hse)) ?_
 refine Qp Qai (Qns (Qp Qmi (Qp Qcne (Qnn (Qif (fun hc1=>?_) fun hc1=>?_)))))
 ·
  refine Qsr (Qp Qmi ?_)
  refine Qp (P_assign_nil (z:=1) rfl) ?_
  refine Qp Qai (Qnn (Qrt ?_))
  refine Qrr (.sl _ _) (.int .i64 _) ?_
  exact Eq.trans rfl (congrArg (fun q:List (List Lit)×Int=>AV.tuple [.sl 1 (q.1.map cCl),.int .i64 q.2]) (Clauses_1 hc1)).symm
 ·
  have hk:=(condE_kc hc1).1
  refine Qst (Qsr (Qp (Qlg [_,_]) (Qp Qle ?_)))
  refine Qp (Qc rfl (d_normal T V e hk.kok (kc_size hk) true)) ?_
  refine Qe (E_alloc (l:=[.sl 1 [],.bool false]) (by kernel_rfl)) ?_
  rintro _ _ ⟨b10,rfl,rfl⟩
  refine Qe (E_store (k:=0) (v:=.agg _) (cs':=[_,.bool _]) (H2:=_::_) tok rfl rfl rfl rfl (rfl) rfl rfl rfl rfl) ?_
  rintro _ _ ⟨rfl,rfl⟩
  refine AOL.ghost (GS.freeze (t:=10) 0 rfl rfl) ?_
  refine Qnn (AW.seq (Qsr (Qp (Qf [.bool _]) (Qp Qlb (Qp Qnt (Qnn (Qif (fun hc2=>?_) fun hc2=>?_)))))))
  ·
   refine Qsr ?_
   refine Qp (P_assign_nil (z:=1) rfl) ?_
   refine Qp Qai (Qnn (Qrt ?_))
   refine Qrr (.sl _ _) (.int .i64 _) ?_
   exact Eq.trans rfl (congrArg (fun q:List (List Lit)×Int=>AV.tuple [.sl 1 (q.1.map cCl),.int .i64 q.2]) (Clauses_2 hc1 hc2)).symm
  ·
   refine Qst (Qsr (Qp (Qf [_,.bool _]) (Qp Qls (Qp Qas (Qp Qai (Qnn (AW.ret ?_)))))))
   refine Qrr (.sl _ _) (.int .i64 _) ?_
   exact Eq.trans rfl (congrArg (fun q:List (List Lit)×Int=>AV.tuple [.sl 1 (q.1.map cCl),.int .i64 q.2]) (Clauses_3 hc1 hc2)).symm

end Go.Proofs.YtkddpedfbicbeaaGreatDoor
