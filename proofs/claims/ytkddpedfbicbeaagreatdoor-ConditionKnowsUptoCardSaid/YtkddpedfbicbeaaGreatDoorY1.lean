/-
  Walks of layer 11: nodes, negation. No condition.
-/
import Derived.Test.YtkddpedfbicbeaaGreatDoorK01
import Derived.Test.YtkddpedfbicbeaaGreatDoorK02
import Derived.Test.YtkddpedfbicbeaaGreatDoorK04
import Derived.KernelRfl
namespace Go.Proofs.YtkddpedfbicbeaaGreatDoor
open Go Go.Aw
set_option maxHeartbeats 3200000
set_option maxRecDepth 20000
set_option linter.unusedVariables false
set_option linter.unusedSimpArgs false

theorem d_two (op:Int)(x y:Ex):APure Tryz.prog 91 [.int .i64 op,.agg (cE x),.agg (cE y)] (.agg (cE (two op x y))):=by
 refine APure.body (n:=12) tok Tryz.func91 rfl rfl rfl fun H=>?_
 refine Qsr (Qp Qbe ?_)
 refine Qp Qbe ?_
 refine Qe (E_alloc (l:=[.int .i64 0,.sl 8 [],.int .i64 0,.int .i64 0,.int .i64 0,.int .i64 0,.int .i64 0,.str []]) (by kernel_rfl)) ?_
 rintro _ _ ⟨b6,rfl,rfl⟩
 refine Qns (Qp Qmi ?_)
 refine Qp Qle ?_
 refine Qp Qle ?_
 refine Qp (P_buildSlice (es:=[[.int .i64 _,_,.int .i64 _,.int .i64 _,.int .i64 _,.int .i64 _,.int .i64 _,.str _],[.int .i64 _,_,.int .i64 _,.int .i64 _,.int .i64 _,.int .i64 _,.int .i64 _,.str _]]) tok rfl rfl rfl rfl rfl rfl rfl rfl rfl) ?_
 refine Qp (Qbd [.int .i64 _,_,.int .i64 _,.int .i64 _,.int .i64 _,.int .i64 _,.int .i64 _,.str _]) ?_
 refine Qe (E_store (k:=0) (v:=.agg _) (cs':=[.int .i64 _,_,.int .i64 _,.int .i64 _,.int .i64 _,.int .i64 _,.int .i64 _,.str _]) (H2:=_::_) tok rfl rfl rfl rfl (rfl) rfl rfl rfl rfl) ?_
 rintro _ _ ⟨rfl,rfl⟩
 refine Qnn (AW.ret ?_)
 refine ⟨.inr rfl,[.agg [.int .i64 _,_,.int .i64 _,.int .i64 _,.int .i64 _,.int .i64 _,.int .i64 _,.str _]],.cons (.box _ _ _ 0 _ _ _ _ rfl rfl rfl rfl rfl rfl) <| .nil,.cons _ (.refl _),?_⟩
 rw [two_cells];rfl
theorem l_two (op:Int)(x y:Ex):APure Tryz.prog 28 [.int .i64 op,.agg (cE x),.agg (cE y)] (.agg (cE (two op x y))):=by
 refine APure.body (n:=12) tok Tryz.func28 rfl rfl rfl fun H=>?_
 refine Qsr (Qp Qbe ?_)
 refine Qp Qbe ?_
 refine Qe (E_alloc (l:=[.int .i64 0,.sl 8 [],.int .i64 0,.int .i64 0,.int .i64 0,.int .i64 0,.int .i64 0,.str []]) (by kernel_rfl)) ?_
 rintro _ _ ⟨b6,rfl,rfl⟩
 refine Qns (Qp Qmi ?_)
 refine Qp Qle ?_
 refine Qp Qle ?_
 refine Qp (P_buildSlice (es:=[[.int .i64 _,_,.int .i64 _,.int .i64 _,.int .i64 _,.int .i64 _,.int .i64 _,.str _],[.int .i64 _,_,.int .i64 _,.int .i64 _,.int .i64 _,.int .i64 _,.int .i64 _,.str _]]) tok rfl rfl rfl rfl rfl rfl rfl rfl rfl) ?_
 refine Qp (Qbd [.int .i64 _,_,.int .i64 _,.int .i64 _,.int .i64 _,.int .i64 _,.int .i64 _,.str _]) ?_
 refine Qe (E_store (k:=0) (v:=.agg _) (cs':=[.int .i64 _,_,.int .i64 _,.int .i64 _,.int .i64 _,.int .i64 _,.int .i64 _,.str _]) (H2:=_::_) tok rfl rfl rfl rfl (rfl) rfl rfl rfl rfl) ?_
 rintro _ _ ⟨rfl,rfl⟩
 refine Qnn (AW.ret ?_)
 refine ⟨.inr rfl,[.agg [.int .i64 _,_,.int .i64 _,.int .i64 _,.int .i64 _,.int .i64 _,.int .i64 _,.str _]],.cons (.box _ _ _ 0 _ _ _ _ rfl rfl rfl rfl rfl rfl) <| .nil,.cons _ (.refl _),?_⟩
 rw [two_cells];rfl
theorem r_two (op:Int)(x y:Ex):APure Tryz.prog 95 [.int .i64 op,.agg (cE x),.agg (cE y)] (.agg (cE (two op x y))):=by
 refine APure.body (n:=12) tok Tryz.func95 rfl rfl rfl fun H=>?_
 refine Qsr (Qp Qbe ?_)
 refine Qp Qbe ?_
 refine Qe (E_alloc (l:=[.int .i64 0,.sl 8 [],.int .i64 0,.int .i64 0,.int .i64 0,.int .i64 0,.int .i64 0,.str []]) (by kernel_rfl)) ?_
 rintro _ _ ⟨b6,rfl,rfl⟩
 refine Qns (Qp Qmi ?_)
 refine Qp Qle ?_
 refine Qp Qle ?_
 refine Qp (P_buildSlice (es:=[[.int .i64 _,_,.int .i64 _,.int .i64 _,.int .i64 _,.int .i64 _,.int .i64 _,.str _],[.int .i64 _,_,.int .i64 _,.int .i64 _,.int .i64 _,.int .i64 _,.int .i64 _,.str _]]) tok rfl rfl rfl rfl rfl rfl rfl rfl rfl) ?_
 refine Qp (Qbd [.int .i64 _,_,.int .i64 _,.int .i64 _,.int .i64 _,.int .i64 _,.int .i64 _,.str _]) ?_
 refine Qe (E_store (k:=0) (v:=.agg _) (cs':=[.int .i64 _,_,.int .i64 _,.int .i64 _,.int .i64 _,.int .i64 _,.int .i64 _,.str _]) (H2:=_::_) tok rfl rfl rfl rfl (rfl) rfl rfl rfl rfl) ?_
 rintro _ _ ⟨rfl,rfl⟩
 refine Qnn (AW.ret ?_)
 refine ⟨.inr rfl,[.agg [.int .i64 _,_,.int .i64 _,.int .i64 _,.int .i64 _,.int .i64 _,.int .i64 _,.str _]],.cons (.box _ _ _ 0 _ _ _ _ rfl rfl rfl rfl rfl rfl) <| .nil,.cons _ (.refl _),?_⟩
 rw [two_cells];rfl
theorem l_not (x:Ex):APure Tryz.prog 42 [.agg (cE x)] (.agg (cE (notE x))):=by
 refine APure.body (n:=6) tok Tryz.func42 rfl rfl rfl fun H=>?_
 refine Qsr (Qp Qbe ?_)
 refine Qe (E_alloc (l:=[.int .i64 0,.sl 8 [],.int .i64 0,.int .i64 0,.int .i64 0,.int .i64 0,.int .i64 0,.str []]) (by kernel_rfl)) ?_
 rintro _ _ ⟨b2,rfl,rfl⟩
 refine Qns (Qp Qle ?_)
 refine Qp (P_buildSlice (es:=[[.int .i64 _,_,.int .i64 _,.int .i64 _,.int .i64 _,.int .i64 _,.int .i64 _,.str _]]) tok rfl rfl rfl rfl rfl rfl rfl rfl rfl) ?_
 refine Qp (Qbd [.int .i64 _,_,.int .i64 _,.int .i64 _,.int .i64 _,.int .i64 _,.int .i64 _,.str _]) ?_
 refine Qe (E_store (k:=0) (v:=.agg _) (cs':=[.int .i64 _,_,.int .i64 _,.int .i64 _,.int .i64 _,.int .i64 _,.int .i64 _,.str _]) (H2:=_::_) tok rfl rfl rfl rfl (rfl) rfl rfl rfl rfl) ?_
 rintro _ _ ⟨rfl,rfl⟩
 refine Qnn (AW.ret ?_)
 refine ⟨.inr rfl,[.agg [.int .i64 _,_,.int .i64 _,.int .i64 _,.int .i64 _,.int .i64 _,.int .i64 _,.str _]],.cons (.box _ _ _ 0 _ _ _ _ rfl rfl rfl rfl rfl rfl) <| .nil,.cons _ (.refl _),?_⟩
 rw [not_cells];rfl
theorem d_truth (x:Bool):APure Tryz.prog 96 [.bool x] (.agg (cE (truthE x))):=by
 refine APure.body (n:=6) tok Tryz.func96 rfl rfl rfl fun H=>?_
 refine Qsr (Qe (E_alloc (l:=[.int .i64 0,.sl 8 [],.int .i64 0,.int .i64 0,.int .i64 0,.int .i64 0,.int .i64 0,.str []]) (by kernel_rfl)) ?_)
 rintro _ _ ⟨b2,rfl,rfl⟩
 refine Qns (Qp Qmb ?_)
 refine Qp (Qc rfl (c75 x)) ?_
 refine Qp (Qbd [.int .i64 _,_,.int .i64 _,.int .i64 _,.int .i64 _,.int .i64 _,.int .i64 _,.str _]) ?_
 refine Qe (E_store (k:=0) (v:=.agg _) (cs':=[.int .i64 _,_,.int .i64 _,.int .i64 _,.int .i64 _,.int .i64 _,.int .i64 _,.str _]) (H2:=_::_) tok rfl rfl rfl rfl (rfl) rfl rfl rfl rfl) ?_
 rintro _ _ ⟨rfl,rfl⟩
 refine Qnn (AW.ret ?_)
 refine ⟨.inr rfl,[.agg [.int .i64 _,_,.int .i64 _,.int .i64 _,.int .i64 _,.int .i64 _,.int .i64 _,.str _]],.cons (.box _ _ _ 0 _ _ _ _ rfl rfl rfl rfl rfl rfl) <| .nil,.cons _ (.refl _),?_⟩
 rfl
theorem l_number (n:Int):APure Tryz.prog 41 [.int .i64 n] (.agg (cE (constE ⟨0,n,[]⟩))):=by
 refine APure.body (n:=6) tok Tryz.func41 rfl rfl rfl fun H=>?_
 refine Qsr (Qe (E_alloc (l:=[.int .i64 0,.sl 8 [],.int .i64 0,.int .i64 0,.int .i64 0,.int .i64 0,.int .i64 0,.str []]) (by kernel_rfl)) ?_)
 rintro _ _ ⟨b2,rfl,rfl⟩
 refine Qns (Qp Qmi ?_)
 refine Qp (Qbd [.int .i64 _,.int .i64 _,.str _]) ?_
 refine Qp (Qbd [.int .i64 _,_,.int .i64 _,.int .i64 _,.int .i64 _,.int .i64 _,.int .i64 _,.str _]) ?_
 refine Qe (E_store (k:=0) (v:=.agg _) (cs':=[.int .i64 _,_,.int .i64 _,.int .i64 _,.int .i64 _,.int .i64 _,.int .i64 _,.str _]) (H2:=_::_) tok rfl rfl rfl rfl (rfl) rfl rfl rfl rfl) ?_
 rintro _ _ ⟨rfl,rfl⟩
 refine Qnn (AW.ret ?_)
 refine ⟨.inr rfl,[.agg [.int .i64 _,_,.int .i64 _,.int .i64 _,.int .i64 _,.int .i64 _,.int .i64 _,.str _]],.cons (.box _ _ _ 0 _ _ _ _ rfl rfl rfl rfl rfl rfl) <| .nil,.cons _ (.refl _),?_⟩
 rfl
theorem l_price (v:Int):APure Tryz.prog 40 [.int .i64 v] (.agg (cE ⟨1,[],v,1,0,v0⟩)):=by
 refine APure.body (n:=5) tok Tryz.func40 rfl rfl rfl fun H=>?_
 refine Qsr (Qe (E_alloc (l:=[.int .i64 0,.sl 8 [],.int .i64 0,.int .i64 0,.int .i64 0,.int .i64 0,.int .i64 0,.str []]) (by kernel_rfl)) ?_)
 rintro _ _ ⟨b2,rfl,rfl⟩
 refine Qns (Qp Qmi ?_)
 refine Qp (Qbd [.int .i64 _,_,.int .i64 _,.int .i64 _,.int .i64 _,.int .i64 _,.int .i64 _,.str _]) ?_
 refine Qe (E_store (k:=0) (v:=.agg _) (cs':=[.int .i64 _,_,.int .i64 _,.int .i64 _,.int .i64 _,.int .i64 _,.int .i64 _,.str _]) (H2:=_::_) tok rfl rfl rfl rfl (rfl) rfl rfl rfl rfl) ?_
 rintro _ _ ⟨rfl,rfl⟩
 refine Qnn (AW.ret ?_)
 refine ⟨.inr rfl,[.agg [.int .i64 _,_,.int .i64 _,.int .i64 _,.int .i64 _,.int .i64 _,.int .i64 _,.str _]],.cons (.box _ _ _ 0 _ _ _ _ rfl rfl rfl rfl rfl rfl) <| .nil,.cons _ (.refl _),?_⟩
 rfl
theorem l_symbol (v:Int):APure Tryz.prog 48 [.int .i64 v] (.agg (cE ⟨1,[],v,0,0,v0⟩)):=by
 refine APure.body (n:=5) tok Tryz.func48 rfl rfl rfl fun H=>?_
 refine Qsr (Qe (E_alloc (l:=[.int .i64 0,.sl 8 [],.int .i64 0,.int .i64 0,.int .i64 0,.int .i64 0,.int .i64 0,.str []]) (by kernel_rfl)) ?_)
 rintro _ _ ⟨b2,rfl,rfl⟩
 refine Qns (Qp Qmi ?_)
 refine Qp (Qbd [.int .i64 _,_,.int .i64 _,.int .i64 _,.int .i64 _,.int .i64 _,.int .i64 _,.str _]) ?_
 refine Qe (E_store (k:=0) (v:=.agg _) (cs':=[.int .i64 _,_,.int .i64 _,.int .i64 _,.int .i64 _,.int .i64 _,.int .i64 _,.str _]) (H2:=_::_) tok rfl rfl rfl rfl (rfl) rfl rfl rfl rfl) ?_
 rintro _ _ ⟨rfl,rfl⟩
 refine Qnn (AW.ret ?_)
 refine ⟨.inr rfl,[.agg [.int .i64 _,_,.int .i64 _,.int .i64 _,.int .i64 _,.int .i64 _,.int .i64 _,.str _]],.cons (.box _ _ _ 0 _ _ _ _ rfl rfl rfl rfl rfl rfl) <| .nil,.cons _ (.refl _),?_⟩
 rfl
theorem d_neg (e:Ex)(hn:nodesS e=0):APure Tryz.prog 58 [.agg (cE e)] (.agg (cE (negS e))):=by
 revert hn
 induction e using Ex.ind
 rename_i e ih
 intro hn
 have hz:=nodes_zero hn
 refine APure.body (n:=73) tok Tryz.func58 rfl rfl rfl fun H=>?_
 refine Qsr (Qp Qbe ?_)
 refine Qe (E_alloc (l:=[.int .i64 0,.sl 8 [],.int .i64 0,.int .i64 0,.int .i64 0,.int .i64 0,.int .i64 0,.str []]) (by kernel_rfl)) ?_
 rintro _ _ ⟨b2,rfl,rfl⟩
 refine Qnn (AW.seq (Qsr (Qp Qf0 ?_)))
 refine Qp Qli ?_
 refine Qnn (AW.block (Qsr (Qp Qceq ?_)))
 refine Qp Qab ?_
 refine Qnn (Qif (fun hc1=>?_) fun hc1=>?_)
 ·
  have hop:=eq_of_beq hc1
  have hl2:=len_two' hz.1 (by omega)
  have h00:0 < e.args.length:=by omega
  refine AW.seq ?_
  refine AW.draw mixed (fun _=>True) trivial (by kernel_rfl) ?_
  refine Qn 0 rfl Qf1 ?_
  refine Qn 1 rfl Qls ?_
  refine Qn 2 rfl (P_indexAddr (c:=[.int .i64 _,_,.int .i64 _,.int .i64 _,.int .i64 _,.int .i64 _,.int .i64 _,.str _]) tok rfl rfl rfl rfl rfl rfl (by decide) (arg0_at h00)) ?_
  refine Qn 3 rfl Qle ?_
  refine Qn 4 rfl (Qc rfl (ih _ (arg0_mem h00) (hz.2 _ (arg0_mem h00)))) ?_
  refine Qn 5 rfl Qf1 ?_
  refine Qn 6 rfl Qls ?_
  refine Qn 7 rfl (P_indexAddr (c:=[.int .i64 _,_,.int .i64 _,.int .i64 _,.int .i64 _,.int .i64 _,.int .i64 _,.str _]) tok rfl rfl rfl rfl rfl rfl (by decide) (arg1_at hl2)) ?_
  refine Qn 8 rfl Qle ?_
  refine Qn 9 rfl (Qc rfl (ih _ (arg1_mem hl2) (hz.2 _ (arg1_mem hl2)))) ?_
  refine Qn 10 rfl (Qc rfl (d_two 11 _ _)) ?_
  refine Canon.eff _ _ 11 _ _ rfl (by kernel_rfl) rfl rfl (E_store (k:=0) (v:=.agg _) (cs':=[.int .i64 _,_,.int .i64 _,.int .i64 _,.int .i64 _,.int .i64 _,.int .i64 _,.str _]) (H2:=_::_) tok rfl rfl rfl rfl (rfl) rfl rfl rfl rfl) (fun _ _ _=>trivial) ?_
  rintro _ _ ⟨rfl,rfl⟩
  refine Canon.done _ _ (by kernel_rfl) ?_
  refine thenN (AW.ret (blkR (thenR ?_)))
  refine ⟨.inr rfl,[.agg [.int .i64 _,_,.int .i64 _,.int .i64 _,.int .i64 _,.int .i64 _,.int .i64 _,.str _]],.cons (.box _ _ _ 0 _ _ _ _ rfl rfl rfl rfl rfl rfl) <| .nil,.cons _ (.refl _),?_⟩
  rw [negS_and hc1 hl2];rfl
 ·
  refine Qsr (Qp Qceq ?_)
  refine Qp Qab ?_
  refine Qnn (Qif (fun hc2=>?_) fun hc2=>?_)
  ·
   have hop:=eq_of_beq hc2
   have hl2:=len_two' hz.1 (by omega)
   have h00:0 < e.args.length:=by omega
   refine AW.seq ?_
   refine AW.draw mixed (fun _=>True) trivial (by kernel_rfl) ?_
   refine Qn 0 rfl Qf1 ?_
   refine Qn 1 rfl Qls ?_
   refine Qn 2 rfl (P_indexAddr (c:=[.int .i64 _,_,.int .i64 _,.int .i64 _,.int .i64 _,.int .i64 _,.int .i64 _,.str _]) tok rfl rfl rfl rfl rfl rfl (by decide) (arg0_at h00)) ?_
   refine Qn 3 rfl Qle ?_
   refine Qn 4 rfl (Qc rfl (ih _ (arg0_mem h00) (hz.2 _ (arg0_mem h00)))) ?_
   refine Qn 5 rfl Qf1 ?_
   refine Qn 6 rfl Qls ?_
   refine Qn 7 rfl (P_indexAddr (c:=[.int .i64 _,_,.int .i64 _,.int .i64 _,.int .i64 _,.int .i64 _,.int .i64 _,.str _]) tok rfl rfl rfl rfl rfl rfl (by decide) (arg1_at hl2)) ?_
   refine Qn 8 rfl Qle ?_
   refine Qn 9 rfl (Qc rfl (ih _ (arg1_mem hl2) (hz.2 _ (arg1_mem hl2)))) ?_
   refine Qn 10 rfl (Qc rfl (d_two 10 _ _)) ?_
   refine Canon.eff _ _ 11 _ _ rfl (by kernel_rfl) rfl rfl (E_store (k:=0) (v:=.agg _) (cs':=[.int .i64 _,_,.int .i64 _,.int .i64 _,.int .i64 _,.int .i64 _,.int .i64 _,.str _]) (H2:=_::_) tok rfl rfl rfl rfl (rfl) rfl rfl rfl rfl) (fun _ _ _=>trivial) ?_
   rintro _ _ ⟨rfl,rfl⟩
   refine Canon.done _ _ (by kernel_rfl) ?_
   refine thenN (AW.ret (blkR (thenR ?_)))
   refine ⟨.inr rfl,[.agg [.int .i64 _,_,.int .i64 _,.int .i64 _,.int .i64 _,.int .i64 _,.int .i64 _,.str _]],.cons (.box _ _ _ 0 _ _ _ _ rfl rfl rfl rfl rfl rfl) <| .nil,.cons _ (.refl _),?_⟩
   rw [negS_or hc1 hc2 hl2];rfl
  ·
   refine Qsr (Qp Qceq ?_)
   refine Qp Qab ?_
   refine Qnn (Qif (fun hc3=>?_) fun hc3=>?_)
   ·
    have h00:=len_not hz.1 (eq_of_beq hc3)
    refine Qsr (Qp Qf1 ?_)
    refine Qp Qls ?_
    refine Qp (P_indexAddr (c:=[.int .i64 _,_,.int .i64 _,.int .i64 _,.int .i64 _,.int .i64 _,.int .i64 _,.str _]) tok rfl rfl rfl rfl rfl rfl (by decide) (arg0_at h00)) ?_
    refine Qp Qle ?_
    refine Qe (E_store (k:=0) (v:=.agg _) (cs':=[.int .i64 _,_,.int .i64 _,.int .i64 _,.int .i64 _,.int .i64 _,.int .i64 _,.str _]) (H2:=_::_) tok rfl rfl rfl rfl (rfl) rfl rfl rfl rfl) ?_
    rintro _ _ ⟨rfl,rfl⟩
    refine Qnn (AW.ret (blkR (thenR ?_)))
    refine ⟨.inr rfl,[.agg [.int .i64 _,_,.int .i64 _,.int .i64 _,.int .i64 _,.int .i64 _,.int .i64 _,.str _]],.cons (.box _ _ _ 0 _ _ _ _ rfl rfl rfl rfl rfl rfl) <| .nil,.cons _ (.refl _),?_⟩
    rw [negS_eq,negN,ifF hc1,ifF hc2,if_pos hc3];rfl
   ·
    refine Qsr (Qp Qceq ?_)
    refine Qp Qab ?_
    refine Qnn (Qif (fun hc4=>?_) fun hc4=>?_)
    ·
     have hop:=eq_of_beq hc4
     have hl2:=len_two' hz.1 (by omega)
     have h00:0 < e.args.length:=by omega
     refine AW.seq ?_
     refine AW.draw mixed (fun _=>True) trivial (by kernel_rfl) ?_
     refine Qn 0 rfl Qf1 ?_
     refine Qn 1 rfl Qls ?_
     refine Qn 2 rfl (P_indexAddr (c:=[.int .i64 _,_,.int .i64 _,.int .i64 _,.int .i64 _,.int .i64 _,.int .i64 _,.str _]) tok rfl rfl rfl rfl rfl rfl (by decide) (arg1_at hl2)) ?_
     refine Qn 3 rfl Qle ?_
     refine Qn 4 rfl Qf1 ?_
     refine Qn 5 rfl Qls ?_
     refine Qn 6 rfl (P_indexAddr (c:=[.int .i64 _,_,.int .i64 _,.int .i64 _,.int .i64 _,.int .i64 _,.int .i64 _,.str _]) tok rfl rfl rfl rfl rfl rfl (by decide) (arg0_at h00)) ?_
     refine Qn 7 rfl Qle ?_
     refine Qn 8 rfl (Qc rfl (d_two 8 _ _)) ?_
     refine Canon.eff _ _ 9 _ _ rfl (by kernel_rfl) rfl rfl (E_store (k:=0) (v:=.agg _) (cs':=[.int .i64 _,_,.int .i64 _,.int .i64 _,.int .i64 _,.int .i64 _,.int .i64 _,.str _]) (H2:=_::_) tok rfl rfl rfl rfl (rfl) rfl rfl rfl rfl) (fun _ _ _=>trivial) ?_
     rintro _ _ ⟨rfl,rfl⟩
     refine Canon.done _ _ (by kernel_rfl) ?_
     refine thenN (AW.ret (blkR (thenR ?_)))
     refine ⟨.inr rfl,[.agg [.int .i64 _,_,.int .i64 _,.int .i64 _,.int .i64 _,.int .i64 _,.int .i64 _,.str _]],.cons (.box _ _ _ 0 _ _ _ _ rfl rfl rfl rfl rfl rfl) <| .nil,.cons _ (.refl _),?_⟩
     rw [negS_eq,negN,ifF hc1,ifF hc2,ifF hc3,if_pos hc4];rfl
    ·
     refine Qsr (Qp Qceq ?_)
     refine Qp Qab ?_
     refine Qnn (Qif (fun hc5=>?_) fun hc5=>?_)
     ·
      have hop:=eq_of_beq hc5
      have hl2:=len_two' hz.1 (by omega)
      have h00:0 < e.args.length:=by omega
      refine AW.seq ?_
      refine AW.draw mixed (fun _=>True) trivial (by kernel_rfl) ?_
      refine Qn 0 rfl Qf1 ?_
      refine Qn 1 rfl Qls ?_
      refine Qn 2 rfl (P_indexAddr (c:=[.int .i64 _,_,.int .i64 _,.int .i64 _,.int .i64 _,.int .i64 _,.int .i64 _,.str _]) tok rfl rfl rfl rfl rfl rfl (by decide) (arg1_at hl2)) ?_
      refine Qn 3 rfl Qle ?_
      refine Qn 4 rfl Qf1 ?_
      refine Qn 5 rfl Qls ?_
      refine Qn 6 rfl (P_indexAddr (c:=[.int .i64 _,_,.int .i64 _,.int .i64 _,.int .i64 _,.int .i64 _,.int .i64 _,.str _]) tok rfl rfl rfl rfl rfl rfl (by decide) (arg0_at h00)) ?_
      refine Qn 7 rfl Qle ?_
      refine Qn 8 rfl (Qc rfl (d_two 7 _ _)) ?_
      refine Canon.eff _ _ 9 _ _ rfl (by kernel_rfl) rfl rfl (E_store (k:=0) (v:=.agg _) (cs':=[.int .i64 _,_,.int .i64 _,.int .i64 _,.int .i64 _,.int .i64 _,.int .i64 _,.str _]) (H2:=_::_) tok rfl rfl rfl rfl (rfl) rfl rfl rfl rfl) (fun _ _ _=>trivial) ?_
      rintro _ _ ⟨rfl,rfl⟩
      refine Canon.done _ _ (by kernel_rfl) ?_
      refine thenN (AW.ret (blkR (thenR ?_)))
      refine ⟨.inr rfl,[.agg [.int .i64 _,_,.int .i64 _,.int .i64 _,.int .i64 _,.int .i64 _,.int .i64 _,.str _]],.cons (.box _ _ _ 0 _ _ _ _ rfl rfl rfl rfl rfl rfl) <| .nil,.cons _ (.refl _),?_⟩
      rw [negS_eq,negN,ifF hc1,ifF hc2,ifF hc3,ifF hc4,if_pos hc5];rfl
     ·
      refine Qsr (Qp Qceq ?_)
      refine Qp Qab ?_
      refine Qnn (Qif (fun hc6=>?_) fun hc6=>?_)
      ·
       refine Qsr (Qp Qf5 ?_)
       refine Qp Qf5 ?_
       refine Qp Qli ?_
       refine Qp Qceq ?_
       refine Qnn (Qif (fun hc7=>?_) fun hc7=>?_)
       ·
        refine Qsr (Qp Qf5 ?_)
        refine Qp Qf6 ?_
        refine Qp Qli ?_
        refine Qp Qceq ?_
        refine Qp (Qc rfl (d_truth _)) ?_
        refine Qe (E_store (k:=0) (v:=.agg _) (cs':=[.int .i64 _,_,.int .i64 _,.int .i64 _,.int .i64 _,.int .i64 _,.int .i64 _,.str _]) (H2:=_::_) tok rfl rfl rfl rfl (rfl) rfl rfl rfl rfl) ?_
        rintro _ _ ⟨rfl,rfl⟩
        refine Qnn (AW.ret (blkR (thenR ?_)))
        refine ⟨.inr rfl,[.agg [.int .i64 _,_,.int .i64 _,.int .i64 _,.int .i64 _,.int .i64 _,.int .i64 _,.str _]],.cons (.box _ _ _ 0 _ _ _ _ rfl rfl rfl rfl rfl rfl) <| .nil,.cons _ (.refl _),?_⟩
        rw [negS_eq,negN,ifF hc1,ifF hc2,ifF hc3,ifF hc4,ifF hc5,if_pos (by rw [hc6,hc7];rfl)];rfl
       ·
        refine AW.skip (blkN (thenN (Qsr (Qp Qle ?_))))
        refine Qp (P_buildSlice (es:=[[.int .i64 _,_,.int .i64 _,.int .i64 _,.int .i64 _,.int .i64 _,.int .i64 _,.str _]]) tok rfl rfl rfl rfl rfl rfl rfl rfl rfl) ?_
        refine Qp (Qbd [.int .i64 _,_,.int .i64 _,.int .i64 _,.int .i64 _,.int .i64 _,.int .i64 _,.str _]) ?_
        refine Qe (E_store (k:=0) (v:=.agg _) (cs':=[.int .i64 _,_,.int .i64 _,.int .i64 _,.int .i64 _,.int .i64 _,.int .i64 _,.str _]) (H2:=_::_) tok rfl rfl rfl rfl (rfl) rfl rfl rfl rfl) ?_
        rintro _ _ ⟨rfl,rfl⟩
        refine Qnn (AW.ret ?_)
        refine ⟨.inr rfl,[.agg [.int .i64 _,_,.int .i64 _,.int .i64 _,.int .i64 _,.int .i64 _,.int .i64 _,.str _]],.cons (.box _ _ _ 0 _ _ _ _ rfl rfl rfl rfl rfl rfl) <| .nil,.cons _ (.refl _),?_⟩
        exact Eq.trans rfl (negS_not hc1 hc2 hc3 hc4 hc5 (by rw [hc6,hc7];rfl)).symm
      ·
       refine AW.skip (blkN (thenN (Qsr (Qp Qle ?_))))
       refine Qp (P_buildSlice (es:=[[.int .i64 _,_,.int .i64 _,.int .i64 _,.int .i64 _,.int .i64 _,.int .i64 _,.str _]]) tok rfl rfl rfl rfl rfl rfl rfl rfl rfl) ?_
       refine Qp (Qbd [.int .i64 _,_,.int .i64 _,.int .i64 _,.int .i64 _,.int .i64 _,.int .i64 _,.str _]) ?_
       refine Qe (E_store (k:=0) (v:=.agg _) (cs':=[.int .i64 _,_,.int .i64 _,.int .i64 _,.int .i64 _,.int .i64 _,.int .i64 _,.str _]) (H2:=_::_) tok rfl rfl rfl rfl (rfl) rfl rfl rfl rfl) ?_
       rintro _ _ ⟨rfl,rfl⟩
       refine Qnn (AW.ret ?_)
       refine ⟨.inr rfl,[.agg [.int .i64 _,_,.int .i64 _,.int .i64 _,.int .i64 _,.int .i64 _,.int .i64 _,.str _]],.cons (.box _ _ _ 0 _ _ _ _ rfl rfl rfl rfl rfl rfl) <| .nil,.cons _ (.refl _),?_⟩
       exact Eq.trans rfl (negS_not hc1 hc2 hc3 hc4 hc5 (by rw [hc6];rfl)).symm
theorem r_neg (e:Ex)(hn:nodesS e=0):APure Tryz.prog 60 [.agg (cE e)] (.agg (cE (negS e))):=by
 revert hn
 induction e using Ex.ind
 rename_i e ih
 intro hn
 have hz:=nodes_zero hn
 refine APure.body (n:=77) tok Tryz.func60 rfl rfl rfl fun H=>?_
 refine Qsr (Qp Qbe ?_)
 refine Qe (E_alloc (l:=[.int .i64 0,.sl 8 [],.int .i64 0,.int .i64 0,.int .i64 0,.int .i64 0,.int .i64 0,.str []]) (by kernel_rfl)) ?_
 rintro _ _ ⟨b2,rfl,rfl⟩
 refine Qnn (AW.seq (Qsr (Qp Qf0 ?_)))
 refine Qp Qli ?_
 refine Qnn (AW.block (Qsr (Qp Qceq ?_)))
 refine Qp Qab ?_
 refine Qnn (Qif (fun hc1=>?_) fun hc1=>?_)
 ·
  have hop:=eq_of_beq hc1
  have hl2:=len_two' hz.1 (by omega)
  have h00:0 < e.args.length:=by omega
  refine AW.seq ?_
  refine AW.draw mixed (fun _=>True) trivial (by kernel_rfl) ?_
  refine Qn 0 rfl Qf1 ?_
  refine Qn 1 rfl Qls ?_
  refine Qn 2 rfl (P_indexAddr (c:=[.int .i64 _,_,.int .i64 _,.int .i64 _,.int .i64 _,.int .i64 _,.int .i64 _,.str _]) tok rfl rfl rfl rfl rfl rfl (by decide) (arg0_at h00)) ?_
  refine Qn 3 rfl Qle ?_
  refine Qn 4 rfl (Qc rfl (ih _ (arg0_mem h00) (hz.2 _ (arg0_mem h00)))) ?_
  refine Qn 5 rfl Qf1 ?_
  refine Qn 6 rfl Qls ?_
  refine Qn 7 rfl (P_indexAddr (c:=[.int .i64 _,_,.int .i64 _,.int .i64 _,.int .i64 _,.int .i64 _,.int .i64 _,.str _]) tok rfl rfl rfl rfl rfl rfl (by decide) (arg1_at hl2)) ?_
  refine Qn 8 rfl Qle ?_
  refine Qn 9 rfl (Qc rfl (ih _ (arg1_mem hl2) (hz.2 _ (arg1_mem hl2)))) ?_
  refine Qn 10 rfl (Qc rfl (r_two 11 _ _)) ?_
  refine Canon.eff _ _ 11 _ _ rfl (by kernel_rfl) rfl rfl (E_store (k:=0) (v:=.agg _) (cs':=[.int .i64 _,_,.int .i64 _,.int .i64 _,.int .i64 _,.int .i64 _,.int .i64 _,.str _]) (H2:=_::_) tok rfl rfl rfl rfl (rfl) rfl rfl rfl rfl) (fun _ _ _=>trivial) ?_
  rintro _ _ ⟨rfl,rfl⟩
  refine Canon.done _ _ (by kernel_rfl) ?_
  refine thenN (AW.ret (blkR (thenR ?_)))
  refine ⟨.inr rfl,[.agg [.int .i64 _,_,.int .i64 _,.int .i64 _,.int .i64 _,.int .i64 _,.int .i64 _,.str _]],.cons (.box _ _ _ 0 _ _ _ _ rfl rfl rfl rfl rfl rfl) <| .nil,.cons _ (.refl _),?_⟩
  rw [negS_and hc1 hl2];rfl
 ·
  refine Qsr (Qp Qceq ?_)
  refine Qp Qab ?_
  refine Qnn (Qif (fun hc2=>?_) fun hc2=>?_)
  ·
   have hop:=eq_of_beq hc2
   have hl2:=len_two' hz.1 (by omega)
   have h00:0 < e.args.length:=by omega
   refine AW.seq ?_
   refine AW.draw mixed (fun _=>True) trivial (by kernel_rfl) ?_
   refine Qn 0 rfl Qf1 ?_
   refine Qn 1 rfl Qls ?_
   refine Qn 2 rfl (P_indexAddr (c:=[.int .i64 _,_,.int .i64 _,.int .i64 _,.int .i64 _,.int .i64 _,.int .i64 _,.str _]) tok rfl rfl rfl rfl rfl rfl (by decide) (arg0_at h00)) ?_
   refine Qn 3 rfl Qle ?_
   refine Qn 4 rfl (Qc rfl (ih _ (arg0_mem h00) (hz.2 _ (arg0_mem h00)))) ?_
   refine Qn 5 rfl Qf1 ?_
   refine Qn 6 rfl Qls ?_
   refine Qn 7 rfl (P_indexAddr (c:=[.int .i64 _,_,.int .i64 _,.int .i64 _,.int .i64 _,.int .i64 _,.int .i64 _,.str _]) tok rfl rfl rfl rfl rfl rfl (by decide) (arg1_at hl2)) ?_
   refine Qn 8 rfl Qle ?_
   refine Qn 9 rfl (Qc rfl (ih _ (arg1_mem hl2) (hz.2 _ (arg1_mem hl2)))) ?_
   refine Qn 10 rfl (Qc rfl (r_two 10 _ _)) ?_
   refine Canon.eff _ _ 11 _ _ rfl (by kernel_rfl) rfl rfl (E_store (k:=0) (v:=.agg _) (cs':=[.int .i64 _,_,.int .i64 _,.int .i64 _,.int .i64 _,.int .i64 _,.int .i64 _,.str _]) (H2:=_::_) tok rfl rfl rfl rfl (rfl) rfl rfl rfl rfl) (fun _ _ _=>trivial) ?_
   rintro _ _ ⟨rfl,rfl⟩
   refine Canon.done _ _ (by kernel_rfl) ?_
   refine thenN (AW.ret (blkR (thenR ?_)))
   refine ⟨.inr rfl,[.agg [.int .i64 _,_,.int .i64 _,.int .i64 _,.int .i64 _,.int .i64 _,.int .i64 _,.str _]],.cons (.box _ _ _ 0 _ _ _ _ rfl rfl rfl rfl rfl rfl) <| .nil,.cons _ (.refl _),?_⟩
   rw [negS_or hc1 hc2 hl2];rfl
  ·
   refine Qsr (Qp Qceq ?_)
   refine Qp Qab ?_
   refine Qnn (Qif (fun hc3=>?_) fun hc3=>?_)
   ·
    have h00:=len_not hz.1 (eq_of_beq hc3)
    refine Qsr (Qp Qf1 ?_)
    refine Qp Qls ?_
    refine Qp (P_indexAddr (c:=[.int .i64 _,_,.int .i64 _,.int .i64 _,.int .i64 _,.int .i64 _,.int .i64 _,.str _]) tok rfl rfl rfl rfl rfl rfl (by decide) (arg0_at h00)) ?_
    refine Qp Qle ?_
    refine Qe (E_store (k:=0) (v:=.agg _) (cs':=[.int .i64 _,_,.int .i64 _,.int .i64 _,.int .i64 _,.int .i64 _,.int .i64 _,.str _]) (H2:=_::_) tok rfl rfl rfl rfl (rfl) rfl rfl rfl rfl) ?_
    rintro _ _ ⟨rfl,rfl⟩
    refine Qnn (AW.ret (blkR (thenR ?_)))
    refine ⟨.inr rfl,[.agg [.int .i64 _,_,.int .i64 _,.int .i64 _,.int .i64 _,.int .i64 _,.int .i64 _,.str _]],.cons (.box _ _ _ 0 _ _ _ _ rfl rfl rfl rfl rfl rfl) <| .nil,.cons _ (.refl _),?_⟩
    rw [negS_eq,negN,ifF hc1,ifF hc2,if_pos hc3];rfl
   ·
    refine Qsr (Qp Qceq ?_)
    refine Qp Qab ?_
    refine Qnn (Qif (fun hc4=>?_) fun hc4=>?_)
    ·
     have hop:=eq_of_beq hc4
     have hl2:=len_two' hz.1 (by omega)
     have h00:0 < e.args.length:=by omega
     refine AW.seq ?_
     refine AW.draw mixed (fun _=>True) trivial (by kernel_rfl) ?_
     refine Qn 0 rfl Qf1 ?_
     refine Qn 1 rfl Qls ?_
     refine Qn 2 rfl (P_indexAddr (c:=[.int .i64 _,_,.int .i64 _,.int .i64 _,.int .i64 _,.int .i64 _,.int .i64 _,.str _]) tok rfl rfl rfl rfl rfl rfl (by decide) (arg1_at hl2)) ?_
     refine Qn 3 rfl Qle ?_
     refine Qn 4 rfl Qf1 ?_
     refine Qn 5 rfl Qls ?_
     refine Qn 6 rfl (P_indexAddr (c:=[.int .i64 _,_,.int .i64 _,.int .i64 _,.int .i64 _,.int .i64 _,.int .i64 _,.str _]) tok rfl rfl rfl rfl rfl rfl (by decide) (arg0_at h00)) ?_
     refine Qn 7 rfl Qle ?_
     refine Qn 8 rfl (Qc rfl (r_two 8 _ _)) ?_
     refine Canon.eff _ _ 9 _ _ rfl (by kernel_rfl) rfl rfl (E_store (k:=0) (v:=.agg _) (cs':=[.int .i64 _,_,.int .i64 _,.int .i64 _,.int .i64 _,.int .i64 _,.int .i64 _,.str _]) (H2:=_::_) tok rfl rfl rfl rfl (rfl) rfl rfl rfl rfl) (fun _ _ _=>trivial) ?_
     rintro _ _ ⟨rfl,rfl⟩
     refine Canon.done _ _ (by kernel_rfl) ?_
     refine thenN (AW.ret (blkR (thenR ?_)))
     refine ⟨.inr rfl,[.agg [.int .i64 _,_,.int .i64 _,.int .i64 _,.int .i64 _,.int .i64 _,.int .i64 _,.str _]],.cons (.box _ _ _ 0 _ _ _ _ rfl rfl rfl rfl rfl rfl) <| .nil,.cons _ (.refl _),?_⟩
     rw [negS_eq,negN,ifF hc1,ifF hc2,ifF hc3,if_pos hc4];rfl
    ·
     refine Qsr (Qp Qceq ?_)
     refine Qp Qab ?_
     refine Qnn (Qif (fun hc5=>?_) fun hc5=>?_)
     ·
      have hop:=eq_of_beq hc5
      have hl2:=len_two' hz.1 (by omega)
      have h00:0 < e.args.length:=by omega
      refine AW.seq ?_
      refine AW.draw mixed (fun _=>True) trivial (by kernel_rfl) ?_
      refine Qn 0 rfl Qf1 ?_
      refine Qn 1 rfl Qls ?_
      refine Qn 2 rfl (P_indexAddr (c:=[.int .i64 _,_,.int .i64 _,.int .i64 _,.int .i64 _,.int .i64 _,.int .i64 _,.str _]) tok rfl rfl rfl rfl rfl rfl (by decide) (arg1_at hl2)) ?_
      refine Qn 3 rfl Qle ?_
      refine Qn 4 rfl Qf1 ?_
      refine Qn 5 rfl Qls ?_
      refine Qn 6 rfl (P_indexAddr (c:=[.int .i64 _,_,.int .i64 _,.int .i64 _,.int .i64 _,.int .i64 _,.int .i64 _,.str _]) tok rfl rfl rfl rfl rfl rfl (by decide) (arg0_at h00)) ?_
      refine Qn 7 rfl Qle ?_
      refine Qn 8 rfl (Qc rfl (r_two 7 _ _)) ?_
      refine Canon.eff _ _ 9 _ _ rfl (by kernel_rfl) rfl rfl (E_store (k:=0) (v:=.agg _) (cs':=[.int .i64 _,_,.int .i64 _,.int .i64 _,.int .i64 _,.int .i64 _,.int .i64 _,.str _]) (H2:=_::_) tok rfl rfl rfl rfl (rfl) rfl rfl rfl rfl) (fun _ _ _=>trivial) ?_
      rintro _ _ ⟨rfl,rfl⟩
      refine Canon.done _ _ (by kernel_rfl) ?_
      refine thenN (AW.ret (blkR (thenR ?_)))
      refine ⟨.inr rfl,[.agg [.int .i64 _,_,.int .i64 _,.int .i64 _,.int .i64 _,.int .i64 _,.int .i64 _,.str _]],.cons (.box _ _ _ 0 _ _ _ _ rfl rfl rfl rfl rfl rfl) <| .nil,.cons _ (.refl _),?_⟩
      rw [negS_eq,negN,ifF hc1,ifF hc2,ifF hc3,ifF hc4,if_pos hc5];rfl
     ·
      refine AW.skip (blkN (thenN (AW.seq (Qsr (Qp Qf0 ?_)))))
      refine Qp Qli ?_
      refine Qp Qceq ?_
      refine Qp Qmb ?_
      refine Qg [] Qw Qf5 ?_
      refine Qg [(63,_)] Qw Qf5 ?_
      refine Qg [(64,_)] Qw Qli ?_
      refine Qg [(65,_)] Qw Qceq ?_
      refine Qp Qpa ?_
      refine Qnn (Qif (fun hc6=>?_) fun hc6=>?_)
      ·
       refine Qsr (Qp Qf5 ?_)
       refine Qp Qf6 ?_
       refine Qp Qli ?_
       refine Qp Qceq ?_
       refine Qp (Qc rfl (c38 _)) ?_
       refine Qp (Qbd [.int .i64 _,_,.int .i64 _,.int .i64 _,.int .i64 _,.int .i64 _,.int .i64 _,.str _]) ?_
       refine Qe (E_store (k:=0) (v:=.agg _) (cs':=[.int .i64 _,_,.int .i64 _,.int .i64 _,.int .i64 _,.int .i64 _,.int .i64 _,.str _]) (H2:=_::_) tok rfl rfl rfl rfl (rfl) rfl rfl rfl rfl) ?_
       rintro _ _ ⟨rfl,rfl⟩
       refine Qnn (Qrt ?_)
       refine ⟨.inr rfl,[.agg [.int .i64 _,_,.int .i64 _,.int .i64 _,.int .i64 _,.int .i64 _,.int .i64 _,.str _]],.cons (.box _ _ _ 0 _ _ _ _ rfl rfl rfl rfl rfl rfl) <| .nil,.cons _ (.refl _),?_⟩
       rw [negS_eq,negN,ifF hc1,ifF hc2,ifF hc3,ifF hc4,ifF hc5,if_pos hc6];rfl
      ·
       refine Qst (Qsr (Qp Qle ?_))
       refine Qp (P_buildSlice (es:=[[.int .i64 _,_,.int .i64 _,.int .i64 _,.int .i64 _,.int .i64 _,.int .i64 _,.str _]]) tok rfl rfl rfl rfl rfl rfl rfl rfl rfl) ?_
       refine Qp (Qbd [.int .i64 _,_,.int .i64 _,.int .i64 _,.int .i64 _,.int .i64 _,.int .i64 _,.str _]) ?_
       refine Qe (E_store (k:=0) (v:=.agg _) (cs':=[.int .i64 _,_,.int .i64 _,.int .i64 _,.int .i64 _,.int .i64 _,.int .i64 _,.str _]) (H2:=_::_) tok rfl rfl rfl rfl (rfl) rfl rfl rfl rfl) ?_
       rintro _ _ ⟨rfl,rfl⟩
       refine Qnn (AW.ret ?_)
       refine ⟨.inr rfl,[.agg [.int .i64 _,_,.int .i64 _,.int .i64 _,.int .i64 _,.int .i64 _,.int .i64 _,.str _]],.cons (.box _ _ _ 0 _ _ _ _ rfl rfl rfl rfl rfl rfl) <| .nil,.cons _ (.refl _),?_⟩
       exact Eq.trans rfl (negS_not hc1 hc2 hc3 hc4 hc5 hc6).symm
theorem d_Negate (e:Ex)(hs:sizeN e≤1048576):APure Tryz.prog 18 [.agg (cE e)] (.tuple [.agg (cE (NegateS e).1),.int .i64 (NegateS e).2]):=by
 refine APure.body (n:=22) tok Tryz.func18 rfl rfl rfl fun H=>?_
 refine Qsr (Qp Qbe ?_)
 refine Qe (E_alloc (l:=[.int .i64 0,.sl 8 [],.int .i64 0,.int .i64 0,.int .i64 0,.int .i64 0,.int .i64 0,.str []]) (by kernel_rfl)) ?_
 rintro _ _ ⟨b2,rfl,rfl⟩
 refine Qp Qai ?_
 refine Qnn (AW.seq (Qsr (Qp Qle ?_)))
 refine Qp (Qc rfl (c21 e hs)) ?_
 refine Qp Qai ?_
 refine Qns (Qp Qmi ?_)
 refine Qp Qcne ?_
 refine Qnn (Qif (fun hc1=>?_) fun hc1=>?_)
 ·
  refine Qsr (Qp (Qbd [.int .i64 _,_,.int .i64 _,.int .i64 _,.int .i64 _,.int .i64 _,.int .i64 _,.str _]) ?_)
  refine Qp Qmi ?_
  refine Qe (E_store (k:=0) (v:=.agg _) (cs':=[.int .i64 _,_,.int .i64 _,.int .i64 _,.int .i64 _,.int .i64 _,.int .i64 _,.str _]) (H2:=_::_) tok rfl rfl rfl rfl (rfl) rfl rfl rfl rfl) ?_
  rintro _ _ ⟨rfl,rfl⟩
  refine Qp Qai ?_
  refine Qnn (Qrt ?_)
  refine ⟨.inr rfl,[.agg [.int .i64 _,_,.int .i64 _,.int .i64 _,.int .i64 _,.int .i64 _,.int .i64 _,.str _],.int .i64 _],.cons (.box _ _ _ 0 _ _ _ _ rfl rfl rfl rfl rfl rfl) <| .cons (.tmp _ _ rfl) <| .nil,.cons _ (.refl _),?_⟩
  rw [NegateS,if_pos hc1];rfl
 ·
  have hn:=check_nodes' hc1
  have hsz:sizeN (negS e)≤1048576:=by have:=neg_size e hn;have:=check_size hc1;omega
  refine Qst (Qsr (Qp Qle ?_))
  refine Qp (Qc rfl (d_neg e hn)) ?_
  refine Qe (E_alloc (l:=[.int .i64 0,.sl 8 [],.int .i64 0,.int .i64 0,.int .i64 0,.int .i64 0,.int .i64 0,.str []]) (by kernel_rfl)) ?_
  rintro _ _ ⟨b5,rfl,rfl⟩
  refine Qe (E_store (k:=0) (v:=.agg _) (cs':=[.int .i64 _,_,.int .i64 _,.int .i64 _,.int .i64 _,.int .i64 _,.int .i64 _,.str _]) (H2:=_::_::_) tok rfl rfl rfl rfl (rfl) rfl rfl rfl rfl) ?_
  rintro _ _ ⟨rfl,rfl⟩
  refine AOL.ghost (GS.freeze (t:=5) 0 rfl rfl) ?_
  refine Qnn (AW.seq (Qsr (Qp Qle ?_)))
  refine Qp (Qc rfl (c21 _ hsz)) ?_
  refine Qp Qai ?_
  refine Qns (Qp Qmi ?_)
  refine Qp Qcne ?_
  refine Qnn (Qif (fun hc2=>?_) fun hc2=>?_)
  ·
   refine Qsr (Qp (Qbd [.int .i64 _,_,.int .i64 _,.int .i64 _,.int .i64 _,.int .i64 _,.int .i64 _,.str _]) ?_)
   refine Qp Qmi ?_
   refine Qe (E_store (k:=0) (v:=.agg _) (cs':=[.int .i64 _,_,.int .i64 _,.int .i64 _,.int .i64 _,.int .i64 _,.int .i64 _,.str _]) (H2:=_::_) tok rfl rfl rfl rfl (rfl) rfl rfl rfl rfl) ?_
   rintro _ _ ⟨rfl,rfl⟩
   refine Qp Qai ?_
   refine Qnn (Qrt ?_)
   refine ⟨.inr rfl,[.agg [.int .i64 _,_,.int .i64 _,.int .i64 _,.int .i64 _,.int .i64 _,.int .i64 _,.str _],.int .i64 _],.cons (.box _ _ _ 0 _ _ _ _ rfl rfl rfl rfl rfl rfl) <| .cons (.tmp _ _ rfl) <| .nil,.cons _ (.refl _),?_⟩
   rw [NegateS,ifF hc1,if_pos hc2];rfl
  ·
   refine Qst (Qsr (Qp Qle ?_))
   refine Qe (E_store (k:=0) (v:=.agg _) (cs':=[.int .i64 _,_,.int .i64 _,.int .i64 _,.int .i64 _,.int .i64 _,.int .i64 _,.str _]) (H2:=_::_) tok rfl rfl rfl rfl (rfl) rfl rfl rfl rfl) ?_
   rintro _ _ ⟨rfl,rfl⟩
   refine Qp Qai ?_
   refine Qnn (AW.ret ?_)
   refine ⟨.inr rfl,[.agg [.int .i64 _,_,.int .i64 _,.int .i64 _,.int .i64 _,.int .i64 _,.int .i64 _,.str _],.int .i64 _],.cons (.box _ _ _ 0 _ _ _ _ rfl rfl rfl rfl rfl rfl) <| .cons (.tmp _ _ rfl) <| .nil,.cons _ (.refl _),?_⟩
   rw [NegateS,ifF hc1,ifF hc2];rfl
theorem r_Negate (e:Ex)(hs:sizeN e≤1048576):APure Tryz.prog 19 [.agg (cE e)] (.tuple [.agg (cE (NegateS e).1),.int .i64 (NegateS e).2]):=by
 refine APure.body (n:=22) tok Tryz.func19 rfl rfl rfl fun H=>?_
 refine Qsr (Qp Qbe ?_)
 refine Qe (E_alloc (l:=[.int .i64 0,.sl 8 [],.int .i64 0,.int .i64 0,.int .i64 0,.int .i64 0,.int .i64 0,.str []]) (by kernel_rfl)) ?_
 rintro _ _ ⟨b2,rfl,rfl⟩
 refine Qp Qai ?_
 refine Qnn (AW.seq (Qsr (Qp Qle ?_)))
 refine Qp (Qc rfl (c25 e hs)) ?_
 refine Qp Qai ?_
 refine Qns (Qp Qmi ?_)
 refine Qp Qcne ?_
 refine Qnn (Qif (fun hc1=>?_) fun hc1=>?_)
 ·
  refine Qsr (Qp (Qbd [.int .i64 _,_,.int .i64 _,.int .i64 _,.int .i64 _,.int .i64 _,.int .i64 _,.str _]) ?_)
  refine Qp Qmi ?_
  refine Qe (E_store (k:=0) (v:=.agg _) (cs':=[.int .i64 _,_,.int .i64 _,.int .i64 _,.int .i64 _,.int .i64 _,.int .i64 _,.str _]) (H2:=_::_) tok rfl rfl rfl rfl (rfl) rfl rfl rfl rfl) ?_
  rintro _ _ ⟨rfl,rfl⟩
  refine Qp Qai ?_
  refine Qnn (Qrt ?_)
  refine ⟨.inr rfl,[.agg [.int .i64 _,_,.int .i64 _,.int .i64 _,.int .i64 _,.int .i64 _,.int .i64 _,.str _],.int .i64 _],.cons (.box _ _ _ 0 _ _ _ _ rfl rfl rfl rfl rfl rfl) <| .cons (.tmp _ _ rfl) <| .nil,.cons _ (.refl _),?_⟩
  rw [NegateS,if_pos hc1];rfl
 ·
  have hn:=check_nodes' hc1
  have hsz:sizeN (negS e)≤1048576:=by have:=neg_size e hn;have:=check_size hc1;omega
  refine Qst (Qsr (Qp Qle ?_))
  refine Qp (Qc rfl (r_neg e hn)) ?_
  refine Qe (E_alloc (l:=[.int .i64 0,.sl 8 [],.int .i64 0,.int .i64 0,.int .i64 0,.int .i64 0,.int .i64 0,.str []]) (by kernel_rfl)) ?_
  rintro _ _ ⟨b5,rfl,rfl⟩
  refine Qe (E_store (k:=0) (v:=.agg _) (cs':=[.int .i64 _,_,.int .i64 _,.int .i64 _,.int .i64 _,.int .i64 _,.int .i64 _,.str _]) (H2:=_::_::_) tok rfl rfl rfl rfl (rfl) rfl rfl rfl rfl) ?_
  rintro _ _ ⟨rfl,rfl⟩
  refine AOL.ghost (GS.freeze (t:=5) 0 rfl rfl) ?_
  refine Qnn (AW.seq (Qsr (Qp Qle ?_)))
  refine Qp (Qc rfl (c25 _ hsz)) ?_
  refine Qp Qai ?_
  refine Qns (Qp Qmi ?_)
  refine Qp Qcne ?_
  refine Qnn (Qif (fun hc2=>?_) fun hc2=>?_)
  ·
   refine Qsr (Qp (Qbd [.int .i64 _,_,.int .i64 _,.int .i64 _,.int .i64 _,.int .i64 _,.int .i64 _,.str _]) ?_)
   refine Qp Qmi ?_
   refine Qe (E_store (k:=0) (v:=.agg _) (cs':=[.int .i64 _,_,.int .i64 _,.int .i64 _,.int .i64 _,.int .i64 _,.int .i64 _,.str _]) (H2:=_::_) tok rfl rfl rfl rfl (rfl) rfl rfl rfl rfl) ?_
   rintro _ _ ⟨rfl,rfl⟩
   refine Qp Qai ?_
   refine Qnn (Qrt ?_)
   refine ⟨.inr rfl,[.agg [.int .i64 _,_,.int .i64 _,.int .i64 _,.int .i64 _,.int .i64 _,.int .i64 _,.str _],.int .i64 _],.cons (.box _ _ _ 0 _ _ _ _ rfl rfl rfl rfl rfl rfl) <| .cons (.tmp _ _ rfl) <| .nil,.cons _ (.refl _),?_⟩
   rw [NegateS,ifF hc1,if_pos hc2];rfl
  ·
   refine Qst (Qsr (Qp Qle ?_))
   refine Qe (E_store (k:=0) (v:=.agg _) (cs':=[.int .i64 _,_,.int .i64 _,.int .i64 _,.int .i64 _,.int .i64 _,.int .i64 _,.str _]) (H2:=_::_) tok rfl rfl rfl rfl (rfl) rfl rfl rfl rfl) ?_
   rintro _ _ ⟨rfl,rfl⟩
   refine Qp Qai ?_
   refine Qnn (AW.ret ?_)
   refine ⟨.inr rfl,[.agg [.int .i64 _,_,.int .i64 _,.int .i64 _,.int .i64 _,.int .i64 _,.int .i64 _,.str _],.int .i64 _],.cons (.box _ _ _ 0 _ _ _ _ rfl rfl rfl rfl rfl rfl) <| .cons (.tmp _ _ rfl) <| .nil,.cons _ (.refl _),?_⟩
   rw [NegateS,ifF hc1,ifF hc2];rfl

end Go.Proofs.YtkddpedfbicbeaaGreatDoor
