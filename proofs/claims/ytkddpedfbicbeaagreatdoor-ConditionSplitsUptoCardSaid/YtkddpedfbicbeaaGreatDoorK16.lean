/-
  Several texts in one: Y5b, Y5c, Y5d, Y6, Y1. No condition.
-/
import Derived.Test.YtkddpedfbicbeaaGreatDoorK01
import Derived.Test.YtkddpedfbicbeaaGreatDoorK09
import Derived.Test.YtkddpedfbicbeaaGreatDoorK15
import Derived.KernelRfl
import Derived.Test.YtkddpedfbicbeaaGreatDoorK10
import Derived.Test.YtkddpedfbicbeaaGreatDoorK02
import Derived.Test.YtkddpedfbicbeaaGreatDoorK05
import Derived.Test.YtkddpedfbicbeaaGreatDoorK08
set_option linter.unusedVariables false
set_option linter.unusedSimpArgs false
namespace Go.Proofs.YtkddpedfbicbeaaGreatDoor
open Go Go.Aw
set_option maxHeartbeats 1600000
set_option maxRecDepth 20000

theorem d_simple (T:List Sc)(V:List Va)(e:Ex)(hk:KOK T V e)(hse:sizeN e≤1048576):APure Tryz.prog 84 [.agg (cScene T V),.agg (cE e)] (.bool (simpleS T V e)):=by
 refine APure.body (n:=47) tok Tryz.func84 rfl rfl rfl fun H=>?_
 refine Qsr (Qp (Qbx [_,_]) (Qp Qbe (Qp Qab (Qns ?_))))
 refine Qp (P_assign (v:=.fn _ _ _) rfl) ?_
 refine Qnn (AW.seq (AW.block (Qsr (Qp Qf0 (Qp Qli (Qp Qceq (Qp Qab (Qnn (Qif (fun hc1=>?_) fun hc1=>?_)))))))))
 ·
  refine Qsr (Qp Qab (Qnn (AW.ret (blkR (thenR ?_)))))
  refine Qr (.bool _) ?_
  exact Eq.trans rfl (congrArg (fun q:Bool=>AV.bool q) (simple_1 hc1)).symm
 ·
  refine Qsr (Qp Qle ?_)
  refine Qp (Qc rfl (d_compares e)) ?_
  refine Qp Qnt (Qp Qab (Qnn (Qif (fun hc2=>?_) fun hc2=>?_)))
  ·
   refine Qsr (Qp Qab (Qnn (AW.ret (blkR (thenR ?_)))))
   refine Qr (.bool _) ?_
   exact Eq.trans rfl (congrArg (fun q:Bool=>AV.bool q) (simple_2 hc1 hc2)).symm
  ·
   refine Qsr (Qp (Qlg [_,_]) (Qp Qle ?_))
   refine Qp (Qc rfl (d_texts T V e hk)) ?_
   refine Qp Qab (Qnn (Qif (fun hc3=>?_) fun hc3=>?_))
   ·
    refine AW.seq ?_
    have hcmp:comparesS e=true:=by simpa using ‹(!comparesS e)=false›
    have h2:=cmp_two hk hcmp
    have h00:0<e.args.length:=by omega
    have hsz:=arg_sizes h2
    have hk0:=kok_arg hk (arg0_mem h00)
    have hk1:=kok_arg hk (arg1_mem h2)
    refine AW.region ?_
    refine Qp (P_move (v:=.fn _ _ _) rfl) ?_
    refine Qp Qf1 (Qp Qls ?_)
    refine Qp (P_indexAddr (c:=[.int .i64 _,_,.int .i64 _,.int .i64 _,.int .i64 _,.int .i64 _,.int .i64 _,.str _]) tok rfl rfl rfl rfl rfl rfl (by decide) (arg0_at h00)) ?_
    refine Qp Qle ?_
    refine Qp (P_call (by kernel_rfl) rfl rfl rfl (d_direct (arg0 e))) ?_
    refine Qp Qmb ?_
    refine AOL.g (y:=.fn _ _ _) _ [] rfl (EntL.all trivial) (fun hG=>P_move (v:=.fn _ _ _) rfl) rfl ?_
    refine Qg [] Qw Qf1 (Qg [(28,_)] Qw Qls ?_)
    refine AOL.g (y:=.ptr _) _ [(29,_)] rfl (EntL.all ⟨Ent.self _ _,trivial⟩) (fun hG=>P_indexAddr (c:=[.int .i64 _,_,.int .i64 _,.int .i64 _,.int .i64 _,.int .i64 _,.int .i64 _,.str _]) tok rfl rfl rfl rfl rfl rfl (by decide) (arg1_at h2)) rfl ?_
    refine Qg [(30,_)] Qw Qle ?_
    refine AOL.g (y:=.bool _) _ [(31,_),(27,_)] rfl (EntL.all ⟨Ent.self _ _,Ent.self _ _,trivial⟩) (fun hG=>P_call (by kernel_rfl) rfl rfl rfl (d_direct (arg1 e))) rfl ?_
    refine Qp Qpa (Qp Qab (Qnn (AW.ret (blkR (thenR ?_)))))
    refine Qr (.bool _) ?_
    exact Eq.trans rfl (congrArg (fun q:Bool=>AV.bool q) (simple_3 hc1 hc2 hc3)).symm
   ·
    refine AW.skip (blkN (thenN (AW.seq ?_)))
    have hcmp:comparesS e=true:=by simpa using ‹(!comparesS e)=false›
    have h2:=cmp_two hk hcmp
    have h00:0<e.args.length:=by omega
    have hsz:=arg_sizes h2
    have hk0:=kok_arg hk (arg0_mem h00)
    have hk1:=kok_arg hk (arg1_mem h2)
    refine AW.draw mixed (fun _=>True) trivial (by kernel_rfl) ?_
    refine Qn 0 rfl Qf1 (Qn 1 rfl Qls ?_)
    refine Qn 2 rfl (P_indexAddr (c:=[.int .i64 _,_,.int .i64 _,.int .i64 _,.int .i64 _,.int .i64 _,.int .i64 _,.str _]) tok rfl rfl rfl rfl rfl rfl (by decide) (arg0_at h00)) ?_
    refine Qn 3 rfl Qle (Qn 4 rfl Qf1 (Qn 5 rfl Qls ?_))
    refine Qn 6 rfl (P_indexAddr (c:=[.int .i64 _,_,.int .i64 _,.int .i64 _,.int .i64 _,.int .i64 _,.int .i64 _,.str _]) tok rfl rfl rfl rfl rfl rfl (by decide) (arg1_at h2)) ?_
    refine Qn 7 rfl Qle ?_
    refine Qn 8 rfl (Qc rfl (d_between _ _ hk0.nodes hk1.nodes (by omega))) ?_
    refine Qn 9 rfl Qmu ?_
    refine Qn 10 rfl (P_extract (v:=.agg [_,_,.int .i64 _]) rfl rfl) ?_
    refine Qn 11 rfl Qxb ?_
    refine Canon.eff _ _ 12 _ _ rfl (by kernel_rfl) rfl rfl (E_alloc (l:=[.sl 3 [],.sl 3 [],.int .i64 0]) (by kernel_rfl)) (fun _ _ _=>trivial) ?_
    rintro _ _ ⟨b6,rfl,rfl⟩
    refine Canon.eff _ _ 13 _ _ rfl (by kernel_rfl) rfl rfl (E_store (k:=0) (v:=.agg _) (cs':=[_,_,.int .i64 _]) (H2:=_::_) tok rfl rfl rfl rfl (rfl) rfl rfl rfl rfl) (fun _ _ _=>trivial) ?_
    rintro _ _ ⟨rfl,rfl⟩
    refine Qn 14 rfl Qab ?_
    refine Canon.done _ _ (by kernel_rfl) ?_
    refine thenN ?_
    refine AW.ghost (GS.freeze (t:=6) 0 rfl rfl) ?_
    refine Qsr (Qp Qmb (Qp Qab (Qnn (AW.ret ?_))))
    refine Qr (.bool _) ?_
    exact Eq.trans rfl (congrArg (fun q:Bool=>AV.bool q) (simple_4 hc1 hc2 hc3)).symm


set_option maxHeartbeats 3200000
set_option maxRecDepth 20000

theorem d_product (a b:List (List Lit))(hla:a.length≤512)(hlb:b.length≤512)(ha:∀x∈a,x.length≤1048576)(hb:∀x∈b,x.length≤1048576):APure Tryz.prog 106 [.sl 1 (a.map cCl),.sl 1 (b.map cCl)] (.tuple [.sl 1 ((prodS a b).1.map cCl),.bool (prodS a b).2]):=by
 refine APure.body (n:=40) tok Tryz.func106 rfl rfl rfl fun H=>?_
 refine Qsr ?_
 refine Qp (P_assign_nil (z:=1) rfl) ?_
 refine Qp Qab (Qnn (AW.seq (Qsr (Qp Qms ?_))))
 refine Qp (P_len_sl (n:=a.length) tok rfl rfl rfl (by simp)) ?_
 refine Qp Qms ?_
 refine Qp (P_len_sl (n:=b.length) tok rfl rfl rfl (by simp)) ?_
 refine Qp (P_mul rfl rfl rfl (by constructor <;> (have h1:(0:Int)≤(a.length:Int)*(b.length:Int):=Int.mul_nonneg (by omega) (by omega);have h2:(a.length:Int)*(b.length:Int)≤512*512:=Int.mul_le_mul (by omega) (by omega) (by omega) (by omega);omega))) ?_
 refine Qp Qcgt (Qnn (Qif (fun hc1=>?_) fun hc1=>?_))
 ·
  refine Qsr ?_
  refine Qp (P_assign_nil (z:=1) rfl) ?_
  refine Qp Qab (Qnn (Qrt ?_))
  refine Qrr (.sl _ _) (.bool _) ?_
  exact Eq.trans rfl (congrArg (fun q:Cs=>AV.tuple [.sl 1 (q.1.map cCl),.bool q.2]) (prod_no hc1)).symm
 ·
  refine Qst (Qsr (Qp Qav ?_))
  refine AOL.ghost (GS.row (t:=6) 71 1 rfl) ?_
  refine Qnn (AW.seq (Qsr (Qp Qms ?_)))
  refine Qp (P_len_sl (n:=a.length) tok rfl rfl rfl (by simp)) ?_
  refine Qp Qmi (Qnn (AW.block ?_))
  refine AW.loopS (fun (p:Nat×List (List AV)×Value)=>(⟨[(0,.sl 1 (a.map cCl)),(1,.sl 1 (b.map cCl)),(5,.bool false),(6,.row p.2.2 1 p.2.1),(17,.sl 1 (a.map cCl)),(18,.int .i64 a.length),(19,.int .i64 (p.1:Int))],.row p.2.2 p.2.1.length 71 1::H,40⟩:St)) (fun (p:Nat×List (List AV)×Value)=>p.1≤a.length∧p.2.1=((a.take p.1).flatMap fun x=>b.map fun y=>x++y).map cCl) (fun (p:Nat×List (List AV)×Value)=>a.length-p.1) ((0,[],.slice none 0 0)) ?_ (GS.weaken ⟨rfl,rfl,rfl,rfl,rfl,rfl,rfl,trivial⟩ (.refl _)) ?_
  · exact ⟨Nat.zero_le _,rfl⟩
  ·
   rintro p hR
   refine Qsr (Qp Qclt (Qnn (AW.seq (Qif (fun hc2=>?_) fun hc2=>?_))))
   ·
    obtain ⟨x,hx⟩:=get_lt hc2
    have hlx:=get_lt' hx
    have hxl:=ha x (List.mem_of_getElem? hx)
    refine Qst (AW.seq (AW.block (Qsr ?_)))
    refine Qp (P_indexAddr (c:=[_]) tok rfl rfl rfl rfl rfl rfl (by omega) (map_at hx)) ?_
    refine Qp Qls (Qp Qas (Qns (Qp Qms ?_)))
    refine Qp (P_len_sl (n:=b.length) tok rfl rfl rfl (by simp)) ?_
    refine Qp Qmi (Qnn (AW.block ?_))
    refine AW.loopS (fun (q:Nat×List (List AV)×Value)=>(⟨[(0,.sl 1 (a.map cCl)),(1,.sl 1 (b.map cCl)),(5,.bool false),(6,.row q.2.2 1 q.2.1),(8,.sl 9 (x.map cLit)),(17,.sl 1 (a.map cCl)),(18,.int .i64 a.length),(19,.int .i64 (p.1:Int)),(23,.sl 1 (b.map cCl)),(24,.int .i64 b.length),(25,.int .i64 (q.1:Int))],.row q.2.2 q.2.1.length 71 1::H,40⟩:St)) (fun (q:Nat×List (List AV)×Value)=>q.1≤b.length∧q.2.1=(((a.take p.1).flatMap fun x=>b.map fun y=>x++y)++(b.take q.1).map fun y=>x++y).map cCl∧True) (fun (q:Nat×List (List AV)×Value)=>b.length-q.1) ((0,p.2.1,p.2.2)) ?_ (GS.weaken ⟨rfl,rfl,rfl,rfl,rfl,rfl,rfl,rfl,rfl,rfl,rfl,trivial⟩ (.refl _)) ?_
    · exact ⟨Nat.zero_le _,by simp only [List.take_zero,List.map_nil,List.append_nil];exact hR.2,trivial⟩
    ·
     rintro q hQ
     refine Qsr (Qp Qclt (Qnn (AW.seq (Qif (fun hc3=>?_) fun hc3=>?_))))
     ·
      obtain ⟨y,hy⟩:=get_lt hc3
      have hly:=get_lt' hy
      have hyl:=hb y (List.mem_of_getElem? hy)
      have hple:=prod_le hlx hly hc1
      refine Qst (AW.seq (AW.block (Qsr ?_)))
      refine Qp (P_indexAddr (c:=[_]) tok rfl rfl rfl rfl rfl rfl (by omega) (map_at hy)) ?_
      refine Qp Qls (Qp Qas (Qnn ?_))
      have hsx:∀c∈(x.map cLit),scalars c=true:=sc_map fun _=>rfl
      have hsy:∀c∈(y.map cLit),scalars c=true:=sc_map fun _=>rfl
      have hscx:∀c∈(x.map cLit++y.map cLit),scalars c=true:=fun c hc=>(List.mem_append.1 hc).elim (hsx c) (hsy c)
      have hso:∀c∈q.2.1,scalars c=true:=by rw [hQ.2.1];exact sc_map fun _=>rfl
      have hql:q.2.1.length<256:=by rw [hQ.2.1,List.length_map,List.length_append,prod_len,List.length_map,List.length_take,List.length_take,Nat.min_eq_left (Nat.le_of_lt hlx),Nat.min_eq_left (Nat.le_of_lt hly)];exact hple
      refine AW.region ?_
      refine Qp (P_move (v:=.row _ _ _) rfl) ?_
      refine Qe (E_buildSlice (es:=[]) tok rfl rfl rfl rfl rfl rfl rfl rfl rfl) ?_
      rintro _ _ ⟨v30,rfl,rfl⟩
      refine Qp Qms ?_
      refine Qe (E_append (k:=0) tok rfl rfl rfl rfl rfl rfl rfl rfl (hsx) (sc_nil) (by simp;omega) (by simp [maxLen];omega)) ?_
      rintro _ _ ⟨v32,rfl,rfl⟩
      refine Qp Qms ?_
      refine Qe (E_append (k:=0) tok rfl rfl rfl rfl rfl rfl rfl rfl (hsy) (hsx) (by simp;omega) (by simp [maxLen];omega)) ?_
      rintro _ _ ⟨v34,rfl,rfl⟩
      refine AOL.ghost (GS.unrow 34 rfl) ?_
      refine Qp (P_buildSlice (es:=[[_]]) tok rfl rfl rfl rfl rfl rfl rfl rfl rfl) ?_
      refine Qe (E_append (k:=1) tok rfl rfl rfl rfl rfl rfl rfl rfl (sc_one rfl) (hso) (by simp;omega) (by simp [maxLen];omega)) ?_
      rintro _ _ ⟨v36,rfl,rfl⟩
      refine Qp (P_assign (v:=.row _ _ _) rfl) ?_
      refine AOL.nil (blkN (thenN (AW.region (Qp Qad (Qp Qmi (Qnn ?_))))))
      refine ⟨(q.1+1,q.2.1 ++ [[.sl 9 (x.map cLit++y.map cLit)]],v36),?_,?_,GS.weaken ⟨rfl,rfl,rfl,rfl,rfl,rfl,rfl,rfl,rfl,rfl,rfl,trivial⟩ (.cons _ (.refl _))⟩
      · exact ⟨hly,by simp only;rw [take_get hy,hQ.2.1];simp [cCl],trivial⟩
      · simp only;omega
     ·
      have hte:=take_end hc3
      have hall:=hQ.2.1
      rw [hte] at hall
      refine AW.exit ?_
      refine thenE (thenE (blkHit (blkN (thenN (AW.region (Qp Qad (Qp Qmi (Qnn ?_))))))))
      refine ⟨(p.1+1,q.2.1,q.2.2),?_,?_,GS.weaken ⟨rfl,rfl,rfl,rfl,rfl,rfl,rfl,trivial⟩ (.refl _)⟩
      · exact ⟨hlx,by simp only;rw [prod_take hx];exact hall⟩
      · simp only;omega
   ·
    have hte:=take_end hc2
    have hall:=hR.2
    rw [hte] at hall
    refine AW.exit ?_
    refine thenE (thenE (blkHit (thenN (Qsr ?_))))
    refine Qp (P_move (v:=.row _ _ _) rfl) ?_
    refine AOL.ghost (GS.unrow 39 rfl) ?_
    refine Qp Qas (Qp Qab (Qnn (AW.ret ?_)))
    refine ⟨.inr rfl,[.sl _ _,.bool _],.cons (.tmp _ _ rfl) <| .cons (.tmp _ _ rfl) <| .nil,.cons _ (.refl _),?_⟩
    rw [hall]
    exact Eq.trans rfl (congrArg (fun q:Cs=>AV.tuple [.sl 1 (q.1.map cCl),.bool q.2]) (prod_yes hc1)).symm
set_option maxHeartbeats 3200000
set_option maxRecDepth 20000

theorem d_two (op:Int)(x y:Ex):APure Tryz.prog 91 [.int .i64 op,.agg (cE x),.agg (cE y)] (.agg (cE (two op x y))):=by
 refine APure.body (n:=12) tok Tryz.func91 rfl rfl rfl fun H=>?_
 refine Qsr (Qp Qbe (Qp Qbe ?_))
 refine Qe (E_alloc (l:=[.int .i64 0,.sl 8 [],.int .i64 0,.int .i64 0,.int .i64 0,.int .i64 0,.int .i64 0,.str []]) (by kernel_rfl)) ?_
 rintro _ _ ⟨b6,rfl,rfl⟩
 refine Qns (Qp Qmi (Qp Qle (Qp Qle ?_)))
 refine Qp (P_buildSlice (es:=[[.int .i64 _,_,.int .i64 _,.int .i64 _,.int .i64 _,.int .i64 _,.int .i64 _,.str _],[.int .i64 _,_,.int .i64 _,.int .i64 _,.int .i64 _,.int .i64 _,.int .i64 _,.str _]]) tok rfl rfl rfl rfl rfl rfl rfl rfl rfl) ?_
 refine Qp (Qbd [.int .i64 _,_,.int .i64 _,.int .i64 _,.int .i64 _,.int .i64 _,.int .i64 _,.str _]) ?_
 refine Qe (E_store (k:=0) (v:=.agg _) (cs':=[.int .i64 _,_,.int .i64 _,.int .i64 _,.int .i64 _,.int .i64 _,.int .i64 _,.str _]) (H2:=_::_) tok rfl rfl rfl rfl (rfl) rfl rfl rfl rfl) ?_
 rintro _ _ ⟨rfl,rfl⟩
 refine Qnn (AW.ret ?_)
 refine ⟨.inr rfl,[.agg [.int .i64 _,_,.int .i64 _,.int .i64 _,.int .i64 _,.int .i64 _,.int .i64 _,.str _]],.cons (.box _ _ _ 0 _ _ _ _ rfl rfl rfl rfl rfl rfl) <| .nil,.cons _ (.refl _),?_⟩
 rw [two_cells];rfl
theorem l_two (op:Int)(x y:Ex):APure Tryz.prog 28 [.int .i64 op,.agg (cE x),.agg (cE y)] (.agg (cE (two op x y))):=by
 refine APure.body (n:=12) tok Tryz.func28 rfl rfl rfl fun H=>?_
 refine Qsr (Qp Qbe (Qp Qbe ?_))
 refine Qe (E_alloc (l:=[.int .i64 0,.sl 8 [],.int .i64 0,.int .i64 0,.int .i64 0,.int .i64 0,.int .i64 0,.str []]) (by kernel_rfl)) ?_
 rintro _ _ ⟨b6,rfl,rfl⟩
 refine Qns (Qp Qmi (Qp Qle (Qp Qle ?_)))
 refine Qp (P_buildSlice (es:=[[.int .i64 _,_,.int .i64 _,.int .i64 _,.int .i64 _,.int .i64 _,.int .i64 _,.str _],[.int .i64 _,_,.int .i64 _,.int .i64 _,.int .i64 _,.int .i64 _,.int .i64 _,.str _]]) tok rfl rfl rfl rfl rfl rfl rfl rfl rfl) ?_
 refine Qp (Qbd [.int .i64 _,_,.int .i64 _,.int .i64 _,.int .i64 _,.int .i64 _,.int .i64 _,.str _]) ?_
 refine Qe (E_store (k:=0) (v:=.agg _) (cs':=[.int .i64 _,_,.int .i64 _,.int .i64 _,.int .i64 _,.int .i64 _,.int .i64 _,.str _]) (H2:=_::_) tok rfl rfl rfl rfl (rfl) rfl rfl rfl rfl) ?_
 rintro _ _ ⟨rfl,rfl⟩
 refine Qnn (AW.ret ?_)
 refine ⟨.inr rfl,[.agg [.int .i64 _,_,.int .i64 _,.int .i64 _,.int .i64 _,.int .i64 _,.int .i64 _,.str _]],.cons (.box _ _ _ 0 _ _ _ _ rfl rfl rfl rfl rfl rfl) <| .nil,.cons _ (.refl _),?_⟩
 rw [two_cells];rfl
theorem l_not (x:Ex):APure Tryz.prog 42 [.agg (cE x)] (.agg (cE (notE x))):=by
 refine APure.body (n:=6) tok Tryz.func42 rfl rfl rfl fun H=>?_
 refine Qsr (Qp Qbe ?_)
 refine Qe (E_alloc (l:=[.int .i64 0,.sl 8 [],.int .i64 0,.int .i64 0,.int .i64 0,.int .i64 0,.int .i64 0,.str []]) (by kernel_rfl)) ?_
 rintro _ _ ⟨b2,rfl,rfl⟩
 refine Qns (Qp Qle ?_)
 refine Qp (P_buildSlice (es:=[[.int .i64 _,_,.int .i64 _,.int .i64 _,.int .i64 _,.int .i64 _,.int .i64 _,.str _]]) tok rfl rfl rfl rfl rfl rfl rfl rfl rfl) ?_
 refine Qp (Qbd [.int .i64 _,_,.int .i64 _,.int .i64 _,.int .i64 _,.int .i64 _,.int .i64 _,.str _]) ?_
 refine Qe (E_store (k:=0) (v:=.agg _) (cs':=[.int .i64 _,_,.int .i64 _,.int .i64 _,.int .i64 _,.int .i64 _,.int .i64 _,.str _]) (H2:=_::_) tok rfl rfl rfl rfl (rfl) rfl rfl rfl rfl) ?_
 rintro _ _ ⟨rfl,rfl⟩
 refine Qnn (AW.ret ?_)
 refine ⟨.inr rfl,[.agg [.int .i64 _,_,.int .i64 _,.int .i64 _,.int .i64 _,.int .i64 _,.int .i64 _,.str _]],.cons (.box _ _ _ 0 _ _ _ _ rfl rfl rfl rfl rfl rfl) <| .nil,.cons _ (.refl _),?_⟩
 rw [not_cells];rfl
theorem d_truth (x:Bool):APure Tryz.prog 96 [.bool x] (.agg (cE (truthE x))):=by
 refine APure.body (n:=6) tok Tryz.func96 rfl rfl rfl fun H=>?_
 refine Qsr ?_
 refine Qe (E_alloc (l:=[.int .i64 0,.sl 8 [],.int .i64 0,.int .i64 0,.int .i64 0,.int .i64 0,.int .i64 0,.str []]) (by kernel_rfl)) ?_
 rintro _ _ ⟨b2,rfl,rfl⟩
 refine Qns (Qp Qmb ?_)
 refine Qp (Qc rfl (c75 x)) ?_
 refine Qp (Qbd [.int .i64 _,_,.int .i64 _,.int .i64 _,.int .i64 _,.int .i64 _,.int .i64 _,.str _]) ?_
 refine Qe (E_store (k:=0) (v:=.agg _) (cs':=[.int .i64 _,_,.int .i64 _,.int .i64 _,.int .i64 _,.int .i64 _,.int .i64 _,.str _]) (H2:=_::_) tok rfl rfl rfl rfl (rfl) rfl rfl rfl rfl) ?_
 rintro _ _ ⟨rfl,rfl⟩
 refine Qnn (AW.ret ?_)
 refine ⟨.inr rfl,[.agg [.int .i64 _,_,.int .i64 _,.int .i64 _,.int .i64 _,.int .i64 _,.int .i64 _,.str _]],.cons (.box _ _ _ 0 _ _ _ _ rfl rfl rfl rfl rfl rfl) <| .nil,.cons _ (.refl _),?_⟩
 rfl
theorem l_number (n:Int):APure Tryz.prog 41 [.int .i64 n] (.agg (cE (constE ⟨0,n,[]⟩))):=by
 refine APure.body (n:=6) tok Tryz.func41 rfl rfl rfl fun H=>?_
 refine Qsr ?_
 refine Qe (E_alloc (l:=[.int .i64 0,.sl 8 [],.int .i64 0,.int .i64 0,.int .i64 0,.int .i64 0,.int .i64 0,.str []]) (by kernel_rfl)) ?_
 rintro _ _ ⟨b2,rfl,rfl⟩
 refine Qns (Qp Qmi (Qp (Qbd [.int .i64 _,.int .i64 _,.str _]) (Qp (Qbd [.int .i64 _,_,.int .i64 _,.int .i64 _,.int .i64 _,.int .i64 _,.int .i64 _,.str _]) ?_)))
 refine Qe (E_store (k:=0) (v:=.agg _) (cs':=[.int .i64 _,_,.int .i64 _,.int .i64 _,.int .i64 _,.int .i64 _,.int .i64 _,.str _]) (H2:=_::_) tok rfl rfl rfl rfl (rfl) rfl rfl rfl rfl) ?_
 rintro _ _ ⟨rfl,rfl⟩
 refine Qnn (AW.ret ?_)
 refine ⟨.inr rfl,[.agg [.int .i64 _,_,.int .i64 _,.int .i64 _,.int .i64 _,.int .i64 _,.int .i64 _,.str _]],.cons (.box _ _ _ 0 _ _ _ _ rfl rfl rfl rfl rfl rfl) <| .nil,.cons _ (.refl _),?_⟩
 rfl
theorem l_price (v:Int):APure Tryz.prog 40 [.int .i64 v] (.agg (cE ⟨1,[],v,1,0,v0⟩)):=by
 refine APure.body (n:=5) tok Tryz.func40 rfl rfl rfl fun H=>?_
 refine Qsr ?_
 refine Qe (E_alloc (l:=[.int .i64 0,.sl 8 [],.int .i64 0,.int .i64 0,.int .i64 0,.int .i64 0,.int .i64 0,.str []]) (by kernel_rfl)) ?_
 rintro _ _ ⟨b2,rfl,rfl⟩
 refine Qns (Qp Qmi (Qp (Qbd [.int .i64 _,_,.int .i64 _,.int .i64 _,.int .i64 _,.int .i64 _,.int .i64 _,.str _]) ?_))
 refine Qe (E_store (k:=0) (v:=.agg _) (cs':=[.int .i64 _,_,.int .i64 _,.int .i64 _,.int .i64 _,.int .i64 _,.int .i64 _,.str _]) (H2:=_::_) tok rfl rfl rfl rfl (rfl) rfl rfl rfl rfl) ?_
 rintro _ _ ⟨rfl,rfl⟩
 refine Qnn (AW.ret ?_)
 refine ⟨.inr rfl,[.agg [.int .i64 _,_,.int .i64 _,.int .i64 _,.int .i64 _,.int .i64 _,.int .i64 _,.str _]],.cons (.box _ _ _ 0 _ _ _ _ rfl rfl rfl rfl rfl rfl) <| .nil,.cons _ (.refl _),?_⟩
 rfl
theorem l_symbol (v:Int):APure Tryz.prog 48 [.int .i64 v] (.agg (cE ⟨1,[],v,0,0,v0⟩)):=by
 refine APure.body (n:=5) tok Tryz.func48 rfl rfl rfl fun H=>?_
 refine Qsr ?_
 refine Qe (E_alloc (l:=[.int .i64 0,.sl 8 [],.int .i64 0,.int .i64 0,.int .i64 0,.int .i64 0,.int .i64 0,.str []]) (by kernel_rfl)) ?_
 rintro _ _ ⟨b2,rfl,rfl⟩
 refine Qns (Qp Qmi (Qp (Qbd [.int .i64 _,_,.int .i64 _,.int .i64 _,.int .i64 _,.int .i64 _,.int .i64 _,.str _]) ?_))
 refine Qe (E_store (k:=0) (v:=.agg _) (cs':=[.int .i64 _,_,.int .i64 _,.int .i64 _,.int .i64 _,.int .i64 _,.int .i64 _,.str _]) (H2:=_::_) tok rfl rfl rfl rfl (rfl) rfl rfl rfl rfl) ?_
 rintro _ _ ⟨rfl,rfl⟩
 refine Qnn (AW.ret ?_)
 refine ⟨.inr rfl,[.agg [.int .i64 _,_,.int .i64 _,.int .i64 _,.int .i64 _,.int .i64 _,.int .i64 _,.str _]],.cons (.box _ _ _ 0 _ _ _ _ rfl rfl rfl rfl rfl rfl) <| .nil,.cons _ (.refl _),?_⟩
 rfl
theorem d_neg (e:Ex)(hn:nodesS e=0):APure Tryz.prog 58 [.agg (cE e)] (.agg (cE (negS e))):=by
 revert hn
 induction e using Ex.ind
 rename_i e ih
 intro hn
 have hz:=nodes_zero hn
 refine APure.body (n:=73) tok Tryz.func58 rfl rfl rfl fun H=>?_
 refine Qsr (Qp Qbe ?_)
 refine Qe (E_alloc (l:=[.int .i64 0,.sl 8 [],.int .i64 0,.int .i64 0,.int .i64 0,.int .i64 0,.int .i64 0,.str []]) (by kernel_rfl)) ?_
 rintro _ _ ⟨b2,rfl,rfl⟩
 refine Qnn (AW.seq (Qsr (Qp Qf0 (Qp Qli (Qnn (AW.block (Qsr (Qp Qceq (Qp Qab ?_)))))))))
 refine Qnn (Qif (fun hc1=>?_) fun hc1=>?_)
 ·
  have hop:=eq_of_beq hc1
  have hl2:=len_two' hz.1 (by omega)
  have h00:0<e.args.length:=by omega
  refine AW.seq ?_
  refine AW.draw mixed (fun _=>True) trivial (by kernel_rfl) ?_
  refine Qn 0 rfl Qf1 (Qn 1 rfl Qls ?_)
  refine Qn 2 rfl (P_indexAddr (c:=[.int .i64 _,_,.int .i64 _,.int .i64 _,.int .i64 _,.int .i64 _,.int .i64 _,.str _]) tok rfl rfl rfl rfl rfl rfl (by decide) (arg0_at h00)) ?_
  refine Qn 3 rfl Qle ?_
  refine Qn 4 rfl (Qc rfl (ih _ (arg0_mem h00) (hz.2 _ (arg0_mem h00)))) ?_
  refine Qn 5 rfl Qf1 (Qn 6 rfl Qls ?_)
  refine Qn 7 rfl (P_indexAddr (c:=[.int .i64 _,_,.int .i64 _,.int .i64 _,.int .i64 _,.int .i64 _,.int .i64 _,.str _]) tok rfl rfl rfl rfl rfl rfl (by decide) (arg1_at hl2)) ?_
  refine Qn 8 rfl Qle ?_
  refine Qn 9 rfl (Qc rfl (ih _ (arg1_mem hl2) (hz.2 _ (arg1_mem hl2)))) ?_
  refine Qn 10 rfl (Qc rfl (d_two 11 _ _)) ?_
  refine Canon.eff _ _ 11 _ _ rfl (by kernel_rfl) rfl rfl (E_store (k:=0) (v:=.agg _) (cs':=[.int .i64 _,_,.int .i64 _,.int .i64 _,.int .i64 _,.int .i64 _,.int .i64 _,.str _]) (H2:=_::_) tok rfl rfl rfl rfl (rfl) rfl rfl rfl rfl) (fun _ _ _=>trivial) ?_
  rintro _ _ ⟨rfl,rfl⟩
  refine Canon.done _ _ (by kernel_rfl) ?_
  refine thenN (AW.ret (blkR (thenR ?_)))
  refine ⟨.inr rfl,[.agg [.int .i64 _,_,.int .i64 _,.int .i64 _,.int .i64 _,.int .i64 _,.int .i64 _,.str _]],.cons (.box _ _ _ 0 _ _ _ _ rfl rfl rfl rfl rfl rfl) <| .nil,.cons _ (.refl _),?_⟩
  rw [negS_and hc1 hl2];rfl
 ·
  refine Qsr (Qp Qceq (Qp Qab (Qnn (Qif (fun hc2=>?_) fun hc2=>?_))))
  ·
   have hop:=eq_of_beq hc2
   have hl2:=len_two' hz.1 (by omega)
   have h00:0<e.args.length:=by omega
   refine AW.seq ?_
   refine AW.draw mixed (fun _=>True) trivial (by kernel_rfl) ?_
   refine Qn 0 rfl Qf1 (Qn 1 rfl Qls ?_)
   refine Qn 2 rfl (P_indexAddr (c:=[.int .i64 _,_,.int .i64 _,.int .i64 _,.int .i64 _,.int .i64 _,.int .i64 _,.str _]) tok rfl rfl rfl rfl rfl rfl (by decide) (arg0_at h00)) ?_
   refine Qn 3 rfl Qle ?_
   refine Qn 4 rfl (Qc rfl (ih _ (arg0_mem h00) (hz.2 _ (arg0_mem h00)))) ?_
   refine Qn 5 rfl Qf1 (Qn 6 rfl Qls ?_)
   refine Qn 7 rfl (P_indexAddr (c:=[.int .i64 _,_,.int .i64 _,.int .i64 _,.int .i64 _,.int .i64 _,.int .i64 _,.str _]) tok rfl rfl rfl rfl rfl rfl (by decide) (arg1_at hl2)) ?_
   refine Qn 8 rfl Qle ?_
   refine Qn 9 rfl (Qc rfl (ih _ (arg1_mem hl2) (hz.2 _ (arg1_mem hl2)))) ?_
   refine Qn 10 rfl (Qc rfl (d_two 10 _ _)) ?_
   refine Canon.eff _ _ 11 _ _ rfl (by kernel_rfl) rfl rfl (E_store (k:=0) (v:=.agg _) (cs':=[.int .i64 _,_,.int .i64 _,.int .i64 _,.int .i64 _,.int .i64 _,.int .i64 _,.str _]) (H2:=_::_) tok rfl rfl rfl rfl (rfl) rfl rfl rfl rfl) (fun _ _ _=>trivial) ?_
   rintro _ _ ⟨rfl,rfl⟩
   refine Canon.done _ _ (by kernel_rfl) ?_
   refine thenN (AW.ret (blkR (thenR ?_)))
   refine ⟨.inr rfl,[.agg [.int .i64 _,_,.int .i64 _,.int .i64 _,.int .i64 _,.int .i64 _,.int .i64 _,.str _]],.cons (.box _ _ _ 0 _ _ _ _ rfl rfl rfl rfl rfl rfl) <| .nil,.cons _ (.refl _),?_⟩
   rw [negS_or hc1 hc2 hl2];rfl
  ·
   refine Qsr (Qp Qceq (Qp Qab (Qnn (Qif (fun hc3=>?_) fun hc3=>?_))))
   ·
    have h00:=len_not hz.1 (eq_of_beq hc3)
    refine Qsr (Qp Qf1 (Qp Qls ?_))
    refine Qp (P_indexAddr (c:=[.int .i64 _,_,.int .i64 _,.int .i64 _,.int .i64 _,.int .i64 _,.int .i64 _,.str _]) tok rfl rfl rfl rfl rfl rfl (by decide) (arg0_at h00)) ?_
    refine Qp Qle ?_
    refine Qe (E_store (k:=0) (v:=.agg _) (cs':=[.int .i64 _,_,.int .i64 _,.int .i64 _,.int .i64 _,.int .i64 _,.int .i64 _,.str _]) (H2:=_::_) tok rfl rfl rfl rfl (rfl) rfl rfl rfl rfl) ?_
    rintro _ _ ⟨rfl,rfl⟩
    refine Qnn (AW.ret (blkR (thenR ?_)))
    refine ⟨.inr rfl,[.agg [.int .i64 _,_,.int .i64 _,.int .i64 _,.int .i64 _,.int .i64 _,.int .i64 _,.str _]],.cons (.box _ _ _ 0 _ _ _ _ rfl rfl rfl rfl rfl rfl) <| .nil,.cons _ (.refl _),?_⟩
    rw [negS_eq,negN,ifF hc1,ifF hc2,if_pos hc3];rfl
   ·
    refine Qsr (Qp Qceq (Qp Qab (Qnn (Qif (fun hc4=>?_) fun hc4=>?_))))
    ·
     have hop:=eq_of_beq hc4
     have hl2:=len_two' hz.1 (by omega)
     have h00:0<e.args.length:=by omega
     refine AW.seq ?_
     refine AW.draw mixed (fun _=>True) trivial (by kernel_rfl) ?_
     refine Qn 0 rfl Qf1 (Qn 1 rfl Qls ?_)
     refine Qn 2 rfl (P_indexAddr (c:=[.int .i64 _,_,.int .i64 _,.int .i64 _,.int .i64 _,.int .i64 _,.int .i64 _,.str _]) tok rfl rfl rfl rfl rfl rfl (by decide) (arg1_at hl2)) ?_
     refine Qn 3 rfl Qle (Qn 4 rfl Qf1 (Qn 5 rfl Qls ?_))
     refine Qn 6 rfl (P_indexAddr (c:=[.int .i64 _,_,.int .i64 _,.int .i64 _,.int .i64 _,.int .i64 _,.int .i64 _,.str _]) tok rfl rfl rfl rfl rfl rfl (by decide) (arg0_at h00)) ?_
     refine Qn 7 rfl Qle ?_
     refine Qn 8 rfl (Qc rfl (d_two 8 _ _)) ?_
     refine Canon.eff _ _ 9 _ _ rfl (by kernel_rfl) rfl rfl (E_store (k:=0) (v:=.agg _) (cs':=[.int .i64 _,_,.int .i64 _,.int .i64 _,.int .i64 _,.int .i64 _,.int .i64 _,.str _]) (H2:=_::_) tok rfl rfl rfl rfl (rfl) rfl rfl rfl rfl) (fun _ _ _=>trivial) ?_
     rintro _ _ ⟨rfl,rfl⟩
     refine Canon.done _ _ (by kernel_rfl) ?_
     refine thenN (AW.ret (blkR (thenR ?_)))
     refine ⟨.inr rfl,[.agg [.int .i64 _,_,.int .i64 _,.int .i64 _,.int .i64 _,.int .i64 _,.int .i64 _,.str _]],.cons (.box _ _ _ 0 _ _ _ _ rfl rfl rfl rfl rfl rfl) <| .nil,.cons _ (.refl _),?_⟩
     rw [negS_eq,negN,ifF hc1,ifF hc2,ifF hc3,if_pos hc4];rfl
    ·
     refine Qsr (Qp Qceq (Qp Qab (Qnn (Qif (fun hc5=>?_) fun hc5=>?_))))
     ·
      have hop:=eq_of_beq hc5
      have hl2:=len_two' hz.1 (by omega)
      have h00:0<e.args.length:=by omega
      refine AW.seq ?_
      refine AW.draw mixed (fun _=>True) trivial (by kernel_rfl) ?_
      refine Qn 0 rfl Qf1 (Qn 1 rfl Qls ?_)
      refine Qn 2 rfl (P_indexAddr (c:=[.int .i64 _,_,.int .i64 _,.int .i64 _,.int .i64 _,.int .i64 _,.int .i64 _,.str _]) tok rfl rfl rfl rfl rfl rfl (by decide) (arg1_at hl2)) ?_
      refine Qn 3 rfl Qle (Qn 4 rfl Qf1 (Qn 5 rfl Qls ?_))
      refine Qn 6 rfl (P_indexAddr (c:=[.int .i64 _,_,.int .i64 _,.int .i64 _,.int .i64 _,.int .i64 _,.int .i64 _,.str _]) tok rfl rfl rfl rfl rfl rfl (by decide) (arg0_at h00)) ?_
      refine Qn 7 rfl Qle ?_
      refine Qn 8 rfl (Qc rfl (d_two 7 _ _)) ?_
      refine Canon.eff _ _ 9 _ _ rfl (by kernel_rfl) rfl rfl (E_store (k:=0) (v:=.agg _) (cs':=[.int .i64 _,_,.int .i64 _,.int .i64 _,.int .i64 _,.int .i64 _,.int .i64 _,.str _]) (H2:=_::_) tok rfl rfl rfl rfl (rfl) rfl rfl rfl rfl) (fun _ _ _=>trivial) ?_
      rintro _ _ ⟨rfl,rfl⟩
      refine Canon.done _ _ (by kernel_rfl) ?_
      refine thenN (AW.ret (blkR (thenR ?_)))
      refine ⟨.inr rfl,[.agg [.int .i64 _,_,.int .i64 _,.int .i64 _,.int .i64 _,.int .i64 _,.int .i64 _,.str _]],.cons (.box _ _ _ 0 _ _ _ _ rfl rfl rfl rfl rfl rfl) <| .nil,.cons _ (.refl _),?_⟩
      rw [negS_eq,negN,ifF hc1,ifF hc2,ifF hc3,ifF hc4,if_pos hc5];rfl
     ·
      refine Qsr (Qp Qceq (Qp Qab (Qnn (Qif (fun hc6=>?_) fun hc6=>?_))))
      ·
       refine Qsr (Qp Qf5 (Qp Qf5 (Qp Qli (Qp Qceq (Qnn (Qif (fun hc7=>?_) fun hc7=>?_))))))
       ·
        refine Qsr (Qp Qf5 (Qp Qf6 (Qp Qli (Qp Qceq ?_))))
        refine Qp (Qc rfl (d_truth _)) ?_
        refine Qe (E_store (k:=0) (v:=.agg _) (cs':=[.int .i64 _,_,.int .i64 _,.int .i64 _,.int .i64 _,.int .i64 _,.int .i64 _,.str _]) (H2:=_::_) tok rfl rfl rfl rfl (rfl) rfl rfl rfl rfl) ?_
        rintro _ _ ⟨rfl,rfl⟩
        refine Qnn (AW.ret (blkR (thenR ?_)))
        refine ⟨.inr rfl,[.agg [.int .i64 _,_,.int .i64 _,.int .i64 _,.int .i64 _,.int .i64 _,.int .i64 _,.str _]],.cons (.box _ _ _ 0 _ _ _ _ rfl rfl rfl rfl rfl rfl) <| .nil,.cons _ (.refl _),?_⟩
        rw [negS_eq,negN,ifF hc1,ifF hc2,ifF hc3,ifF hc4,ifF hc5,if_pos (by rw [hc6,hc7];rfl)];rfl
       ·
        refine AW.skip (blkN (thenN (Qsr (Qp Qle ?_))))
        refine Qp (P_buildSlice (es:=[[.int .i64 _,_,.int .i64 _,.int .i64 _,.int .i64 _,.int .i64 _,.int .i64 _,.str _]]) tok rfl rfl rfl rfl rfl rfl rfl rfl rfl) ?_
        refine Qp (Qbd [.int .i64 _,_,.int .i64 _,.int .i64 _,.int .i64 _,.int .i64 _,.int .i64 _,.str _]) ?_
        refine Qe (E_store (k:=0) (v:=.agg _) (cs':=[.int .i64 _,_,.int .i64 _,.int .i64 _,.int .i64 _,.int .i64 _,.int .i64 _,.str _]) (H2:=_::_) tok rfl rfl rfl rfl (rfl) rfl rfl rfl rfl) ?_
        rintro _ _ ⟨rfl,rfl⟩
        refine Qnn (AW.ret ?_)
        refine ⟨.inr rfl,[.agg [.int .i64 _,_,.int .i64 _,.int .i64 _,.int .i64 _,.int .i64 _,.int .i64 _,.str _]],.cons (.box _ _ _ 0 _ _ _ _ rfl rfl rfl rfl rfl rfl) <| .nil,.cons _ (.refl _),?_⟩
        exact Eq.trans rfl (negS_not hc1 hc2 hc3 hc4 hc5 (by rw [hc6,hc7];rfl)).symm
      ·
       refine AW.skip (blkN (thenN (Qsr (Qp Qle ?_))))
       refine Qp (P_buildSlice (es:=[[.int .i64 _,_,.int .i64 _,.int .i64 _,.int .i64 _,.int .i64 _,.int .i64 _,.str _]]) tok rfl rfl rfl rfl rfl rfl rfl rfl rfl) ?_
       refine Qp (Qbd [.int .i64 _,_,.int .i64 _,.int .i64 _,.int .i64 _,.int .i64 _,.int .i64 _,.str _]) ?_
       refine Qe (E_store (k:=0) (v:=.agg _) (cs':=[.int .i64 _,_,.int .i64 _,.int .i64 _,.int .i64 _,.int .i64 _,.int .i64 _,.str _]) (H2:=_::_) tok rfl rfl rfl rfl (rfl) rfl rfl rfl rfl) ?_
       rintro _ _ ⟨rfl,rfl⟩
       refine Qnn (AW.ret ?_)
       refine ⟨.inr rfl,[.agg [.int .i64 _,_,.int .i64 _,.int .i64 _,.int .i64 _,.int .i64 _,.int .i64 _,.str _]],.cons (.box _ _ _ 0 _ _ _ _ rfl rfl rfl rfl rfl rfl) <| .nil,.cons _ (.refl _),?_⟩
       exact Eq.trans rfl (negS_not hc1 hc2 hc3 hc4 hc5 (by rw [hc6];rfl)).symm
theorem d_Negate (e:Ex)(hs:sizeN e≤1048576):APure Tryz.prog 18 [.agg (cE e)] (.tuple [.agg (cE (NegateS e).1),.int .i64 (NegateS e).2]):=by
 refine APure.body (n:=22) tok Tryz.func18 rfl rfl rfl fun H=>?_
 refine Qsr (Qp Qbe ?_)
 refine Qe (E_alloc (l:=[.int .i64 0,.sl 8 [],.int .i64 0,.int .i64 0,.int .i64 0,.int .i64 0,.int .i64 0,.str []]) (by kernel_rfl)) ?_
 rintro _ _ ⟨b2,rfl,rfl⟩
 refine Qp Qai (Qnn (AW.seq (Qsr (Qp Qle ?_))))
 refine Qp (Qc rfl (c21 e hs)) ?_
 refine Qp Qai (Qns (Qp Qmi (Qp Qcne (Qnn (Qif (fun hc1=>?_) fun hc1=>?_)))))
 ·
  refine Qsr (Qp (Qbd [.int .i64 _,_,.int .i64 _,.int .i64 _,.int .i64 _,.int .i64 _,.int .i64 _,.str _]) (Qp Qmi ?_))
  refine Qe (E_store (k:=0) (v:=.agg _) (cs':=[.int .i64 _,_,.int .i64 _,.int .i64 _,.int .i64 _,.int .i64 _,.int .i64 _,.str _]) (H2:=_::_) tok rfl rfl rfl rfl (rfl) rfl rfl rfl rfl) ?_
  rintro _ _ ⟨rfl,rfl⟩
  refine Qp Qai (Qnn (Qrt ?_))
  refine ⟨.inr rfl,[.agg [.int .i64 _,_,.int .i64 _,.int .i64 _,.int .i64 _,.int .i64 _,.int .i64 _,.str _],.int .i64 _],.cons (.box _ _ _ 0 _ _ _ _ rfl rfl rfl rfl rfl rfl) <| .cons (.tmp _ _ rfl) <| .nil,.cons _ (.refl _),?_⟩
  rw [NegateS,if_pos hc1];rfl
 ·
  have hn:=check_nodes' hc1
  have hsz:sizeN (negS e)≤1048576:=by have:=neg_size e hn;have:=check_size hc1;omega
  refine Qst (Qsr (Qp Qle ?_))
  refine Qp (Qc rfl (d_neg e hn)) ?_
  refine Qe (E_alloc (l:=[.int .i64 0,.sl 8 [],.int .i64 0,.int .i64 0,.int .i64 0,.int .i64 0,.int .i64 0,.str []]) (by kernel_rfl)) ?_
  rintro _ _ ⟨b5,rfl,rfl⟩
  refine Qe (E_store (k:=0) (v:=.agg _) (cs':=[.int .i64 _,_,.int .i64 _,.int .i64 _,.int .i64 _,.int .i64 _,.int .i64 _,.str _]) (H2:=_::_::_) tok rfl rfl rfl rfl (rfl) rfl rfl rfl rfl) ?_
  rintro _ _ ⟨rfl,rfl⟩
  refine AOL.ghost (GS.freeze (t:=5) 0 rfl rfl) ?_
  refine Qnn (AW.seq (Qsr (Qp Qle ?_)))
  refine Qp (Qc rfl (c21 _ hsz)) ?_
  refine Qp Qai (Qns (Qp Qmi (Qp Qcne (Qnn (Qif (fun hc2=>?_) fun hc2=>?_)))))
  ·
   refine Qsr (Qp (Qbd [.int .i64 _,_,.int .i64 _,.int .i64 _,.int .i64 _,.int .i64 _,.int .i64 _,.str _]) (Qp Qmi ?_))
   refine Qe (E_store (k:=0) (v:=.agg _) (cs':=[.int .i64 _,_,.int .i64 _,.int .i64 _,.int .i64 _,.int .i64 _,.int .i64 _,.str _]) (H2:=_::_) tok rfl rfl rfl rfl (rfl) rfl rfl rfl rfl) ?_
   rintro _ _ ⟨rfl,rfl⟩
   refine Qp Qai (Qnn (Qrt ?_))
   refine ⟨.inr rfl,[.agg [.int .i64 _,_,.int .i64 _,.int .i64 _,.int .i64 _,.int .i64 _,.int .i64 _,.str _],.int .i64 _],.cons (.box _ _ _ 0 _ _ _ _ rfl rfl rfl rfl rfl rfl) <| .cons (.tmp _ _ rfl) <| .nil,.cons _ (.refl _),?_⟩
   rw [NegateS,ifF hc1,if_pos hc2];rfl
  ·
   refine Qst (Qsr (Qp Qle ?_))
   refine Qe (E_store (k:=0) (v:=.agg _) (cs':=[.int .i64 _,_,.int .i64 _,.int .i64 _,.int .i64 _,.int .i64 _,.int .i64 _,.str _]) (H2:=_::_) tok rfl rfl rfl rfl (rfl) rfl rfl rfl rfl) ?_
   rintro _ _ ⟨rfl,rfl⟩
   refine Qp Qai (Qnn (AW.ret ?_))
   refine ⟨.inr rfl,[.agg [.int .i64 _,_,.int .i64 _,.int .i64 _,.int .i64 _,.int .i64 _,.int .i64 _,.str _],.int .i64 _],.cons (.box _ _ _ 0 _ _ _ _ rfl rfl rfl rfl rfl rfl) <| .cons (.tmp _ _ rfl) <| .nil,.cons _ (.refl _),?_⟩
   rw [NegateS,ifF hc1,ifF hc2];rfl
end Go.Proofs.YtkddpedfbicbeaaGreatDoor
