/-
  Several texts in one: Y8d, Y9b, Y10, Y11, Y12. No condition.
-/
import Derived.Test.YtkddpedfbicbeaaGreatDoorK01
import Derived.Test.YtkddpedfbicbeaaGreatDoorK10
import Derived.Test.YtkddpedfbicbeaaGreatDoorK16
import Derived.KernelRfl
import Derived.Test.YtkddpedfbicbeaaGreatDoorK11
set_option linter.unusedVariables false
set_option linter.unusedSimpArgs false
namespace Go.Proofs.YtkddpedfbicbeaaGreatDoor
open Go Go.Aw
set_option maxHeartbeats 1600000
set_option maxRecDepth 20000

theorem f_SolveY (n:Nat)(bs:List Bd)(hm:∀b∈bs,-big≤b.most∧b.most≤big)(hW:(zoneE (zn n bs) != 0)=false→decide ((endS (zn n bs)).2<0)=false→walkOK n bs=true)(hE:decide ((endS (zn n bs)).2<0)=true):APure Tryz.prog 145 [.agg (cZn (zn n bs))] (.tuple [.bool (SolveD (zn n bs)).ok,.sl 1 ((SolveD (zn n bs)).values.map cI),.junk,.int .i64 (SolveD (zn n bs)).err]):=by
 refine APure.body (n:=41) tok Tryz.func145 rfl rfl rfl fun H=>?_
 refine Qsr (Qp (Qbx [.int .i64 _,_]) (Qp Qab (Qp Qav (Qp Qav (Qp Qai (Qnn (AW.seq (Qsr (Qp (Qlg [.int .i64 _,_]) ?_)))))))))
 refine Qp (Qc rfl (f_Check (zn n bs))) ?_
 refine Qp Qai (Qns (Qp Qmi (Qp Qcne (Qnn (Qif (fun hc1=>?_) fun hc1=>?_)))))
 ·
  refine Qsr (Qp Qmi (Qp Qab ?_))
  refine Qp (P_assign_nil (z:=1) rfl) ?_
  refine Qp (P_assign_nil (z:=1) rfl) ?_
  refine Qp Qai ?_
  refine AOL.ghost (GS.weaken (sl':=[(2,_),(3,_),(5,_)]) ⟨rfl,rfl,rfl,trivial⟩ (.refl _)) ?_
  refine Qnn (Qrt ?_)
  refine ⟨.inr rfl,[.bool _,.sl _ _,.junk,.int .i64 _],.cons (.tmp _ _ rfl) <| .cons (.tmp _ _ rfl) <| .cons (.tmp _ _ rfl) <| .cons (.tmp _ _ rfl) <| .nil,.refl _,?_⟩
  exact Eq.trans rfl (congrArg (fun q:So=>AV.tuple [.bool q.ok,.sl 1 (q.values.map cI),.junk,.int .i64 q.err]) (Solve_1 hc1)).symm
 ·
  have hz:=zn_ok hc1 hm
  have hn1:=hz.n1
  have hn64:=hz.n64
  have hok:=end_ok hz
  have hi0:=hok.ix (Int.le_refl 0) (by omega)
  refine Qst (Qsr (Qp (Qlg [.int .i64 _,_]) ?_))
  refine Qe (E_callf (by kernel_rfl) rfl rfl ((f_solve n bs hz (fun h=>absurd (hE.symm.trans h) (by decide)) _).mono' (fun r K h=>Eq.mp (if_pos hE) h))) ?_
  rintro _ _ ⟨b18,rfl,rfl⟩
  refine Qp Qmu (Qp Qxv (Qp Qxv (Qp Qav (Qp Qav (Qnn (AW.seq (Qsr (Qp Qmv ?_))))))))
  refine Qp (P_neqNil0 tok rfl rfl rfl) ?_
  refine Qnn (Qif (fun hc2=>?_) fun hc2=>?_)
  ·
   cases hc2
  ·
   refine Qst (Qsr (Qp Qmv ?_))
   refine Qp (P_indexAddr_val tok rfl rfl rfl rfl rfl (Int.le_refl 0) (by omega) (rfl)) ?_
   refine AOL.pk (P_load_box (k:=0) (c:=.int .i64 (ixI (endS (zn n bs)).1.sums 0)) tok rfl rfl rfl (bI_at (Int.le_refl 0) (by rw [hok.s];omega))) rfl rfl ?_
   refine Qp Qai (Qnn (AW.seq (Qsr (Qp Qmv ?_))))
   refine Qp (P_len_val tok rfl rfl rfl) ?_
   refine Qp Qmi (Qnn (AW.block ?_))
   refine AW.loopS (fun (p:Nat)=>(⟨[(7,.val (.slice (some ⟨b18,0,none⟩) n n)),(9,.int .i64 (ixI (endS (zn n bs)).1.sums 0)),(28,.int .i64 (n:Int)),(29,.int .i64 (p:Int))],.box b18 3 (bI (subL (endS (zn n bs)).1.sums p))::H,41⟩:St)) (fun (p:Nat)=>p≤n) (fun (p:Nat)=>n-p) (0) ?_ (GS.weaken ⟨rfl,rfl,rfl,rfl,trivial⟩ (.refl _)) ?_
   · exact Nat.zero_le _
   ·
    rintro p hR
    refine Qsr (Qp Qclt (Qnn (AW.seq (Qif (fun hc3=>?_) fun hc3=>?_))))
    ·
     have hlt:p<n:=by have:=of_decide_eq_true hc3;omega
     have hi1:=hok.ix (k:=(p:Int)) (by omega) (by omega)
     refine Qst (AW.seq (AW.block (Qsr (Qp Qmi (Qp Qai (Qnn (AW.region (Qp Qmv (Qp Qmi ?_)))))))))
     refine Qp (P_indexAddr_val (o':=(p:Int).toNat) tok rfl rfl rfl rfl rfl (by omega) (by omega) (off0 _)) ?_
     refine AOL.pk (P_load_box (k:=0) (c:=.int .i64 (ixI (endS (zn n bs)).1.sums (p:Int))) tok rfl rfl rfl ((bI_at (k:=(p:Int)) (by omega) (by rw [subL_len (by rw [hok.s];omega),hok.s];omega)).trans (congrArg (fun v=>some (AV.int .i64 v)) (subL_at (by rw [hok.s];exact hlt))))) rfl rfl ?_
     refine Qp Qmi ?_
     refine Qp (P_sub rfl rfl rfl (by constructor <;> omega)) ?_
     refine Qp (P_indexAddr_val (o':=p) tok rfl rfl rfl rfl rfl (by omega) (by omega) (off0 _)) ?_
     refine Qe (E_store (k:=0) (v:=.int .i64 _) (cs':=bI (subL (endS (zn n bs)).1.sums (p+1))) (H2:=_::_) tok rfl rfl rfl rfl rfl rfl (bI_fits (by rw [subL_len (by rw [hok.s];omega),hok.s];exact hlt)) ((bI_set (by rw [subL_len (by rw [hok.s];omega),hok.s];exact hlt)).trans (congrArg bI (subL_set (by rw [hok.s];exact hlt)))) rfl) ?_
     rintro _ _ ⟨rfl,rfl⟩
     refine AOL.nil (blkN (thenN (AW.region (Qp Qad (Qp Qmi (Qnn ?_))))))
     refine ⟨p+1,?_,?_,GS.weaken ⟨rfl,rfl,rfl,rfl,trivial⟩ (.refl _)⟩
     · exact hlt
     · omega
    ·
     have hkn:(endS (zn n bs)).1.sums.length≤p:=by rw [hok.s];have:=of_decide_eq_false hc3;omega
     refine AW.exit ?_
     refine thenE (thenE (blkHit (thenN (Qsr (Qp Qmv (Qp Qab (Qp Qav (Qp Qav (Qp Qai ?_)))))))))
     refine AOL.ghost (GS.freezeSl (t:=3) (z:=1) (es:=((endS (zn n bs)).1.sums.map (fun v=>v-ixI (endS (zn n bs)).1.sums 0)).map cI) 0 rfl rfl ((bI_flat _).trans (congrArg bI (subL_full hkn).symm)) (by rw [List.length_map,List.length_map];exact hok.s.symm) (Nat.le_refl _) (by unfold maxLen;omega) (one_each (fun _=>rfl) _) slot_is) ?_
     refine AOL.ghost (GS.weaken (sl':=[(2,_),(3,_),(5,_)]) ⟨rfl,rfl,rfl,trivial⟩ (.refl _)) ?_
     refine Qnn (AW.ret ?_)
     refine ⟨.inr rfl,[.bool _,.sl _ _,.junk,.int .i64 _],.cons (.tmp _ _ rfl) <| .cons (.tmp _ _ rfl) <| .cons (.tmp _ _ rfl) <| .cons (.tmp _ _ rfl) <| .nil,.refl _,?_⟩
     exact Eq.trans rfl (congrArg (fun q:So=>AV.tuple [.bool q.ok,.sl 1 (q.values.map cI),.junk,.int .i64 q.err]) (Solve_2 hc1 hE)).symm
theorem f_SolveN (n:Nat)(bs:List Bd)(hm:∀b∈bs,-big≤b.most∧b.most≤big)(hW:(zoneE (zn n bs) != 0)=false→decide ((endS (zn n bs)).2<0)=false→walkOK n bs=true)(hE:decide ((endS (zn n bs)).2<0)=false):APure Tryz.prog 145 [.agg (cZn (zn n bs))] (.tuple [.bool (SolveD (zn n bs)).ok,.sl 1 ((SolveD (zn n bs)).values.map cI),.junk,.int .i64 (SolveD (zn n bs)).err]):=by
 refine APure.body (n:=41) tok Tryz.func145 rfl rfl rfl fun H=>?_
 refine Qsr (Qp (Qbx [.int .i64 _,_]) (Qp Qab ?_))
 refine Qp (P_assign_nil (z:=1) rfl) ?_
 refine Qp (P_assign_nil (z:=1) rfl) ?_
 refine Qp Qai (Qnn (AW.seq (Qsr (Qp (Qlg [.int .i64 _,_]) ?_))))
 refine Qp (Qc rfl (f_Check (zn n bs))) ?_
 refine Qp Qai (Qns (Qp Qmi (Qp Qcne (Qnn (Qif (fun hc1=>?_) fun hc1=>?_)))))
 ·
  refine Qsr (Qp Qmi (Qp Qab ?_))
  refine Qp (P_assign_nil (z:=1) rfl) ?_
  refine Qp (P_assign_nil (z:=1) rfl) ?_
  refine Qp Qai ?_
  refine AOL.ghost (GS.weaken (sl':=[(2,_),(3,_),(5,_)]) ⟨rfl,rfl,rfl,trivial⟩ (.refl _)) ?_
  refine Qnn (Qrt ?_)
  refine ⟨.inr rfl,[.bool _,.sl _ _,.junk,.int .i64 _],.cons (.tmp _ _ rfl) <| .cons (.tmp _ _ rfl) <| .cons (.tmp _ _ rfl) <| .cons (.tmp _ _ rfl) <| .nil,.refl _,?_⟩
  exact Eq.trans rfl (congrArg (fun q:So=>AV.tuple [.bool q.ok,.sl 1 (q.values.map cI),.junk,.int .i64 q.err]) (Solve_1 hc1)).symm
 ·
  have hz:=zn_ok hc1 hm
  refine Qst (Qsr (Qp (Qlg [.int .i64 _,_]) ?_))
  refine Qe (E_callf (by kernel_rfl) rfl rfl ((f_solve n bs hz (fun h=>hW hc1 h) _).mono' (fun r K h=>Eq.mp (if_neg (by rw [hE];decide)) h))) ?_
  rintro _ _ ⟨es,hne,rfl,rfl⟩
  refine Qp Qmu (Qp Qxv (Qp Qxs (Qp Qav (Qp Qas (Qnn (AW.seq (Qsr (Qp Qms ?_))))))))
  refine Qp (P_neqNil1 tok rfl hne rfl rfl) ?_
  refine Qnn (Qif (fun hc2=>?_) fun hc2=>?_)
  ·
   refine Qsr (Qp Qms (Qp Qab ?_))
   refine Qp (P_assign_nil (z:=1) rfl) ?_
   refine Qp Qas (Qp Qai ?_)
   refine AOL.ghost (GS.weaken (sl':=[(2,_),(3,_),(5,_)]) ⟨rfl,rfl,rfl,trivial⟩ (.refl _)) ?_
   refine Qnn (Qrt ?_)
   refine ⟨.inr rfl,[.bool _,.sl _ _,.junk,.int .i64 _],.cons (.tmp _ _ rfl) <| .cons (.tmp _ _ rfl) <| .cons (.tmp _ _ rfl) <| .cons (.tmp _ _ rfl) <| .nil,.refl _,?_⟩
   exact Eq.trans rfl (congrArg (fun q:So=>AV.tuple [.bool q.ok,.sl 1 (q.values.map cI),.junk,.int .i64 q.err]) (Solve_3 hc1 hE)).symm
  ·
   cases hc2
theorem f_Solve (n:Nat)(bs:List Bd)(hm:∀b∈bs,-big≤b.most∧b.most≤big)(hW:(zoneE (zn n bs) != 0)=false→decide ((endS (zn n bs)).2<0)=false→walkOK n bs=true):APure Tryz.prog 145 [.agg (cZn (zn n bs))] (.tuple [.bool (SolveD (zn n bs)).ok,.sl 1 ((SolveD (zn n bs)).values.map cI),.junk,.int .i64 (SolveD (zn n bs)).err]):=by
 cases hE:decide ((endS (zn n bs)).2<0) with
 | true=>exact f_SolveY n bs hm hW hE
 | false=>exact f_SolveN n bs hm hW hE

set_option maxHeartbeats 1600000
set_option maxRecDepth 20000

theorem d_strings (T:List Sc)(V:List Va)(l:List Lit)(hlk:LOK T V l)(H:List HO):ACall Tryz.prog 144 H [.agg (cScene T V),.sl 9 (l.map cLit)] (fun r H'=>∃m,r = .tuple [.val (.map (some m)),.bool (stringsS T V l).2]∧H' = .kmap m (wE (stringsS T V l).1)::H):=by
 refine ACall.body (n:=20) tok Tryz.func144 rfl rfl rfl ?_
 refine Qsr (Qp (Qbx [_,_]) ?_)
 refine Qp (P_box (v:=.sl _ _) (cs:=[_]) rfl rfl rfl) ?_
 refine Qp Qav (Qp Qab (Qns ?_))
 refine Qe (E_makeKMap) ?_
 rintro _ _ ⟨b9,rfl,rfl⟩
 refine Qe (E_alloc (l:=[.val (.map none)]) (by kernel_rfl)) ?_
 rintro _ _ ⟨b6,rfl,rfl⟩
 refine Qe (E_store (k:=0) (v:=.val _) (cs':=[_]) (H2:=_::_::_) tok rfl rfl rfl rfl (rfl) rfl rfl rfl rfl) ?_
 rintro _ _ ⟨rfl,rfl⟩
 refine Qns ?_
 refine Qp (P_makeFunc (l:=[]) (l':=[.ptr _,.ptr _,.val _]) rfl rfl) ?_
 refine Qp (P_assign (v:=.fn _ _ _) rfl) ?_
 refine Qns ?_
 refine Qp (P_move (v:=.fn _ _ _) rfl) ?_
 refine Qp (P_makeFunc (l:=[]) (l':=[.val _]) rfl rfl) ?_
 refine Qe (E_call (by kernel_rfl) rfl rfl rfl (ACall.front2 (R:=_) 1 0 rfl rfl rfl (d_eachT T V l hlk b6 b9 _))) ?_
 rintro _ _ ⟨rfl,rfl⟩
 refine Qp Qab (Qnn (AW.seq ?_))
 refine AW.draw mixed (fun H'=>_∈H') (List.mem_of_getElem? (i:=0) rfl) (by kernel_rfl) ?_
 refine Qn 0 rfl (OpP.mem (fun k=>P_load_box (k:=k) (c:=.val _) tok rfl rfl rfl rfl) (fun _ h=>h)) ?_
 refine Qn 1 rfl Qmb (Qn 2 rfl Qmb ?_)
 refine Canon.pure _ _ 3 _ _ rfl (by kernel_rfl) (by kernel_rfl) rfl (.opt _ (.fn _ _ _) [] rfl (EntL.all trivial) (fun hG=>P_move (v:=.fn _ _ _) rfl) rfl) ?_
 refine Canon.effg _ _ 4 _ _ [(17,_)] _ _ rfl (by kernel_rfl) rfl rfl (EntL.all ⟨Ent.self _ _,trivial⟩) (fun hG=>E_call (by kernel_rfl) rfl rfl rfl (ACall.front2 (R:=_) 1 0 rfl rfl rfl (d_eachF T V l hlk b6 b9 (eqGo T V l []).1 (eqGo_ok l [] wOK_nil) _))) (fun hG=>rfl) (List.mem_of_getElem? (i:=0) rfl) ?_
 refine Qn 5 rfl Qpa (Qn 6 rfl Qav (Qn 7 rfl Qab ?_))
 refine Canon.done _ _ (by kernel_rfl) ?_
 refine thenN (AW.ret ?_)
 refine ⟨.inr rfl,[.val _,.bool _],.cons (.tmp _ _ rfl) <| .cons (.tmp _ _ rfl) <| .nil,_,.cons _ (.refl _),?_⟩
 exact ⟨b9,rfl,rfl⟩
theorem f_SolveZ (T:List Sc)(V:List Va)(l:List Lit)(hlk:LOK T V l)(hs:SOLV T V l):APure Tryz.prog 145 [.agg (cZn (zoneS T V l))] (.tuple [.bool (SolveD (zoneS T V l)).ok,.sl 1 ((SolveD (zoneS T V l)).values.map cI),.junk,.int .i64 (SolveD (zoneS T V l)).err]):=
 f_Solve (zN T V l) (zoneS T V l).bs (zone_most hlk) hs
theorem d_solve (T:List Sc)(V:List Va)(l:List Lit)(hlk:LOK T V l)(hll:l.length≤4096)(hs:SOLV T V l)(H:List HO):ACall Tryz.prog 103 H [.agg (cScene T V),.sl 9 (l.map cLit)] (fun r H'=>∃m mo,(fitsS (zoneS T V l)=true→mo=some m)∧r = .tuple [.agg [.ptr (cSy T V l),.sl 1 ((solV T V l).map cI),.val (.map mo)],.bool (solK T V l)]∧H' = .kmap m (wE (stringsS T V l).1)::H):=by
 refine ACall.body (n:=45) tok Tryz.func103 rfl rfl rfl ?_
 refine Qsr (Qp (Qbx [_,_]) ?_)
 refine Qe (E_alloc (l:=[.val (.pointer none),.sl 1 [],.val (.map none)]) (by kernel_rfl)) ?_
 rintro _ _ ⟨b4,rfl,rfl⟩
 refine Qp Qab (Qns (Qp (Qlg [_,_]) (Qp Qms ?_)))
 refine Qp (Qc rfl (d_system T V l hll hlk)) ?_
 refine Qp Qap (Qns (Qp (Qlg [_,_]) (Qp Qms ?_)))
 refine Qe (E_callf (by kernel_rfl) rfl rfl (d_strings T V l hlk _)) ?_
 rintro _ _ ⟨m,rfl,rfl⟩
 refine Qp Qmu (Qp Qxv (Qp Qxb (Qp Qav (Qp Qab (Qnn (AW.seq (Qsr (Qp Qmp ?_))))))))
 refine Qp (Qc rfl (d_fits T V l)) ?_
 refine Qp Qnt (Qnn (Qif (fun hc1=>?_) fun hc1=>?_))
 ·
  refine Qsr (Qp Qmp (Qp (Qbd [_,_,_]) ?_))
  refine Qe (E_store (k:=1) (v:=.agg _) (cs':=[_,_,_]) (H2:=_::_::_) tok rfl rfl rfl rfl (rfl) rfl rfl rfl rfl) ?_
  rintro _ _ ⟨rfl,rfl⟩
  refine Qp Qab (Qnn (Qrt ?_))
  refine ⟨.inr rfl,[.agg [_,_,_],.bool _],.cons (.box _ _ _ 1 _ _ _ _ rfl rfl rfl rfl rfl rfl) <| .cons (.tmp _ _ rfl) <| .nil,_,.cons_cons _ (.cons _ (.refl _)),?_⟩
  exact ⟨m,_,fun h=>absurd ((Bool.not_eq_true' _).mp hc1) (by rw [h];decide),Eq.trans rfl (congrArg (fun q:List Int×Bool=>AV.tuple [.agg [.ptr (cSy T V l),.sl 1 (q.1.map cI),.val (.map none)],.bool q.2]) (Prod.ext (solV_1 hc1) (solK_1 hc1):(solV T V l,solK T V l)=([],true))).symm,rfl⟩
 ·
  refine Qst (Qsr (Qp Qmp ?_))
  refine Qp (P_nilCheck_ptr rfl) ?_
  refine Qp (Qf [.int .i64 _,_,_,_]) (Qp (Qlg [.int .i64 _,_]) ?_)
  refine Qp (Qc rfl (f_SolveZ T V l hlk hs)) ?_
  refine Qp Qmu (Qp Qxb (Qp Qxs ?_))
  refine Qp (P_extract (v:=.junk) rfl rfl) ?_
  refine Qp Qxi (Qp Qab (Qp Qas ?_))
  refine Qp (P_assign (v:=.junk) rfl) ?_
  refine Qp Qai (Qns (Qp Qmp (Qp Qms (Qp Qmv (Qp (Qbd [_,_,_]) (Qp Qmb (Qp Qmb (Qg [] Qw Qmb (Qp Qpa ?_)))))))))
  refine Qe (E_store (k:=1) (v:=.agg _) (cs':=[_,_,_]) (H2:=_::_::_) tok rfl rfl rfl rfl (rfl) rfl rfl rfl rfl) ?_
  rintro _ _ ⟨rfl,rfl⟩
  refine Qp Qab (Qnn (AW.ret ?_))
  refine ⟨.inr rfl,[.agg [_,_,_],.bool _],.cons (.box _ _ _ 1 _ _ _ _ rfl rfl rfl rfl rfl rfl) <| .cons (.tmp _ _ rfl) <| .nil,_,.cons_cons _ (.cons _ (.refl _)),?_⟩
  exact ⟨m,_,fun _=>rfl,Eq.trans rfl (congrArg (fun q:List Int×Bool=>AV.tuple [.agg [.ptr (cSy T V l),.sl 1 (q.1.map cI),.val (.map (some m))],.bool q.2]) (Prod.ext (solV_2 hc1) (solK_2 hc1):(solV T V l,solK T V l)=(_,_))).symm,rfl⟩
theorem d_certain (T:List Sc)(V:List Va)(l:List Lit)(hlk:LOK T V l)(hll:l.length≤1048576)(v:List Int)(mo:Option Nat):APure Tryz.prog 104 [.agg (cScene T V),.sl 9 (l.map cLit),.agg [.ptr (cSy T V l),.sl 1 (v.map cI),.val (.map mo)]] (.bool (certS T V l)):=by
 refine APure.body (n:=29) tok Tryz.func104 rfl rfl rfl fun H=>?_
 refine Qsr (Qp (Qbx [_,_]) (Qp (Qbx [_,_,_]) (Qp Qab (Qnn (AW.seq (Qsr (Qp Qms ?_)))))))
 refine Qp (P_len_sl (n:=l.length) tok rfl rfl rfl (by simp)) ?_
 refine Qp Qmi (Qnn (AW.block ?_))
 refine AW.loopS (fun (k:Nat)=>(⟨[(1,.sl 9 (l.map cLit)),(3,.ptr (cScene T V)),(5,.ptr [.ptr (cSy T V l),.sl 1 (v.map cI),.val (.map mo)]),(9,.sl 9 (l.map cLit)),(10,.int .i64 l.length),(11,.int .i64 (k:Int))],H,29⟩:St)) (fun (k:Nat)=>k≤l.length∧(l.take k).all (fun c=>simpleS T V c.cond)=true) (fun (k:Nat)=>l.length-k) (0) ?_ (GS.weaken ⟨rfl,rfl,rfl,rfl,rfl,rfl,trivial⟩ (.refl _)) ?_
 · simp
 ·
  rintro k hR
  refine Qsr (Qp Qclt (Qnn (AW.seq (Qif (fun hc1=>?_) fun hc1=>?_))))
  ·
   obtain ⟨c,hc⟩:=get_lt hc1
   have hlt:=get_lt' hc
   have hcm:=List.mem_of_getElem? hc
   have hck:=(hlk c hcm).1
   have hcs:=Nat.le_trans (hlk c hcm).2 (by decide:64≤1048576)
   refine Qst (AW.seq (AW.block (Qsr ?_)))
   refine Qp (P_indexAddr (c:=[.int .i64 _,_,.int .i64 _,.int .i64 _,.int .i64 _,.int .i64 _,.int .i64 _,.str _,.bool _]) tok rfl rfl rfl rfl rfl rfl (by omega) (map_at hc)) ?_
   refine Qp (Qlg [.int .i64 _,_,.int .i64 _,.int .i64 _,.int .i64 _,.int .i64 _,.int .i64 _,.str _,.bool _]) ?_
   refine Qe (E_alloc (l:=[.int .i64 0,.sl 8 [],.int .i64 0,.int .i64 0,.int .i64 0,.int .i64 0,.int .i64 0,.str [],.bool false]) (by kernel_rfl)) ?_
   rintro _ _ ⟨b8,rfl,rfl⟩
   refine Qe (E_store (k:=0) (v:=.agg _) (cs':=[.int .i64 _,_,.int .i64 _,.int .i64 _,.int .i64 _,.int .i64 _,.int .i64 _,.str _,.bool _]) (H2:=_::_) tok rfl rfl rfl rfl (rfl) rfl rfl rfl rfl) ?_
   rintro _ _ ⟨rfl,rfl⟩
   refine AOL.ghost (GS.freeze (t:=8) 0 rfl rfl) ?_
   refine Qns (Qp (Qlg [_,_]) (Qp (Qf [.int .i64 _,_,.int .i64 _,.int .i64 _,.int .i64 _,.int .i64 _,.int .i64 _,.str _,.bool _]) (Qp Qle ?_)))
   refine Qp (Qc rfl (d_simple T V c.cond hck hcs)) ?_
   refine Qp Qnt (Qnn (Qif (fun hc2=>?_) fun hc2=>?_))
   ·
    refine Qsr (Qp Qab (Qnn (AW.ret (blkR (thenR (thenR (blkR (thenR ?_))))))))
    refine Qr (.bool _) ?_
    exact Eq.trans rfl (congrArg AV.bool (cert_no hc ((Bool.not_eq_true' _).mp hc2))).symm
   ·
    refine AW.skip (blkN (thenN (AW.region (Qp Qad (Qp Qmi (Qnn ?_))))))
    refine ⟨k+1,?_,?_,GS.weaken ⟨rfl,rfl,rfl,rfl,rfl,rfl,trivial⟩ (.refl _)⟩
    · exact ⟨hlt,by rw [take_get hc,List.all_append,hR.2];simpa using hc2⟩
    · omega
  ·
   have hte:=take_end hc1
   have hall:=hR.2
   rw [hte] at hall
   refine AW.exit ?_
   refine thenE (thenE (blkHit (thenN (Qsr (Qp (Qf [_,_,_]) (Qp Qlp ?_))))))
   refine Qp (Qc rfl (d_fits T V l)) ?_
   refine Qp Qmb (Qg [] Qw Qms ?_)
   refine AOL.g (y:=.int .i64 _) _ [(25,_)] rfl (EntL.all ⟨Ent.self _ _,trivial⟩) (fun hG=>P_len_sl (n:=l.length) tok rfl rfl rfl (by simp)) rfl ?_
   refine Qg [(26,_)] Qw Qclq (Qp Qpa (Qp Qab (Qnn (AW.ret ?_))))
   refine Qr (.bool _) ?_
   exact Eq.trans rfl (congrArg AV.bool (cert_all hall)).symm

set_option maxHeartbeats 1600000
set_option maxRecDepth 20000

theorem d_events1 (T:List Sc)(V:List Va)(bo:Nat)(v:Value)(l:Es)(hev:evOK T V (l.map Prod.fst))(t:Tm)(ht:tmOK T V t)(ho1:t.op=1)(s:Str1)(R:List HO):ACall Tryz.prog 147 (evH bo v l R) [.agg (cTm t),.str s,.val (.pointer (some ⟨bo,0,none⟩))] (fun r H'=>r = .tuple []∧H'=evH bo v (l.modify t.v.toNat fun p=>(atV p.1 t.field.toNat (fun y=>{ y with text:=s }),p.2)) R):=by
 refine ACall.body (n:=16) tok Tryz.func147 rfl rfl rfl ?_
 refine AW.ghostPost ?_
 refine Qsr (Qp (Qbx [.int .i64 _,.int .i64 _,.int .i64 _]) (Qnn ?_))
 refine (es_get hev ht).elim fun e he=>he.elim fun u hu=>?_
 have hj:=hu.1
 have hel:=hu.2.1
 have hll:=hu.2.2
 have hv0:=ht.v0
 have hv1:=ht.v1
 have hfr:=ht.f ho1
 refine (val_get ht ho1 hel).elim fun y hy=>?_
 have hyl:=get_lt' hy
 refine AW.ghost (GS.perm (ev_out hj)) ?_
 refine AW.unbuf (v:=u) (es:=e.values.map cV) (E:=28) (z:=3) 0 rfl (map_ne hy) fun bi capi Ji hui hcapi hcmi hJi hzi=>?_
 subst hui
 refine AW.unbuf (v:=v) (es:=l.map evRow) (E:=67) (z:=5) 1 rfl (map_ne hj) fun bb cap J hub hcap hcm hJ hzo=>?_
 subst hub
 have hrow:(l.map evRow)[t.v.toNat]? = some (evRow (e,.slice (some ⟨bi,0,none⟩) (e.values.map cV).length capi)):=by rw [List.getElem?_map,hj];rfl
 refine AW.draw mixed (fun H'=>_∈H'∧_∈H') ⟨(List.mem_of_getElem? (i:=2) rfl),(List.mem_of_getElem? (i:=1) rfl)⟩ (by kernel_rfl) ?_
 refine Qn 0 rfl (OpP.mem (fun k=>P_load_box (k:=k) (c:=.val _) tok rfl rfl rfl rfl) (fun _ h=>h.1)) ?_
 refine Qn 1 rfl (Qf [.int .i64 _,.int .i64 _]) (Qn 2 rfl Qli ?_)
 refine Qn 3 rfl (P_indexAddr_val (o':=t.v.toNat*5) tok rfl rfl rfl rfl rfl (hv0) (by rw [List.length_map];omega) (Nat.zero_add _)) ?_
 refine Qn 4 rfl Qfv ?_
 refine Qn 5 rfl (OpP.mem (fun k=>P_load_box (k:=k) (c:=.val (.slice (some ⟨bi,0,none⟩) (e.values.map cV).length capi)) tok rfl rfl rfl (flat_get (o:=4) (evRow_five l) hrow rfl)) (fun _ h=>h.2)) ?_
 refine Qn 6 rfl (Qf [.int .i64 _]) (Qn 7 rfl Qli (Qn 8 rfl Qmt ?_))
 refine Qn 9 rfl (P_indexAddr_val (o':=t.field.toNat*3) tok rfl rfl rfl rfl rfl (hfr.1) (by rw [List.length_map];omega) (Nat.zero_add _)) ?_
 refine Qn 10 rfl Qfv ?_
 refine Canon.last _ _ 11 _ _ rfl (by kernel_rfl) rfl rfl (E_store (k:=0) (v:=.str _) (cs':=_) (H2:=_::_::_::_) tok rfl rfl rfl rfl rfl rfl (flat_fits (o:=2) (cV_three _) (by rw [List.getElem?_map,hy];rfl) (by decide)) (flat_put (o:=2) (e:=cV y) (x:=.str s) (cV_three _) (by rw [List.getElem?_map,hy];rfl) (by decide)) rfl) (by kernel_rfl) ?_
 rintro _ _ ⟨rfl,rfl⟩
 refine ⟨_,evDone hj hy (f:=fun y=>{ y with text:=s }) rfl hcap hcm hJ hcapi hcmi hJi,.inl rfl,[],.nil,_,.refl _,?_⟩
 exact ⟨rfl,rfl⟩

set_option maxHeartbeats 6400000
set_option maxRecDepth 20000

theorem d_name (T:List Sc)(V:List Va)(l:List Lit)(hlk:LOK T V l)(hll:l.length≤4096)(m:Nat)(w:Wm)(hw:wOK w)(bo:Nat)(v:Value)(l0:Es)(hev:evOK T V (l0.map Prod.fst))(R:List HO):ACall Tryz.prog 146 (evH bo v l0 (.kmap m (wE w)::R)) [.agg (cScene T V),.sl 9 (l.map cLit),.val (.map (some m)),.fn (.func 147) [] [.val (.pointer (some ⟨bo,0,none⟩))]] (fun r H'=>∃l',l'.map Prod.fst=nameEv T V w l (l0.map Prod.fst)∧evOK T V (l'.map Prod.fst)∧r = .tuple []∧H'=evH bo v l' (.kmap m (wE w)::R)):=by
 refine ACall.perm (ev_pre (pre:=[.kmap m (wE w)])).symm ?_
 refine ACall.body (n:=126) tok Tryz.func146 rfl rfl rfl ?_
 refine AW.ghostPost ?_
 refine Qsr (Qp (Qbx [_,_]) (Qns ?_))
 refine Qe (E_makeSMap) ?_
 rintro _ _ ⟨b22,rfl,rfl⟩
 refine Qp Qav (Qns (Qp Qav ?_))
 refine AOL.ghost (GS.row (t:=9) 214 5 rfl) ?_
 refine Qnn (AW.seq (Qsr (Qp Qms ?_)))
 refine Qp (P_len_sl (n:=l.length) tok rfl rfl rfl (by simp)) ?_
 refine Qp Qmi (Qnn (AW.block ?_))
 refine AW.loopS (fun (p:Nat×Um×List Wd×Value×List (List AV))=>(⟨[(2,.val (.map (some m))),(3,.fn (.func 147) [] [.val (.pointer (some ⟨bo,0,none⟩))]),(4,.ptr (cScene T V)),(8,.val (.map (some b22))),(9,.row p.2.2.2.1 5 p.2.2.2.2),(23,.sl 9 (l.map cLit)),(24,.int .i64 l.length),(25,.int .i64 (p.1:Int))],.row p.2.2.2.1 p.2.2.2.2.length 214 5 :: .smap b22 (sE p.2.1) :: .kmap m (wE w)::evH bo v l0 R,126⟩:St)) (fun (p:Nat×Um×List Wd×Value×List (List AV))=>p.1≤l.length∧colAll T V (l.take p.1)=(p.2.1,p.2.2.1)∧(∀x∈p.2.2.1,wdOK T V x)∧p.2.1.length≤2*p.1∧p.2.2.1.length≤2*p.1∧p.2.2.2.2=p.2.2.1.map cWd) (fun (p:Nat×Um×List Wd×Value×List (List AV))=>l.length-p.1) ((0,[],[],.slice none 0 0,[])) ?_ (GS.weaken ⟨rfl,rfl,rfl,rfl,rfl,rfl,rfl,rfl,trivial⟩ (.refl _)) ?_
 · exact ⟨Nat.zero_le _,rfl,fun x hx=>(by cases hx),Nat.le_refl _,Nat.le_refl _,rfl⟩
 ·
  rintro p hR
  have hE:=hR.2.2.2.2.2
  refine Qsr (Qp Qclt (Qnn (AW.seq (Qif (fun hc1=>?_) fun hc1=>?_))))
  ·
   obtain ⟨c,hc⟩:=get_lt hc1
   have hlt:=get_lt' hc
   have hcm:=List.mem_of_getElem? hc
   have hck:=(hlk c hcm).1
   have hcs:=Nat.le_trans (hlk c hcm).2 (by decide:64≤1048576)
   refine Qst (AW.seq (AW.block (Qsr ?_)))
   refine Qp (P_indexAddr (c:=[.int .i64 _,_,.int .i64 _,.int .i64 _,.int .i64 _,.int .i64 _,.int .i64 _,.str _,.bool _]) tok rfl rfl rfl rfl rfl rfl (by omega) (map_at hc)) ?_
   refine Qp (Qlg [.int .i64 _,_,.int .i64 _,.int .i64 _,.int .i64 _,.int .i64 _,.int .i64 _,.str _,.bool _]) ?_
   refine Qe (E_alloc (l:=[.int .i64 0,.sl 8 [],.int .i64 0,.int .i64 0,.int .i64 0,.int .i64 0,.int .i64 0,.str [],.bool false]) (by kernel_rfl)) ?_
   rintro _ _ ⟨b11,rfl,rfl⟩
   refine Qe (E_store (k:=0) (v:=.agg _) (cs':=[.int .i64 _,_,.int .i64 _,.int .i64 _,.int .i64 _,.int .i64 _,.int .i64 _,.str _,.bool _]) (H2:=_::_::_::_::_::_::_) tok rfl rfl rfl rfl (rfl) rfl rfl rfl rfl) ?_
   rintro _ _ ⟨rfl,rfl⟩
   refine AOL.ghost (GS.freeze (t:=11) 0 rfl rfl) ?_
   refine Qnn (AW.seq (Qsr (Qp (Qlg [_,_]) (Qp (Qf [.int .i64 _,_,.int .i64 _,.int .i64 _,.int .i64 _,.int .i64 _,.int .i64 _,.str _,.bool _]) (Qp Qle ?_)))))
   refine Qp (Qc rfl (d_texts T V c.cond hck)) ?_
   refine Qp Qnt (Qp Qmb (Qg [] Qw (Qlg [_,_]) (Qg [] Qw (Qf [.int .i64 _,_,.int .i64 _,.int .i64 _,.int .i64 _,.int .i64 _,.int .i64 _,.str _,.bool _]) (Qg [(36,_)] Qw Qle ?_))))
   refine AOL.g (y:=.bool _) _ [(35,_),(37,_)] rfl (EntL.all ⟨Ent.self _ _,Ent.self _ _,trivial⟩) (fun hG=>P_callf (by kernel_rfl) rfl rfl (d_simple T V c.cond hck hcs)) rfl ?_
   refine Qg [(38,_)] Qw Qnt (Qp Qpo (Qnn (Qif (fun hc2=>?_) fun hc2=>?_)))
   ·
    refine AW.exit ?_
    refine thenE (blkHit (thenN (AW.region (Qp Qad (Qp Qmi (Qnn ?_))))))
    refine ⟨(p.1+1,p.2),?_,?_,GS.weaken ⟨rfl,rfl,rfl,rfl,rfl,rfl,rfl,rfl,trivial⟩ (.refl _)⟩
    · exact ⟨hlt,by unfold colAll;rw [take_get hc,List.foldl_append];exact (congrArg (fun z=>colL T V z c) hR.2.1).trans (colL_no hc2),hR.2.2.1,by have:=hR.2.2.2.1;simp only;omega,by have:=hR.2.2.2.2.1;simp only;omega,hE⟩
    · simp only;omega
   ·
    have h2a:=args_two hck hc2
    have hal:=h2a.1
    refine Qst (Qsr (Qp (Qf [.int .i64 _,_,.int .i64 _,.int .i64 _,.int .i64 _,.int .i64 _,.int .i64 _,.str _,.bool _]) (Qp (Qf [_,.int .i64 _,.int .i64 _,.int .i64 _,.int .i64 _,.int .i64 _,.str _,.bool _]) (Qp Qls ?_))))
    refine Qp (P_len_sl (n:=c.cond.args.length) tok rfl rfl rfl (by simp)) ?_
    refine Qp Qmi (Qnn (AW.block ?_))
    refine AW.loopS (fun (q:Nat×Um×List Wd×Value×List (List AV))=>(⟨[(2,.val (.map (some m))),(3,.fn (.func 147) [] [.val (.pointer (some ⟨bo,0,none⟩))]),(4,.ptr (cScene T V)),(8,.val (.map (some b22))),(9,.row q.2.2.2.1 5 q.2.2.2.2),(23,.sl 9 (l.map cLit)),(24,.int .i64 l.length),(25,.int .i64 (p.1:Int)),(43,.sl 8 (c.cond.args.map encE)),(44,.int .i64 c.cond.args.length),(45,.int .i64 (q.1:Int))],.row q.2.2.2.1 q.2.2.2.2.length 214 5 :: .smap b22 (sE q.2.1) :: .kmap m (wE w)::evH bo v l0 R,126⟩:St)) (fun (q:Nat×Um×List Wd×Value×List (List AV))=>q.1≤c.cond.args.length∧c.cond.args.foldl colA (p.2.1,p.2.2.1)=(c.cond.args.drop q.1).foldl colA (q.2.1,q.2.2.1)∧(∀x∈q.2.2.1,wdOK T V x)∧q.2.1.length≤p.2.1.length+q.1∧q.2.2.1.length≤p.2.2.1.length+q.1∧q.2.2.2.2=q.2.2.1.map cWd) (fun (q:Nat×Um×List Wd×Value×List (List AV))=>c.cond.args.length-q.1) ((0,p.2)) ?_ (GS.weaken ⟨rfl,rfl,rfl,rfl,rfl,rfl,rfl,rfl,rfl,rfl,rfl,trivial⟩ (.refl _)) ?_
    · exact ⟨Nat.zero_le _,rfl,hR.2.2.1,Nat.le_refl _,Nat.le_refl _,hE⟩
    ·
     rintro q hQ
     have hb1:=hR.2.2.2.1
     have hb2:=hR.2.2.2.2.1
     have hb3:=hQ.2.2.2.1
     have hb4:=hQ.2.2.2.2.1
     have hF:=hQ.2.2.2.2.2
     have hsc:∀c∈q.2.2.2.2,scalars c=true:=by rw [hF];exact cWd_sc _
     have hql:q.2.2.2.2.length=q.2.2.1.length:=by rw [hF];simp
     refine Qsr (Qp Qclt (Qnn (AW.seq (Qif (fun hc3=>?_) fun hc3=>?_))))
     ·
      obtain ⟨a,ha⟩:=get_lt hc3
      have hlta:=get_lt' ha
      have ham:=List.mem_of_getElem? ha
      refine Qst (AW.seq (AW.block (Qsr ?_)))
      refine Qp (P_indexAddr (c:=[.int .i64 _,_,.int .i64 _,.int .i64 _,.int .i64 _,.int .i64 _,.int .i64 _,.str _]) tok rfl rfl rfl rfl rfl rfl (by omega) (encE_at ha)) ?_
      refine Qp Qle ?_
      refine Qe (E_alloc (l:=[.int .i64 0,.sl 8 [],.int .i64 0,.int .i64 0,.int .i64 0,.int .i64 0,.int .i64 0,.str []]) (by kernel_rfl)) ?_
      rintro _ _ ⟨b13,rfl,rfl⟩
      refine Qe (E_store (k:=0) (v:=.agg _) (cs':=[.int .i64 _,_,.int .i64 _,.int .i64 _,.int .i64 _,.int .i64 _,.int .i64 _,.str _]) (H2:=_::_::_::_::_::_::_) tok rfl rfl rfl rfl (rfl) rfl rfl rfl rfl) ?_
      rintro _ _ ⟨rfl,rfl⟩
      refine AOL.ghost (GS.freeze (t:=13) 0 rfl rfl) ?_
      refine Qns (Qp Qle ?_)
      refine Qp (Qc rfl (d_asWord a)) ?_
      refine Qe (E_alloc (l:=[.bool false,.str [],.int .i64 0,.int .i64 0,.int .i64 0]) (by kernel_rfl)) ?_
      rintro _ _ ⟨b14,rfl,rfl⟩
      refine Qe (E_store (k:=0) (v:=.agg _) (cs':=[.bool _,.str _,.int .i64 _,.int .i64 _,.int .i64 _]) (H2:=_::_::_::_::_::_::_) tok rfl rfl rfl rfl (rfl) rfl rfl rfl rfl) ?_
      rintro _ _ ⟨rfl,rfl⟩
      refine AOL.ghost (GS.freeze (t:=14) 0 rfl rfl) ?_
      refine Qns (Qp Qmv (Qp (Qf [.str _,.int .i64 _,.int .i64 _,.int .i64 _]) (Qp Qlt (Qp Qmv (Qp (Qf [.str _,.int .i64 _,.int .i64 _,.int .i64 _]) (Qp Qlt ?_))))))
      refine AOL.pk (P_lookU (i:=1) tok rfl rfl rfl rfl rfl rfl (by kernel_rfl) rfl rfl) rfl rfl ?_
      refine Qp Qmb (Qg [] Qw (Qf [.bool _,.str _,.int .i64 _,.int .i64 _,.int .i64 _]) (Qg [(59,_)] Qw Qlb (Qp Qpo ?_)))
      refine Qe (E_putU (i:=1) (H2:=_::_::_::_::_::_) tok rfl rfl rfl rfl rfl rfl rfl rfl rfl) ?_
      rintro _ _ ⟨rfl,rfl⟩
      refine Qnn (AW.region ?_)
      refine Qp (P_move (v:=.row _ _ _) rfl) ?_
      refine Qp (Qlg [.bool _,.str _,.int .i64 _,.int .i64 _,.int .i64 _]) ?_
      refine Qp (P_buildSlice (es:=[[.bool _,.str _,.int .i64 _,.int .i64 _,.int .i64 _]]) tok rfl rfl rfl rfl rfl rfl rfl rfl rfl) ?_
      refine Qe (E_append (k:=0) tok rfl rfl rfl rfl rfl rfl rfl rfl (sc_one rfl) (hsc) (by simp;omega) (by simp [maxLen];omega)) ?_
      rintro _ _ ⟨v65,rfl,rfl⟩
      refine Qp (P_assign (v:=.row _ _ _) rfl) ?_
      refine AOL.nil (blkN (thenN (AW.region (Qp Qad (Qp Qmi (Qnn ?_))))))
      refine ⟨(q.1+1,uput q.2.1 (asWd a).text (uget q.2.1 (asWd a).text||(asWd a).const),q.2.2.1 ++ [asWd a],v65,q.2.2.2.2 ++ [cWd (asWd a)]),?_,?_,GS.weaken ⟨rfl,rfl,rfl,rfl,rfl,rfl,rfl,rfl,rfl,rfl,rfl,trivial⟩ (.refl _)⟩
      · exact ⟨hlta,hQ.2.1.trans (fold_drop ha),fun x hx=>(List.mem_append.1 hx).elim (hQ.2.2.1 x) (fun h=>by rw [List.mem_singleton.1 h];exact word_ok (kok_arg hck ham) (h2a.2 a ham)),by have:=uput_len q.2.1 (asWd a).text (uget q.2.1 (asWd a).text||(asWd a).const);simp only;omega,by simp only [List.length_append,List.length_singleton];omega,by simp only;rw [hF,List.map_append];rfl⟩
      · simp only;omega
     ·
      have hde:=get_end hc3
      have hfo:=hQ.2.1
      rw [hde] at hfo
      refine AW.exit ?_
      refine thenE (thenE (blkHit (blkN (thenN (AW.region (Qp Qad (Qp Qmi (Qnn ?_))))))))
      refine ⟨(p.1+1,q.2),?_,?_,GS.weaken ⟨rfl,rfl,rfl,rfl,rfl,rfl,rfl,rfl,trivial⟩ (.refl _)⟩
      · exact ⟨hlt,by unfold colAll;rw [take_get hc,List.foldl_append];exact (congrArg (fun z=>colL T V z c) hR.2.1).trans ((colL_yes hc2).trans hfo),hQ.2.2.1,by have:=hR.2.2.2.1;have:=hQ.2.2.2.1;have:=hQ.1;simp only;omega,by have:=hR.2.2.2.2.1;have:=hQ.2.2.2.2.1;have:=hQ.1;simp only;omega,hQ.2.2.2.2.2⟩
      · simp only;omega
  ·
   have hte:=take_end hc1
   have hcol:=hR.2.1
   rw [hte] at hcol
   have hwds:=hR.2.2.1
   have hUl:=hR.2.2.2.1
   have hAl:=hR.2.2.2.2.1
   refine AW.exit ?_
   refine thenE (thenE (blkHit (thenN (Qsr ?_))))
   refine Qe (E_makeKMap) ?_
   rintro _ _ ⟨b68,rfl,rfl⟩
   refine Qp Qav (Qns ?_)
   refine Qp (P_move (v:=.row _ _ _) rfl) ?_
   refine Qp (P_len_row (n:=p.2.2.1.length) tok rfl rfl rfl (by rw [hE];simp)) ?_
   refine Qp Qmi (Qnn (AW.block ?_))
   refine AW.loopS (fun (o:Nat×Um×Nm×Es)=>(⟨[(2,.val (.map (some m))),(3,.fn (.func 147) [] [.val (.pointer (some ⟨bo,0,none⟩))]),(8,.val (.map (some b22))),(15,.val (.map (some b68))),(69,.row p.2.2.2.1 5 p.2.2.2.2),(70,.int .i64 p.2.2.1.length),(71,.int .i64 (o.1:Int))],.kmap b68 (nE o.2.2.1) :: .row p.2.2.2.1 p.2.2.2.2.length 214 5 :: .smap b22 (sE o.2.1) :: .kmap m (wE w)::evH bo v o.2.2.2 R,126⟩:St)) (fun (o:Nat×Um×Nm×Es)=>o.1≤p.2.2.1.length∧p.2.2.1.foldl (nmStep w) (p.2.1,[],l0.map Prod.fst)=(p.2.2.1.drop o.1).foldl (nmStep w) (o.2.1,o.2.2.1,o.2.2.2.map Prod.fst)∧evOK T V (o.2.2.2.map Prod.fst)∧o.2.1.length≤p.2.1.length+o.1) (fun (o:Nat×Um×Nm×Es)=>p.2.2.1.length-o.1) ((0,p.2.1,[],l0)) ?_ (GS.weaken ⟨rfl,rfl,rfl,rfl,rfl,rfl,rfl,trivial⟩ (.refl _)) ?_
   · exact ⟨Nat.zero_le _,rfl,hev,Nat.le_refl _⟩
   ·
    rintro o hO
    refine Qsr (Qp Qclt (Qnn (AW.seq (Qif (fun hc4=>?_) fun hc4=>?_))))
    ·
     obtain ⟨x,hx⟩:=get_lt hc4
     have hltx:=get_lt' hx
     have hxm:=List.mem_of_getElem? hx
     have hwx:=hwds x hxm
     have hno:=hO.2.1
     rw [fold_drop hx] at hno
     have hevo:=hO.2.2.1
     have hUo:=hO.2.2.2
     refine Qst (AW.seq (AW.block (Qsr ?_)))
     refine Qp (P_indexAddr_row (c:=[.bool _,.str _,.int .i64 _,.int .i64 _,.int .i64 _]) tok rfl rfl rfl rfl rfl rfl (by omega) (by rw [hE];exact map_at hx)) ?_
     refine Qp (Qlg [.bool _,.str _,.int .i64 _,.int .i64 _,.int .i64 _]) ?_
     refine Qe (E_alloc (l:=[.bool false,.str [],.int .i64 0,.int .i64 0,.int .i64 0]) (by kernel_rfl)) ?_
     rintro _ _ ⟨b17,rfl,rfl⟩
     refine Qe (E_store (k:=0) (v:=.agg _) (cs':=[.bool _,.str _,.int .i64 _,.int .i64 _,.int .i64 _]) (H2:=_::_::_::_::_::_::_::_) tok rfl rfl rfl rfl (rfl) rfl rfl rfl rfl) ?_
     rintro _ _ ⟨rfl,rfl⟩
     refine AOL.ghost (GS.freeze (t:=17) 0 rfl rfl) ?_
     refine Qns (Qp Qmv (Qp (Qlg [.bool _,.str _,.int .i64 _,.int .i64 _,.int .i64 _]) ?_))
     refine AOL.pk (P_callK (ho:=.kmap m (wE w)) (KK:=fun H=>H[3]? = some (.kmap m (wE w))) (by kernel_rfl) rfl rfl (d_of_at m w hw x) (fun _ h=>List.mem_of_getElem? h)) rfl rfl ?_
     refine Qe (E_alloc (l:=[.bool false,.str [],.int .i64 0,.int .i64 0,.int .i64 0]) (by kernel_rfl)) ?_
     rintro _ _ ⟨b18,rfl,rfl⟩
     refine Qe (E_store (k:=0) (v:=.agg _) (cs':=[.bool _,.str _,.int .i64 _,.int .i64 _,.int .i64 _]) (H2:=_::_::_::_::_::_::_::_) tok rfl rfl rfl rfl (rfl) rfl rfl rfl rfl) ?_
     rintro _ _ ⟨rfl,rfl⟩
     refine AOL.ghost (GS.freeze (t:=18) 0 rfl rfl) ?_
     refine Qnn ?_
     refine AW.cut (fun (t:Um×Nm)=>(⟨[(2,.val (.map (some m))),(3,.fn (.func 147) [] [.val (.pointer (some ⟨bo,0,none⟩))]),(8,.val (.map (some b22))),(15,.val (.map (some b68))),(69,.row p.2.2.2.1 5 p.2.2.2.2),(70,.int .i64 p.2.2.1.length),(71,.int .i64 (o.1:Int)),(17,.ptr (cWd x)),(18,.ptr (cWd (ofS' w x)))],.kmap b68 (nE t.2) :: .row p.2.2.2.1 p.2.2.2.2.length 214 5 :: .smap b22 (sE t.1) :: .kmap m (wE w)::evH bo v o.2.2.2 R,126⟩:St)) (fun (t:Um×Nm)=>t=nmU o.2.1 o.2.2.1 (ofS' w x)) ?_ ?_
     ·
      refine Qsr (Qp Qmv (Qp (Qlg [.bool _,.str _,.int .i64 _,.int .i64 _,.int .i64 _]) ?_))
      refine AOL.pk (P_klookOk (i:=0) (eq:=eqWd (ofS' w x)) tok rfl rfl rfl rfl rfl (by kernel_rfl) rfl rfl (rfl) (nE_eq (ofS' w x) _) (look_n (ofS' w x) _) (has_n (ofS' w x) _)) rfl rfl ?_
      refine Qp Qmu (Qp Qxt (Qp Qxb (Qp Qat (Qp Qab (Qns (Qp Qmb (Qp Qnt (Qnn (Qif (fun hc5=>?_) fun hc5=>?_)))))))))
      ·
       have hnn:=not_some hc5
       refine Qsr (Qp Qmv (Qp (Qlg [.bool _,.str _,.int .i64 _,.int .i64 _,.int .i64 _]) (Qp (Qf [.str _,.int .i64 _,.int .i64 _,.int .i64 _]) (Qp Qlt ?_))))
       refine Qe (E_nmAdd (i:=0) (H2:=_::_::_::_::_::_::_) tok rfl rfl rfl rfl rfl rfl rfl rfl hnn rfl) ?_
       rintro _ _ ⟨rfl,rfl⟩
       refine Qnn (AW.seq (Qsr (Qp Qai (Qnn (AW.block ?_)))))
       refine AW.loopS (fun (z:Nat×Str1)=>(⟨[(2,.val (.map (some m))),(3,.fn (.func 147) [] [.val (.pointer (some ⟨bo,0,none⟩))]),(8,.val (.map (some b22))),(15,.val (.map (some b68))),(69,.row p.2.2.2.1 5 p.2.2.2.2),(70,.int .i64 p.2.2.1.length),(71,.int .i64 (o.1:Int)),(17,.ptr (cWd x)),(18,.ptr (cWd (ofS' w x))),(21,.int .i64 (z.1:Int))],.kmap b68 (nE (o.2.2.1 ++ [((ofS' w x),z.2)])) :: .row p.2.2.2.1 p.2.2.2.2.length 214 5 :: .smap b22 (sE o.2.1) :: .kmap m (wE w)::evH bo v o.2.2.2 R,126⟩:St)) (fun (z:Nat×Str1)=>nmI o.2.1 (ofS' w x) z.1 z.2) (fun (z:Nat×Str1)=>o.2.1.length+2-z.1) ((0,(ofS' w x).text)) ?_ (GS.weaken ⟨rfl,rfl,rfl,rfl,rfl,rfl,rfl,rfl,rfl,rfl,trivial⟩ (.refl _)) ?_
       · exact .inl ⟨rfl,rfl⟩
       ·
        rintro z hz
        refine AW.seq (Qsr (Qp (Qf [.bool _,.str _,.int .i64 _,.int .i64 _,.int .i64 _]) (Qp Qlb (Qp Qnt (Qp Qmb (Qg [] Qw Qmi (Qg [(94,_)] Qw Qceq (Qg [(95,_)] Qw Qmb (Qg [] Qw Qmv ?_)))))))))
        refine Qg [] Qw Qmv (Qg [] Qw (Qlg [.bool _,.str _,.int .i64 _,.int .i64 _,.int .i64 _]) ?_)
        refine AOL.gk (y:=.str _) _ [(98,_),(99,_)] rfl (EntL.all ⟨Ent.self _ _,Ent.self _ _,trivial⟩) (fun hG=>P_klook (i:=0) (eq:=eqWd (ofS' w x)) tok rfl rfl rfl rfl rfl (by kernel_rfl) rfl rfl (rfl) (nE_eq (ofS' w x) _) (look_is (nget_snoc hnn))) rfl rfl ?_
        refine AOL.gk (y:=.bool _) _ [(97,_),(100,_)] rfl (EntL.all ⟨Ent.self _ _,Ent.self _ _,trivial⟩) (fun hG=>P_lookU (i:=2) tok rfl rfl rfl rfl rfl rfl (by kernel_rfl) rfl rfl) rfl rfl ?_
        refine Qg [(96,_),(101,_)] Qw Qpo (Qp Qpa (Qnn (Qif (fun hc6=>?_) fun hc6=>?_)))
        ·
         have h6:=Bool.and_eq_true_iff.mp hc6
         have hrc:(ofS' w x).const=false:=(Bool.not_eq_true' _).mp h6.1
         have h6b:z.1=0∨uget o.2.1 z.2=true:=by have:=h6.2;simp at this;omega
         have hzl:=nm_len hz
         refine Qst (AW.seq (AW.block ?_))
         refine AW.draw mixed (fun _=>True) trivial (by kernel_rfl) ?_
         refine Qn 0 rfl Qmv (Qn 1 rfl (Qlg [.bool _,.str _,.int .i64 _,.int .i64 _,.int .i64 _]) (Qn 2 rfl Qmi ?_))
         refine Qn 3 rfl (Qc rfl (kItoa _ (by omega) (by omega))) ?_
         refine Qn 4 rfl (P_add_str rfl rfl rfl (by have h8:=Go.Lib.itoa_length_le (z.1:Int) (by omega) (by omega);simp only [List.length_append,List.length_cons,List.length_nil,maxLen];omega)) ?_
         refine Canon.eff _ _ 5 _ _ rfl (by kernel_rfl) rfl rfl (E_nmSet (i:=0) (H2:=_::_::_::_::_::_::_) tok rfl rfl rfl rfl rfl rfl rfl rfl hnn rfl) (fun _ _ _=>trivial) ?_
         rintro _ _ ⟨rfl,rfl⟩
         refine Canon.done _ _ (by kernel_rfl) ?_
         refine blkN (thenN (AW.region (Qp Qmi (Qp Qad (Qp Qai (Qnn ?_))))))
         refine ⟨(z.1+1,wN z.1),?_,?_,GS.weaken ⟨rfl,rfl,rfl,rfl,rfl,rfl,rfl,rfl,rfl,rfl,trivial⟩ (.refl _)⟩
         · exact nm_next hz hrc h6b
         · simp only;omega
        ·
         have hnm:=nm_done hz (by simpa using hc6)
         refine AW.exit ?_
         refine thenE (thenE (blkHit (thenN (AW.region (Qp Qmv (Qp Qmv (Qp (Qlg [.bool _,.str _,.int .i64 _,.int .i64 _,.int .i64 _]) ?_)))))))
         refine AOL.pk (P_klook (i:=0) (eq:=eqWd (ofS' w x)) tok rfl rfl rfl rfl rfl (by kernel_rfl) rfl rfl (rfl) (nE_eq (ofS' w x) _) (look_is (nget_snoc hnn))) rfl rfl ?_
         refine Qe (E_putU (i:=2) (H2:=_::_::_::_::_::_::_) tok rfl rfl rfl rfl rfl rfl rfl rfl rfl) ?_
         rintro _ _ ⟨rfl,rfl⟩
         refine Qnn ?_
         refine ⟨(uput o.2.1 z.2 true,o.2.2.1 ++ [((ofS' w x),z.2)]),?_,GS.weaken ⟨rfl,rfl,rfl,rfl,rfl,rfl,rfl,rfl,rfl,trivial⟩ (.refl _)⟩
         exact (by rw [nmU_new hnn,hnm])
      ·
       refine Qst ?_
       refine ⟨(o.2.1,o.2.2.1),?_,GS.weaken ⟨rfl,rfl,rfl,rfl,rfl,rfl,rfl,rfl,rfl,trivial⟩ (.refl _)⟩
       exact (nmU_old hc5).symm
     ·
      rintro t hT
      have hgs:nget t.2 (ofS' w x)=some (nmT o.2.1 o.2.2.1 (ofS' w x)):=by rw [hT];exact nmU_get _ _ _
      refine Qsr (Qp (Qf [.bool _,.str _,.int .i64 _,.int .i64 _,.int .i64 _]) (Qp Qlb (Qp Qnt (Qnn (Qif (fun hc7=>?_) fun hc7=>?_)))))
      ·
       have hxc:x.const=false:=(Bool.not_eq_true' _).mp hc7
       refine AW.draw mixed (fun H'=>_∈H') (List.mem_of_getElem? (i:=0) rfl) (by kernel_rfl) ?_
       refine Qn 0 rfl (P_move (v:=.fn _ _ _) rfl) ?_
       refine Qn 1 rfl (Qf [.int .i64 _,.int .i64 _,.int .i64 _]) (Qn 2 rfl (Qlg [.int .i64 _,.int .i64 _,.int .i64 _]) (Qn 3 rfl Qmv (Qn 4 rfl (Qlg [.bool _,.str _,.int .i64 _,.int .i64 _,.int .i64 _]) ?_)))
       refine Qn 5 rfl (OpP.mem (fun k=>P_klook (i:=k) (eq:=eqWd (ofS' w x)) tok rfl rfl rfl rfl rfl (by kernel_rfl) rfl rfl (rfl) (nE_eq (ofS' w x) _) (look_is hgs)) (fun _ h=>h)) ?_
       refine Canon.last _ _ 6 _ _ rfl (by kernel_rfl) rfl rfl (E_call (by kernel_rfl) rfl rfl rfl (set_call (pre:=[_,_,_,_]) (d_events1 T V bo v o.2.2.2 hevo x.field (hwx hxc).1 (hwx hxc).2 (nmT o.2.1 o.2.2.1 (ofS' w x)) _))) (by kernel_rfl) ?_
       rintro _ _ ⟨rfl,rfl⟩
       refine blkN (thenN (AW.region (Qp Qad (Qp Qmi (Qnn ?_)))))
       refine ⟨(o.1+1,t.1,t.2,o.2.2.2.modify x.field.v.toNat fun p=>(atV p.1 x.field.field.toNat (fun y=>{ y with text:=nmT o.2.1 o.2.2.1 (ofS' w x) }),p.2)),?_,?_,GS.weaken ⟨rfl,rfl,rfl,rfl,rfl,rfl,rfl,trivial⟩ (.refl _)⟩
       · exact ⟨hltx,hno.trans (congrArg (List.foldl (nmStep w) · _) (nm_f hT hxc)),by rw [setX_fst];exact setX_ok hevo _ _,by have:=nmU_len o.2.1 o.2.2.1 (ofS' w x);rw [←hT] at this;simp only;omega⟩
       · simp only;omega
      ·
       have hxc:x.const=true:=(Bool.not_eq_false' _).mp hc7
       refine AW.skip (blkN (thenN (AW.region (Qp Qad (Qp Qmi (Qnn ?_))))))
       refine ⟨(o.1+1,t.1,t.2,o.2.2.2),?_,?_,GS.weaken ⟨rfl,rfl,rfl,rfl,rfl,rfl,rfl,trivial⟩ (.refl _)⟩
       · exact ⟨hltx,hno.trans (congrArg (List.foldl (nmStep w) · _) (nm_c hT hxc)),hevo,by have:=nmU_len o.2.1 o.2.2.1 (ofS' w x);rw [←hT] at this;simp only;omega⟩
       · simp only;omega
    ·
     have hde:=get_end hc4
     have hfin:=hO.2.1
     rw [hde] at hfin
     refine AW.exit ?_
     refine thenE (thenE (blkHit ?_))
     refine ⟨_,GS.trans (GS.weaken (sl':=[]) (H':=.kmap m (wE w)::evH bo v _ R) trivial (.cons _ (.cons _ (.cons _ (.refl _))))) (GS.perm (ev_pre (pre:=[.kmap m (wE w)]))),.inl rfl,[],.nil,_,.refl _,?_⟩
     exact ⟨o.2.2.2,(by unfold nameEv;rw [hcol,hfin];rfl),hO.2.2.1,rfl,rfl⟩

set_option maxHeartbeats 6400000
set_option maxRecDepth 20000

theorem d_events (T:List Sc)(V:List Va)(hty:TyOK8 T V)(hst:∀s∈T,scOK s)(hvl:V.length≤1048576)(l:List Lit)(hlk:LOK T V l)(hll:l.length≤4096)(m:Nat)(w:Wm)(hw:wOK w)(vals:List Int)(hvs:(sysGo T V l).ts.length+1≤vals.length)(H:List HO):ACall Tryz.prog 105 (.kmap m (wE w)::H) [.agg (cScene T V),.sl 9 (l.map cLit),.agg [.ptr (cSy T V l),.sl 1 (vals.map cI),.val (.map (some m))]] (fun r H'=>r = .sl 5 ((evModS T V w l vals).map cEv)∧H' = .kmap m (wE w)::H):=by
 have hgl:=(sysGo_ok hlk).len
 refine ACall.body (n:=102) tok Tryz.func105 rfl rfl rfl ?_
 refine Qsr (Qp (Qbx [_,_]) (Qp (Qbx [_,_,_]) ?_))
 refine Qp (P_assign_nil (z:=5) rfl) ?_
 refine Qns ?_
 refine Qe (E_alloc (l:=[.val (.slice none 0 0)]) (by kernel_rfl)) ?_
 rintro _ _ ⟨b7,rfl,rfl⟩
 refine AOL.ghost (GS.buf 67 5) ?_
 refine Qnn (AW.seq (Qsr (Qp (Qf [_]) (Qp Qls ?_))))
 refine Qp (P_len_sl (n:=V.length) tok rfl rfl rfl (by simp)) ?_
 refine Qp Qmi (Qnn (AW.block ?_))
 refine AW.loopS (fun (p:Nat×Value×Es)=>(⟨[(1,.sl 9 (l.map cLit)),(3,.ptr (cScene T V)),(5,.ptr [.ptr (cSy T V l),.sl 1 (vals.map cI),.val (.map (some m))]),(7,.val (.pointer (some ⟨b7,0,none⟩))),(16,.sl 2 (V.map cVa)),(17,.int .i64 V.length),(18,.int .i64 (p.1:Int))],.buf p.2.1 (p.2.2.map evRow) 67 5 :: .box b7 58 [.val p.2.1]::(p.2.2.map evBuf++(.kmap m (wE w)::H)),102⟩:St)) (fun (p:Nat×Value×Es)=>p.1≤V.length∧p.2.2.map Prod.fst=bevGo T 0 (V.take p.1)) (fun (p:Nat×Value×Es)=>V.length-p.1) ((0,.slice none 0 0,[])) ?_ (GS.weaken ⟨rfl,rfl,rfl,rfl,rfl,rfl,rfl,trivial⟩ (.refl _)) ?_
 · exact ⟨Nat.zero_le _,rfl⟩
 ·
  rintro ⟨k1,v1,l1⟩ hR
  have hk1:k1≤V.length:=hR.1
  have hl1:l1.length=k1:=by have:=congrArg List.length hR.2;rw [bev_len,List.length_take] at this;simp at this;omega
  refine Qsr (Qp Qclt (Qnn (AW.seq (Qif (fun hc1=>?_) fun hc1=>?_))))
  ·
   obtain ⟨va,hva⟩:=get_lt hc1
   have hlt:=get_lt' hva
   have hvm:=List.mem_of_getElem? hva
   have hvt:=hty va hvm
   refine (ty_at hty hvm).elim fun sc hsc=>?_
   have hfl:=(hst sc (List.mem_of_getElem? hsc)).2.1
   refine Qst (AW.seq (AW.block (Qsr (Qp Qmi ?_))))
   refine Qp (P_indexAddr (c:=[.str _,.int .i64 _]) tok rfl rfl rfl rfl rfl rfl (by omega) (map_at hva)) ?_
   refine Qp (Qlg [.str _,.int .i64 _]) ?_
   refine Qe (E_alloc (l:=[.str [],.int .i64 0]) (by kernel_rfl)) ?_
   rintro _ _ ⟨b9,rfl,rfl⟩
   refine Qp Qai ?_
   refine Qe (E_store (k:=0) (v:=.agg _) (cs':=[.str _,.int .i64 _]) (H2:=_::_::_::_) tok rfl rfl rfl rfl (rfl) rfl rfl rfl rfl) ?_
   rintro _ _ ⟨rfl,rfl⟩
   refine AOL.ghost (GS.freeze (t:=9) 0 rfl rfl) ?_
   refine Qns (Qp Qmi (Qp (Qf [.int .i64 _]) (Qp Qli ?_)))
   refine Qp (P_buildZ (l0:=[.int .i64 0,.int .i64 0,.int .i64 0,.int .i64 0,.val (.slice none 0 0)]) (l:=[.int .i64 _,.int .i64 _,.int .i64 _,.int .i64 _,_]) tok rfl rfl (by kernel_rfl) rfl) ?_
   refine Qe (E_alloc (l:=[.int .i64 0,.int .i64 0,.int .i64 0,.int .i64 0,.val (.slice none 0 0)]) (by kernel_rfl)) ?_
   rintro _ _ ⟨b10,rfl,rfl⟩
   refine Qe (E_store (k:=0) (v:=.agg _) (cs':=[.int .i64 _,.int .i64 _,.int .i64 _,.int .i64 _,_]) (H2:=_::_::_::_) tok rfl rfl rfl rfl (rfl) rfl rfl rfl rfl) ?_
   rintro _ _ ⟨rfl,rfl⟩
   refine AOL.ghost (GS.buf 28 3) ?_
   refine Qnn (AW.seq (Qsr (Qp (Qf [_,_]) (Qp Qls (Qp (Qf [.int .i64 _]) (Qp Qli ?_))))))
   refine Qp (P_indexAddr (c:=[.str _,_]) tok rfl rfl rfl rfl rfl rfl (hvt.1) (map_at hsc)) ?_
   refine Qp (Qf [_]) (Qp Qls ?_)
   refine Qp (P_len_sl (n:=sc.fields.length) tok rfl rfl rfl (by simp)) ?_
   refine Qp Qmi (Qnn (AW.block ?_))
   refine AW.loopS (fun (q:Nat×Value×List (List AV))=>(⟨[(1,.sl 9 (l.map cLit)),(3,.ptr (cScene T V)),(5,.ptr [.ptr (cSy T V l),.sl 1 (vals.map cI),.val (.map (some m))]),(7,.val (.pointer (some ⟨b7,0,none⟩))),(8,.int .i64 (k1:Int)),(10,.val (.pointer (some ⟨b10,0,none⟩))),(16,.sl 2 (V.map cVa)),(17,.int .i64 V.length),(18,.int .i64 (k1:Int)),(33,.sl 2 (sc.fields.map cFi)),(34,.int .i64 sc.fields.length),(35,.int .i64 (q.1:Int))],.buf q.2.1 q.2.2 28 3 :: .box b10 67 [.int .i64 0,.int .i64 (k1:Int),.int .i64 va.type,.int .i64 0,.val q.2.1] :: .buf v1 (l1.map evRow) 67 5 :: .box b7 58 [.val v1]::(l1.map evBuf++(.kmap m (wE w)::H)),102⟩:St)) (fun (q:Nat×Value×List (List AV))=>q.1≤sc.fields.length∧q.2.2=((sc.fields.take q.1).map zV).map cV) (fun (q:Nat×Value×List (List AV))=>sc.fields.length-q.1) ((0,.slice none 0 0,[])) ?_ (GS.weaken ⟨rfl,rfl,rfl,rfl,rfl,rfl,rfl,rfl,rfl,rfl,rfl,rfl,trivial⟩ (.refl _)) ?_
   · exact ⟨Nat.zero_le _,rfl⟩
   ·
    rintro q hQ
    have hql:q.2.2.length≤q.1:=by rw [hQ.2];simp;omega
    refine Qsr (Qp Qclt (Qnn (AW.seq (Qif (fun hc2=>?_) fun hc2=>?_))))
    ·
     obtain ⟨f,hf⟩:=get_lt hc2
     have hltf:=get_lt' hf
     refine Qst (AW.seq (AW.block (Qsr ?_)))
     refine Qp (P_indexAddr (c:=[.str _,.int .i64 _]) tok rfl rfl rfl rfl rfl rfl (by omega) (map_at hf)) ?_
     refine Qp (Qlg [.str _,.int .i64 _]) ?_
     refine Qe (E_alloc (l:=[.str [],.int .i64 0]) (by kernel_rfl)) ?_
     rintro _ _ ⟨b12,rfl,rfl⟩
     refine Qe (E_store (k:=0) (v:=.agg _) (cs':=[.str _,.int .i64 _]) (H2:=_::_::_::_::_::_) tok rfl rfl rfl rfl (rfl) rfl rfl rfl rfl) ?_
     rintro _ _ ⟨rfl,rfl⟩
     refine AOL.ghost (GS.freeze (t:=12) 0 rfl rfl) ?_
     refine Qnn (AW.region (Qp Qfv ?_))
     refine AOL.pk (P_load_box (k:=1) (c:=.val _) tok rfl rfl rfl rfl) rfl rfl ?_
     refine Qp (Qf [.int .i64 _]) (Qp Qli (Qp (Qbd [.int .i64 _,.int .i64 _,.str _]) ?_))
     refine Qp (P_buildSlice (es:=[[.int .i64 _,.int .i64 _,.str _]]) tok rfl rfl rfl rfl rfl rfl rfl rfl rfl) ?_
     refine Qe (OpE.bufs (E_appendBuf (k:=0) tok rfl rfl rfl rfl rfl rfl rfl rfl (rfl) (by simp;omega) (by simp [maxLen];omega))) ?_
     rintro _ _ ⟨⟨v45,rfl,rfl⟩,hbs45⟩
     have hu2:=hbs45 v45 _ _ _ (List.mem_of_getElem? (i:=0) rfl)
     refine Qp Qfv ?_
     refine Qe (E_store (k:=1) (v:=.val _) (cs':=[.int .i64 _,.int .i64 _,.int .i64 _,.int .i64 _,_]) (H2:=_::_::_::_::_) tok rfl rfl rfl rfl ((by simp [cellsA,scalars,scalar,hu2])) rfl rfl rfl rfl) ?_
     rintro _ _ ⟨rfl,rfl⟩
     refine AOL.nil (blkN (thenN (AW.region (Qp Qad (Qp Qmi (Qnn ?_))))))
     refine ⟨(q.1+1,v45,q.2.2 ++ [cV (zV f)]),?_,?_,GS.weaken ⟨rfl,rfl,rfl,rfl,rfl,rfl,rfl,rfl,rfl,rfl,rfl,rfl,trivial⟩ (.refl _)⟩
     · exact ⟨hltf,by simp only;rw [take_get hf,List.map_append,List.map_append,hQ.2];rfl⟩
     · simp only;omega
    ·
     have htf:=take_end hc2
     have hE:=hQ.2
     rw [htf] at hE
     have hrows:q.2.2=(ev0S T k1 va).values.map cV:=hE.trans (congrArg (List.map cV) (ev0_vals hsc).symm)
     refine AW.exit ?_
     refine thenE (thenE (blkHit (thenN ?_)))
     refine AW.bufOne 0 rfl fun hu=>?_
     refine AW.region ?_
     refine AOL.pk (P_load_box (k:=3) (c:=.val _) tok rfl rfl rfl rfl) rfl rfl ?_
     refine AOL.pk (P_load_box_agg (k:=1) (l:=[.int .i64 _,.int .i64 _,.int .i64 _,.int .i64 _,_]) tok rfl rfl rfl rfl rfl) rfl rfl ?_
     refine Qp (P_buildSlice (es:=[[.int .i64 _,.int .i64 _,.int .i64 _,.int .i64 _,_]]) tok rfl rfl rfl rfl rfl rfl (lit1 rfl rfl (by simp [scalars,scalar,hu])) rfl rfl) ?_
     refine Qe (OpE.bufs (E_appendBuf (k:=2) tok rfl rfl rfl rfl rfl rfl rfl rfl ((by simp [scalars,scalar,hu])) (by simp;omega) (by simp [maxLen];omega))) ?_
     rintro _ _ ⟨⟨v51,rfl,rfl⟩,hbs51⟩
     have hu3:=hbs51 v51 _ _ _ (List.mem_of_getElem? (i:=2) rfl)
     refine Qe (E_store (k:=3) (v:=.val _) (cs':=[_]) (H2:=_::_::_::_::_) tok rfl rfl rfl rfl ((by simp [cellsA,scalars,scalar,hu3])) rfl rfl rfl rfl) ?_
     rintro _ _ ⟨rfl,rfl⟩
     refine AOL.nil (blkN (thenN (AW.region (Qp Qad (Qp Qmi (Qnn ?_))))))
     refine ⟨(k1+1,v51,l1 ++ [(ev0S T k1 va,q.2.1)]),?_,?_,GS.trans (GS.perm (ev_push (e:=ev0S T k1 va) hrows)) (GS.weaken ⟨rfl,rfl,rfl,rfl,rfl,rfl,rfl,trivial⟩ (.cons _ (.refl _)))⟩
     · exact ⟨hlt,by simp only;rw [take_get hva,bev_snoc,List.map_append,hR.2,List.length_take,Nat.min_eq_left hk1,Nat.zero_add];rfl⟩
     · simp only;omega
  ·
   have hte:=take_end hc1
   have hbe:=hR.2
   rw [hte] at hbe
   have hvlen:l1.length=V.length:=by have:=congrArg List.length hbe;rw [bev_len] at this;simpa using this
   refine AW.exit ?_
   refine thenE (thenE (blkHit (thenN (AW.seq (Qsr (Qp (Qf [_,_,_]) (Qp Qlp ?_)))))))
   refine Qp (P_nilCheck_ptr rfl) ?_
   refine Qp (Qf [_,_]) (Qp Qls ?_)
   refine Qp (P_len_sl (n:=(sysGo T V l).ts.length) tok rfl rfl rfl (by simp)) ?_
   refine Qp Qmi (Qnn (AW.block ?_))
   refine AW.loopS (fun (o:Nat×Es)=>(⟨[(1,.sl 9 (l.map cLit)),(3,.ptr (cScene T V)),(5,.ptr [.ptr (cSy T V l),.sl 1 (vals.map cI),.val (.map (some m))]),(7,.val (.pointer (some ⟨b7,0,none⟩))),(57,.sl 3 ((sysGo T V l).ts.map cTm)),(58,.int .i64 (sysGo T V l).ts.length),(59,.int .i64 (o.1:Int))],.buf v1 (o.2.map evRow) 67 5 :: .box b7 58 [.val v1]::(o.2.map evBuf++(.kmap m (wE w)::H)),102⟩:St)) (fun (o:Nat×Es)=>o.1≤(sysGo T V l).ts.length∧numGo vals 0 (sysGo T V l).ts (bevGo T 0 V)=numGo vals o.1 ((sysGo T V l).ts.drop o.1) (o.2.map Prod.fst)∧evOK T V (o.2.map Prod.fst)) (fun (o:Nat×Es)=>(sysGo T V l).ts.length-o.1) ((0,l1)) ?_ (GS.weaken ⟨rfl,rfl,rfl,rfl,rfl,rfl,rfl,trivial⟩ (.refl _)) ?_
   · exact ⟨Nat.zero_le _,by simp only;rw [hbe];rfl,by simp only;rw [hbe];exact bev_ok⟩
   ·
    rintro ⟨k2,l2⟩ hO
    refine Qsr (Qp Qclt (Qnn (AW.seq (Qif (fun hc3=>?_) fun hc3=>?_))))
    ·
     obtain ⟨t,ht⟩:=get_lt hc3
     have hltt:=get_lt' ht
     have htm:=sys_tm hlk t (List.mem_of_getElem? ht)
     refine Qst (AW.seq (AW.block (Qsr (Qp Qmi ?_))))
     refine Qp (P_indexAddr (c:=[.int .i64 _,.int .i64 _,.int .i64 _]) tok rfl rfl rfl rfl rfl rfl (by omega) (map_at ht)) ?_
     refine Qp (Qlg [.int .i64 _,.int .i64 _,.int .i64 _]) ?_
     refine Qe (E_alloc (l:=[.int .i64 0,.int .i64 0,.int .i64 0]) (by kernel_rfl)) ?_
     rintro _ _ ⟨b14,rfl,rfl⟩
     refine Qp Qai ?_
     refine Qe (E_store (k:=0) (v:=.agg _) (cs':=[.int .i64 _,.int .i64 _,.int .i64 _]) (H2:=_::_::_::_) tok rfl rfl rfl rfl (rfl) rfl rfl rfl rfl) ?_
     rintro _ _ ⟨rfl,rfl⟩
     refine AOL.ghost (GS.freeze (t:=14) 0 rfl rfl) ?_
     refine Qns (Qp (Qf [.int .i64 _,.int .i64 _,.int .i64 _]) (Qp Qli (Qp Qceq (Qnn (Qif (fun hc4=>?_) fun hc4=>?_)))))
     ·
      refine (es_get hO.2.2 htm).elim fun e he=>he.elim fun u hu=>?_
      have hj:=hu.1
      have hel:=hu.2.1
      have hll9:l2.length=V.length:=hu.2.2
      have hv0:=htm.v0
      have hv1:=htm.v1
      refine AW.unbuf (v:=v1) (es:=l2.map evRow) (E:=67) (z:=5) 0 rfl (map_ne hj) fun bb cap J hub hcap hcm hJ hzo=>?_
      subst hub
      have hrow:(l2.map evRow)[t.v.toNat]? = some (evRow (e,u)):=by rw [List.getElem?_map,hj];rfl
      refine AW.draw mixed (fun H'=>_∈H') (List.mem_of_getElem? (i:=1) rfl) (by kernel_rfl) ?_
      refine Qn 0 rfl (OpP.mem (fun k=>P_load_box (k:=k) (c:=.val _) tok rfl rfl rfl rfl) (fun _ h=>h)) ?_
      refine Qn 1 rfl (Qf [.int .i64 _,.int .i64 _]) (Qn 2 rfl Qli (Qn 3 rfl (Qf [_,_]) (Qn 4 rfl Qls (Qn 5 rfl Qmi (Qn 6 rfl Qad ?_)))))
      refine Qn 7 rfl (P_indexAddr (c:=[.int .i64 _]) tok rfl rfl rfl rfl rfl rfl (by omega) (vals_at (by omega))) ?_
      refine Qn 8 rfl Qli ?_
      refine Qn 9 rfl (P_indexAddr_val (o':=t.v.toNat*5) tok rfl rfl rfl rfl rfl (hv0) (by rw [List.length_map];omega) (Nat.zero_add _)) ?_
      refine Qn 10 rfl Qfv ?_
      refine Canon.last _ _ 11 _ _ rfl (by kernel_rfl) rfl rfl (E_store (k:=0) (v:=.int .i64 _) (cs':=_) (H2:=_::_::_) tok rfl rfl rfl rfl rfl rfl (flat_fits (o:=3) (evRow_five _) hrow (by decide)) (flat_put (o:=3) (e:=evRow (e,u)) (evRow_five _) hrow (by decide)) rfl) (by kernel_rfl) ?_
      rintro _ _ ⟨rfl,rfl⟩
      refine blkN (thenN (AW.region (Qp Qad (Qp Qmi (Qnn ?_)))))
      refine ⟨(k2+1,l2.modify t.v.toNat fun p=>({ p.1 with time:=ixI vals ((k2:Int)+1) },p.2)),?_,?_,GS.trans (evTime hj hcap hcm hJ) (GS.weaken ⟨rfl,rfl,rfl,rfl,rfl,rfl,rfl,trivial⟩ (.refl _))⟩
      · exact ⟨hltt,hO.2.1.trans ((numGo_step ht).trans (congrArg (numGo vals (k2+1) _) (setN_time hc4).symm)),by simp only;rw [setN_time hc4];exact setN_ok hO.2.2 t _⟩
      · simp only;omega
     ·
      refine (es_get hO.2.2 htm).elim fun e he=>he.elim fun u hu=>?_
      have hj:=hu.1
      have hel:=hu.2.1
      have hll9:l2.length=V.length:=hu.2.2
      have hv0:=htm.v0
      have hv1:=htm.v1
      have ho1:t.op=1:=htm.op.resolve_right (by simpa using hc4)
      have hfr:=htm.f ho1
      refine (val_get htm ho1 hel).elim fun y hy=>?_
      have hyl:=get_lt' hy
      refine AW.ghost (GS.perm (ev_out hj)) ?_
      refine AW.unbuf (v:=u) (es:=e.values.map cV) (E:=28) (z:=3) 0 rfl (map_ne hy) fun bi capi Ji hui hcapi hcmi hJi hzi=>?_
      subst hui
      refine AW.unbuf (v:=v1) (es:=l2.map evRow) (E:=67) (z:=5) 1 rfl (map_ne hj) fun bb cap J hub hcap hcm hJ hzo=>?_
      subst hub
      have hrow:(l2.map evRow)[t.v.toNat]? = some (evRow (e,.slice (some ⟨bi,0,none⟩) (e.values.map cV).length capi)):=by rw [List.getElem?_map,hj];rfl
      refine AW.draw mixed (fun H'=>_∈H'∧_∈H') ⟨(List.mem_of_getElem? (i:=2) rfl),(List.mem_of_getElem? (i:=1) rfl)⟩ (by kernel_rfl) ?_
      refine Qn 0 rfl (OpP.mem (fun k=>P_load_box (k:=k) (c:=.val _) tok rfl rfl rfl rfl) (fun _ h=>h.1)) ?_
      refine Qn 1 rfl (Qf [.int .i64 _,.int .i64 _]) (Qn 2 rfl Qli ?_)
      refine Qn 3 rfl (P_indexAddr_val (o':=t.v.toNat*5) tok rfl rfl rfl rfl rfl (hv0) (by rw [List.length_map];omega) (Nat.zero_add _)) ?_
      refine Qn 4 rfl Qfv ?_
      refine Qn 5 rfl (OpP.mem (fun k=>P_load_box (k:=k) (c:=.val (.slice (some ⟨bi,0,none⟩) (e.values.map cV).length capi)) tok rfl rfl rfl (flat_get (o:=4) (evRow_five l2) hrow rfl)) (fun _ h=>h.2)) ?_
      refine Qn 6 rfl (Qf [.int .i64 _]) (Qn 7 rfl Qli (Qn 8 rfl (Qf [_,_]) (Qn 9 rfl Qls (Qn 10 rfl Qmi (Qn 11 rfl Qad ?_)))))
      refine Qn 12 rfl (P_indexAddr (c:=[.int .i64 _]) tok rfl rfl rfl rfl rfl rfl (by omega) (vals_at (by omega))) ?_
      refine Qn 13 rfl Qli ?_
      refine Qn 14 rfl (P_indexAddr_val (o':=t.field.toNat*3) tok rfl rfl rfl rfl rfl (hfr.1) (by rw [List.length_map];omega) (Nat.zero_add _)) ?_
      refine Qn 15 rfl Qfv ?_
      refine Canon.last _ _ 16 _ _ rfl (by kernel_rfl) rfl rfl (E_store (k:=0) (v:=.int .i64 _) (cs':=_) (H2:=_::_::_::_) tok rfl rfl rfl rfl rfl rfl (flat_fits (o:=1) (cV_three _) (by rw [List.getElem?_map,hy];rfl) (by decide)) (flat_put (o:=1) (e:=cV y) (x:=.int .i64 (ixI vals ((k2:Int)+1))) (cV_three _) (by rw [List.getElem?_map,hy];rfl) (by decide)) rfl) (by kernel_rfl) ?_
      rintro _ _ ⟨rfl,rfl⟩
      refine blkN (thenN (AW.region (Qp Qad (Qp Qmi (Qnn ?_)))))
      refine ⟨(k2+1,l2.modify t.v.toNat fun p=>(atV p.1 t.field.toNat (fun y=>{ y with num:=ixI vals ((k2:Int)+1) }),p.2)),?_,?_,GS.trans (evDone hj hy (f:=fun y=>{ y with num:=ixI vals ((k2:Int)+1) }) rfl hcap hcm hJ hcapi hcmi hJi) (GS.weaken ⟨rfl,rfl,rfl,rfl,rfl,rfl,rfl,trivial⟩ (.refl _))⟩
      · exact ⟨hltt,hO.2.1.trans ((numGo_step ht).trans (congrArg (numGo vals (k2+1) _) (setN_num hc4).symm)),by simp only;rw [setN_num hc4];exact setN_ok hO.2.2 t _⟩
      · simp only;omega
    ·
     have hde:=get_end hc3
     have hnum:=hO.2.1
     rw [hde] at hnum
     refine AW.exit ?_
     refine thenE (thenE (blkHit (thenN (Qsr (Qp (Qlg [_,_]) (Qp Qms (Qp (Qf [_]) (Qp Qlv ?_))))))))
     refine Qp (P_makeFunc (l:=[]) (l':=[.val _]) rfl rfl) ?_
     refine Qe (E_callf (by kernel_rfl) rfl rfl (d_name T V l hlk hll m w hw b7 v1 l2 hO.2.2 _)) ?_
     rintro _ _ ⟨l3,hl3,hev3,rfl,rfl⟩
     refine Qns ?_
     refine AOL.pk (P_load_box (k:=1) (c:=.val _) tok rfl rfl rfl rfl) rfl rfl ?_
     refine Qp Qav ?_
     refine AOL.ghost (GS.freezeEvs (t:=6) rfl) ?_
     refine Qnn (AW.ret ?_)
     refine ⟨.inr rfl,[.sl _ _],.cons (.tmp _ _ rfl) <| .nil,_,.cons _ (.refl _),?_⟩
     exact ⟨congrArg (fun q:List Ev=>AV.sl 5 (q.map cEv)) (hl3.trans (congrArg (nameEv T V w l) hnum.symm)),rfl⟩

end Go.Proofs.YtkddpedfbicbeaaGreatDoor
