/-
  Several texts in one: W9, W10, W25. No condition.
-/
import Derived.Test.YtkddpedfbicbeaaGreatDoorK01
import Derived.Test.YtkddpedfbicbeaaGreatDoorK07
import Derived.KernelRfl
import Derived.Test.YtkddpedfbicbeaaGreatDoorW4
import Derived.Test.YtkddpedfbicbeaaGreatDoorK05
import Derived.Test.YtkddpedfbicbeaaGreatDoorK02
set_option linter.unusedVariables false
set_option linter.unusedSimpArgs false
namespace Go.Proofs.YtkddpedfbicbeaaGreatDoor
open Go Go.Aw
set_option maxHeartbeats 1600000
set_option maxRecDepth 20000

theorem ops_get (op:Int)(h:5≤op∧op≤12∧op≠9):∃f cap,mget OPS op=some (.fn (.func f) [] cap)∧fnB Tryz.prog f=true∧∀a b,APure Tryz.prog f (.int .i64 a :: .int .i64 b::cap) (.agg (cV (applyS op a b))):=by
 have h2:op=5∨op=6∨op=7∨op=8∨op=10∨op=11∨op=12:=by omega
 rcases h2 with rfl | rfl | rfl | rfl | rfl | rfl | rfl
 · exact ⟨119,_,rfl,by kernel_rfl,c63⟩
 · exact ⟨120,_,rfl,by kernel_rfl,c64⟩
 · exact ⟨121,_,rfl,by kernel_rfl,c65⟩
 · exact ⟨122,_,rfl,by kernel_rfl,c66⟩
 · exact ⟨123,_,rfl,by kernel_rfl,c67⟩
 · exact ⟨124,_,rfl,by kernel_rfl,c68⟩
 · exact ⟨125,_,rfl,by kernel_rfl,c69⟩

theorem ends_of {α:Type}{l:List α}(h:l.length≠0):∃a b,l[0]? = some a∧l[((l.length:Int)-1).toNat]? = some b∧∀d,l.headD d=a∧l.getLastD d=b:=by
 have e:((l.length:Int)-1).toNat=l.length-1:=by omega
 rw [e]
 refine ⟨l[0],l[l.length-1],List.getElem?_eq_getElem (by omega),List.getElem?_eq_getElem (by omega),fun d=>?_⟩
 cases l with
 | nil=>simp at h
 | cons x r=>simp [List.getLastD_eq_getLast?,List.getLast?_eq_getElem?]

theorem c40 (x:Evr)(hx:x.ok)(e:Ex)(hn:nodesS e=0)(hs:sizeN e≤1048576):APure Tryz.prog 77 [.agg (cX x),.agg (cE e)] (.tuple [.agg (cV (evalS x e).1),.int .i64 (evalS x e).2]):=by
 revert hn hs
 induction e using Ex.ind
 rename_i e ih
 intro hn hs
 have hz:=nodes_zero hn
 have hfl:=node_field hz.1
 have hal:=args_le e hs
 refine APure.body (n:=85) tok Tryz.func77 rfl rfl rfl fun H=>?_
 refine Qsr (Qp (Qbx [_,.int .i64 _,.int .i64 _,.int .i64 _,.int .i64 _,.int .i64 _,_,_]) (Qp Qbe ?_))
 refine Qe (E_alloc (l:=[.int .i64 0,.int .i64 0,.str []]) (by kernel_rfl)) ?_
 rintro _ _ ⟨b4,rfl,rfl⟩
 refine Qp Qai (Qnn (AW.seq (Qsr (Qp Qf1 (Qp Qls ?_)))))
 refine Qp (P_len_sl (n:=e.args.length) tok rfl rfl rfl (by simp)) ?_
 refine Qp Qceq (Qnn (Qif (fun hc1=>?_) fun hc1=>?_))
 ·
  refine Qsr (Qp (Qlg [_,.int .i64 _,.int .i64 _,.int .i64 _,.int .i64 _,.int .i64 _,_,_]) (Qp Qle ?_))
  refine Qp (Qc rfl (c70 x hx e hfl)) ?_
  refine Qp (P_extract (v:=.agg [.int .i64 _,.int .i64 _,.str _]) rfl rfl) ?_
  refine Qp Qxi ?_
  refine Qe (E_store (k:=0) (v:=.agg _) (cs':=[.int .i64 _,.int .i64 _,.str _]) (H2:=_::_) tok rfl rfl rfl rfl (rfl) rfl rfl rfl rfl) ?_
  rintro _ _ ⟨rfl,rfl⟩
  refine Qp Qai (Qnn (Qrt ?_))
  refine ⟨.inr rfl,[.agg [.int .i64 _,.int .i64 _,.str _],.int .i64 _],.cons (.box _ _ _ 0 _ _ _ _ rfl rfl rfl rfl rfl rfl) <| .cons (.tmp _ _ rfl) <| .nil,.cons _ (.refl _),?_⟩
  rw [evalS_eq x e,if_pos (by simpa [List.isEmpty_iff] using hc1)];rfl
 ·
  refine Qst (Qsr (Qp Qav ?_))
  refine AOL.ghost (GS.row (t:=6) 28 3 rfl) ?_
  refine Qns (Qp Qav ?_)
  refine AOL.ghost (GS.row (t:=7) 3 1 rfl) ?_
  refine Qnn (AW.seq (Qsr (Qp Qf1 (Qp Qls ?_))))
  refine Qp (P_len_sl (n:=e.args.length) tok rfl rfl rfl (by simp)) ?_
  refine Qp Qmi (Qnn (AW.block ?_))
  refine AW.loopS (fun (p:Nat×List (List AV)×Value×List (List AV)×Value)=>(⟨[(2,.ptr (cX x)),(3,.ptr (cE e)),(4,.val (.pointer (some ⟨b4,0,none⟩))),(6,.row p.2.2.1 3 p.2.1),(7,.row p.2.2.2.2 1 p.2.2.2.1),(23,.sl 8 (e.args.map encE)),(24,.int .i64 e.args.length),(25,.int .i64 (p.1:Int))],.row p.2.2.2.2 p.2.2.2.1.length 3 1 :: .row p.2.2.1 p.2.1.length 28 3 :: .box b4 28 [.int .i64 0,.int .i64 0,.str []]::H,85⟩:St)) (fun (p:Nat×List (List AV)×Value×List (List AV)×Value)=>p.1≤e.args.length∧firstS (fun a=>(evalS x a).2) e.args=firstS (fun a=>(evalS x a).2) (e.args.drop p.1)∧p.2.1=((e.args.take p.1).map (fun a=>(evalS x a).1)).map cV∧p.2.2.2.1=((e.args.take p.1).map (fun a=>(evalS x a).1.kind)).map (fun k=>[AV.int .i64 k])) (fun (p:Nat×List (List AV)×Value×List (List AV)×Value)=>e.args.length-p.1) ((0,[],.slice none 0 0,[],.slice none 0 0)) ?_ (GS.weaken ⟨rfl,rfl,rfl,rfl,rfl,rfl,rfl,rfl,trivial⟩ (.refl _)) ?_
  · exact ⟨Nat.zero_le _,by simp,by simp,by simp⟩
  ·
   rintro p hR
   have hsc:∀c∈p.2.1,scalars c=true:=by rw [hR.2.2.1];exact sc_map fun _=>rfl
   have hsc2:∀c∈p.2.2.2.1,scalars c=true:=by rw [hR.2.2.2];exact sc_map fun _=>rfl
   refine Qsr (Qp Qclt (Qnn (AW.seq (Qif (fun hc2=>?_) fun hc2=>?_))))
   ·
    obtain ⟨a,ha⟩:=get_lt hc2
    have hlt:=get_lt' ha
    have hm:=List.mem_of_getElem? ha
    refine Qst (AW.seq (AW.block (Qsr ?_)))
    refine Qp (P_indexAddr (c:=[.int .i64 _,_,.int .i64 _,.int .i64 _,.int .i64 _,.int .i64 _,.int .i64 _,.str _]) tok rfl rfl rfl rfl rfl rfl (by omega) (encE_at ha)) ?_
    refine Qp Qle ?_
    refine Qe (E_alloc (l:=[.int .i64 0,.sl 8 [],.int .i64 0,.int .i64 0,.int .i64 0,.int .i64 0,.int .i64 0,.str []]) (by kernel_rfl)) ?_
    rintro _ _ ⟨b9,rfl,rfl⟩
    refine Qe (E_store (k:=0) (v:=.agg _) (cs':=[.int .i64 _,_,.int .i64 _,.int .i64 _,.int .i64 _,.int .i64 _,.int .i64 _,.str _]) (H2:=_::_::_::_::_) tok rfl rfl rfl rfl (rfl) rfl rfl rfl rfl) ?_
    rintro _ _ ⟨rfl,rfl⟩
    refine AOL.ghost (GS.freeze (t:=9) 0 rfl rfl) ?_
    refine Qns (Qp (Qlg [_,.int .i64 _,.int .i64 _,.int .i64 _,.int .i64 _,.int .i64 _,_,_]) (Qp Qle ?_))
    refine Qp (Qc rfl (ih a hm (hz.2 a hm) (by have:=size_arg hm;omega))) ?_
    refine Qp Qmu ?_
    refine Qp (P_extract (v:=.agg [.int .i64 _,.int .i64 _,.str _]) rfl rfl) ?_
    refine Qp Qxi ?_
    refine Qe (E_alloc (l:=[.int .i64 0,.int .i64 0,.str []]) (by kernel_rfl)) ?_
    rintro _ _ ⟨b10,rfl,rfl⟩
    refine Qe (E_store (k:=0) (v:=.agg _) (cs':=[.int .i64 _,.int .i64 _,.str _]) (H2:=_::_::_::_::_) tok rfl rfl rfl rfl (rfl) rfl rfl rfl rfl) ?_
    rintro _ _ ⟨rfl,rfl⟩
    refine Qp Qai ?_
    refine AOL.ghost (GS.freeze (t:=10) 0 rfl rfl) ?_
    refine Qnn (AW.seq (Qsr (Qp Qmi (Qp Qcne (Qnn (Qif (fun hc3=>?_) fun hc3=>?_))))))
    ·
     refine Qsr (Qp (Qbd [.int .i64 _,.int .i64 _,.str _]) (Qp Qmi ?_))
     refine Qe (E_store (k:=2) (v:=.agg _) (cs':=[.int .i64 _,.int .i64 _,.str _]) (H2:=_::_::_::_) tok rfl rfl rfl rfl (rfl) rfl rfl rfl rfl) ?_
     rintro _ _ ⟨rfl,rfl⟩
     refine Qp Qai (Qnn (Qrt (blkR (thenR (thenR (blkR (thenR ?_)))))))
     refine ⟨.inr rfl,[.agg [.int .i64 _,.int .i64 _,.str _],.int .i64 _],.cons (.box _ _ _ 2 _ _ _ _ rfl rfl rfl rfl rfl rfl) <| .cons (.tmp _ _ rfl) <| .nil,.cons _ (.cons _ (.cons _ (.refl _))),?_⟩
     have hne:¬e.args.isEmpty=true:=by simpa [List.isEmpty_iff] using hc1
     have hfe:firstS (fun a=>(evalS x a).2) e.args=(evalS x a).2:=by rw [hR.2.1,drop_cons ha,firstS,if_pos hc3]
     rw [evalS_eq x e,if_neg hne,hfe,if_pos hc3];rfl
    ·
     refine Qst ?_
     refine AW.draw mixed (fun _=>True) trivial (by kernel_rfl) ?_
     refine Qn 0 rfl (P_move (v:=.row _ _ _) rfl) ?_
     refine Qn 1 rfl (Qlg [.int .i64 _,.int .i64 _,.str _]) ?_
     refine Qn 2 rfl (P_buildSlice (es:=[[.int .i64 _,.int .i64 _,.str _]]) tok rfl rfl rfl rfl rfl rfl rfl rfl rfl) ?_
     refine Qn 4 rfl (P_move (v:=.row _ _ _) rfl) ?_
     refine Qn 5 rfl Qf5 (Qn 6 rfl Qli ?_)
     refine Qn 7 rfl (P_buildSlice (es:=[[.int .i64 _]]) tok rfl rfl rfl rfl rfl rfl rfl rfl rfl) ?_
     refine Canon.eff _ _ 3 _ _ rfl (by kernel_rfl) rfl rfl (E_append (k:=1) tok rfl rfl rfl rfl rfl rfl rfl rfl (sc_one rfl) (hsc) (by simp [hR.2.2.1];omega) (by simp [hR.2.2.1,maxLen];omega)) (fun _ _ _=>trivial) ?_
     rintro _ _ ⟨v42,rfl,rfl⟩
     refine Canon.eff _ _ 8 _ _ rfl (by kernel_rfl) rfl rfl (E_append (k:=0) tok rfl rfl rfl rfl rfl rfl rfl rfl (sc_one rfl) (hsc2) (by simp [hR.2.2.2];omega) (by simp [hR.2.2.2,maxLen];omega)) (fun _ _ _=>trivial) ?_
     rintro _ _ ⟨v47,rfl,rfl⟩
     refine Qn 9 rfl (P_assign (v:=.row _ _ _) rfl) ?_
     refine Qn 10 rfl (P_assign (v:=.row _ _ _) rfl) ?_
     refine Canon.done _ _ (by kernel_rfl) ?_
     refine blkN (thenN (AW.region (Qp Qad (Qp Qmi (Qnn ?_)))))
     refine ⟨(p.1+1,p.2.1 ++ [cV (evalS x a).1],v42,p.2.2.2.1 ++ [[.int .i64 (evalS x a).1.kind]],v47),?_,?_,GS.weaken ⟨rfl,rfl,rfl,rfl,rfl,rfl,rfl,rfl,trivial⟩ (.refl _)⟩
     · simp only;exact ⟨hlt,by rw [hR.2.1,drop_cons ha,firstS,if_neg (by simpa using hc3)],by rw [take_get ha,hR.2.2.1];simp,by rw [take_get ha,hR.2.2.2];simp⟩
     · first | omega | (simp only;omega)
   ·
    have hte:=take_end hc2
    have hd:=get_end hc2
    have hf:firstS (fun a=>(evalS x a).2) e.args=0:=by rw [hR.2.1,hd];rfl
    obtain ⟨k,es,rv,es2,rv2⟩:=p
    simp only at hR hte
    have h6:es=(e.args.map (fun a=>(evalS x a).1)).map cV:=by rw [hR.2.2.1,hte]
    have h7:es2=(e.args.map (fun a=>(evalS x a).1.kind)).map (fun k=>[AV.int .i64 k]):=by rw [hR.2.2.2,hte]
    subst h6
    subst h7
    refine AW.exit ?_
    refine thenE (thenE (blkHit (thenN (AW.seq (Qsr (Qp Qf0 (Qp Qli ?_)))))))
    refine AOL.ghost (GS.unrow 7 rfl) ?_
    refine AOL.ghost (GS.unrow 6 rfl) ?_
    refine Qp Qms ?_
    refine Qp (Qc rfl (c71 e.op (e.args.map (fun a=>(evalS x a).1.kind)))) ?_
    refine Qp Qai (Qns (Qp Qmi (Qp Qcne (Qnn (Qif (fun hc4=>?_) fun hc4=>?_)))))
    ·
     refine Qsr (Qp (Qbd [.int .i64 _,.int .i64 _,.str _]) (Qp Qmi ?_))
     refine Qe (E_store (k:=2) (v:=.agg _) (cs':=[.int .i64 _,.int .i64 _,.str _]) (H2:=_::_::_::_) tok rfl rfl rfl rfl (rfl) rfl rfl rfl rfl) ?_
     rintro _ _ ⟨rfl,rfl⟩
     refine Qp Qai (Qnn (Qrt ?_))
     refine ⟨.inr rfl,[.agg [.int .i64 _,.int .i64 _,.str _],.int .i64 _],.cons (.box _ _ _ 2 _ _ _ _ rfl rfl rfl rfl rfl rfl) <| .cons (.tmp _ _ rfl) <| .nil,.cons _ (.cons _ (.cons _ (.refl _))),?_⟩
     have hne:¬e.args.isEmpty=true:=by simpa [List.isEmpty_iff] using hc1
     have hk:(e.args.map (fun a=>(evalS x a).1)).map (·.kind)=e.args.map (fun a=>(evalS x a).1.kind):=by simp
     rw [evalS_eq x e,if_neg hne,hf,if_neg (by decide),nodeV,hk,if_pos hc4];rfl
    ·
     have hsh:=node_args hz.1 hc1
     have hl0:(e.args.map (fun a=>(evalS x a).1)).length≠0:=by simp;intro h0;rw [h0] at hc1;simp at hc1
     have hl4:(e.args.map (fun a=>(evalS x a).1)).length≤1048576:=by simpa using hal
     refine (ends_of hl0).elim fun v hv=>hv.elim fun w hw=>?_
     have hv0:=hw.1
     have hvl:=hw.2.1
     have hvd:=hw.2.2
     refine Qst (AW.seq (Qsr (Qp Qf0 (Qp Qli (Qp Qceq (Qnn (Qif (fun hc5=>?_) fun hc5=>?_)))))))
     ·
      have h9:e.op=9:=by simpa using hc5
      have hl2:(e.args.map (fun a=>(evalS x a).1)).length=2:=by simp;omega
      have hv1:(e.args.map (fun a=>(evalS x a).1))[1]? = some w:=by rw [←hvl,hl2];rfl
      refine AW.seq ?_
      refine AW.draw mixed (fun _=>True) trivial (by kernel_rfl) ?_
      refine Qn 0 rfl Qms ?_
      refine Qn 1 rfl (P_indexAddr (c:=[.int .i64 _,.int .i64 _,.str _]) tok rfl rfl rfl rfl rfl rfl (by omega) (map_at hv0)) ?_
      refine Qn 2 rfl (Qlg [.int .i64 _,.int .i64 _,.str _]) (Qn 3 rfl Qms ?_)
      refine Qn 4 rfl (P_indexAddr (c:=[.int .i64 _,.int .i64 _,.str _]) tok rfl rfl rfl rfl rfl rfl (by omega) (map_at hv1)) ?_
      refine Qn 5 rfl (Qlg [.int .i64 _,.int .i64 _,.str _]) ?_
      refine Qn 6 rfl (P_eql_agg tok rfl rfl rfl rfl rfl) ?_
      refine Qn 7 rfl (Qc rfl (c42 _)) ?_
      refine Canon.eff _ _ 8 _ _ rfl (by kernel_rfl) rfl rfl (E_store (k:=2) (v:=.agg _) (cs':=[.int .i64 _,.int .i64 _,.str _]) (H2:=_::_::_::_) tok rfl rfl rfl rfl (rfl) rfl rfl rfl rfl) (fun _ _ _=>trivial) ?_
      rintro _ _ ⟨rfl,rfl⟩
      refine Qn 9 rfl Qai ?_
      refine Canon.done _ _ (by kernel_rfl) ?_
      refine thenN (Qrt ?_)
      refine ⟨.inr rfl,[.agg [.int .i64 _,.int .i64 _,.str _],.int .i64 _],.cons (.box _ _ _ 2 _ _ _ _ rfl rfl rfl rfl rfl rfl) <| .cons (.tmp _ _ rfl) <| .nil,.cons _ (.cons _ (.cons _ (.refl _))),?_⟩
      have hne:¬e.args.isEmpty=true:=by simpa [List.isEmpty_iff] using hc1
      have hk:(e.args.map (fun a=>(evalS x a).1)).map (·.kind)=e.args.map (fun a=>(evalS x a).1.kind):=by simp
      rw [evalS_eq x e,if_neg hne,hf,if_neg (by decide),nodeV,hk,if_neg (Bool.eq_false_iff.mp hc4),(hvd v0).1]
      first
      | (rw [if_pos hc5,hv1];simp only [Bool.and_true];first | done | rfl)
      | (rw [if_neg (Bool.eq_false_iff.mp hc5),(hvd v0).2] <;> rfl)
      | skip
     ·
      have h9:e.op≠9:=by simpa using hc5
      refine (ops_get e.op (by omega)).elim fun f hf1=>hf1.elim fun cap hf2=>?_
      have hmg:=hf2.1
      have hfn:=hf2.2.1
      have hap:=hf2.2.2
      refine Qst (AW.seq ?_)
      refine AW.draw mixed (fun _=>True) trivial (by kernel_rfl) ?_
      refine Qn 0 rfl (Qf [_]) ?_
      refine Qn 1 rfl (P_load_ptr (c:=.mapv _) tok rfl rfl rfl) ?_
      refine Qn 2 rfl Qf0 (Qn 3 rfl Qli ?_)
      refine Qn 4 rfl (P_lookup tok rfl rfl rfl rfl rfl rfl (hmg)) ?_
      refine Qn 5 rfl Qms ?_
      refine Qn 6 rfl (P_indexAddr (c:=[.int .i64 _,.int .i64 _,.str _]) tok rfl rfl rfl rfl rfl rfl (by omega) (map_at hv0)) ?_
      refine Qn 7 rfl Qf6 (Qn 8 rfl Qli (Qn 9 rfl Qms (Qn 10 rfl Qms ?_)))
      refine Qn 11 rfl (P_len_sl (n:=(e.args.map (fun a=>(evalS x a).1)).length) tok rfl rfl rfl (by simp)) ?_
      refine Qn 12 rfl (P_sub rfl rfl rfl (by constructor <;> omega)) ?_
      refine Qn 13 rfl (P_indexAddr (c:=[.int .i64 _,.int .i64 _,.str _]) tok rfl rfl rfl rfl rfl rfl (by simp at hl0 ⊢;omega) (map_at hvl)) ?_
      refine Qn 14 rfl Qf6 (Qn 15 rfl Qli ?_)
      refine Qn 16 rfl (P_call hfn rfl rfl rfl (hap _ _)) ?_
      refine Canon.eff _ _ 17 _ _ rfl (by kernel_rfl) rfl rfl (E_store (k:=2) (v:=.agg _) (cs':=[.int .i64 _,.int .i64 _,.str _]) (H2:=_::_::_::_) tok rfl rfl rfl rfl (rfl) rfl rfl rfl rfl) (fun _ _ _=>trivial) ?_
      rintro _ _ ⟨rfl,rfl⟩
      refine Qn 18 rfl Qai ?_
      refine Canon.done _ _ (by kernel_rfl) ?_
      refine thenN (AW.ret ?_)
      refine ⟨.inr rfl,[.agg [.int .i64 _,.int .i64 _,.str _],.int .i64 _],.cons (.box _ _ _ 2 _ _ _ _ rfl rfl rfl rfl rfl rfl) <| .cons (.tmp _ _ rfl) <| .nil,.cons _ (.cons _ (.cons _ (.refl _))),?_⟩
      have hne:¬e.args.isEmpty=true:=by simpa [List.isEmpty_iff] using hc1
      have hk:(e.args.map (fun a=>(evalS x a).1)).map (·.kind)=e.args.map (fun a=>(evalS x a).1.kind):=by simp
      rw [evalS_eq x e,if_neg hne,hf,if_neg (by decide),nodeV,hk,if_neg (Bool.eq_false_iff.mp hc4),(hvd v0).1]
      first
      | (rw [if_pos hc5,hv1];simp only [Bool.and_true];first | done | rfl)
      | (rw [if_neg (Bool.eq_false_iff.mp hc5),(hvd v0).2] <;> rfl)
      | skip

set_option maxHeartbeats 400000
set_option maxRecDepth 20000

theorem check_nodes {e:Ex}(h:checkS e=0):nodesS e=0:=by
 unfold checkS at h
 split at h
 · cases h
 split at h
 · cases h
 exact h

theorem c14 (vars:List (List Ev))(own:Int)(ev:Ev)(hx:∀l∈vars,l.length≤1048576)(e:Ex)(hs:sizeN e≤1048576):APure Tryz.prog 36 [.agg (cE e),.agg (cEnv vars),.int .i64 own,.agg (cEv ev)] (.tuple [.agg (cV (EvalS ⟨vars,own,ev⟩ e).1),.int .i64 (EvalS ⟨vars,own,ev⟩ e).2]):=by
 refine APure.body (n:=26) tok Tryz.func36 rfl rfl rfl fun H=>?_
 refine Qsr (Qp Qbe (Qp (Qbx [_]) (Qp (Qbx [.int .i64 _,.int .i64 _,.int .i64 _,.int .i64 _,_]) ?_)))
 refine Qe (E_alloc (l:=[.int .i64 0,.int .i64 0,.str []]) (by kernel_rfl)) ?_
 rintro _ _ ⟨b8,rfl,rfl⟩
 refine Qp Qai (Qnn (AW.seq (Qsr (Qp Qle ?_))))
 refine Qp (Qc rfl (c21 e hs)) ?_
 refine Qp Qai (Qns (Qp Qmi (Qp Qcne (Qnn (Qif (fun hc1=>?_) fun hc1=>?_)))))
 ·
  refine Qsr (Qp (Qbd [.int .i64 _,.int .i64 _,.str _]) (Qp Qmi ?_))
  refine Qe (E_store (k:=0) (v:=.agg _) (cs':=[.int .i64 _,.int .i64 _,.str _]) (H2:=_::_) tok rfl rfl rfl rfl (rfl) rfl rfl rfl rfl) ?_
  rintro _ _ ⟨rfl,rfl⟩
  refine Qp Qai (Qnn (Qrt ?_))
  refine ⟨.inr rfl,[.agg [.int .i64 _,.int .i64 _,.str _],.int .i64 _],.cons (.box _ _ _ 0 _ _ _ _ rfl rfl rfl rfl rfl rfl) <| .cons (.tmp _ _ rfl) <| .nil,.cons _ (.refl _),?_⟩
  simp only [resOf,EvalS]
  (first | rw [if_pos hc1] | skip)
  first | done | rfl
 ·
  refine Qst (AW.seq ?_)
  refine AW.draw mixed (fun _=>True) trivial (by kernel_rfl) ?_
  refine Qn 0 rfl (Qlg [_]) (Qn 1 rfl Qmi (Qn 2 rfl (Qlg [.int .i64 _,.int .i64 _,.int .i64 _,.int .i64 _,_]) ?_))
  refine Qn 3 rfl (Qc rfl (c39)) ?_
  refine Qn 4 rfl (Qbd [_,.int .i64 _,.int .i64 _,.int .i64 _,.int .i64 _,.int .i64 _,_,_]) (Qn 5 rfl Qle ?_)
  refine Qn 6 rfl (Qc rfl (c40 ⟨vars,own,ev⟩ hx e (check_nodes (by simpa using hc1)) hs)) ?_
  refine Qn 7 rfl (P_extract (v:=.agg [.int .i64 _,.int .i64 _,.str _]) rfl rfl) ?_
  refine Qn 8 rfl Qxi ?_
  refine Canon.eff _ _ 9 _ _ rfl (by kernel_rfl) rfl rfl (E_store (k:=0) (v:=.agg _) (cs':=[.int .i64 _,.int .i64 _,.str _]) (H2:=_::_) tok rfl rfl rfl rfl (rfl) rfl rfl rfl rfl) (fun _ _ _=>trivial) ?_
  rintro _ _ ⟨rfl,rfl⟩
  refine Qn 10 rfl Qai ?_
  refine Canon.done _ _ (by kernel_rfl) ?_
  refine thenN (AW.ret ?_)
  refine ⟨.inr rfl,[.agg [.int .i64 _,.int .i64 _,.str _],.int .i64 _],.cons (.box _ _ _ 0 _ _ _ _ rfl rfl rfl rfl rfl rfl) <| .cons (.tmp _ _ rfl) <| .nil,.cons _ (.refl _),?_⟩
  simp only [resOf,EvalS]
  (first | rw [if_neg (Bool.eq_false_iff.mp hc1)] | skip)
  first | done | rfl
theorem c16 (vars:List (List Ev))(own:Int)(ev:Ev)(hx:∀l∈vars,l.length≤1048576)(e:Ex)(hs:sizeN e≤1048576):APure Tryz.prog 27 [.agg (cE e),.agg (cEnv vars),.int .i64 own,.agg (cEv ev)] (.bool (TruthS ⟨vars,own,ev⟩ e)):=by
 refine APure.body (n:=26) tok Tryz.func27 rfl rfl rfl fun H=>?_
 refine Qsr (Qp Qbe (Qp (Qbx [_]) (Qp (Qbx [.int .i64 _,.int .i64 _,.int .i64 _,.int .i64 _,_]) (Qp Qab (Qns (Qp Qle (Qp (Qlg [_]) (Qp Qmi (Qp (Qlg [.int .i64 _,.int .i64 _,.int .i64 _,.int .i64 _,_]) ?_)))))))))
 refine Qp (Qc rfl (c14 vars own ev hx e hs)) ?_
 refine Qp Qmu ?_
 refine Qp (P_extract (v:=.agg [.int .i64 _,.int .i64 _,.str _]) rfl rfl) ?_
 refine Qp Qxi ?_
 refine Qe (E_alloc (l:=[.int .i64 0,.int .i64 0,.str []]) (by kernel_rfl)) ?_
 rintro _ _ ⟨b9,rfl,rfl⟩
 refine Qe (E_store (k:=0) (v:=.agg _) (cs':=[.int .i64 _,.int .i64 _,.str _]) (H2:=_::_) tok rfl rfl rfl rfl (rfl) rfl rfl rfl rfl) ?_
 rintro _ _ ⟨rfl,rfl⟩
 refine Qp Qai ?_
 refine AOL.ghost (GS.freeze (t:=9) 0 rfl rfl) ?_
 refine Qnn (AW.seq ?_)
 refine AW.draw mixed (fun _=>True) trivial (by kernel_rfl) ?_
 refine Qn 0 rfl Qmi (Qn 1 rfl Qceq (Qn 2 rfl Qmb (Qo 3 rfl [] Qw (Qlg [.int .i64 _,.int .i64 _,.str _]) ?_)))
 refine Qo 4 rfl [] Qw (Qc rfl (c42 true)) ?_
 refine Canon.pure _ _ 5 _ _ rfl (by kernel_rfl) (by kernel_rfl) rfl (.opt _ (.bool _) [(22,_),(23,_)] rfl (EntL.all ⟨Ent.self _ _,Ent.self _ _,trivial⟩) (fun hG=>P_eql_agg tok rfl rfl rfl rfl rfl) rfl) ?_
 refine Qn 6 rfl Qpa (Qn 7 rfl Qab ?_)
 refine Canon.done _ _ (by kernel_rfl) ?_
 refine thenN (AW.ret ?_)
 refine Qr (.bool _) ?_
 simp only [resOf,TruthS]
 simp only [Bool.and_true]

set_option maxHeartbeats 1600000
set_option maxRecDepth 20000

def cT (types:List Sc)(vars:List Va):List AV:=[.sl 2 (types.map cSc),.sl 2 (vars.map cVa)]
def TyOK8 (types:List Sc)(vars:List Va):Prop:=∀v∈vars,0≤v.type∧v.type<(types.length:Int)
theorem node_kind {e:Ex}(h:nodeS e=0)(h4:e.op=4):1≤e.kind∧e.kind≤5:=by
 unfold nodeS at h
 split at h
 · cases h
 split at h
 · cases h
 split at h
 · cases h
 split at h
 · cases h
 rename_i h5
 simp [h4] at h5
 omega
theorem rs_es {e:Ex}(h:nodeS e=0)(c:Bool)(v:Vl):(e.op==4&&(c || !rsuitsS e.kind v))=(e.op==4&&(c || !esuitsS e.kind v)):=by
 by_cases h4:e.op=4
 ·
  have hk:=node_kind h h4
  have:rsuitsS e.kind v=esuitsS e.kind v:=by
   unfold rsuitsS esuitsS
   have:(e.kind==0)=false:=by simp;omega
   rw [this,Bool.or_false]
  rw [this]
 ·
  have:(e.op==4)=false:=by simp [h4]
  rw [this];rfl
theorem varsE_zero {types:List Sc}{vars:List Va}(h:varsE types vars=0):firstS (varE types.length) vars=0:=by
 unfold varsE at h
 split at h
 · cases h
 · exact h
theorem tyok_of {types:List Sc}{vars:List Va}(h:firstS (varE types.length) vars=0):TyOK8 types vars:=by
 intro v hv
 have:=first_zero h v hv
 unfold varE at this
 split at this
 · cases this
 · rename_i h1;simp at h1;omega

theorem c86 (types:List Sc)(vars:List Va)(hv:TyOK8 types vars)(e:Ex)(hn:nodeS e=0):APure Tryz.prog 156 [.agg (cT types vars),.agg (cE e)] (.tuple [.int .i64 (leafK types vars e).1,.int .i64 (leafK types vars e).2]):=by
 have hvr:=node_var hn
 have hfr:=node_field hn
 refine APure.body (n:=70) tok Tryz.func156 rfl rfl rfl fun H=>?_
 refine Qsr (Qp (Qbx [_,_]) (Qp Qbe (Qp Qai (Qp Qai (Qnn (AW.seq (Qsr (Qp Qf0 (Qp Qli ?_)))))))))
 refine Qp Qceq (Qnn (Qif (fun hc1=>?_) fun hc1=>?_))
 ·
  refine Qsr (Qp Qf5 (Qp Qf5 (Qp Qli (Qp Qai (Qp Qai (Qnn (Qrt ?_)))))))
  refine Qrr (.int .i64 _) (.int .i64 _) ?_
  simp only [resOf,leafK]
  try simp only [hfl]
  try simp only [hka]
  (first | rw [if_pos hc1] | skip)
  first | done | rfl
 ·
  refine Qst (AW.seq (Qsr (Qp Qf2 (Qp Qli (Qp (Qf [_]) (Qp Qls ?_))))))
  refine Qp (P_len_sl (n:=vars.length) tok rfl rfl rfl (by simp)) ?_
  refine Qp Qcgq (Qnn (Qif (fun hc2=>?_) fun hc2=>?_))
  ·
   refine Qsr (Qp Qai (Qp Qai (Qnn (Qrt ?_))))
   refine Qrr (.int .i64 _) (.int .i64 _) ?_
   simp only [resOf,leafK]
   try simp only [hfl]
   try simp only [hka]
   (first | rw [if_neg (Bool.eq_false_iff.mp hc1)] | skip);(first | rw [if_pos hc2] | skip)
   first | done | rfl
  ·
   refine Qst (AW.seq (Qsr (Qp Qf0 (Qp Qli (Qp Qceq (Qp Qmb (Qg [] Qw Qf0 (Qg [(24,_)] Qw Qli (Qg [(25,_)] Qw Qceq ?_)))))))))
   refine Qp Qpo (Qnn (Qif (fun hc3=>?_) fun hc3=>?_))
   ·
    refine Qsr (Qp Qai (Qp Qai (Qnn (Qrt ?_))))
    refine Qrr (.int .i64 _) (.int .i64 _) ?_
    simp only [resOf,leafK]
    try simp only [hfl]
    try simp only [hka]
    (first | rw [if_neg (Bool.eq_false_iff.mp hc1)] | skip);(first | rw [if_neg (Bool.eq_false_iff.mp hc2)] | skip);(first | rw [if_pos hc3] | skip)
    first | done | rfl
   ·
    refine (get_int (l:=vars) hvr.1 (by simp at hc2;omega)).elim fun v hv1=>?_
    have hvt:=hv v (List.mem_of_getElem? hv1)
    refine (get_int (l:=types) hvt.1 hvt.2).elim fun s hs1=>?_
    have hfl:fldsS types vars e.var=s.fields:=by simp [fldsS,hv1,hs1]
    refine Qst (AW.seq ?_)
    refine AW.draw mixed (fun _=>True) trivial (by kernel_rfl) ?_
    refine Qn 0 rfl (Qf [_,_]) (Qn 1 rfl Qls (Qn 2 rfl (Qf [_]) (Qn 3 rfl Qls (Qn 4 rfl Qf2 (Qn 5 rfl Qli ?_)))))
    refine Qn 6 rfl (P_indexAddr (c:=[.str _,.int .i64 _]) tok rfl rfl rfl rfl rfl rfl (hvr.1) (map_at hv1)) ?_
    refine Qn 7 rfl (Qf [.int .i64 _]) (Qn 8 rfl Qli ?_)
    refine Qn 9 rfl (P_indexAddr (c:=[.str _,_]) tok rfl rfl rfl rfl rfl rfl (hvt.1) (map_at hs1)) ?_
    refine Qn 10 rfl (Qf [_]) (Qn 11 rfl Qls (Qn 12 rfl Qas ?_))
    refine Canon.done _ _ (by kernel_rfl) ?_
    refine thenN (AW.seq (Qsr (Qp Qf3 (Qp Qli (Qp Qms ?_)))))
    refine Qp (P_len_sl (n:=s.fields.length) tok rfl rfl rfl (by simp)) ?_
    refine Qp Qcgq (Qnn (Qif (fun hc4=>?_) fun hc4=>?_))
    ·
     refine Qsr (Qp Qai (Qp Qai (Qnn (Qrt ?_))))
     refine Qrr (.int .i64 _) (.int .i64 _) ?_
     simp only [resOf,leafK]
     try simp only [hfl]
     try simp only [hka]
     (first | rw [if_neg (Bool.eq_false_iff.mp hc1)] | skip);(first | rw [if_neg (Bool.eq_false_iff.mp hc2)] | skip);(first | rw [if_neg (Bool.eq_false_iff.mp hc3)] | skip);(first | rw [if_pos hc4] | skip)
     first | done | rfl
    ·
     refine (get_int (l:=s.fields) hfr (by simp at hc4;omega)).elim fun f hf1=>?_
     have hka:kindAt s.fields e.field=f.kind:=by simp [kindAt,hf1]
     refine Qst (Qsr (Qp Qms (Qp Qf3 (Qp Qli ?_))))
     refine Qp (P_indexAddr (c:=[.str _,.int .i64 _]) tok rfl rfl rfl rfl rfl rfl (hfr) (map_at hf1)) ?_
     refine Qp (Qf [.int .i64 _]) (Qp Qli (Qp Qai (Qnn (AW.seq (Qsr (Qp Qf0 (Qp Qli (Qp Qceq (Qp Qmb ?_)))))))))
     refine Qg [] Qw Qmi (Qg [] Qw Qf5 (Qg [(56,_)] Qw Qf5 (Qg [(57,_)] Qw Qli ?_)))
     refine AOL.g (y:=.bool _) _ [(55,_),(58,_)] rfl (EntL.all ⟨Ent.self _ _,Ent.self _ _,trivial⟩) (fun hG=>P_neq rfl rfl) rfl ?_
     refine Qg [(59,_)] Qw Qmb (Qg [] Qw Qf4 (Qg [(61,_)] Qw Qli (Qg [] Qw Qmi (Qg [(63,_)] Qw (Qbd [.int .i64 _,.int .i64 _,.str _]) ?_))))
     refine AOL.g (y:=.bool _) _ [(62,_),(64,_)] rfl (EntL.all ⟨Ent.self _ _,Ent.self _ _,trivial⟩) (fun hG=>P_callf (by kernel_rfl) rfl rfl (c99 _ ⟨_,_,_⟩)) rfl ?_
     refine Qg [(65,_)] Qw Qnt (Qg [(60,_),(66,_)] Qw Qpo (Qp Qpa (Qnn (Qif (fun hc5=>?_) fun hc5=>?_))))
     ·
      refine Qsr (Qp Qai (Qp Qai (Qnn (Qrt ?_))))
      refine Qrr (.int .i64 _) (.int .i64 _) ?_
      simp only [resOf,leafK]
      try simp only [hfl]
      try simp only [hka]
      (first | rw [if_neg (Bool.eq_false_iff.mp hc1)] | skip);(first | rw [if_neg (Bool.eq_false_iff.mp hc2)] | skip);(first | rw [if_neg (Bool.eq_false_iff.mp hc3)] | skip);(first | rw [if_neg (Bool.eq_false_iff.mp hc4)] | skip);(first | rw [if_pos hc5] | skip)
      first | done | rfl
     ·
      refine Qst (Qsr (Qp Qmi (Qp Qai (Qp Qai (Qnn (AW.ret ?_))))))
      refine Qrr (.int .i64 _) (.int .i64 _) ?_
      simp only [resOf,leafK]
      try simp only [hfl]
      try simp only [hka]
      (first | rw [if_neg (Bool.eq_false_iff.mp hc1)] | skip);(first | rw [if_neg (Bool.eq_false_iff.mp hc2)] | skip);(first | rw [if_neg (Bool.eq_false_iff.mp hc3)] | skip);(first | rw [if_neg (Bool.eq_false_iff.mp hc4)] | skip);(first | rw [if_neg (Bool.eq_false_iff.mp hc5)] | skip)
      first | done | rfl
theorem c89 (types:List Sc)(vars:List Va)(hv:TyOK8 types vars)(e:Ex)(hn:nodeS e=0):APure Tryz.prog 115 [.sl 2 (types.map cSc),.sl 2 (vars.map cVa),.agg (cE e)] (.tuple [.int .i64 (leafK types vars e).1,.int .i64 (leafK types vars e).2]):=by
 have hvr:=node_var hn
 have hfr:=node_field hn
 refine APure.body (n:=69) tok Tryz.func115 rfl rfl rfl fun H=>?_
 refine Qsr (Qp Qbe (Qp Qai (Qp Qai (Qnn (AW.seq (Qsr (Qp Qf0 (Qp Qli (Qp Qceq ?_)))))))))
 refine Qnn (Qif (fun hc1=>?_) fun hc1=>?_)
 ·
  refine Qsr (Qp Qf5 (Qp Qf5 (Qp Qli (Qp Qai (Qp Qai (Qnn (Qrt ?_)))))))
  refine Qrr (.int .i64 _) (.int .i64 _) ?_
  simp only [resOf,leafK]
  try simp only [hfl]
  try simp only [hka]
  (first | rw [if_pos hc1] | skip)
  first | done | rfl
 ·
  refine Qst (AW.seq (Qsr (Qp Qf2 (Qp Qli (Qp Qms ?_)))))
  refine Qp (P_len_sl (n:=vars.length) tok rfl rfl rfl (by simp)) ?_
  refine Qp Qcgq (Qnn (Qif (fun hc2=>?_) fun hc2=>?_))
  ·
   refine Qsr (Qp Qai (Qp Qai (Qnn (Qrt ?_))))
   refine Qrr (.int .i64 _) (.int .i64 _) ?_
   simp only [resOf,leafK]
   try simp only [hfl]
   try simp only [hka]
   (first | rw [if_neg (Bool.eq_false_iff.mp hc1)] | skip);(first | rw [if_pos hc2] | skip)
   first | done | rfl
  ·
   refine Qst (AW.seq (Qsr (Qp Qf0 (Qp Qli (Qp Qceq (Qp Qmb (Qg [] Qw Qf0 (Qg [(25,_)] Qw Qli (Qg [(26,_)] Qw Qceq ?_)))))))))
   refine Qp Qpo (Qnn (Qif (fun hc3=>?_) fun hc3=>?_))
   ·
    refine Qsr (Qp Qai (Qp Qai (Qnn (Qrt ?_))))
    refine Qrr (.int .i64 _) (.int .i64 _) ?_
    simp only [resOf,leafK]
    try simp only [hfl]
    try simp only [hka]
    (first | rw [if_neg (Bool.eq_false_iff.mp hc1)] | skip);(first | rw [if_neg (Bool.eq_false_iff.mp hc2)] | skip);(first | rw [if_pos hc3] | skip)
    first | done | rfl
   ·
    refine (get_int (l:=vars) hvr.1 (by simp at hc2;omega)).elim fun v hv1=>?_
    have hvt:=hv v (List.mem_of_getElem? hv1)
    refine (get_int (l:=types) hvt.1 hvt.2).elim fun s hs1=>?_
    have hfl:fldsS types vars e.var=s.fields:=by simp [fldsS,hv1,hs1]
    refine Qst (Qsr (Qp Qms (Qp Qms (Qp Qf2 (Qp Qli ?_)))))
    refine Qp (P_indexAddr (c:=[.str _,.int .i64 _]) tok rfl rfl rfl rfl rfl rfl (hvr.1) (map_at hv1)) ?_
    refine Qp (Qf [.int .i64 _]) (Qp Qli ?_)
    refine Qp (P_indexAddr (c:=[.str _,_]) tok rfl rfl rfl rfl rfl rfl (hvt.1) (map_at hs1)) ?_
    refine Qp (Qf [_]) (Qp Qls (Qp Qas (Qnn (AW.seq (Qsr (Qp Qf3 (Qp Qli (Qp Qms ?_))))))))
    refine Qp (P_len_sl (n:=s.fields.length) tok rfl rfl rfl (by simp)) ?_
    refine Qp Qcgq (Qnn (Qif (fun hc4=>?_) fun hc4=>?_))
    ·
     refine Qsr (Qp Qai (Qp Qai (Qnn (Qrt ?_))))
     refine Qrr (.int .i64 _) (.int .i64 _) ?_
     simp only [resOf,leafK]
     try simp only [hfl]
     try simp only [hka]
     (first | rw [if_neg (Bool.eq_false_iff.mp hc1)] | skip);(first | rw [if_neg (Bool.eq_false_iff.mp hc2)] | skip);(first | rw [if_neg (Bool.eq_false_iff.mp hc3)] | skip);(first | rw [if_pos hc4] | skip)
     first | done | rfl
    ·
     refine (get_int (l:=s.fields) hfr (by simp at hc4;omega)).elim fun f hf1=>?_
     have hka:kindAt s.fields e.field=f.kind:=by simp [kindAt,hf1]
     refine Qst (Qsr (Qp Qms (Qp Qf3 (Qp Qli ?_))))
     refine Qp (P_indexAddr (c:=[.str _,.int .i64 _]) tok rfl rfl rfl rfl rfl rfl (hfr) (map_at hf1)) ?_
     refine Qp (Qf [.int .i64 _]) (Qp Qli (Qp Qai (Qnn (AW.seq (Qsr (Qp Qf0 (Qp Qli (Qp Qceq (Qp Qmb ?_)))))))))
     refine Qg [] Qw Qmi (Qg [] Qw Qf5 (Qg [(55,_)] Qw Qf5 (Qg [(56,_)] Qw Qli ?_)))
     refine AOL.g (y:=.bool _) _ [(54,_),(57,_)] rfl (EntL.all ⟨Ent.self _ _,Ent.self _ _,trivial⟩) (fun hG=>P_neq rfl rfl) rfl ?_
     refine Qg [(58,_)] Qw Qmb (Qg [] Qw Qf4 (Qg [(60,_)] Qw Qli (Qg [] Qw Qmi (Qg [(62,_)] Qw (Qbd [.int .i64 _,.int .i64 _,.str _]) ?_))))
     refine AOL.g (y:=.bool _) _ [(61,_),(63,_)] rfl (EntL.all ⟨Ent.self _ _,Ent.self _ _,trivial⟩) (fun hG=>P_callf (by kernel_rfl) rfl rfl (c101 _ ⟨_,_,_⟩)) rfl ?_
     refine Qg [(64,_)] Qw Qnt (Qg [(59,_),(65,_)] Qw Qpo (Qp Qpa (Qnn (Qif (fun hc5=>?_) fun hc5=>?_))))
     ·
      rw [rs_es hn] at hc5
      refine Qsr (Qp Qai (Qp Qai (Qnn (Qrt ?_))))
      refine Qrr (.int .i64 _) (.int .i64 _) ?_
      simp only [resOf,leafK]
      try simp only [hfl]
      try simp only [hka]
      (first | rw [if_neg (Bool.eq_false_iff.mp hc1)] | skip);(first | rw [if_neg (Bool.eq_false_iff.mp hc2)] | skip);(first | rw [if_neg (Bool.eq_false_iff.mp hc3)] | skip);(first | rw [if_neg (Bool.eq_false_iff.mp hc4)] | skip);(first | rw [if_pos hc5] | skip)
      first | done | rfl
     ·
      rw [rs_es hn] at hc5
      refine Qst (Qsr (Qp Qmi (Qp Qai (Qp Qai (Qnn (AW.ret ?_))))))
      refine Qrr (.int .i64 _) (.int .i64 _) ?_
      simp only [resOf,leafK]
      try simp only [hfl]
      try simp only [hka]
      (first | rw [if_neg (Bool.eq_false_iff.mp hc1)] | skip);(first | rw [if_neg (Bool.eq_false_iff.mp hc2)] | skip);(first | rw [if_neg (Bool.eq_false_iff.mp hc3)] | skip);(first | rw [if_neg (Bool.eq_false_iff.mp hc4)] | skip);(first | rw [if_neg (Bool.eq_false_iff.mp hc5)] | skip)
      first | done | rfl
theorem c90 (op:Int):APure Tryz.prog 117 [.int .i64 op] (.int .i64 (resK op)):=by
 refine APure.body (n:=9) tok Tryz.func117 rfl rfl rfl fun H=>?_
 refine Qsr (Qp Qai (Qnn (AW.seq (Qsr (Qp Qmi (Qp Qceq (Qp Qmb (Qg [] Qw Qmi (Qg [(6,_)] Qw Qceq ?_)))))))))
 refine Qp Qpo (Qnn (Qif (fun hc1=>?_) fun hc1=>?_))
 ·
  refine Qsr (Qp Qai (Qnn (Qrt ?_)))
  refine Qr (.int .i64 _) ?_
  simp only [resOf,resK]
  (first | rw [if_pos hc1] | skip)
 ·
  refine Qst (Qsr (Qp Qai (Qnn (AW.ret ?_))))
  refine Qr (.int .i64 _) ?_
  simp only [resOf,resK]
  (first | rw [if_neg (Bool.eq_false_iff.mp hc1)] | skip)
theorem c58 (types:List Sc)(vars:List Va)(hv:TyOK8 types vars)(e:Ex)(hn:nodesS e=0)(hs:sizeN e≤1048576):APure Tryz.prog 133 [.agg (cT types vars),.agg (cE e)] (.tuple [.int .i64 (kindS types vars e).1,.int .i64 (kindS types vars e).2]):=by
 revert hn hs
 induction e using Ex.ind
 rename_i e ih
 intro hn hs
 have hz:=nodes_zero hn
 have hal:=args_le e hs
 refine APure.body (n:=57) tok Tryz.func133 rfl rfl rfl fun H=>?_
 refine Qsr (Qp (Qbx [_,_]) (Qp Qbe (Qp Qai (Qp Qai (Qnn (AW.seq (Qsr (Qp Qf1 (Qp Qls ?_)))))))))
 refine Qp (P_len_sl (n:=e.args.length) tok rfl rfl rfl (by simp)) ?_
 refine Qp Qceq (Qnn (Qif (fun hc1=>?_) fun hc1=>?_))
 ·
  refine Qsr (Qp (Qlg [_,_]) (Qp Qle ?_))
  refine Qp (Qc rfl (c86 types vars hv e hz.1)) ?_
  refine Qp Qxi (Qp Qxi (Qp Qai (Qp Qai (Qnn (Qrt ?_)))))
  refine Qrr (.int .i64 _) (.int .i64 _) ?_
  rw [kindS_eq types vars e,if_pos (by simpa [List.isEmpty_iff] using hc1)];rfl
 ·
  refine Qst (Qsr (Qp Qav ?_))
  refine AOL.ghost (GS.row (t:=6) 3 1 rfl) ?_
  refine Qnn (AW.seq (Qsr (Qp Qf1 (Qp Qls ?_))))
  refine Qp (P_len_sl (n:=e.args.length) tok rfl rfl rfl (by simp)) ?_
  refine Qp Qmi (Qnn (AW.block ?_))
  refine AW.loopS (fun (p:Nat×List (List AV)×Value)=>(⟨[(2,.ptr (cT types vars)),(3,.ptr (cE e)),(6,.row p.2.2 1 p.2.1),(22,.sl 8 (e.args.map encE)),(23,.int .i64 e.args.length),(24,.int .i64 (p.1:Int))],.row p.2.2 p.2.1.length 3 1::H,57⟩:St)) (fun (p:Nat×List (List AV)×Value)=>p.1≤e.args.length∧firstS (fun a=>(kindS types vars a).2) e.args=firstS (fun a=>(kindS types vars a).2) (e.args.drop p.1)∧p.2.1=((e.args.take p.1).map (fun a=>(kindS types vars a).1)).map (fun k=>[AV.int .i64 k])) (fun (p:Nat×List (List AV)×Value)=>e.args.length-p.1) ((0,[],.slice none 0 0)) ?_ (GS.weaken ⟨rfl,rfl,rfl,rfl,rfl,rfl,trivial⟩ (.refl _)) ?_
  · exact ⟨Nat.zero_le _,by simp,by simp⟩
  ·
   rintro p hR
   refine Qsr (Qp Qclt (Qnn (AW.seq (Qif (fun hc2=>?_) fun hc2=>?_))))
   ·
    obtain ⟨a,ha⟩:=get_lt hc2
    have hlt:=get_lt' ha
    have hm:=List.mem_of_getElem? ha
    have hsc:∀c∈p.2.1,scalars c=true:=by rw [hR.2.2];exact sc_map fun _=>rfl
    refine Qst (AW.seq (AW.block (Qsr ?_)))
    refine Qp (P_indexAddr (c:=[.int .i64 _,_,.int .i64 _,.int .i64 _,.int .i64 _,.int .i64 _,.int .i64 _,.str _]) tok rfl rfl rfl rfl rfl rfl (by omega) (encE_at ha)) ?_
    refine Qp Qle ?_
    refine Qe (E_alloc (l:=[.int .i64 0,.sl 8 [],.int .i64 0,.int .i64 0,.int .i64 0,.int .i64 0,.int .i64 0,.str []]) (by kernel_rfl)) ?_
    rintro _ _ ⟨b8,rfl,rfl⟩
    refine Qe (E_store (k:=0) (v:=.agg _) (cs':=[.int .i64 _,_,.int .i64 _,.int .i64 _,.int .i64 _,.int .i64 _,.int .i64 _,.str _]) (H2:=_::_::_) tok rfl rfl rfl rfl (rfl) rfl rfl rfl rfl) ?_
    rintro _ _ ⟨rfl,rfl⟩
    refine AOL.ghost (GS.freeze (t:=8) 0 rfl rfl) ?_
    refine Qns (Qp (Qlg [_,_]) (Qp Qle ?_))
    refine Qp (Qc rfl (ih a hm (hz.2 a hm) (by have:=size_arg hm;omega))) ?_
    refine Qp Qmu (Qp Qxi (Qp Qxi (Qp Qai (Qp Qai (Qnn (AW.seq (Qsr (Qp Qmi (Qp Qcne ?_)))))))))
    refine Qnn (Qif (fun hc3=>?_) fun hc3=>?_)
    ·
     refine Qsr (Qp Qmi (Qp Qai (Qp Qai (Qnn (Qrt (blkR (thenR (thenR (blkR ?_)))))))))
     refine thenR ?_
     refine ⟨.inr rfl,[.int .i64 _,.int .i64 _],.cons (.tmp _ _ rfl) <| .cons (.tmp _ _ rfl) <| .nil,.cons _ (.refl _),?_⟩
     have hne:¬e.args.isEmpty=true:=by simpa [List.isEmpty_iff] using hc1
     have hfe:firstS (fun a=>(kindS types vars a).2) e.args=(kindS types vars a).2:=by rw [hR.2.1,drop_cons ha,firstS,if_pos hc3]
     rw [kindS_eq types vars e,if_neg hne,hfe,if_pos hc3];rfl
    ·
     refine Qst (AW.region ?_)
     refine Qp (P_move (v:=.row _ _ _) rfl) ?_
     refine Qp Qmi ?_
     refine Qp (P_buildSlice (es:=[[.int .i64 _]]) tok rfl rfl rfl rfl rfl rfl rfl rfl rfl) ?_
     refine Qe (E_append (k:=0) tok rfl rfl rfl rfl rfl rfl rfl rfl (sc_one rfl) (hsc) (by simp [hR.2.2];omega) (by simp [hR.2.2,maxLen];omega)) ?_
     rintro _ _ ⟨v40,rfl,rfl⟩
     refine Qp (P_assign (v:=.row _ _ _) rfl) ?_
     refine AOL.nil (blkN (thenN (AW.region (Qp Qad (Qp Qmi (Qnn ?_))))))
     refine ⟨(p.1+1,p.2.1 ++ [[.int .i64 (kindS types vars a).1]],v40),?_,?_,GS.weaken ⟨rfl,rfl,rfl,rfl,rfl,rfl,trivial⟩ (.refl _)⟩
     · simp only;exact ⟨hlt,by rw [hR.2.1,drop_cons ha,firstS,if_neg (by simpa using hc3)],by rw [take_get ha,hR.2.2];simp⟩
     · first | omega | (simp only;omega)
   ·
    have hte:=take_end hc2
    have hd:=get_end hc2
    have hf:firstS (fun a=>(kindS types vars a).2) e.args=0:=by rw [hR.2.1,hd];rfl
    obtain ⟨k,es,rv⟩:=p
    simp only at hR hte
    have h6:es=(e.args.map (fun a=>(kindS types vars a).1)).map (fun k=>[AV.int .i64 k]):=by rw [hR.2.2,hte]
    subst h6
    refine AW.exit ?_
    refine thenE (thenE (blkHit (thenN (AW.seq (Qsr (Qp Qf0 (Qp Qli ?_)))))))
    refine AOL.ghost (GS.unrow 6 rfl) ?_
    refine Qp Qms ?_
    refine Qp (Qc rfl (c71 e.op (e.args.map (fun a=>(kindS types vars a).1)))) ?_
    refine Qp Qai (Qns (Qp Qmi (Qp Qcne (Qnn (Qif (fun hc4=>?_) fun hc4=>?_)))))
    ·
     refine Qsr (Qp Qmi (Qp Qai (Qp Qai (Qnn (Qrt ?_)))))
     refine ⟨.inr rfl,[.int .i64 _,.int .i64 _],.cons (.tmp _ _ rfl) <| .cons (.tmp _ _ rfl) <| .nil,.cons _ (.refl _),?_⟩
     have hne:¬e.args.isEmpty=true:=by simpa [List.isEmpty_iff] using hc1
     rw [kindS_eq types vars e,if_neg hne,hf,if_neg (show ¬((0:Int) != 0)=true by decide),if_pos hc4];rfl
    ·
     refine Qst (AW.seq (Qsr (Qp Qf0 (Qp Qli (Qp Qceq (Qp Qmb (Qg [] Qw Qf0 (Qg [(53,_)] Qw Qli (Qg [(54,_)] Qw Qceq ?_)))))))))
     refine Qp Qpo (Qnn (Qif (fun hc5=>?_) fun hc5=>?_))
     ·
      refine Qsr (Qp Qai (Qp Qai (Qnn (Qrt ?_))))
      refine ⟨.inr rfl,[.int .i64 _,.int .i64 _],.cons (.tmp _ _ rfl) <| .cons (.tmp _ _ rfl) <| .nil,.cons _ (.refl _),?_⟩
      have hne:¬e.args.isEmpty=true:=by simpa [List.isEmpty_iff] using hc1
      rw [kindS_eq types vars e,if_neg hne,hf,if_neg (show ¬((0:Int) != 0)=true by decide),if_neg (Bool.eq_false_iff.mp hc4)];unfold resK;first | (rw [if_pos hc5];rfl) | (rw [if_neg (Bool.eq_false_iff.mp hc5)];rfl)
     ·
      refine Qst (Qsr (Qp Qai (Qp Qai (Qnn (AW.ret ?_)))))
      refine ⟨.inr rfl,[.int .i64 _,.int .i64 _],.cons (.tmp _ _ rfl) <| .cons (.tmp _ _ rfl) <| .nil,.cons _ (.refl _),?_⟩
      have hne:¬e.args.isEmpty=true:=by simpa [List.isEmpty_iff] using hc1
      rw [kindS_eq types vars e,if_neg hne,hf,if_neg (show ¬((0:Int) != 0)=true by decide),if_neg (Bool.eq_false_iff.mp hc4)];unfold resK;first | (rw [if_pos hc5];rfl) | (rw [if_neg (Bool.eq_false_iff.mp hc5)];rfl)
theorem c61 (types:List Sc)(vars:List Va)(hv:TyOK8 types vars)(e:Ex)(hn:nodesS e=0)(hs:sizeN e≤1048576):APure Tryz.prog 75 [.sl 2 (types.map cSc),.sl 2 (vars.map cVa),.agg (cE e)] (.tuple [.int .i64 (kindS types vars e).1,.int .i64 (kindS types vars e).2]):=by
 revert hn hs
 induction e using Ex.ind
 rename_i e ih
 intro hn hs
 have hz:=nodes_zero hn
 have hal:=args_le e hs
 refine APure.body (n:=58) tok Tryz.func75 rfl rfl rfl fun H=>?_
 refine Qsr (Qp Qbe (Qp Qai (Qp Qai (Qnn (AW.seq (Qsr (Qp Qf1 (Qp Qls ?_))))))))
 refine Qp (P_len_sl (n:=e.args.length) tok rfl rfl rfl (by simp)) ?_
 refine Qp Qceq (Qnn (Qif (fun hc1=>?_) fun hc1=>?_))
 ·
  refine Qsr (Qp Qms (Qp Qms (Qp Qle ?_)))
  refine Qp (Qc rfl (c89 types vars hv e hz.1)) ?_
  refine Qp Qxi (Qp Qxi (Qp Qai (Qp Qai (Qnn (Qrt ?_)))))
  refine Qrr (.int .i64 _) (.int .i64 _) ?_
  rw [kindS_eq types vars e,if_pos (by simpa [List.isEmpty_iff] using hc1)];rfl
 ·
  refine Qst (Qsr (Qp Qav ?_))
  refine AOL.ghost (GS.row (t:=8) 3 1 rfl) ?_
  refine Qnn (AW.seq (Qsr (Qp Qai (Qnn (AW.block ?_)))))
  refine AW.loopS (fun (p:Nat×List (List AV)×Value)=>(⟨[(0,.sl 2 (types.map cSc)),(1,.sl 2 (vars.map cVa)),(5,.ptr (cE e)),(8,.row p.2.2 1 p.2.1),(9,.int .i64 (p.1:Int))],.row p.2.2 p.2.1.length 3 1::H,58⟩:St)) (fun (p:Nat×List (List AV)×Value)=>p.1≤e.args.length∧firstS (fun a=>(kindS types vars a).2) e.args=firstS (fun a=>(kindS types vars a).2) (e.args.drop p.1)∧p.2.1=((e.args.take p.1).map (fun a=>(kindS types vars a).1)).map (fun k=>[AV.int .i64 k])) (fun (p:Nat×List (List AV)×Value)=>e.args.length-p.1) ((0,[],.slice none 0 0)) ?_ (GS.weaken ⟨rfl,rfl,rfl,rfl,rfl,trivial⟩ (.refl _)) ?_
  · exact ⟨Nat.zero_le _,by simp,by simp⟩
  ·
   rintro p hR
   refine AW.seq (Qsr (Qp Qmi (Qp Qf1 (Qp Qls ?_))))
   refine Qp (P_len_sl (n:=e.args.length) tok rfl rfl rfl (by simp)) ?_
   refine Qp Qclt (Qnn (Qif (fun hc2=>?_) fun hc2=>?_))
   ·
    obtain ⟨a,ha⟩:=get_lt hc2
    have hlt:=get_lt' ha
    have hm:=List.mem_of_getElem? ha
    have hsc:∀c∈p.2.1,scalars c=true:=by rw [hR.2.2];exact sc_map fun _=>rfl
    refine Qst (AW.seq (AW.block (Qsr (Qp Qms (Qp Qms (Qp Qf1 (Qp Qls (Qp Qmi ?_))))))))
    refine Qp (P_indexAddr (c:=[.int .i64 _,_,.int .i64 _,.int .i64 _,.int .i64 _,.int .i64 _,.int .i64 _,.str _]) tok rfl rfl rfl rfl rfl rfl (by omega) (encE_at ha)) ?_
    refine Qp Qle ?_
    refine Qp (Qc rfl (ih a hm (hz.2 a hm) (by have:=size_arg hm;omega))) ?_
    refine Qp Qmu (Qp Qxi (Qp Qxi (Qp Qai (Qp Qai (Qnn (AW.seq (Qsr (Qp Qmi (Qp Qcne ?_)))))))))
    refine Qnn (Qif (fun hc3=>?_) fun hc3=>?_)
    ·
     refine Qsr (Qp Qmi (Qp Qai (Qp Qai (Qnn (Qrt (blkR (thenR (thenR (blkR ?_)))))))))
     refine thenR ?_
     refine ⟨.inr rfl,[.int .i64 _,.int .i64 _],.cons (.tmp _ _ rfl) <| .cons (.tmp _ _ rfl) <| .nil,.cons _ (.refl _),?_⟩
     have hne:¬e.args.isEmpty=true:=by simpa [List.isEmpty_iff] using hc1
     have hfe:firstS (fun a=>(kindS types vars a).2) e.args=(kindS types vars a).2:=by rw [hR.2.1,drop_cons ha,firstS,if_pos hc3]
     rw [kindS_eq types vars e,if_neg hne,hfe,if_pos hc3];rfl
    ·
     refine Qst (AW.region ?_)
     refine Qp (P_move (v:=.row _ _ _) rfl) ?_
     refine Qp Qmi ?_
     refine Qp (P_buildSlice (es:=[[.int .i64 _]]) tok rfl rfl rfl rfl rfl rfl rfl rfl rfl) ?_
     refine Qe (E_append (k:=0) tok rfl rfl rfl rfl rfl rfl rfl rfl (sc_one rfl) (hsc) (by simp [hR.2.2];omega) (by simp [hR.2.2,maxLen];omega)) ?_
     rintro _ _ ⟨v47,rfl,rfl⟩
     refine Qp (P_assign (v:=.row _ _ _) rfl) ?_
     refine AOL.nil (blkN (thenN (AW.region (Qp Qmi (Qp Qad (Qp Qai (Qnn ?_)))))))
     refine ⟨(p.1+1,p.2.1 ++ [[.int .i64 (kindS types vars a).1]],v47),?_,?_,GS.weaken ⟨rfl,rfl,rfl,rfl,rfl,trivial⟩ (.refl _)⟩
     · simp only;exact ⟨hlt,by rw [hR.2.1,drop_cons ha,firstS,if_neg (by simpa using hc3)],by rw [take_get ha,hR.2.2];simp⟩
     · first | omega | (simp only;omega)
   ·
    have hte:=take_end hc2
    have hd:=get_end hc2
    have hf:firstS (fun a=>(kindS types vars a).2) e.args=0:=by rw [hR.2.1,hd];rfl
    obtain ⟨k,es,rv⟩:=p
    simp only at hR hte
    have h6:es=(e.args.map (fun a=>(kindS types vars a).1)).map (fun k=>[AV.int .i64 k]):=by rw [hR.2.2,hte]
    subst h6
    refine AW.exit ?_
    refine thenE (thenE (blkHit (thenN (AW.seq (Qsr (Qp Qf0 (Qp Qli ?_)))))))
    refine AOL.ghost (GS.unrow 8 rfl) ?_
    refine Qp Qms ?_
    refine Qp (Qc rfl (c73 e.op (e.args.map (fun a=>(kindS types vars a).1)))) ?_
    refine Qp Qai (Qns (Qp Qmi (Qp Qcne (Qnn (Qif (fun hc4=>?_) fun hc4=>?_)))))
    ·
     refine Qsr (Qp Qmi (Qp Qai (Qp Qai (Qnn (Qrt ?_)))))
     refine ⟨.inr rfl,[.int .i64 _,.int .i64 _],.cons (.tmp _ _ rfl) <| .cons (.tmp _ _ rfl) <| .nil,.cons _ (.refl _),?_⟩
     have hne:¬e.args.isEmpty=true:=by simpa [List.isEmpty_iff] using hc1
     rw [kindS_eq types vars e,if_neg hne,hf,if_neg (show ¬((0:Int) != 0)=true by decide),if_pos hc4];rfl
    ·
     refine Qst (Qsr (Qp Qf0 (Qp Qli ?_)))
     refine Qp (Qc rfl (c90 _)) ?_
     refine Qp Qai (Qp Qai (Qnn (AW.ret ?_)))
     refine ⟨.inr rfl,[.int .i64 _,.int .i64 _],.cons (.tmp _ _ rfl) <| .cons (.tmp _ _ rfl) <| .nil,.cons _ (.refl _),?_⟩
     have hne:¬e.args.isEmpty=true:=by simpa [List.isEmpty_iff] using hc1
     rw [kindS_eq types vars e,if_neg hne,hf,if_neg (show ¬((0:Int) != 0)=true by decide),if_neg (Bool.eq_false_iff.mp hc4)];rfl
theorem c60 (types:List Sc)(vars:List Va)(hvl:vars.length≤1048576):APure Tryz.prog 74 [.sl 2 (types.map cSc),.sl 2 (vars.map cVa)] (.int .i64 (varsE types vars)):=by
 refine APure.body (n:=31) tok Tryz.func74 rfl rfl rfl fun H=>?_
 refine Qsr (Qp Qai (Qnn (AW.seq (Qsr (Qp Qms ?_)))))
 refine Qp (P_len_sl (n:=vars.length) tok rfl rfl rfl (by simp)) ?_
 refine Qp Qcgt (Qnn (Qif (fun hc1=>?_) fun hc1=>?_))
 ·
  refine Qsr (Qp Qai (Qnn (Qrt ?_)))
  refine Qr (.int .i64 _) ?_
  rw [varsE,if_pos hc1];rfl
 ·
  refine Qst (AW.seq (Qsr (Qp Qai (Qnn (AW.block ?_)))))
  refine AW.loopS (fun (p:Nat)=>(⟨[(0,.sl 2 (types.map cSc)),(1,.sl 2 (vars.map cVa)),(5,.int .i64 (p:Int))],H,31⟩:St)) (fun (p:Nat)=>p≤vars.length∧firstS (varE types.length) vars=firstS (varE types.length) (vars.drop p)) (fun (p:Nat)=>vars.length-p) (0) ?_ (GS.weaken ⟨rfl,rfl,rfl,trivial⟩ (.refl _)) ?_
  · exact ⟨Nat.zero_le _,rfl⟩
  ·
   rintro p hR
   refine AW.seq (Qsr (Qp Qmi (Qp Qms ?_)))
   refine Qp (P_len_sl (n:=vars.length) tok rfl rfl rfl (by simp)) ?_
   refine Qp Qclt (Qnn (Qif (fun hc2=>?_) fun hc2=>?_))
   ·
    obtain ⟨a,ha⟩:=get_lt hc2
    have hlt:=get_lt' ha
    have hm:=List.mem_of_getElem? ha
    refine Qst (AW.seq (AW.block (Qsr (Qp Qms (Qp Qmi ?_)))))
    refine Qp (P_indexAddr (c:=[.str _,.int .i64 _]) tok rfl rfl rfl rfl rfl rfl (by omega) (map_at ha)) ?_
    refine Qp (Qf [.int .i64 _]) (Qp Qli (Qp Qclt (Qp Qmb (Qg [] Qw Qms (Qg [] Qw Qmi ?_)))))
    refine AOL.g (y:=.ptr _) _ [(22,_),(23,_)] rfl (EntL.all ⟨Ent.self _ _,Ent.self _ _,trivial⟩) (fun hG=>P_indexAddr (c:=[.str _,.int .i64 _]) tok rfl rfl rfl rfl rfl rfl (by omega) (map_at ha)) rfl ?_
    refine Qg [(24,_)] Qw (Qf [.int .i64 _]) (Qg [(25,_)] Qw Qli (Qg [] Qw Qms ?_))
    refine AOL.g (y:=.int .i64 _) _ [(27,_)] rfl (EntL.all ⟨Ent.self _ _,trivial⟩) (fun hG=>P_len_sl (n:=types.length) tok rfl rfl rfl (by simp)) rfl ?_
    refine AOL.g (y:=.bool _) _ [(26,_),(28,_)] rfl (EntL.all ⟨Ent.self _ _,Ent.self _ _,trivial⟩) (fun hG=>P_geq rfl rfl) rfl ?_
    refine Qp Qpo (Qnn (Qif (fun hc3=>?_) fun hc3=>?_))
    ·
     have he:varE types.length a=6:=by unfold varE;rw [if_pos hc3]
     refine Qsr (Qp Qai (Qnn (AW.ret (blkR (thenR (thenR (blkR (thenR ?_))))))))
     refine Qr (.int .i64 _) ?_
     rw [varsE,if_neg (Bool.eq_false_iff.mp hc1),hR.2,drop_cons ha,firstS,he,if_pos (by decide)];rfl
    ·
     have he:varE types.length a=0:=by unfold varE;rw [if_neg (by simpa using hc3)]
     refine AW.skip (blkN (thenN (AW.region (Qp Qmi (Qp Qad (Qp Qai (Qnn ?_)))))))
     refine ⟨p+1,?_,?_,GS.weaken ⟨rfl,rfl,rfl,trivial⟩ (.refl _)⟩
     · exact ⟨hlt,by rw [hR.2,drop_cons ha,firstS,if_neg (by rw [he];decide)]⟩
     · omega
   ·
    have hd:=get_end hc2
    refine AW.exit ?_
    refine thenE (thenE (blkHit (thenN (Qsr (Qp Qai (Qnn (AW.ret ?_)))))))
    refine Qr (.int .i64 _) ?_
    rw [varsE,if_neg (Bool.eq_false_iff.mp hc1),hR.2,hd];rfl
theorem c31 (types:List Sc)(hl:types.length≤1048576)(hs:∀s∈types,scOK s)(vars:List Va)(hvl:vars.length≤1048576)(e:Ex)(hse:sizeN e≤1048576):APure Tryz.prog 82 [.sl 2 (types.map cSc),.sl 2 (vars.map cVa),.agg (cE e)] (.tuple [.int .i64 (KindS types vars e).1,.int .i64 (KindS types vars e).2]):=by
 refine APure.body (n:=49) tok Tryz.func82 rfl rfl rfl fun H=>?_
 refine Qsr (Qp Qbe (Qp Qai (Qp Qai (Qnn (AW.seq (Qsr (Qp Qms ?_)))))))
 refine Qp (Qc rfl (c57 types hl hs)) ?_
 refine Qp Qai (Qns (Qp Qmi (Qp Qcne (Qnn (Qif (fun hc1=>?_) fun hc1=>?_)))))
 ·
  refine Qsr (Qp Qmi (Qp Qai (Qp Qai (Qnn (Qrt ?_)))))
  refine Qrr (.int .i64 _) (.int .i64 _) ?_
  rw [KindS,if_pos hc1];rfl
 ·
  refine Qst (AW.seq (Qsr (Qp Qms ?_)))
  refine Qp (P_len_sl (n:=vars.length) tok rfl rfl rfl (by simp)) ?_
  refine Qp Qcgt (Qnn (Qif (fun hc2=>?_) fun hc2=>?_))
  ·
   refine Qsr (Qp Qai (Qp Qai (Qnn (Qrt ?_))))
   refine Qrr (.int .i64 _) (.int .i64 _) ?_
   have hve:varsE types vars=5:=by rw [varsE,if_pos hc2]
   rw [KindS,if_neg (Bool.eq_false_iff.mp hc1),hve,if_pos (by decide)];rfl
  ·
   refine Qst (AW.seq (Qsr (Qp Qms ?_)))
   refine Qp (P_len_sl (n:=vars.length) tok rfl rfl rfl (by simp)) ?_
   refine Qp Qmi (Qnn (AW.block ?_))
   refine AW.loopS (fun (p:Nat)=>(⟨[(0,.sl 2 (types.map cSc)),(1,.sl 2 (vars.map cVa)),(5,.ptr (cE e)),(20,.sl 2 (vars.map cVa)),(21,.int .i64 vars.length),(22,.int .i64 (p:Int))],H,49⟩:St)) (fun (p:Nat)=>p≤vars.length∧firstS (varE types.length) vars=firstS (varE types.length) (vars.drop p)) (fun (p:Nat)=>vars.length-p) (0) ?_ (GS.weaken ⟨rfl,rfl,rfl,rfl,rfl,rfl,trivial⟩ (.refl _)) ?_
   · exact ⟨Nat.zero_le _,rfl⟩
   ·
    rintro p hR
    refine Qsr (Qp Qclt (Qnn (AW.seq (Qif (fun hc3=>?_) fun hc3=>?_))))
    ·
     obtain ⟨a,ha⟩:=get_lt hc3
     have hlt:=get_lt' ha
     have hm:=List.mem_of_getElem? ha
     refine Qst (AW.seq (AW.block (Qsr ?_)))
     refine Qp (P_indexAddr (c:=[.str _,.int .i64 _]) tok rfl rfl rfl rfl rfl rfl (by omega) (map_at ha)) ?_
     refine Qp (Qlg [.str _,.int .i64 _]) ?_
     refine Qe (E_alloc (l:=[.str [],.int .i64 0]) (by kernel_rfl)) ?_
     rintro _ _ ⟨b10,rfl,rfl⟩
     refine Qe (E_store (k:=0) (v:=.agg _) (cs':=[.str _,.int .i64 _]) (H2:=_::_) tok rfl rfl rfl rfl (rfl) rfl rfl rfl rfl) ?_
     rintro _ _ ⟨rfl,rfl⟩
     refine AOL.ghost (GS.freeze (t:=10) 0 rfl rfl) ?_
     refine Qns (Qp (Qf [.int .i64 _]) (Qp Qli (Qp Qclt (Qp Qmb (Qg [] Qw (Qf [.int .i64 _]) (Qg [(30,_)] Qw Qli (Qg [] Qw Qms ?_)))))))
     refine AOL.g (y:=.int .i64 _) _ [(32,_)] rfl (EntL.all ⟨Ent.self _ _,trivial⟩) (fun hG=>P_len_sl (n:=types.length) tok rfl rfl rfl (by simp)) rfl ?_
     refine AOL.g (y:=.bool _) _ [(31,_),(33,_)] rfl (EntL.all ⟨Ent.self _ _,Ent.self _ _,trivial⟩) (fun hG=>P_geq rfl rfl) rfl ?_
     refine Qp Qpo (Qnn (Qif (fun hc4=>?_) fun hc4=>?_))
     ·
      have he:varE types.length a=6:=by unfold varE;rw [if_pos hc4]
      refine Qsr (Qp Qai (Qp Qai (Qnn (AW.ret (blkR (thenR (thenR (blkR (thenR ?_)))))))))
      refine Qrr (.int .i64 _) (.int .i64 _) ?_
      have hve:varsE types vars=6:=by rw [varsE,if_neg (Bool.eq_false_iff.mp hc2),hR.2,drop_cons ha,firstS,he,if_pos (by decide)]
      rw [KindS,if_neg (Bool.eq_false_iff.mp hc1),hve,if_pos (by decide)];rfl
     ·
      have he:varE types.length a=0:=by unfold varE;rw [if_neg (by simpa using hc4)]
      refine AW.skip (blkN (thenN (AW.region (Qp Qad (Qp Qmi (Qnn ?_))))))
      refine ⟨p+1,?_,?_,GS.weaken ⟨rfl,rfl,rfl,rfl,rfl,rfl,trivial⟩ (.refl _)⟩
      · exact ⟨hlt,by rw [hR.2,drop_cons ha,firstS,if_neg (by rw [he];decide)]⟩
      · omega
    ·
     have hd:=get_end hc3
     have hf0:firstS (varE types.length) vars=0:=by rw [hR.2,hd];rfl
     have hty:=tyok_of hf0
     have hvz:varsE types vars=0:=by rw [varsE,if_neg (by simpa using hc2),hf0]
     refine AW.exit ?_
     refine thenE (thenE (blkHit (thenN (AW.seq (Qsr (Qp Qle ?_))))))
     refine Qp (Qc rfl (c21 e hse)) ?_
     refine Qp Qai (Qns (Qp Qmi (Qp Qcne (Qnn (Qif (fun hc5=>?_) fun hc5=>?_)))))
     ·
      refine Qsr (Qp Qmi (Qp Qai (Qp Qai (Qnn (Qrt ?_)))))
      refine Qrr (.int .i64 _) (.int .i64 _) ?_
      rw [KindS,if_neg (Bool.eq_false_iff.mp hc1),hvz,if_neg (show ¬((0:Int) != 0)=true by decide),if_pos hc5];rfl
     ·
      refine Qst (Qsr (Qp Qms (Qp Qms (Qp (Qbd [_,_]) (Qp Qle ?_)))))
      refine Qp (Qc rfl (c58 types vars hty e (check_nodes (by simpa using hc5)) hse)) ?_
      refine Qp Qxi (Qp Qxi (Qp Qai (Qp Qai (Qnn (AW.ret ?_)))))
      refine Qrr (.int .i64 _) (.int .i64 _) ?_
      rw [KindS,if_neg (Bool.eq_false_iff.mp hc1),hvz,if_neg (show ¬((0:Int) != 0)=true by decide),if_neg (Bool.eq_false_iff.mp hc5)];rfl
theorem c32 (types:List Sc)(hl:types.length≤1048576)(hs:∀s∈types,scOK s)(vars:List Va)(hvl:vars.length≤1048576)(e:Ex)(hse:sizeN e≤1048576):APure Tryz.prog 35 [.sl 2 (types.map cSc),.sl 2 (vars.map cVa),.agg (cE e)] (.tuple [.int .i64 (KindS types vars e).1,.int .i64 (KindS types vars e).2]):=by
 refine APure.body (n:=33) tok Tryz.func35 rfl rfl rfl fun H=>?_
 refine Qsr (Qp Qbe (Qp Qai (Qp Qai (Qnn (AW.seq (Qsr (Qp Qms ?_)))))))
 refine Qp (Qc rfl (c59 types hl hs)) ?_
 refine Qp Qai (Qns (Qp Qmi (Qp Qcne (Qnn (Qif (fun hc1=>?_) fun hc1=>?_)))))
 ·
  refine Qsr (Qp Qmi (Qp Qai (Qp Qai (Qnn (Qrt ?_)))))
  refine Qrr (.int .i64 _) (.int .i64 _) ?_
  simp only [resOf,KindS]
  (first | rw [if_pos hc1] | skip)
  first | done | rfl
 ·
  refine Qst (AW.seq (Qsr (Qp Qms (Qp Qms ?_))))
  refine Qp (Qc rfl (c60 types vars hvl)) ?_
  refine Qp Qai (Qns (Qp Qmi (Qp Qcne (Qnn (Qif (fun hc2=>?_) fun hc2=>?_)))))
  ·
   refine Qsr (Qp Qmi (Qp Qai (Qp Qai (Qnn (Qrt ?_)))))
   refine Qrr (.int .i64 _) (.int .i64 _) ?_
   simp only [resOf,KindS]
   (first | rw [if_neg (Bool.eq_false_iff.mp hc1)] | skip);(first | rw [if_pos hc2] | skip)
   first | done | rfl
  ·
   have hty:TyOK8 types vars:=tyok_of (varsE_zero (by simpa using hc2))
   refine Qst (AW.seq (Qsr (Qp Qle ?_)))
   refine Qp (Qc rfl (c25 e hse)) ?_
   refine Qp Qai (Qns (Qp Qmi (Qp Qcne (Qnn (Qif (fun hc3=>?_) fun hc3=>?_)))))
   ·
    refine Qsr (Qp Qmi (Qp Qai (Qp Qai (Qnn (Qrt ?_)))))
    refine Qrr (.int .i64 _) (.int .i64 _) ?_
    simp only [resOf,KindS]
    (first | rw [if_neg (Bool.eq_false_iff.mp hc1)] | skip);(first | rw [if_neg (Bool.eq_false_iff.mp hc2)] | skip);(first | rw [if_pos hc3] | skip)
    first | done | rfl
   ·
    refine Qst (Qsr (Qp Qms (Qp Qms (Qp Qle ?_))))
    refine Qp (Qc rfl (c61 types vars hty e (check_nodes (by simpa using hc3)) hse)) ?_
    refine Qp Qxi (Qp Qxi (Qp Qai (Qp Qai (Qnn (AW.ret ?_)))))
    refine Qrr (.int .i64 _) (.int .i64 _) ?_
    simp only [resOf,KindS]
    (first | rw [if_neg (Bool.eq_false_iff.mp hc1)] | skip);(first | rw [if_neg (Bool.eq_false_iff.mp hc2)] | skip);(first | rw [if_neg (Bool.eq_false_iff.mp hc3)] | skip)
    first | done | rfl

end Go.Proofs.YtkddpedfbicbeaaGreatDoor
