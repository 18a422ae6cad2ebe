/-
  Walks of layer 23: pairing in the reference. No condition.
-/
import Derived.Test.YtoolcpnahmgnnaaGreatDoorW7
import Derived.KernelRfl
namespace Go.Proofs.YtoolcpnahmgnnaaGreatDoor
open Go Go.Aw
set_option linter.unusedVariables false
set_option linter.unusedSimpArgs false

theorem paired_len {p : Pg} {i k : Int} : (pairedR p i k).2.1.length = p.1.length ∧ (pairedR p i k).2.2.length = p.2.length := by
  unfold pairedR
  simp only
  split
  · exact ⟨put_len _ _ _, put_len _ _ _⟩
  · exact ⟨rfl, rfl⟩
def pq (p : Pg) (i k : Int) : Pg := if decide (toS p.1 i < 0) && decide (toS p.2 k < 0) then (putS' p.1 i k, putS' p.2 k i) else p
theorem pq_yes {p : Pg} {i k : Int} (h : (decide (toS p.1 i < 0) && decide (toS p.2 k < 0)) = true) : pq p i k = (putS' p.1 i k, putS' p.2 k i) := by unfold pq; rw [if_pos h]
theorem pq_no {p : Pg} {i k : Int} (h : (decide (toS p.1 i < 0) && decide (toS p.2 k < 0)) = false) : pq p i k = p := by unfold pq; rw [if_neg (by rw [h]; decide)]
theorem paired_pq (p : Pg) (i k : Int) : pairedR p i k = ((toS (pq p i k).1 i == k) && (toS (pq p i k).2 k == i), pq p i k) := rfl
def pstep (p : Pg) (x y : Ed) : Pg := if decide (0 ≤ x.dst) then (pairedR p x.dst y.dst).2 else p
theorem pstep_yes {p : Pg} {x y : Ed} (h : decide (0 ≤ x.dst) = true) : pstep p x y = (pairedR p x.dst y.dst).2 := by unfold pstep; rw [if_pos h]
theorem pstep_no {p : Pg} {x y : Ed} (h : decide (0 ≤ x.dst) = false) : pstep p x y = p := by unfold pstep; rw [if_neg (by rw [h]; decide)]
theorem pstep_len {p : Pg} {x y : Ed} : (pstep p x y).1.length = p.1.length ∧ (pstep p x y).2.length = p.2.length := by
  unfold pstep
  split
  · exact paired_len
  · exact ⟨rfl, rfl⟩
theorem not_g {b : Bool} (h : ¬ allG [(b, true)]) : b = false := by
  cases b with
  | false => rfl
  | true => exact absurd (fun p hp => by rw [List.mem_singleton.1 hp]) h
theorem stS_at {a : Au} {s : Int} (h : InR a.states.length s) : a.states[s.toNat]? = some (stS a s) := by
  unfold stS; rw [List.getD_eq_getElem?_getD, List.getElem?_eq_getElem h.2]; rfl
theorem matchL_step {x y : Ed} {l m : List Ed} {k : Nat} {p : Pg} (hx : l[k]? = some x) (hy : m[k]? = some y) : matchL (l.drop k) (m.drop k) p =
    if !(sameEd x y) || (decide (x.dst < 0) != decide (y.dst < 0)) then (false, p)
    else if decide (0 ≤ x.dst) && !((pairedR p x.dst y.dst).1) then (false, pstep p x y) else matchL (l.drop (k + 1)) (m.drop (k + 1)) (pstep p x y) := by
  rw [drop_cons hx, drop_cons hy, matchL]
  unfold pstep
  cases hd : decide (0 ≤ x.dst) <;> simp
theorem matchL_end {l m : List Ed} {k : Nat} {p : Pg} (h : l.length ≤ k) : matchL (l.drop k) (m.drop k) p = (true, p) := by
  rw [List.drop_eq_nil_of_le h]; rfl

set_option maxRecDepth 20000 in
set_option maxHeartbeats 1600000 in
theorem r_paired (bT bK n m : Nat) (p : Pg) (h1 : p.1.length = n) (h2 : p.2.length = m) (i k : Int) (hi : InR n i) (hk : InR m k) (R : List HO) : ACall Tryz.prog 95 (.box bT 3 (bI p.1) :: .box bK 3 (bI p.2) :: R) [.val (.slice (some ⟨bT, 0, none⟩) n n), .val (.slice (some ⟨bK, 0, none⟩) m m), .int .i64 i, .int .i64 k] (fun r H' => r = .bool (pairedR p i k).1 ∧ H' = (.box bT 3 (bI (pairedR p i k).2.1) :: .box bK 3 (bI (pairedR p i k).2.2) :: R)) := by
  refine ACall.body (n := 43) tok Tryz.func95 rfl rfl rfl ?_
  refine AW.seq ?_
  refine AW.region ?_
  refine AOL.p (P_assign (v := .bool _) rfl) rfl ?_
  refine AOL.nil ?_
  refine thenN ?_
  refine AW.cut (fun (q : Pg) => (⟨[(0, .val (.slice (some ⟨bT, 0, none⟩) n n)), (1, .val (.slice (some ⟨bK, 0, none⟩) m m)), (2, .int .i64 i), (3, .int .i64 k)], .box bT 3 (bI q.1) :: .box bK 3 (bI q.2) :: R, 43⟩ : St)) (fun (q : Pg) => q = (pq p i k) ∧ q.1.length = n ∧ q.2.length = m) ?_ ?_
  · skip
    refine AW.seq ?_
    refine AW.region ?_
    refine AOL.p (P_move (v := .val _) rfl) rfl ?_
    refine AOL.p (P_move (v := .int .i64 _) rfl) rfl ?_
    refine AOL.p (P_indexAddr_val tok rfl rfl rfl rfl rfl (hi.1) (hi.lt) (off1 _)) rfl ?_
    refine AOL.pk (P_load_box (k := 0) (c := .int .i64 (toS p.1 i)) tok rfl rfl rfl (bI_get (by rw [h1]; exact hi.2))) rfl rfl ?_
    refine AOL.p (P_lss rfl rfl) rfl ?_
    refine AOL.p (P_move (v := .bool _) rfl) rfl ?_
    refine AOL.g (y := .val _) _ [] rfl (EntL.all trivial) (fun hG => P_move (v := .val _) rfl) rfl ?_
    refine AOL.g (y := .int .i64 _) _ [] rfl (EntL.all trivial) (fun hG => P_move (v := .int .i64 _) rfl) rfl ?_
    refine AOL.g (y := .val _) _ [(15, _), (16, _)] rfl (EntL.all ⟨Ent.self _ _, Ent.self _ _, trivial⟩) (fun hG => P_indexAddr_val tok rfl rfl rfl rfl rfl (hk.1) (hk.lt) (off1 _)) rfl ?_
    refine AOL.gk (y := .int .i64 _) _ [(17, _)] rfl (EntL.all ⟨Ent.self _ _, trivial⟩) (fun hG => P_load_box (k := 1) (c := .int .i64 (toS p.2 k)) tok rfl rfl rfl (bI_get (by rw [h2]; exact hk.2))) rfl rfl ?_
    refine AOL.g (y := .bool _) _ [(18, _)] rfl (EntL.all ⟨Ent.self _ _, trivial⟩) (fun hG => P_lss rfl rfl) rfl ?_
    refine AOL.p (P_pick_and rfl rfl rfl) rfl ?_
    refine AOL.nil ?_
    refine thenN ?_
    refine AW.cond (b := _) rfl (fun hc1 => ?_) (fun hc1 => ?_)
    · skip
      have hqq := pq_yes hc1
      refine AW.ghost (s' := ⟨[(0, .val (.slice (some ⟨bT, 0, none⟩) n n)), (1, .val (.slice (some ⟨bK, 0, none⟩) m m)), (2, .int .i64 i), (3, .int .i64 k)], .box bT 3 (bI p.1) :: .box bK 3 (bI p.2) :: R, 43⟩) (GS.weaken ⟨rfl, rfl, rfl, rfl, trivial⟩ (.refl _)) ?_
      refine AW.region ?_
      refine AOL.p (P_move (v := .val _) rfl) rfl ?_
      refine AOL.p (P_move (v := .int .i64 _) rfl) rfl ?_
      refine AOL.p (P_move (v := .val _) rfl) rfl ?_
      refine AOL.p (P_move (v := .int .i64 _) rfl) rfl ?_
      refine AOL.p (P_move (v := .int .i64 _) rfl) rfl ?_
      refine AOL.p (P_move (v := .int .i64 _) rfl) rfl ?_
      refine AOL.p (P_indexAddr_val tok rfl rfl rfl rfl rfl (hi.1) (hi.lt) (off1 _)) rfl ?_
      refine AOL.e (E_store (k := 0) (v := .int .i64 _) (cs' := bI (putS' p.1 i k)) (H2 := _ :: _ :: _) tok rfl rfl rfl rfl rfl rfl (by rw [bI_len, h1]; exact Nat.ble_eq_true_of_le (by show i.toNat + 1 ≤ _; exact hi.2)) (bI_put (by rw [h1]; exact hi.2)) rfl) rfl ?_
      rintro _ _ ⟨rfl, rfl⟩
      refine AOL.p (P_indexAddr_val tok rfl rfl rfl rfl rfl (hk.1) (hk.lt) (off1 _)) rfl ?_
      refine AOL.e (E_store (k := 1) (v := .int .i64 _) (cs' := bI (putS' p.2 k i)) (H2 := _ :: _ :: _) tok rfl rfl rfl rfl rfl rfl (by rw [bI_len, h2]; exact Nat.ble_eq_true_of_le (by show k.toNat + 1 ≤ _; exact hk.2)) (bI_put (by rw [h2]; exact hk.2)) rfl) rfl ?_
      rintro _ _ ⟨rfl, rfl⟩
      refine AOL.nil ?_
      refine thenN ?_
      refine ⟨(putS' p.1 i k, putS' p.2 k i), ?_, GS.weaken ⟨rfl, rfl, rfl, rfl, trivial⟩ (.refl _)⟩
      exact ⟨hqq.symm, by rw [put_len]; exact h1, by rw [put_len]; exact h2⟩
    · skip
      have hqq := pq_no hc1
      refine AW.skip ?_
      refine thenN ?_
      refine ⟨p, ?_, GS.weaken ⟨rfl, rfl, rfl, rfl, trivial⟩ (.refl _)⟩
      exact ⟨hqq.symm, h1, h2⟩
  · rintro q hq
    have hqe := hq.1
    have hq1 := hq.2.1
    have hq2 := hq.2.2
    refine AW.seq ?_
    refine AW.region ?_
    refine AOL.p (P_move (v := .val _) rfl) rfl ?_
    refine AOL.p (P_move (v := .int .i64 _) rfl) rfl ?_
    refine AOL.p (P_indexAddr_val tok rfl rfl rfl rfl rfl (hi.1) (hi.lt) (off1 _)) rfl ?_
    refine AOL.pk (P_load_box (k := 0) (c := .int .i64 (toS q.1 i)) tok rfl rfl rfl (bI_get (by rw [hq1]; exact hi.2))) rfl rfl ?_
    refine AOL.p (P_move (v := .int .i64 _) rfl) rfl ?_
    refine AOL.p (P_eql rfl rfl) rfl ?_
    refine AOL.p (P_move (v := .bool _) rfl) rfl ?_
    refine AOL.g (y := .val _) _ [] rfl (EntL.all trivial) (fun hG => P_move (v := .val _) rfl) rfl ?_
    refine AOL.g (y := .int .i64 _) _ [] rfl (EntL.all trivial) (fun hG => P_move (v := .int .i64 _) rfl) rfl ?_
    refine AOL.g (y := .val _) _ [(36, _), (37, _)] rfl (EntL.all ⟨Ent.self _ _, Ent.self _ _, trivial⟩) (fun hG => P_indexAddr_val tok rfl rfl rfl rfl rfl (hk.1) (hk.lt) (off1 _)) rfl ?_
    refine AOL.gk (y := .int .i64 _) _ [(38, _)] rfl (EntL.all ⟨Ent.self _ _, trivial⟩) (fun hG => P_load_box (k := 1) (c := .int .i64 (toS q.2 k)) tok rfl rfl rfl (bI_get (by rw [hq2]; exact hk.2))) rfl rfl ?_
    refine AOL.g (y := .int .i64 _) _ [] rfl (EntL.all trivial) (fun hG => P_move (v := .int .i64 _) rfl) rfl ?_
    refine AOL.g (y := .bool _) _ [(39, _), (40, _)] rfl (EntL.all ⟨Ent.self _ _, Ent.self _ _, trivial⟩) (fun hG => P_eql rfl rfl) rfl ?_
    refine AOL.p (P_pick_and rfl rfl rfl) rfl ?_
    refine AOL.p (P_assign (v := .bool _) rfl) rfl ?_
    refine AOL.nil ?_
    refine thenN ?_
    refine AW.ret ?_
    refine ⟨.inr rfl, [.bool _], .cons (.tmp _ _ rfl) <| .nil, _, .refl _, ?_⟩
    subst hqe
    exact ⟨congrArg (fun x : Bool × Pg => AV.bool x.1) (paired_pq p i k).symm, congrArg (fun x : Bool × Pg => HO.box bT 3 (bI x.2.1) :: HO.box bK 3 (bI x.2.2) :: R) (paired_pq p i k).symm⟩
theorem r_pairedS (bT bK n m : Nat) (p : Pg) (h1 : p.1.length = n) (h2 : p.2.length = m) (x y : Ed) (h : decide (0 ≤ x.dst) = true) (hi : InR n x.dst) (hk : InR m y.dst) (R : List HO) :
    ACall Tryz.prog 95 (.box bT 3 (bI p.1) :: .box bK 3 (bI p.2) :: R) [.val (.slice (some ⟨bT, 0, none⟩) n n), .val (.slice (some ⟨bK, 0, none⟩) m m), .int .i64 x.dst, .int .i64 y.dst] (fun r H' => r = .bool (pairedR p x.dst y.dst).1 ∧ H' = (.box bT 3 (bI (pstep p x y).1) :: .box bK 3 (bI (pstep p x y).2) :: R)) := by
  rw [pstep_yes h]
  exact r_paired bT bK n m p h1 h2 x.dst y.dst hi hk R
set_option maxRecDepth 20000 in
set_option maxHeartbeats 6400000 in
theorem r_match (bT bK : Nat) (a b : Au) (sa : Sm a) (sb : Sm b) (ha : EdR a.states.length a.edges) (hb : EdR b.states.length b.edges) (p : Pg) (iv : Inv a b p) (s : Int) (hs : InR a.states.length s) (h0 : 0 ≤ toS p.1 s) (R : List HO) : ACall Tryz.prog 60 (.box bT 3 (bI p.1) :: .box bK 3 (bI p.2) :: R) [.agg (cAu a), .agg (cAu b), .val (.slice (some ⟨bT, 0, none⟩) a.states.length a.states.length), .val (.slice (some ⟨bK, 0, none⟩) b.states.length b.states.length), .int .i64 s] (fun r H' => r = .bool (matchR a b p s).1 ∧ H' = (.box bT 3 (bI (matchR a b p s).2.1) :: .box bK 3 (bI (matchR a b p s).2.2) :: R)) := by
  have hkb := (iv.to s hs h0).1
  have hga := stS_at hs
  have hgb := stS_at hkb
  have hsm := sa.g _ (List.mem_of_getElem? hga)
  have hLl : (fromS a.edges s).length ≤ 1048576 := Nat.le_trans (List.length_filter_le ..) sa.m
  have hla := from_in ha s
  have hlb := from_in hb (toS p.1 s)
  refine ACall.body (n := 97) tok Tryz.func60 rfl rfl rfl ?_
  refine AW.seq ?_
  refine AW.region ?_
  refine AOL.p (P_box (v := .agg _) (cs := [.int .i64 _, .int .i64 _, _, _]) rfl rfl rfl) rfl ?_
  refine AOL.p (P_box (v := .agg _) (cs := [.int .i64 _, .int .i64 _, _, _]) rfl rfl rfl) rfl ?_
  refine AOL.p (P_assign (v := .bool _) rfl) rfl ?_
  refine AOL.nil ?_
  refine thenN ?_
  refine AW.seq ?_
  refine AW.region ?_
  refine AOL.p (P_move (v := .val _) rfl) rfl ?_
  refine AOL.p (P_move (v := .int .i64 _) rfl) rfl ?_
  refine AOL.p (P_indexAddr_val tok rfl rfl rfl rfl rfl (hs.1) (hs.lt) (off1 _)) rfl ?_
  refine AOL.pk (P_load_box (k := 0) (c := .int .i64 (toS p.1 s)) tok rfl rfl rfl (bI_get (by rw [iv.l1]; exact hs.2))) rfl rfl ?_
  refine AOL.p (P_assign (v := .int .i64 _) rfl) rfl ?_
  refine AOL.nil ?_
  refine thenN ?_
  refine AW.seq ?_
  refine AW.seq ?_
  refine AW.draw mixed (fun _ => True) trivial (by kernel_rfl) ?_
  refine Canon.pure _ _ 0 _ _ rfl (by kernel_rfl) (by kernel_rfl) rfl (.run rfl (P_fieldAddr_ptr (cs' := [_, _]) tok rfl rfl rfl rfl rfl rfl)) ?_
  refine Canon.pure _ _ 1 _ _ rfl (by kernel_rfl) (by kernel_rfl) rfl (.run rfl (P_load_ptr (c := .sl _ _) tok rfl rfl rfl)) ?_
  refine Canon.pure _ _ 2 _ _ rfl (by kernel_rfl) (by kernel_rfl) rfl (.run rfl (P_move (v := .int .i64 _) rfl)) ?_
  refine Canon.pure _ _ 3 _ _ rfl (by kernel_rfl) (by kernel_rfl) rfl (.run rfl (P_indexAddr (c := [_]) tok rfl rfl rfl rfl rfl rfl (hs.1) (cSt_at hga))) ?_
  refine Canon.pure _ _ 4 _ _ rfl (by kernel_rfl) (by kernel_rfl) rfl (.run rfl (P_fieldAddr_ptr (cs' := [_]) tok rfl rfl rfl rfl rfl rfl)) ?_
  refine Canon.pure _ _ 5 _ _ rfl (by kernel_rfl) (by kernel_rfl) rfl (.run rfl (P_load_ptr (c := .sl _ _) tok rfl rfl rfl)) ?_
  refine Canon.pure _ _ 6 _ _ rfl (by kernel_rfl) (by kernel_rfl) rfl (.run rfl (P_fieldAddr_ptr (cs' := [_, _]) tok rfl rfl rfl rfl rfl rfl)) ?_
  refine Canon.pure _ _ 7 _ _ rfl (by kernel_rfl) (by kernel_rfl) rfl (.run rfl (P_load_ptr (c := .sl _ _) tok rfl rfl rfl)) ?_
  refine Canon.pure _ _ 8 _ _ rfl (by kernel_rfl) (by kernel_rfl) rfl (.run rfl (P_move (v := .int .i64 _) rfl)) ?_
  refine Canon.pure _ _ 9 _ _ rfl (by kernel_rfl) (by kernel_rfl) rfl (.run rfl (P_indexAddr (c := [_]) tok rfl rfl rfl rfl rfl rfl (hkb.1) (cSt_at hgb))) ?_
  refine Canon.pure _ _ 10 _ _ rfl (by kernel_rfl) (by kernel_rfl) rfl (.run rfl (P_fieldAddr_ptr (cs' := [_]) tok rfl rfl rfl rfl rfl rfl)) ?_
  refine Canon.pure _ _ 11 _ _ rfl (by kernel_rfl) (by kernel_rfl) rfl (.run rfl (P_load_ptr (c := .sl _ _) tok rfl rfl rfl)) ?_
  refine Canon.pure _ _ 12 _ _ rfl (by kernel_rfl) (by kernel_rfl) rfl (.run rfl (P_callf (by kernel_rfl) rfl rfl (r22_Guards _ _ hsm))) ?_
  refine Canon.pure _ _ 13 _ _ rfl (by kernel_rfl) (by kernel_rfl) rfl (.run rfl (P_not rfl)) ?_
  refine Canon.done _ _ (by kernel_rfl) ?_
  refine thenN ?_
  refine AW.cond (b := _) rfl (fun hc1 => ?_) (fun hc1 => ?_)
  · skip
    have h9 : (matchR a b p s) = (false, p) := by unfold matchR; rw [if_pos hc1]
    refine AW.seq ?_
    refine AW.region ?_
    refine AOL.p (P_assign (v := .bool _) rfl) rfl ?_
    refine AOL.nil ?_
    refine thenN ?_
    refine AW.ret ?_
    refine thenR ?_
    refine ⟨.inr rfl, [.bool _], .cons (.tmp _ _ rfl) <| .nil, _, .refl _, ?_⟩
    exact ⟨congrArg (fun x : Bool × Pg => AV.bool x.1) (h9).symm, congrArg (fun x : Bool × Pg => HO.box bT 3 (bI x.2.1) :: HO.box bK 3 (bI x.2.2) :: R) (h9).symm⟩
  · skip
    refine AW.skip ?_
    refine thenN ?_
    refine AW.seq ?_
    refine AW.draw mixed (fun _ => True) trivial (by kernel_rfl) ?_
    refine Canon.pure _ _ 0 _ _ rfl (by kernel_rfl) (by kernel_rfl) rfl (.run rfl (P_load_ptr_agg (l := [.int .i64 _, .int .i64 _, _, _]) tok rfl rfl rfl rfl rfl)) ?_
    refine Canon.pure _ _ 1 _ _ rfl (by kernel_rfl) (by kernel_rfl) rfl (.run rfl (P_move (v := .int .i64 _) rfl)) ?_
    refine Canon.pure _ _ 2 _ _ rfl (by kernel_rfl) (by kernel_rfl) rfl (.run rfl (P_callf (by kernel_rfl) rfl rfl (r_From a s sa.m))) ?_
    refine Canon.pure _ _ 3 _ _ rfl (by kernel_rfl) (by kernel_rfl) rfl (.run rfl (P_load_ptr_agg (l := [.int .i64 _, .int .i64 _, _, _]) tok rfl rfl rfl rfl rfl)) ?_
    refine Canon.pure _ _ 4 _ _ rfl (by kernel_rfl) (by kernel_rfl) rfl (.run rfl (P_move (v := .int .i64 _) rfl)) ?_
    refine Canon.pure _ _ 5 _ _ rfl (by kernel_rfl) (by kernel_rfl) rfl (.run rfl (P_callf (by kernel_rfl) rfl rfl (r_From b (toS p.1 s) sb.m))) ?_
    refine Canon.pure _ _ 6 _ _ rfl (by kernel_rfl) (by kernel_rfl) rfl (.run rfl (P_assign (v := .sl _ _) rfl)) ?_
    refine Canon.pure _ _ 7 _ _ rfl (by kernel_rfl) (by kernel_rfl) rfl (.run rfl (P_assign (v := .sl _ _) rfl)) ?_
    refine Canon.done _ _ (by kernel_rfl) ?_
    refine thenN ?_
    refine AW.seq ?_
    refine AW.seq ?_
    refine AW.region ?_
    refine AOL.p (P_move (v := .sl _ _) rfl) rfl ?_
    refine AOL.p (P_len_sl (n := (fromS a.edges s).length) tok rfl rfl rfl (by simp)) rfl ?_
    refine AOL.p (P_move (v := .sl _ _) rfl) rfl ?_
    refine AOL.p (P_len_sl (n := (fromS b.edges (toS p.1 s)).length) tok rfl rfl rfl (by simp)) rfl ?_
    refine AOL.p (P_neq rfl rfl) rfl ?_
    refine AOL.nil ?_
    refine thenN ?_
    refine AW.cond (b := _) rfl (fun hc2 => ?_) (fun hc2 => ?_)
    · skip
      have h9 : (matchR a b p s) = (false, p) := by unfold matchR; rw [if_neg (by rw [hc1]; decide), if_pos hc2]
      refine AW.seq ?_
      refine AW.region ?_
      refine AOL.p (P_assign (v := .bool _) rfl) rfl ?_
      refine AOL.nil ?_
      refine thenN ?_
      refine AW.ret ?_
      refine thenR ?_
      refine ⟨.inr rfl, [.bool _], .cons (.tmp _ _ rfl) <| .nil, _, .refl _, ?_⟩
      exact ⟨congrArg (fun x : Bool × Pg => AV.bool x.1) (h9).symm, congrArg (fun x : Bool × Pg => HO.box bT 3 (bI x.2.1) :: HO.box bK 3 (bI x.2.2) :: R) (h9).symm⟩
    · skip
      have h9 : (matchR a b p s) = matchL (fromS a.edges s) (fromS b.edges (toS p.1 s)) p := by unfold matchR; rw [if_neg (by rw [hc1]; decide), if_neg (by rw [hc2]; decide)]
      have hlm := eq_len hc2
      refine AW.skip ?_
      refine thenN ?_
      refine AW.seq ?_
      refine AW.seq ?_
      refine AW.region ?_
      refine AOL.p (P_assign (v := .int .i64 _) rfl) rfl ?_
      refine AOL.nil ?_
      refine thenN ?_
      refine AW.block ?_
      refine AW.loopS (fun (q : Nat × Pg) => (⟨[(2, .val (.slice (some ⟨bT, 0, none⟩) a.states.length a.states.length)), (3, .val (.slice (some ⟨bK, 0, none⟩) b.states.length b.states.length)), (12, .sl 17 ((fromS a.edges s).map cEd)), (13, .sl 17 ((fromS b.edges (toS p.1 s)).map cEd)), (14, .int .i64 (q.1 : Int))], .box bT 3 (bI q.2.1) :: .box bK 3 (bI q.2.2) :: R, 97⟩ : St)) (fun (q : Nat × Pg) => q.1 ≤ (fromS a.edges s).length ∧ q.2.1.length = a.states.length ∧ q.2.2.length = b.states.length ∧ (matchR a b p s) = matchL ((fromS a.edges s).drop q.1) ((fromS b.edges (toS p.1 s)).drop q.1) q.2) (fun (q : Nat × Pg) => (fromS a.edges s).length - q.1) ((0, p)) ?_ (GS.weaken ⟨rfl, rfl, rfl, rfl, rfl, trivial⟩ (.refl _)) ?_
      · exact ⟨Nat.zero_le _, iv.l1, iv.l2, h9⟩
      · rintro q hR
        refine AW.seq ?_
        refine AW.seq ?_
        refine AW.region ?_
        refine AOL.p (P_move (v := .int .i64 _) rfl) rfl ?_
        refine AOL.p (P_move (v := .sl _ _) rfl) rfl ?_
        refine AOL.p (P_len_sl (n := (fromS a.edges s).length) tok rfl rfl rfl (by simp)) rfl ?_
        refine AOL.p (P_lss rfl rfl) rfl ?_
        refine AOL.nil ?_
        refine thenN ?_
        refine AW.cond (b := _) rfl (fun hc3 => ?_) (fun hc3 => ?_)
        · skip
          obtain ⟨x, hx⟩ := get_lt2 (l := (fromS a.edges s)) (k := q.1) (by have := of_decide_eq_true hc3; omega)
          have hltx := get_lt' hx
          have hmx := List.mem_of_getElem? hx
          obtain ⟨y, hy⟩ := get_lt2 (l := (fromS b.edges (toS p.1 s))) (k := q.1) (by omega)
          have hmy := List.mem_of_getElem? hy
          have hg := hR.2.2.2
          rw [matchL_step hx hy] at hg
          refine AW.skip ?_
          refine thenN ?_
          refine AW.seq ?_
          refine AW.block ?_
          refine AW.seq ?_
          refine AW.seq ?_
          refine AW.draw mixed (fun _ => True) trivial (by kernel_rfl) ?_
          refine Canon.pure _ _ 0 _ _ rfl (by kernel_rfl) (by kernel_rfl) rfl (.run rfl (P_move (v := .sl _ _) rfl)) ?_
          refine Canon.pure _ _ 1 _ _ rfl (by kernel_rfl) (by kernel_rfl) rfl (.run rfl (P_move (v := .int .i64 _) rfl)) ?_
          refine Canon.pure _ _ 2 _ _ rfl (by kernel_rfl) (by kernel_rfl) rfl (.run rfl (P_indexAddr (c := [.int .i64 _, .int .i64 _, .int .i64 _, .int .i64 _, .int .i64 _, _, .int .i64 _, .int .i64 _, .int .i64 _, .int .i64 _, .int .i64 _, .str _, _, _, _, _, _]) tok rfl rfl rfl rfl rfl rfl (by omega) (cEd_at hx))) ?_
          refine Canon.pure _ _ 3 _ _ rfl (by kernel_rfl) (by kernel_rfl) rfl (.run rfl (P_load_ptr_agg (l := [.int .i64 _, .int .i64 _, .int .i64 _, .int .i64 _, .int .i64 _, _, .int .i64 _, .int .i64 _, .int .i64 _, .int .i64 _, .int .i64 _, .str _, _, _, _, _, _]) tok rfl rfl rfl rfl rfl)) ?_
          refine Canon.pure _ _ 4 _ _ rfl (by kernel_rfl) (by kernel_rfl) rfl (.run rfl (P_move (v := .sl _ _) rfl)) ?_
          refine Canon.pure _ _ 5 _ _ rfl (by kernel_rfl) (by kernel_rfl) rfl (.run rfl (P_move (v := .int .i64 _) rfl)) ?_
          refine Canon.pure _ _ 6 _ _ rfl (by kernel_rfl) (by kernel_rfl) rfl (.run rfl (P_indexAddr (c := [.int .i64 _, .int .i64 _, .int .i64 _, .int .i64 _, .int .i64 _, _, .int .i64 _, .int .i64 _, .int .i64 _, .int .i64 _, .int .i64 _, .str _, _, _, _, _, _]) tok rfl rfl rfl rfl rfl rfl (by omega) (cEd_at hy))) ?_
          refine Canon.pure _ _ 7 _ _ rfl (by kernel_rfl) (by kernel_rfl) rfl (.run rfl (P_load_ptr_agg (l := [.int .i64 _, .int .i64 _, .int .i64 _, .int .i64 _, .int .i64 _, _, .int .i64 _, .int .i64 _, .int .i64 _, .int .i64 _, .int .i64 _, .str _, _, _, _, _, _]) tok rfl rfl rfl rfl rfl)) ?_
          refine Canon.pure _ _ 8 _ _ rfl (by kernel_rfl) (by kernel_rfl) rfl (.run rfl (P_callf (by kernel_rfl) rfl rfl (r22_Edge x y (sa.e x (List.mem_filter.1 hmx).1)))) ?_
          refine Canon.pure _ _ 9 _ _ rfl (by kernel_rfl) (by kernel_rfl) rfl (.run rfl (P_not rfl)) ?_
          refine Canon.pure _ _ 10 _ _ rfl (by kernel_rfl) (by kernel_rfl) rfl (.run rfl (P_move (v := .bool _) rfl)) ?_
          refine Canon.pure _ _ 11 _ _ rfl (by kernel_rfl) (by kernel_rfl) rfl (.opt _ (.sl _ _) [] rfl (EntL.all trivial) (fun hG => P_move (v := .sl _ _) rfl) rfl) ?_
          refine Canon.pure _ _ 12 _ _ rfl (by kernel_rfl) (by kernel_rfl) rfl (.opt _ (.int .i64 _) [] rfl (EntL.all trivial) (fun hG => P_move (v := .int .i64 _) rfl) rfl) ?_
          refine Canon.pure _ _ 13 _ _ rfl (by kernel_rfl) (by kernel_rfl) rfl (.opt _ (.ptr _) [(61, _), (62, _)] rfl (EntL.all ⟨Ent.self _ _, Ent.self _ _, trivial⟩) (fun hG => P_indexAddr (c := [.int .i64 _, .int .i64 _, .int .i64 _, .int .i64 _, .int .i64 _, _, .int .i64 _, .int .i64 _, .int .i64 _, .int .i64 _, .int .i64 _, .str _, _, _, _, _, _]) tok rfl rfl rfl rfl rfl rfl (by omega) (cEd_at hx)) rfl) ?_
          refine Canon.pure _ _ 14 _ _ rfl (by kernel_rfl) (by kernel_rfl) rfl (.opt _ (.ptr _) [(63, _)] rfl (EntL.all ⟨Ent.self _ _, trivial⟩) (fun hG => P_fieldAddr_ptr (cs' := [.int .i64 _, .int .i64 _, .int .i64 _, .int .i64 _, _, .int .i64 _, .int .i64 _, .int .i64 _, .int .i64 _, .int .i64 _, .str _, _, _, _, _, _]) tok rfl rfl rfl rfl rfl rfl) rfl) ?_
          refine Canon.pure _ _ 15 _ _ rfl (by kernel_rfl) (by kernel_rfl) rfl (.opt _ (.int .i64 _) [(64, _)] rfl (EntL.all ⟨Ent.self _ _, trivial⟩) (fun hG => P_load_ptr (c := .int .i64 _) tok rfl rfl rfl) rfl) ?_
          refine Canon.pure _ _ 16 _ _ rfl (by kernel_rfl) (by kernel_rfl) rfl (.opt _ (.bool _) [(65, _)] rfl (EntL.all ⟨Ent.self _ _, trivial⟩) (fun hG => P_lss rfl rfl) rfl) ?_
          refine Canon.pure _ _ 17 _ _ rfl (by kernel_rfl) (by kernel_rfl) rfl (.opt _ (.sl _ _) [] rfl (EntL.all trivial) (fun hG => P_move (v := .sl _ _) rfl) rfl) ?_
          refine Canon.pure _ _ 18 _ _ rfl (by kernel_rfl) (by kernel_rfl) rfl (.opt _ (.int .i64 _) [] rfl (EntL.all trivial) (fun hG => P_move (v := .int .i64 _) rfl) rfl) ?_
          refine Canon.pure _ _ 19 _ _ rfl (by kernel_rfl) (by kernel_rfl) rfl (.opt _ (.ptr _) [(67, _), (68, _)] rfl (EntL.all ⟨Ent.self _ _, Ent.self _ _, trivial⟩) (fun hG => P_indexAddr (c := [.int .i64 _, .int .i64 _, .int .i64 _, .int .i64 _, .int .i64 _, _, .int .i64 _, .int .i64 _, .int .i64 _, .int .i64 _, .int .i64 _, .str _, _, _, _, _, _]) tok rfl rfl rfl rfl rfl rfl (by omega) (cEd_at hy)) rfl) ?_
          refine Canon.pure _ _ 20 _ _ rfl (by kernel_rfl) (by kernel_rfl) rfl (.opt _ (.ptr _) [(69, _)] rfl (EntL.all ⟨Ent.self _ _, trivial⟩) (fun hG => P_fieldAddr_ptr (cs' := [.int .i64 _, .int .i64 _, .int .i64 _, .int .i64 _, _, .int .i64 _, .int .i64 _, .int .i64 _, .int .i64 _, .int .i64 _, .str _, _, _, _, _, _]) tok rfl rfl rfl rfl rfl rfl) rfl) ?_
          refine Canon.pure _ _ 21 _ _ rfl (by kernel_rfl) (by kernel_rfl) rfl (.opt _ (.int .i64 _) [(70, _)] rfl (EntL.all ⟨Ent.self _ _, trivial⟩) (fun hG => P_load_ptr (c := .int .i64 _) tok rfl rfl rfl) rfl) ?_
          refine Canon.pure _ _ 22 _ _ rfl (by kernel_rfl) (by kernel_rfl) rfl (.opt _ (.bool _) [(71, _)] rfl (EntL.all ⟨Ent.self _ _, trivial⟩) (fun hG => P_lss rfl rfl) rfl) ?_
          refine Canon.pure _ _ 23 _ _ rfl (by kernel_rfl) (by kernel_rfl) rfl (.opt _ (.bool _) [(66, _), (72, _)] rfl (EntL.all ⟨Ent.self _ _, Ent.self _ _, trivial⟩) (fun hG => P_neq_bool tok rfl rfl rfl rfl) rfl) ?_
          refine Canon.pure _ _ 24 _ _ rfl (by kernel_rfl) (by kernel_rfl) rfl (.run rfl (P_pick_or rfl rfl rfl)) ?_
          refine Canon.done _ _ (by kernel_rfl) ?_
          refine thenN ?_
          refine AW.cond (b := _) rfl (fun hc4 => ?_) (fun hc4 => ?_)
          · skip
            replace hg := hg.trans (if_pos hc4)
            refine AW.seq ?_
            refine AW.region ?_
            refine AOL.p (P_assign (v := .bool _) rfl) rfl ?_
            refine AOL.nil ?_
            refine thenN ?_
            refine AW.ret ?_
            refine thenR ?_
            refine blkR ?_
            refine thenR ?_
            refine thenR ?_
            refine blkR ?_
            refine thenR ?_
            refine ⟨.inr rfl, [.bool _], .cons (.tmp _ _ rfl) <| .nil, _, .refl _, ?_⟩
            exact ⟨congrArg (fun x : Bool × Pg => AV.bool x.1) (hg).symm, congrArg (fun x : Bool × Pg => HO.box bT 3 (bI x.2.1) :: HO.box bK 3 (bI x.2.2) :: R) (hg).symm⟩
          · skip
            replace hg := hg.trans (if_neg (Bool.eq_false_iff.mp hc4))
            refine AW.skip ?_
            refine thenN ?_
            refine AW.seq ?_
            refine AW.draw mixed (fun _ => True) trivial (by kernel_rfl) ?_
            refine Canon.pure _ _ 0 _ _ rfl (by kernel_rfl) (by kernel_rfl) rfl (.run rfl (P_move (v := .sl _ _) rfl)) ?_
            refine Canon.pure _ _ 1 _ _ rfl (by kernel_rfl) (by kernel_rfl) rfl (.run rfl (P_move (v := .int .i64 _) rfl)) ?_
            refine Canon.pure _ _ 2 _ _ rfl (by kernel_rfl) (by kernel_rfl) rfl (.run rfl (P_indexAddr (c := [.int .i64 _, .int .i64 _, .int .i64 _, .int .i64 _, .int .i64 _, _, .int .i64 _, .int .i64 _, .int .i64 _, .int .i64 _, .int .i64 _, .str _, _, _, _, _, _]) tok rfl rfl rfl rfl rfl rfl (by omega) (cEd_at hx))) ?_
            refine Canon.pure _ _ 3 _ _ rfl (by kernel_rfl) (by kernel_rfl) rfl (.run rfl (P_fieldAddr_ptr (cs' := [.int .i64 _, .int .i64 _, .int .i64 _, .int .i64 _, _, .int .i64 _, .int .i64 _, .int .i64 _, .int .i64 _, .int .i64 _, .str _, _, _, _, _, _]) tok rfl rfl rfl rfl rfl rfl)) ?_
            refine Canon.pure _ _ 4 _ _ rfl (by kernel_rfl) (by kernel_rfl) rfl (.run rfl (P_load_ptr (c := .int .i64 _) tok rfl rfl rfl)) ?_
            refine Canon.pure _ _ 5 _ _ rfl (by kernel_rfl) (by kernel_rfl) rfl (.run rfl (P_geq rfl rfl)) ?_
            refine Canon.pure _ _ 6 _ _ rfl (by kernel_rfl) (by kernel_rfl) rfl (.run rfl (P_move (v := .bool _) rfl)) ?_
            refine Canon.pure _ _ 7 _ _ rfl (by kernel_rfl) (by kernel_rfl) rfl (.opt _ (.val _) [] rfl (EntL.all trivial) (fun hG => P_move (v := .val _) rfl) rfl) ?_
            refine Canon.pure _ _ 8 _ _ rfl (by kernel_rfl) (by kernel_rfl) rfl (.opt _ (.val _) [] rfl (EntL.all trivial) (fun hG => P_move (v := .val _) rfl) rfl) ?_
            refine Canon.pure _ _ 9 _ _ rfl (by kernel_rfl) (by kernel_rfl) rfl (.opt _ (.sl _ _) [] rfl (EntL.all trivial) (fun hG => P_move (v := .sl _ _) rfl) rfl) ?_
            refine Canon.pure _ _ 10 _ _ rfl (by kernel_rfl) (by kernel_rfl) rfl (.opt _ (.int .i64 _) [] rfl (EntL.all trivial) (fun hG => P_move (v := .int .i64 _) rfl) rfl) ?_
            refine Canon.pure _ _ 11 _ _ rfl (by kernel_rfl) (by kernel_rfl) rfl (.opt _ (.ptr _) [(84, _), (85, _)] rfl (EntL.all ⟨Ent.self _ _, Ent.self _ _, trivial⟩) (fun hG => P_indexAddr (c := [.int .i64 _, .int .i64 _, .int .i64 _, .int .i64 _, .int .i64 _, _, .int .i64 _, .int .i64 _, .int .i64 _, .int .i64 _, .int .i64 _, .str _, _, _, _, _, _]) tok rfl rfl rfl rfl rfl rfl (by omega) (cEd_at hx)) rfl) ?_
            refine Canon.pure _ _ 12 _ _ rfl (by kernel_rfl) (by kernel_rfl) rfl (.opt _ (.ptr _) [(86, _)] rfl (EntL.all ⟨Ent.self _ _, trivial⟩) (fun hG => P_fieldAddr_ptr (cs' := [.int .i64 _, .int .i64 _, .int .i64 _, .int .i64 _, _, .int .i64 _, .int .i64 _, .int .i64 _, .int .i64 _, .int .i64 _, .str _, _, _, _, _, _]) tok rfl rfl rfl rfl rfl rfl) rfl) ?_
            refine Canon.pure _ _ 13 _ _ rfl (by kernel_rfl) (by kernel_rfl) rfl (.opt _ (.int .i64 _) [(87, _)] rfl (EntL.all ⟨Ent.self _ _, trivial⟩) (fun hG => P_load_ptr (c := .int .i64 _) tok rfl rfl rfl) rfl) ?_
            refine Canon.pure _ _ 14 _ _ rfl (by kernel_rfl) (by kernel_rfl) rfl (.opt _ (.sl _ _) [] rfl (EntL.all trivial) (fun hG => P_move (v := .sl _ _) rfl) rfl) ?_
            refine Canon.pure _ _ 15 _ _ rfl (by kernel_rfl) (by kernel_rfl) rfl (.opt _ (.int .i64 _) [] rfl (EntL.all trivial) (fun hG => P_move (v := .int .i64 _) rfl) rfl) ?_
            refine Canon.pure _ _ 16 _ _ rfl (by kernel_rfl) (by kernel_rfl) rfl (.opt _ (.ptr _) [(89, _), (90, _)] rfl (EntL.all ⟨Ent.self _ _, Ent.self _ _, trivial⟩) (fun hG => P_indexAddr (c := [.int .i64 _, .int .i64 _, .int .i64 _, .int .i64 _, .int .i64 _, _, .int .i64 _, .int .i64 _, .int .i64 _, .int .i64 _, .int .i64 _, .str _, _, _, _, _, _]) tok rfl rfl rfl rfl rfl rfl (by omega) (cEd_at hy)) rfl) ?_
            refine Canon.pure _ _ 17 _ _ rfl (by kernel_rfl) (by kernel_rfl) rfl (.opt _ (.ptr _) [(91, _)] rfl (EntL.all ⟨Ent.self _ _, trivial⟩) (fun hG => P_fieldAddr_ptr (cs' := [.int .i64 _, .int .i64 _, .int .i64 _, .int .i64 _, _, .int .i64 _, .int .i64 _, .int .i64 _, .int .i64 _, .int .i64 _, .str _, _, _, _, _, _]) tok rfl rfl rfl rfl rfl rfl) rfl) ?_
            refine Canon.pure _ _ 18 _ _ rfl (by kernel_rfl) (by kernel_rfl) rfl (.opt _ (.int .i64 _) [(92, _)] rfl (EntL.all ⟨Ent.self _ _, trivial⟩) (fun hG => P_load_ptr (c := .int .i64 _) tok rfl rfl rfl) rfl) ?_
            refine Canon.effg _ _ 19 _ _ [(82, _), (83, _), (88, _), (93, _)] _ _ rfl (by kernel_rfl) rfl rfl (EntL.all ⟨Ent.self _ _, Ent.self _ _, Ent.self _ _, Ent.self _ _, trivial⟩) (fun hG => E_callf (by kernel_rfl) rfl rfl (r_pairedS bT bK _ _ q.2 hR.2.1 hR.2.2.1 x y (wp1 hG) (hla x hmx (of_decide_eq_true (wp1 hG))) (hlb y hmy (dst_both hc4 (of_decide_eq_true (wp1 hG)))) R)) (fun hG => congrArg (fun q : Pg => HO.box bT 3 (bI q.1) :: HO.box bK 3 (bI q.2) :: R) (pstep_no (not_g hG)).symm) trivial ?_
            refine Canon.pure _ _ 20 _ _ rfl (by kernel_rfl) (by kernel_rfl) rfl (.opt _ (.bool _) [(94, _)] rfl (EntL.all ⟨Ent.self _ _, trivial⟩) (fun hG => P_not rfl) rfl) ?_
            refine Canon.pure _ _ 21 _ _ rfl (by kernel_rfl) (by kernel_rfl) rfl (.run rfl (P_pick_and rfl rfl rfl)) ?_
            refine Canon.done _ _ (by kernel_rfl) ?_
            refine thenN ?_
            refine AW.cond (b := _) rfl (fun hc5 => ?_) (fun hc5 => ?_)
            · skip
              replace hg := hg.trans (if_pos hc5)
              refine AW.seq ?_
              refine AW.region ?_
              refine AOL.p (P_assign (v := .bool _) rfl) rfl ?_
              refine AOL.nil ?_
              refine thenN ?_
              refine AW.ret ?_
              refine blkR ?_
              refine thenR ?_
              refine thenR ?_
              refine blkR ?_
              refine thenR ?_
              refine ⟨.inr rfl, [.bool _], .cons (.tmp _ _ rfl) <| .nil, _, .refl _, ?_⟩
              exact ⟨congrArg (fun x : Bool × Pg => AV.bool x.1) (hg).symm, congrArg (fun x : Bool × Pg => HO.box bT 3 (bI x.2.1) :: HO.box bK 3 (bI x.2.2) :: R) (hg).symm⟩
            · skip
              replace hg := hg.trans (if_neg (Bool.eq_false_iff.mp hc5))
              refine AW.skip ?_
              refine blkN ?_
              refine thenN ?_
              refine AW.region ?_
              refine AOL.p (P_move (v := .int .i64 _) rfl) rfl ?_
              refine AOL.p (P_add rfl rfl rfl (by constructor <;> omega)) rfl ?_
              refine AOL.p (P_assign (v := .int .i64 _) rfl) rfl ?_
              refine AOL.nil ?_
              refine thenN ?_
              refine ⟨(q.1 + 1, pstep q.2 x y), ?_, ?_, GS.weaken ⟨rfl, rfl, rfl, rfl, rfl, trivial⟩ (.refl _)⟩
              · exact ⟨hltx, pstep_len.1.trans hR.2.1, pstep_len.2.trans hR.2.2.1, hg⟩
              · simp only; omega
        · skip
          have hk : (fromS a.edges s).length ≤ q.1 := by have := of_decide_eq_false hc3; omega
          have hg := hR.2.2.2
          rw [matchL_end hk] at hg
          refine AW.exit ?_
          refine thenE ?_
          refine thenE ?_
          refine blkHit ?_
          refine thenN ?_
          refine AW.seq ?_
          refine AW.region ?_
          refine AOL.p (P_assign (v := .bool _) rfl) rfl ?_
          refine AOL.nil ?_
          refine thenN ?_
          refine AW.ret ?_
          refine ⟨.inr rfl, [.bool _], .cons (.tmp _ _ rfl) <| .nil, _, .refl _, ?_⟩
          exact ⟨congrArg (fun x : Bool × Pg => AV.bool x.1) (hg).symm, congrArg (fun x : Bool × Pg => HO.box bT 3 (bI x.2.1) :: HO.box bK 3 (bI x.2.2) :: R) (hg).symm⟩

end Go.Proofs.YtoolcpnahmgnnaaGreatDoor
