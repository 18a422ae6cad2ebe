/-
  Walks of the parser: fields, constants. No condition.
-/
import Derived.Test.YtabkeeedkhgodaaGreatDoorV3
import Derived.KernelRfl
namespace Go.Proofs.YtabkeeedkhgodaaGreatDoor
open Go Go.Aw
set_option linter.unusedVariables false
set_option linter.unusedSimpArgs false

theorem u8_all' {p : UInt8 → Bool} (h : (List.range 256).all (fun n => p (UInt8.ofNat n)) = true) (c : UInt8) : p c = true := by
  rw [List.all_eq_true] at h
  have := h c.toNat (List.mem_range.2 c.toNat_lt)
  rwa [UInt8.ofNat_toNat] at this
def kindW : List Str := [w_tint, w_tbool, w_tstring]
theorem kind_get (k : Nat) (h : k < 3) : kindsCells[k]? = some (.str (kindW.getD k [])) := by
  match k, h with
  | 0, _ => rfl
  | 1, _ => rfl
  | 2, _ => rfl
theorem kind_len (k : Nat) (h : k < 3) : (kindW.getD k []).length ≤ 1048576 := by
  match k, h with
  | 0, _ => decide
  | 1, _ => decide
  | 2, _ => decide
abbrev fS (st : PS) : PS := expP w_colon (tokP 0 st)
theorem field_hit {st : PS} {k : Nat} (h : k < 3) (hn : ∀ j, j < k → isP (kindW.getD j []) (fS st) = false) (hp : isP (kindW.getD k []) (fS st) = true) : fieldP st = (⟨2, txtP 0 st, [], (k : Int), [], offS st⟩, adv (fS st)) := by
  unfold fieldP
  match k, h with
  | 0, _ => rw [if_pos (show isP w_tint (fS st) = true from hp)]; rfl
  | 1, _ => rw [if_neg (Bool.eq_false_iff.mp (show isP w_tint (fS st) = false from hn 0 (by omega))), if_pos (show isP w_tbool (fS st) = true from hp)]; rfl
  | 2, _ => rw [if_neg (Bool.eq_false_iff.mp (show isP w_tint (fS st) = false from hn 0 (by omega))), if_neg (Bool.eq_false_iff.mp (show isP w_tbool (fS st) = false from hn 1 (by omega))), if_pos (show isP w_tstring (fS st) = true from hp)]; rfl
theorem field_none {st : PS} (hn : ∀ j, j < 3 → isP (kindW.getD j []) (fS st) = false) : fieldP st = (⟨2, txtP 0 st, [], 0, [], offS st⟩, failP 4 (fS st)) := by
  unfold fieldP
  rw [if_neg (Bool.eq_false_iff.mp (show isP w_tint (fS st) = false from hn 0 (by omega))), if_neg (Bool.eq_false_iff.mp (show isP w_tbool (fS st) = false from hn 1 (by omega))), if_neg (Bool.eq_false_iff.mp (show isP w_tstring (fS st) = false from hn 2 (by omega)))]
theorem numGo_le : ∀ (s : Str) (n : Int), 0 ≤ n → n ≤ 1099511627776 → 0 ≤ (numGo s n).1 ∧ (numGo s n).1 ≤ 1099511627776
  | [], n, h0, h1 => ⟨h0, h1⟩
  | c :: r, n, h0, h1 => by
    unfold numGo
    split
    · decide
    · rename_i h
      have hd : 0 ≤ dvS c := by
        have := u8_all' (p := fun c => decide (0 ≤ dvS c)) (by kernel_rfl) c
        exact of_decide_eq_true this
      simp only [decide_eq_true_eq, Int.not_lt] at h
      exact numGo_le r _ (by omega) h
theorem numP_le (st : PS) : 0 ≤ numP st ∧ numP st ≤ 1099511627776 := by
  unfold numP
  split
  · unfold numS
    split
    · decide
    · exact numGo_le _ _ (by decide) (by decide)
  · decide

set_option maxRecDepth 20000 in
set_option maxHeartbeats 800000 in
theorem p_field (st : PS) (bp : Nat)  (hS : okS st) : PCallS Tryz.prog 106 bp 70 (cP st) (cP ((fieldP st).2)) [.val (.pointer (some ⟨bp, 0, none⟩))] (.agg (cSyn (fieldP st).1)) := by
 intro H
 refine ACall.body (n := 28) tok Tryz.func106 rfl rfl rfl ?_
 refine AW.seq (AW.region ?_)
 refine AOL.e (E_alloc (l := [.int .i64 0, .str [], .str [], .int .i64 0, .sl 6 [], .int .i64 0]) (by kernel_rfl)) rfl ?_
 rintro _ _ ⟨b2, rfl, rfl⟩
 refine AOL.nil (thenN ?_)
 refine AW.seq (AW.region ?_)
 refine AOL.p (P_move (v := .val _) rfl) rfl ?_
 refine AOL.pk (P_callf_k (k := 1) (by kernel_rfl) rfl rfl (p_offset _ _)) rfl rfl ?_
 refine AOL.p (P_move (v := .val _) rfl) rfl ?_
 refine AOL.e (E_callf (by kernel_rfl) rfl rfl ((p_name _ _ (by simpa using hS)).at (k := 1) (H2 := _ :: _ :: _) rfl rfl)) rfl ?_
 rintro _ _ ⟨rfl, rfl⟩
 refine AOL.p (P_build (l := [.int .i64 _, .str _, .str _, .int .i64 _, _, .int .i64 _]) tok rfl rfl rfl) rfl ?_
 refine AOL.e (E_alloc (l := [.int .i64 0, .str [], .str [], .int .i64 0, .sl 6 [], .int .i64 0]) (by kernel_rfl)) rfl ?_
 rintro _ _ ⟨b3, rfl, rfl⟩
 refine AOL.e (E_store (k := 0) (v := .agg _) (cs' := [.int .i64 _, .str _, .str _, .int .i64 _, _, .int .i64 _]) (H2 := _ :: _ :: _ :: _) tok rfl rfl rfl rfl rfl rfl rfl rfl rfl) rfl ?_
 rintro _ _ ⟨rfl, rfl⟩
 refine AOL.nil (thenN ?_)
 refine AW.seq (AW.region ?_)
 refine AOL.p (P_move (v := .val _) rfl) rfl ?_
 refine AOL.e (E_callf (by kernel_rfl) rfl rfl ((p_expect _ _ _ (by simpa using hS) (by first | assumption | decide)).at (k := 2) (H2 := _ :: _ :: _ :: _) rfl rfl)) rfl ?_
 rintro _ _ ⟨rfl, rfl⟩
 refine AOL.nil (thenN ?_)
 refine AW.seq ?_
 refine AW.seq (AW.region ?_)
 refine AOL.p (P_load_glob (l := kindsCells) tok (⟨_, by simp [globals], fun _ h => h⟩) rfl rfl rfl rfl) rfl ?_
 refine AOL.p (P_move (v := .int .i64 _) rfl) rfl ?_
 refine AOL.nil (thenN ?_)
 refine AW.block ?_
 refine AW.loopS (fun (k : Nat) => (⟨[(0, .val (.pointer (some ⟨bp, 0, none⟩))), (2, .val (.pointer (some ⟨b2, 0, none⟩))), (3, .val (.pointer (some ⟨b3, 0, none⟩))), (13, .agg kindsCells), (14, .int .i64 (k : Int))], .box b3 24 (cSyn ⟨2, txtP 0 st, [], 0, [], offS st⟩) :: .box b2 24 (cSyn synZ) :: .box bp 70 (cP (fS st)) :: H, 28⟩ : St)) (fun (k : Nat) => k ≤ 3 ∧ ∀ j, j < k → isP (kindW.getD j []) (fS st) = false) (fun (k : Nat) => 3 - k) (0) ?_ (GS.weaken ⟨rfl, rfl, rfl, rfl, rfl, trivial⟩ (.refl _)) ?_
 · exact ⟨Nat.zero_le _, fun j hj => absurd hj (Nat.not_lt_zero _)⟩
 ·
  rintro k hR
  refine AW.seq (AW.region ?_)
  refine AOL.p (P_lss rfl rfl) rfl ?_
  refine AOL.nil (thenN ?_)
  refine AW.seq ?_
  refine AW.cond (b := _) rfl (fun hc1 => ?_) (fun hc1 => ?_)
  ·
   try simp only [Bool.not_eq_true', Bool.not_eq_false'] at hc1
   have hk : k < 3 := by have := of_decide_eq_true hc1; omega
   have hwx := kind_len k hk
   refine AW.skip ?_
   refine thenN ?_
   refine AW.seq ?_
   refine AW.block ?_
   refine AW.seq (AW.region ?_)
   refine AOL.p (P_move (v := .int .i64 _) rfl) rfl ?_
   refine AOL.p (P_index_agg (c := .str (kindW.getD k [])) tok rfl rfl rfl rfl rfl rfl rfl (by omega) (by omega) (kind_get k hk)) rfl ?_
   refine AOL.p (P_assign (v := .int .i64 _) rfl) rfl ?_
   refine AOL.p (P_assign (v := .str _) rfl) rfl ?_
   refine AOL.nil (thenN ?_)
   refine AW.seq (AW.region ?_)
   refine AOL.p (P_move (v := .val _) rfl) rfl ?_
   refine AOL.p (P_move (v := .str _) rfl) rfl ?_
   refine AOL.e (E_callf (by kernel_rfl) rfl rfl ((p_accept _ _ _ (by simpa using hS) (by first | assumption | decide)).at (k := 2) (H2 := _ :: _ :: _ :: _) rfl rfl)) rfl ?_
   rintro _ _ ⟨rfl, rfl⟩
   refine AOL.nil (thenN ?_)
   refine AW.cond (b := _) rfl (fun hc2 => ?_) (fun hc2 => ?_)
   ·
    try simp only [Bool.not_eq_true', Bool.not_eq_false'] at hc2
    refine AW.ghost (GS.cellsTo (H2 := _ :: _ :: _ :: _) 2 rfl (congrArg cP (acc_yes hc2)) rfl) ?_
    refine AW.seq (AW.region ?_)
    refine AOL.p (P_move (v := .int .i64 _) rfl) rfl ?_
    refine AOL.p (P_fieldAddr_val tok rfl rfl rfl rfl rfl rfl) rfl ?_
    refine AOL.e (E_store (k := 0) (v := .int .i64 _) (cs' := [.int .i64 _, .str _, .str _, .int .i64 _, _, .int .i64 _]) (H2 := _ :: _ :: _ :: _) tok rfl rfl rfl rfl rfl rfl rfl rfl rfl) rfl ?_
    rintro _ _ ⟨rfl, rfl⟩
    refine AOL.nil (thenN ?_)
    refine AW.seq (AW.region ?_)
    refine AOL.pk (P_load_box_agg (k := 0) (l := [.int .i64 _, .str _, .str _, .int .i64 _, _, .int .i64 _]) tok rfl rfl rfl rfl rfl) rfl rfl ?_
    refine AOL.e (E_store (k := 1) (v := .agg _) (cs' := [.int .i64 _, .str _, .str _, .int .i64 _, _, .int .i64 _]) (H2 := _ :: _ :: _ :: _) tok rfl rfl rfl rfl rfl rfl rfl rfl rfl) rfl ?_
    rintro _ _ ⟨rfl, rfl⟩
    refine AOL.nil (thenN ?_)
    refine AW.ret ?_
    refine blkR ?_
    refine thenR ?_
    refine thenR ?_
    refine blkR ?_
    refine thenR ?_
    refine ⟨.inr rfl, [.agg [.int .i64 _, .str _, .str _, .int .i64 _, _, .int .i64 _]], .cons (.box _ _ _ 1 _ _ _ _ rfl rfl rfl rfl rfl rfl) <| .nil, _, .cons _ (.cons _ (.refl _)), ?_⟩
    have h9 := field_hit hk hR.2 hc2
    exact ⟨by rw [h9]; rfl, congrArg (fun s => HO.box bp 70 (cP s) :: H) (by rw [h9])⟩
   ·
    try simp only [Bool.not_eq_true', Bool.not_eq_false'] at hc2
    refine AW.ghost (GS.cellsTo (H2 := _ :: _ :: _ :: _) 2 rfl (congrArg cP (acc_no hc2)) rfl) ?_
    refine AW.skip ?_
    refine blkN ?_
    refine thenN ?_
    refine AW.region ?_
    refine AOL.p (P_add rfl rfl rfl (by constructor <;> omega)) rfl ?_
    refine AOL.p (P_move (v := .int .i64 _) rfl) rfl ?_
    refine AOL.nil (thenN ?_)
    refine ⟨k + 1, ?_, ?_, GS.weaken ⟨rfl, rfl, rfl, rfl, rfl, trivial⟩ (.refl _)⟩
    · exact ⟨hk, fun j hj => by rcases Nat.lt_succ_iff_lt_or_eq.1 hj with h | rfl; exact hR.2 j h; exact hc2⟩
    · omega
  ·
   try simp only [Bool.not_eq_true', Bool.not_eq_false'] at hc1
   have hkn : ¬ k < 3 := by have := of_decide_eq_false hc1; omega
   refine AW.exit ?_
   refine thenE ?_
   refine thenE ?_
   refine blkHit ?_
   refine thenN ?_
   refine AW.seq (AW.region ?_)
   refine AOL.p (P_move (v := .val _) rfl) rfl ?_
   refine AOL.e (E_callf (by kernel_rfl) rfl rfl ((p_fail _ _ _).at (k := 2) (H2 := _ :: _ :: _ :: _) rfl rfl)) rfl ?_
   rintro _ _ ⟨rfl, rfl⟩
   refine AOL.nil (thenN ?_)
   refine AW.seq (AW.region ?_)
   refine AOL.pk (P_load_box_agg (k := 0) (l := [.int .i64 _, .str _, .str _, .int .i64 _, _, .int .i64 _]) tok rfl rfl rfl rfl rfl) rfl rfl ?_
   refine AOL.e (E_store (k := 1) (v := .agg _) (cs' := [.int .i64 _, .str _, .str _, .int .i64 _, _, .int .i64 _]) (H2 := _ :: _ :: _ :: _) tok rfl rfl rfl rfl rfl rfl rfl rfl rfl) rfl ?_
   rintro _ _ ⟨rfl, rfl⟩
   refine AOL.nil (thenN ?_)
   refine AW.ret ?_
   refine ⟨.inr rfl, [.agg [.int .i64 _, .str _, .str _, .int .i64 _, _, .int .i64 _]], .cons (.box _ _ _ 1 _ _ _ _ rfl rfl rfl rfl rfl rfl) <| .nil, _, .cons _ (.cons _ (.refl _)), ?_⟩
   have h9 := field_none (st := st) (fun j hj => hR.2 j (by omega))
   exact ⟨by rw [h9]; rfl, congrArg (fun s => HO.box bp 70 (cP s) :: H) (by rw [h9])⟩
set_option maxRecDepth 20000 in
set_option maxHeartbeats 800000 in
theorem p_constant (st : PS) (bp : Nat)  (hS : okS st) : PCallS Tryz.prog 180 bp 70 (cP st) (cP ((constP st).2)) [.val (.pointer (some ⟨bp, 0, none⟩))] (.agg (cSyn (constP st).1)) := by
 intro H
 refine ACall.body (n := 37) tok Tryz.func180 rfl rfl rfl ?_
 refine AW.seq (AW.region ?_)
 refine AOL.e (E_alloc (l := [.int .i64 0, .str [], .str [], .int .i64 0, .sl 6 [], .int .i64 0]) (by kernel_rfl)) rfl ?_
 rintro _ _ ⟨b2, rfl, rfl⟩
 refine AOL.nil (thenN ?_)
 refine AW.seq (AW.region ?_)
 refine AOL.p (P_move (v := .val _) rfl) rfl ?_
 refine AOL.pk (P_callf_k (k := 1) (by kernel_rfl) rfl rfl (p_offset _ _)) rfl rfl ?_
 refine AOL.p (P_build (l := [.int .i64 _, .str _, .str _, .int .i64 _, _, .int .i64 _]) tok rfl rfl rfl) rfl ?_
 refine AOL.e (E_alloc (l := [.int .i64 0, .str [], .str [], .int .i64 0, .sl 6 [], .int .i64 0]) (by kernel_rfl)) rfl ?_
 rintro _ _ ⟨b3, rfl, rfl⟩
 refine AOL.e (E_store (k := 0) (v := .agg _) (cs' := [.int .i64 _, .str _, .str _, .int .i64 _, _, .int .i64 _]) (H2 := _ :: _ :: _ :: _) tok rfl rfl rfl rfl rfl rfl rfl rfl rfl) rfl ?_
 rintro _ _ ⟨rfl, rfl⟩
 refine AOL.nil (thenN ?_)
 refine AW.seq ?_
 refine AW.block ?_
 refine AW.seq (AW.region ?_)
 refine AOL.p (P_move (v := .val _) rfl) rfl ?_
 refine AOL.e (E_callf (by kernel_rfl) rfl rfl ((p_accept _ _ _ (by simpa using hS) (by first | assumption | decide)).at (k := 2) (H2 := _ :: _ :: _ :: _) rfl rfl)) rfl ?_
 rintro _ _ ⟨rfl, rfl⟩
 refine AOL.p (P_assign (v := .bool _) rfl) rfl ?_
 refine AOL.nil (thenN ?_)
 refine AW.cond (b := _) rfl (fun hc1 => ?_) (fun hc1 => ?_)
 ·
  try simp only [Bool.not_eq_true', Bool.not_eq_false'] at hc1
  refine AW.ghost (GS.cellsTo (H2 := _ :: _ :: _ :: _) 2 rfl (congrArg cP (acc_yes hc1)) rfl) ?_
  refine AW.region ?_
  refine AOL.p (P_move (v := .val _) rfl) rfl ?_
  refine AOL.e (E_callf (by kernel_rfl) rfl rfl ((p_number _ _ (by simpa using hS)).at (k := 2) (H2 := _ :: _ :: _ :: _) rfl rfl)) rfl ?_
  rintro _ _ ⟨rfl, rfl⟩
  refine AOL.p (P_neg rfl rfl (by have := numP_le (adv st); constructor <;> omega)) rfl ?_
  refine AOL.p (P_fieldAddr_val tok rfl rfl rfl rfl rfl rfl) rfl ?_
  refine AOL.e (E_store (k := 0) (v := .int .i64 _) (cs' := [.int .i64 _, .str _, .str _, .int .i64 _, _, .int .i64 _]) (H2 := _ :: _ :: _ :: _) tok rfl rfl rfl rfl rfl rfl rfl rfl rfl) rfl ?_
  rintro _ _ ⟨rfl, rfl⟩
  refine AOL.nil ?_
  refine blkN ?_
  refine thenN ?_
  refine AW.seq (AW.region ?_)
  refine AOL.pk (P_load_box_agg (k := 0) (l := [.int .i64 _, .str _, .str _, .int .i64 _, _, .int .i64 _]) tok rfl rfl rfl rfl rfl) rfl rfl ?_
  refine AOL.e (E_store (k := 1) (v := .agg _) (cs' := [.int .i64 _, .str _, .str _, .int .i64 _, _, .int .i64 _]) (H2 := _ :: _ :: _ :: _) tok rfl rfl rfl rfl rfl rfl rfl rfl rfl) rfl ?_
  rintro _ _ ⟨rfl, rfl⟩
  refine AOL.nil (thenN ?_)
  refine AW.ret ?_
  refine ⟨.inr rfl, [.agg [.int .i64 _, .str _, .str _, .int .i64 _, _, .int .i64 _]], .cons (.box _ _ _ 1 _ _ _ _ rfl rfl rfl rfl rfl rfl) <| .nil, _, .cons _ (.cons _ (.refl _)), ?_⟩
  refine ⟨?_, congrArg (fun c => HO.box bp 70 c :: H) ?_⟩
  ·
   try simp only [resOf, constP, cSyn, List.map_cons, List.map_nil, encS_eq, hc1, ↓reduceIte, Bool.false_eq_true, Bool.not_true, Bool.not_false]
   try rfl
  ·
   try simp only [cP, constP, hc1, ↓reduceIte, Bool.false_eq_true, Bool.not_true, Bool.not_false]
   try rfl
 ·
  try simp only [Bool.not_eq_true', Bool.not_eq_false'] at hc1
  refine AW.ghost (GS.cellsTo (H2 := _ :: _ :: _ :: _) 2 rfl (congrArg cP (acc_no hc1)) rfl) ?_
  refine AW.seq (AW.region ?_)
  refine AOL.p (P_move (v := .val _) rfl) rfl ?_
  refine AOL.pk (P_callf_k (k := 2) (by kernel_rfl) rfl rfl (p_next _ _ _ (by simpa using hS))) rfl rfl ?_
  refine AOL.p (P_assign (v := .bool _) rfl) rfl ?_
  refine AOL.nil (thenN ?_)
  refine AW.cond (b := _) rfl (fun hc2 => ?_) (fun hc2 => ?_)
  ·
   try simp only [Bool.not_eq_true', Bool.not_eq_false'] at hc2
   refine AW.region ?_
   refine AOL.p (P_move (v := .val _) rfl) rfl ?_
   refine AOL.e (E_callf (by kernel_rfl) rfl rfl ((p_number _ _ (by simpa using hS)).at (k := 2) (H2 := _ :: _ :: _ :: _) rfl rfl)) rfl ?_
   rintro _ _ ⟨rfl, rfl⟩
   refine AOL.p (P_fieldAddr_val tok rfl rfl rfl rfl rfl rfl) rfl ?_
   refine AOL.e (E_store (k := 0) (v := .int .i64 _) (cs' := [.int .i64 _, .str _, .str _, .int .i64 _, _, .int .i64 _]) (H2 := _ :: _ :: _ :: _) tok rfl rfl rfl rfl rfl rfl rfl rfl rfl) rfl ?_
   rintro _ _ ⟨rfl, rfl⟩
   refine AOL.nil ?_
   refine blkN ?_
   refine thenN ?_
   refine AW.seq (AW.region ?_)
   refine AOL.pk (P_load_box_agg (k := 0) (l := [.int .i64 _, .str _, .str _, .int .i64 _, _, .int .i64 _]) tok rfl rfl rfl rfl rfl) rfl rfl ?_
   refine AOL.e (E_store (k := 1) (v := .agg _) (cs' := [.int .i64 _, .str _, .str _, .int .i64 _, _, .int .i64 _]) (H2 := _ :: _ :: _ :: _) tok rfl rfl rfl rfl rfl rfl rfl rfl rfl) rfl ?_
   rintro _ _ ⟨rfl, rfl⟩
   refine AOL.nil (thenN ?_)
   refine AW.ret ?_
   refine ⟨.inr rfl, [.agg [.int .i64 _, .str _, .str _, .int .i64 _, _, .int .i64 _]], .cons (.box _ _ _ 1 _ _ _ _ rfl rfl rfl rfl rfl rfl) <| .nil, _, .cons _ (.cons _ (.refl _)), ?_⟩
   refine ⟨?_, congrArg (fun c => HO.box bp 70 c :: H) ?_⟩
   ·
    try simp only [resOf, constP, cSyn, List.map_cons, List.map_nil, encS_eq, hc1, hc2, ↓reduceIte, Bool.false_eq_true, Bool.not_true, Bool.not_false]
    try rfl
   ·
    try simp only [cP, constP, hc1, hc2, ↓reduceIte, Bool.false_eq_true, Bool.not_true, Bool.not_false]
    try rfl
  ·
   try simp only [Bool.not_eq_true', Bool.not_eq_false'] at hc2
   refine AW.seq (AW.region ?_)
   refine AOL.p (P_move (v := .val _) rfl) rfl ?_
   refine AOL.e (E_callf (by kernel_rfl) rfl rfl ((p_accept _ _ _ (by simpa using hS) (by first | assumption | decide)).at (k := 2) (H2 := _ :: _ :: _ :: _) rfl rfl)) rfl ?_
   rintro _ _ ⟨rfl, rfl⟩
   refine AOL.p (P_assign (v := .bool _) rfl) rfl ?_
   refine AOL.nil (thenN ?_)
   refine AW.cond (b := _) rfl (fun hc3 => ?_) (fun hc3 => ?_)
   ·
    try simp only [Bool.not_eq_true', Bool.not_eq_false'] at hc3
    refine AW.ghost (GS.cellsTo (H2 := _ :: _ :: _ :: _) 2 rfl (congrArg cP (acc_yes hc3)) rfl) ?_
    refine AW.region ?_
    refine AOL.p (P_fieldAddr_val tok rfl rfl rfl rfl rfl rfl) rfl ?_
    refine AOL.e (E_store (k := 0) (v := .str _) (cs' := [.int .i64 _, .str _, .str _, .int .i64 _, _, .int .i64 _]) (H2 := _ :: _ :: _ :: _) tok rfl rfl rfl rfl rfl rfl rfl rfl rfl) rfl ?_
    rintro _ _ ⟨rfl, rfl⟩
    refine AOL.p (P_fieldAddr_val tok rfl rfl rfl rfl rfl rfl) rfl ?_
    refine AOL.e (E_store (k := 0) (v := .int .i64 _) (cs' := [.int .i64 _, .str _, .str _, .int .i64 _, _, .int .i64 _]) (H2 := _ :: _ :: _ :: _) tok rfl rfl rfl rfl rfl rfl rfl rfl rfl) rfl ?_
    rintro _ _ ⟨rfl, rfl⟩
    refine AOL.nil ?_
    refine blkN ?_
    refine thenN ?_
    refine AW.seq (AW.region ?_)
    refine AOL.pk (P_load_box_agg (k := 0) (l := [.int .i64 _, .str _, .str _, .int .i64 _, _, .int .i64 _]) tok rfl rfl rfl rfl rfl) rfl rfl ?_
    refine AOL.e (E_store (k := 1) (v := .agg _) (cs' := [.int .i64 _, .str _, .str _, .int .i64 _, _, .int .i64 _]) (H2 := _ :: _ :: _ :: _) tok rfl rfl rfl rfl rfl rfl rfl rfl rfl) rfl ?_
    rintro _ _ ⟨rfl, rfl⟩
    refine AOL.nil (thenN ?_)
    refine AW.ret ?_
    refine ⟨.inr rfl, [.agg [.int .i64 _, .str _, .str _, .int .i64 _, _, .int .i64 _]], .cons (.box _ _ _ 1 _ _ _ _ rfl rfl rfl rfl rfl rfl) <| .nil, _, .cons _ (.cons _ (.refl _)), ?_⟩
    refine ⟨?_, congrArg (fun c => HO.box bp 70 c :: H) ?_⟩
    ·
     try simp only [resOf, constP, cSyn, List.map_cons, List.map_nil, encS_eq, hc1, hc2, hc3, ↓reduceIte, Bool.false_eq_true, Bool.not_true, Bool.not_false]
     try rfl
    ·
     try simp only [cP, constP, hc1, hc2, hc3, ↓reduceIte, Bool.false_eq_true, Bool.not_true, Bool.not_false]
     try rfl
   ·
    try simp only [Bool.not_eq_true', Bool.not_eq_false'] at hc3
    refine AW.ghost (GS.cellsTo (H2 := _ :: _ :: _ :: _) 2 rfl (congrArg cP (acc_no hc3)) rfl) ?_
    refine AW.seq (AW.region ?_)
    refine AOL.p (P_move (v := .val _) rfl) rfl ?_
    refine AOL.e (E_callf (by kernel_rfl) rfl rfl ((p_accept _ _ _ (by simpa using hS) (by first | assumption | decide)).at (k := 2) (H2 := _ :: _ :: _ :: _) rfl rfl)) rfl ?_
    rintro _ _ ⟨rfl, rfl⟩
    refine AOL.p (P_assign (v := .bool _) rfl) rfl ?_
    refine AOL.nil (thenN ?_)
    refine AW.cond (b := _) rfl (fun hc4 => ?_) (fun hc4 => ?_)
    ·
     try simp only [Bool.not_eq_true', Bool.not_eq_false'] at hc4
     refine AW.ghost (GS.cellsTo (H2 := _ :: _ :: _ :: _) 2 rfl (congrArg cP (acc_yes hc4)) rfl) ?_
     refine AW.region ?_
     refine AOL.p (P_fieldAddr_val tok rfl rfl rfl rfl rfl rfl) rfl ?_
     refine AOL.e (E_store (k := 0) (v := .str _) (cs' := [.int .i64 _, .str _, .str _, .int .i64 _, _, .int .i64 _]) (H2 := _ :: _ :: _ :: _) tok rfl rfl rfl rfl rfl rfl rfl rfl rfl) rfl ?_
     rintro _ _ ⟨rfl, rfl⟩
     refine AOL.nil ?_
     refine blkN ?_
     refine thenN ?_
     refine AW.seq (AW.region ?_)
     refine AOL.pk (P_load_box_agg (k := 0) (l := [.int .i64 _, .str _, .str _, .int .i64 _, _, .int .i64 _]) tok rfl rfl rfl rfl rfl) rfl rfl ?_
     refine AOL.e (E_store (k := 1) (v := .agg _) (cs' := [.int .i64 _, .str _, .str _, .int .i64 _, _, .int .i64 _]) (H2 := _ :: _ :: _ :: _) tok rfl rfl rfl rfl rfl rfl rfl rfl rfl) rfl ?_
     rintro _ _ ⟨rfl, rfl⟩
     refine AOL.nil (thenN ?_)
     refine AW.ret ?_
     refine ⟨.inr rfl, [.agg [.int .i64 _, .str _, .str _, .int .i64 _, _, .int .i64 _]], .cons (.box _ _ _ 1 _ _ _ _ rfl rfl rfl rfl rfl rfl) <| .nil, _, .cons _ (.cons _ (.refl _)), ?_⟩
     refine ⟨?_, congrArg (fun c => HO.box bp 70 c :: H) ?_⟩
     ·
      try simp only [resOf, constP, cSyn, List.map_cons, List.map_nil, encS_eq, hc1, hc2, hc3, hc4, ↓reduceIte, Bool.false_eq_true, Bool.not_true, Bool.not_false]
      try rfl
     ·
      try simp only [cP, constP, hc1, hc2, hc3, hc4, ↓reduceIte, Bool.false_eq_true, Bool.not_true, Bool.not_false]
      try rfl
    ·
     try simp only [Bool.not_eq_true', Bool.not_eq_false'] at hc4
     refine AW.ghost (GS.cellsTo (H2 := _ :: _ :: _ :: _) 2 rfl (congrArg cP (acc_no hc4)) rfl) ?_
     refine AW.seq (AW.region ?_)
     refine AOL.p (P_fieldAddr_val tok rfl rfl rfl rfl rfl rfl) rfl ?_
     refine AOL.e (E_store (k := 0) (v := .str _) (cs' := [.int .i64 _, .str _, .str _, .int .i64 _, _, .int .i64 _]) (H2 := _ :: _ :: _ :: _) tok rfl rfl rfl rfl rfl rfl rfl rfl rfl) rfl ?_
     rintro _ _ ⟨rfl, rfl⟩
     refine AOL.nil (thenN ?_)
     refine AW.region ?_
     refine AOL.p (P_move (v := .val _) rfl) rfl ?_
     refine AOL.e (E_callf (by kernel_rfl) rfl rfl ((p_token _ _ _ (by simpa using hS)).at (k := 2) (H2 := _ :: _ :: _ :: _) rfl rfl)) rfl ?_
     rintro _ _ ⟨rfl, rfl⟩
     refine AOL.p (P_move (v := .tuple _) rfl) rfl ?_
     refine AOL.p (P_extract (v := .str _) rfl rfl) rfl ?_
     refine AOL.p (P_extract (v := .bool _) rfl rfl) rfl ?_
     refine AOL.p (P_fieldAddr_val tok rfl rfl rfl rfl rfl rfl) rfl ?_
     refine AOL.e (E_store (k := 0) (v := .str _) (cs' := [.int .i64 _, .str _, .str _, .int .i64 _, _, .int .i64 _]) (H2 := _ :: _ :: _ :: _) tok rfl rfl rfl rfl rfl rfl rfl rfl rfl) rfl ?_
     rintro _ _ ⟨rfl, rfl⟩
     refine AOL.nil ?_
     refine blkN ?_
     refine thenN ?_
     refine AW.seq (AW.region ?_)
     refine AOL.pk (P_load_box_agg (k := 0) (l := [.int .i64 _, .str _, .str _, .int .i64 _, _, .int .i64 _]) tok rfl rfl rfl rfl rfl) rfl rfl ?_
     refine AOL.e (E_store (k := 1) (v := .agg _) (cs' := [.int .i64 _, .str _, .str _, .int .i64 _, _, .int .i64 _]) (H2 := _ :: _ :: _ :: _) tok rfl rfl rfl rfl rfl rfl rfl rfl rfl) rfl ?_
     rintro _ _ ⟨rfl, rfl⟩
     refine AOL.nil (thenN ?_)
     refine AW.ret ?_
     refine ⟨.inr rfl, [.agg [.int .i64 _, .str _, .str _, .int .i64 _, _, .int .i64 _]], .cons (.box _ _ _ 1 _ _ _ _ rfl rfl rfl rfl rfl rfl) <| .nil, _, .cons _ (.cons _ (.refl _)), ?_⟩
     refine ⟨?_, congrArg (fun c => HO.box bp 70 c :: H) ?_⟩
     ·
      try simp only [resOf, constP, cSyn, List.map_cons, List.map_nil, encS_eq, hc1, hc2, hc3, hc4, ↓reduceIte, Bool.false_eq_true, Bool.not_true, Bool.not_false]
      try rfl
     ·
      try simp only [cP, constP, hc1, hc2, hc3, hc4, ↓reduceIte, Bool.false_eq_true, Bool.not_true, Bool.not_false]
      try rfl
set_option maxRecDepth 20000 in
set_option maxHeartbeats 400000 in
theorem p_inside (st : PS) (bp : Nat) (z : Syn) (bo : Nat) (hS : okS st) (R : List HO) : ACall Tryz.prog 179 (.box bp 70 (cP st) :: .box bo 24 (cSyn z) :: R) [.val (.pointer (some ⟨bp, 0, none⟩)), .val (.pointer (some ⟨bo, 0, none⟩))] (fun r H' => r = .tuple [] ∧ H' = .box bp 70 (cP (insP st).2) :: .box bo 24 (cSyn { z with text := (insP st).1.1, name := (insP st).1.2 }) :: R) := by
 refine ACall.body (n := 18) tok Tryz.func179 rfl rfl rfl ?_
 refine AW.seq (AW.region ?_)
 refine AOL.p (P_move (v := .val _) rfl) rfl ?_
 refine AOL.e (E_callf (by kernel_rfl) rfl rfl ((p_expect _ _ _ (by simpa using hS) (by first | assumption | decide)).at (k := 0) (H2 := _ :: _ :: _) rfl rfl)) rfl ?_
 rintro _ _ ⟨rfl, rfl⟩
 refine AOL.nil (thenN ?_)
 refine AW.seq (AW.region ?_)
 refine AOL.p (P_move (v := .val _) rfl) rfl ?_
 refine AOL.p (P_move (v := .val _) rfl) rfl ?_
 refine AOL.e (E_callf (by kernel_rfl) rfl rfl ((p_name _ _ (by simpa using hS)).at (k := 0) (H2 := _ :: _ :: _) rfl rfl)) rfl ?_
 rintro _ _ ⟨rfl, rfl⟩
 refine AOL.p (P_nilCheck rfl) rfl ?_
 refine AOL.p (P_fieldAddr_val tok rfl rfl rfl rfl rfl rfl) rfl ?_
 refine AOL.e (E_store (k := 1) (v := .str _) (cs' := [.int .i64 _, .str _, .str _, .int .i64 _, _, .int .i64 _]) (H2 := _ :: _ :: _) tok rfl rfl rfl rfl rfl rfl rfl rfl rfl) rfl ?_
 rintro _ _ ⟨rfl, rfl⟩
 refine AOL.nil (thenN ?_)
 refine AW.seq (AW.region ?_)
 refine AOL.p (P_move (v := .val _) rfl) rfl ?_
 refine AOL.e (E_callf (by kernel_rfl) rfl rfl ((p_expect _ _ _ (by simpa using hS) (by first | assumption | decide)).at (k := 0) (H2 := _ :: _ :: _) rfl rfl)) rfl ?_
 rintro _ _ ⟨rfl, rfl⟩
 refine AOL.nil (thenN ?_)
 refine AW.region ?_
 refine AOL.p (P_move (v := .val _) rfl) rfl ?_
 refine AOL.p (P_move (v := .val _) rfl) rfl ?_
 refine AOL.e (E_callf (by kernel_rfl) rfl rfl ((p_name _ _ (by simpa using hS)).at (k := 0) (H2 := _ :: _ :: _) rfl rfl)) rfl ?_
 rintro _ _ ⟨rfl, rfl⟩
 refine AOL.p (P_nilCheck rfl) rfl ?_
 refine AOL.p (P_fieldAddr_val tok rfl rfl rfl rfl rfl rfl) rfl ?_
 refine AOL.e (E_store (k := 1) (v := .str _) (cs' := [.int .i64 _, .str _, .str _, .int .i64 _, _, .int .i64 _]) (H2 := _ :: _ :: _) tok rfl rfl rfl rfl rfl rfl rfl rfl rfl) rfl ?_
 rintro _ _ ⟨rfl, rfl⟩
 refine AOL.nil ?_
 refine ⟨.inl rfl, [], .nil, _, .refl _, ?_⟩
 exact ⟨rfl, rfl⟩

end Go.Proofs.YtabkeeedkhgodaaGreatDoor
