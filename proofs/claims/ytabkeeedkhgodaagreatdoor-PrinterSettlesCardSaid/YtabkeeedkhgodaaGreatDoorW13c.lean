/-
  Walks: the functions of the writer. No condition.
-/
import Derived.Test.YtabkeeedkhgodaaGreatDoorW13b
import Derived.KernelRfl
namespace Go.Proofs.YtabkeeedkhgodaaGreatDoor
open Go Go.Aw
set_option linter.unusedVariables false
set_option linter.unusedSimpArgs false

/-- Behind an element: the others. -/
def tailC : List Str → Str
  | [] => []
  | x :: r => [44, 32] ++ x ++ tailC r
theorem joinC_tail : ∀ (x : Str) (r : List Str), joinC (x :: r) = x ++ tailC r
  | x, [] => by simp [joinC, tailC]
  | x, y :: r => by rw [joinC, joinC_tail y r, tailC]; simp
def restC (k : Nat) (ws : List Str) : Str := if k = 0 then joinC ws else tailC (ws.drop k)
theorem restC_0 {ws : List Str} {x : Str} (h : ws[0]? = some x) : restC 0 ws = x ++ restC 1 ws := by
  cases ws with
  | nil => cases h
  | cons y r => cases h; exact joinC_tail _ _
theorem restC_s {ws : List Str} {k : Nat} {x : Str} (h : ws[k]? = some x) (hk : 0 < k) : restC k ws = [44, 32] ++ x ++ restC (k + 1) ws := by
  unfold restC
  obtain ⟨h1, rfl⟩ := List.getElem?_eq_some_iff.1 h
  rw [if_neg (by omega), if_neg (by omega), List.drop_eq_getElem_cons h1, tailC]
theorem restC_end {ws : List Str} {k : Nat} (h : ws.length ≤ k) : restC k ws = [] := by
  unfold restC
  split
  · rename_i h0
    subst h0
    have : ws = [] := List.eq_nil_of_length_eq_zero (by omega)
    rw [this]; rfl
  · rw [List.drop_eq_nil_of_le h]; rfl
theorem wm_at {l : List Syn} {k : Nat} {x : Syn} (h : l[k]? = some x) : (l.map writeC)[k]? = some (writeC x) := by rw [List.getElem?_map, h]; rfl
theorem kind_at {n : Int} (h : 0 ≤ n ∧ n ≤ 2) : ([[.str w_tint], [.str w_tbool], [.str w_tstring]] : List (List AV))[n.toNat]? = some [.str (kindT n)] := by
  have : n = 0 ∨ n = 1 ∨ n = 2 := by omega
  rcases this with rfl | rfl | rfl <;> rfl
/-- The text of a node is written. -/
def NodeOK (b : Nat) (t : Syn) : Prop := ∀ (o : Str) (v : Value) (a : Option Addr), (a = none ∨ a = some ⟨b, 0, none⟩) → ∀ (R : List HO), o.length + (writeC t).length ≤ big →
  ACall Tryz.prog 48 (.row v (byc o).length 5 1 :: .box b 62 (.val (.pointer a) :: .row v 1 (byc o) :: FNS b) :: R) [.val (.pointer (some ⟨b, 0, none⟩)), .agg (cSyn t)] (WQ b (o ++ writeC t) R)
set_option maxRecDepth 20000 in
set_option maxHeartbeats 1600000 in
theorem w_list (b : Nat) (o : Str) (v : Value) (a : Option Addr) (ha : a = none ∨ a = some ⟨b, 0, none⟩) (R : List HO) (l : List Syn) (hn : ∀ x ∈ l, NodeOK b x) (hb : o.length + (joinC (l.map writeC)).length ≤ big) : ACall Tryz.prog 120 (.row v (byc o).length 5 1 :: .box b 62 (.val (.pointer a) :: .row v 1 (byc o) :: FNS b) :: R) [.val (.pointer (some ⟨b, 0, none⟩)), .sl 6 (l.map encS)] (WQ b (o ++ joinC (l.map writeC)) R) := by
 refine ACall.body (n := 22) tok Tryz.func120 rfl rfl rfl ?_
 refine AW.seq (AW.region ?_)
 refine AOL.p (P_move (v := .sl _ _) rfl) rfl ?_
 refine AOL.p (P_len_sl (n := l.length) tok rfl rfl rfl (by simp)) rfl ?_
 refine AOL.p (P_move (v := .int .i64 _) rfl) rfl ?_
 refine AOL.nil (thenN ?_)
 refine AW.block ?_
 refine AW.sllen 6 rfl fun hlen => ?_
 simp only [List.length_map, maxLen] at hlen
 refine AW.loopS (fun (p : Nat × Str × Value × Option Addr) => (⟨[(0, .val (.pointer (some ⟨b, 0, none⟩))), (6, .sl 6 (l.map encS)), (7, .int .i64 l.length), (8, .int .i64 (p.1 : Int))], (.row p.2.2.1 (byc p.2.1).length 5 1 :: .box b 62 (.val (.pointer p.2.2.2) :: .row p.2.2.1 1 (byc p.2.1) :: FNS b) :: R), 22⟩ : St)) (fun (p : Nat × Str × Value × Option Addr) => p.1 ≤ l.length ∧ p.2.1 ++ restC p.1 (l.map writeC) = o ++ joinC (l.map writeC) ∧ (p.2.2.2 = none ∨ p.2.2.2 = some ⟨b, 0, none⟩)) (fun (p : Nat × Str × Value × Option Addr) => l.length - p.1) ((0, o, v, a)) ?_ (GS.weaken ⟨rfl, rfl, rfl, rfl, trivial⟩ (.refl _)) ?_
 · exact ⟨Nat.zero_le _, rfl, ha⟩
 ·
  rintro p hR
  have ha := hR.2.2
  refine AW.seq (AW.region ?_)
  refine AOL.p (P_lss rfl rfl) rfl ?_
  refine AOL.nil (thenN ?_)
  refine AW.seq ?_
  refine AW.cond (b := _) rfl (fun hc1 => ?_) (fun hc1 => ?_)
  ·
   obtain ⟨x, hx⟩ := gt2 (l := l) (k := p.1) (by have := of_decide_eq_true hc1; omega)
   have hlt := gt_lt hx
   have hnx := hn x (List.mem_of_getElem? hx)
   have hle := congrArg List.length hR.2.1
   simp only [List.length_append] at hle
   refine AW.skip ?_
   refine thenN ?_
   refine AW.seq ?_
   refine AW.block ?_
   refine AW.seq (AW.region ?_)
   refine AOL.p (P_move (v := .int .i64 _) rfl) rfl ?_
   refine AOL.p (P_indexAddr (c := [.int .i64 _, .str _, .str _, .int .i64 _, _, .int .i64 _]) tok rfl rfl rfl rfl rfl rfl (by omega) (encS_at hx)) rfl ?_
   refine AOL.p (P_load_ptr_agg (l := [.int .i64 _, .str _, .str _, .int .i64 _, _, .int .i64 _]) tok rfl rfl rfl rfl rfl) rfl ?_
   refine AOL.e (E_alloc (l := [.int .i64 0, .str [], .str [], .int .i64 0, .sl 6 [], .int .i64 0]) (by kernel_rfl)) rfl ?_
   rintro _ _ ⟨b5, rfl, rfl⟩
   refine AOL.p (P_assign (v := .int .i64 _) rfl) rfl ?_
   refine AOL.e (E_store (k := 0) (v := .agg _) (cs' := [.int .i64 _, .str _, .str _, .int .i64 _, _, .int .i64 _]) (H2 := _ :: _ :: _ :: _) tok rfl rfl rfl rfl rfl rfl rfl rfl rfl) rfl ?_
   rintro _ _ ⟨rfl, rfl⟩
   refine AOL.ghost (GS.freeze (t := 5) 0 rfl rfl) ?_
   refine AOL.nil (thenN ?_)
   refine AW.seq ?_
   refine AW.seq (AW.region ?_)
   refine AOL.p (P_move (v := .int .i64 _) rfl) rfl ?_
   refine AOL.p (P_gtr rfl rfl) rfl ?_
   refine AOL.nil (thenN ?_)
   refine AW.cond (b := _) rfl (fun hc2 => ?_) (fun hc2 => ?_)
   ·
    have hr := restC_s (wm_at hx) (by have := of_decide_eq_true hc2; omega)
    rw [hr] at hle
    simp only [List.length_append, List.length_cons, List.length_nil] at hle
    refine AW.region ?_
    refine AOL.p (P_move (v := .val _) rfl) rfl ?_
    refine AOL.p (P_buildSlice (es := [[.str _]]) tok rfl rfl rfl rfl rfl rfl rfl rfl rfl) rfl ?_
    refine AOL.e (E_callf (by kernel_rfl) rfl rfl (w_put b _ _ _ hR.2.2 R [[44, 32]] (by decide) (by simp only [List.flatten_cons, List.flatten_nil, List.append_nil, List.length_cons, List.length_nil]; omega))) rfl ?_
    rintro _ _ ⟨v17, a17, rfl, ha17, rfl⟩
    refine AOL.nil (thenN ?_)
    refine AW.region ?_
    refine AOL.p (P_move (v := .val _) rfl) rfl ?_
    refine AOL.p (P_load_ptr_agg (l := [.int .i64 _, .str _, .str _, .int .i64 _, _, .int .i64 _]) tok rfl rfl rfl rfl rfl) rfl ?_
    refine AOL.e (E_callf (by kernel_rfl) rfl rfl (hnx _ _ _ (by assumption) R (by (try simp only [List.flatten_cons, List.flatten_nil, List.append_nil, List.length_append, List.length_cons, List.length_nil]); omega))) rfl ?_
    rintro _ _ ⟨v20, a20, rfl, ha20, rfl⟩
    refine AOL.nil ?_
    refine blkN ?_
    refine thenN ?_
    refine AW.region ?_
    refine AOL.p (P_add rfl rfl rfl (by constructor <;> omega)) rfl ?_
    refine AOL.p (P_move (v := .int .i64 _) rfl) rfl ?_
    refine AOL.nil (thenN ?_)
    refine ⟨(p.1 + 1, (p.2.1 ++ [[44, 32]].flatten) ++ writeC x, v20, a20), ?_, ?_, GS.weaken ⟨rfl, rfl, rfl, rfl, trivial⟩ (.refl _)⟩
    · exact ⟨hlt, by rw [← hR.2.1, hr]; simp, ha20⟩
    · simp only; omega
   ·
    have h0 : p.1 = 0 := by have := of_decide_eq_false hc2; omega
    have hr := restC_0 (ws := l.map writeC) (by have := wm_at hx; rwa [h0] at this)
    rw [h0, hr] at hle
    simp only [List.length_append] at hle
    refine AW.skip ?_
    refine thenN ?_
    refine AW.region ?_
    refine AOL.p (P_move (v := .val _) rfl) rfl ?_
    refine AOL.p (P_load_ptr_agg (l := [.int .i64 _, .str _, .str _, .int .i64 _, _, .int .i64 _]) tok rfl rfl rfl rfl rfl) rfl ?_
    refine AOL.e (E_callf (by kernel_rfl) rfl rfl (hnx _ _ _ (by assumption) R (by (try simp only [List.flatten_cons, List.flatten_nil, List.append_nil, List.length_append, List.length_cons, List.length_nil]); omega))) rfl ?_
    rintro _ _ ⟨v20, a20, rfl, ha20, rfl⟩
    refine AOL.nil ?_
    refine blkN ?_
    refine thenN ?_
    refine AW.region ?_
    refine AOL.p (P_add rfl rfl rfl (by constructor <;> omega)) rfl ?_
    refine AOL.p (P_move (v := .int .i64 _) rfl) rfl ?_
    refine AOL.nil (thenN ?_)
    refine ⟨(p.1 + 1, p.2.1 ++ writeC x, v20, a20), ?_, ?_, GS.weaken ⟨rfl, rfl, rfl, rfl, trivial⟩ (.refl _)⟩
    · exact ⟨hlt, by rw [← hR.2.1, h0, hr]; simp, ha20⟩
    · simp only; omega
  ·
   have hk : (l.map writeC).length ≤ p.1 := by have := of_decide_eq_false hc1; rw [List.length_map]; omega
   refine AW.exit ?_
   refine thenE ?_
   refine thenE ?_
   refine blkHit ?_
   refine ⟨.inl rfl, [], .nil, _, .refl _, ?_⟩
   exact wq hR.2.2 (by rw [← hR.2.1, restC_end hk, List.append_nil])
set_option maxRecDepth 20000 in
set_option maxHeartbeats 1600000 in
theorem w_operand (b : Nat) (o : Str) (v : Value) (a : Option Addr) (ha : a = none ∨ a = some ⟨b, 0, none⟩) (R : List HO) (p t : Syn) (hn : NodeOK b t) (hb : o.length + (wrapT p t (writeC t)).length ≤ big) : ACall Tryz.prog 81 (.row v (byc o).length 5 1 :: .box b 62 (.val (.pointer a) :: .row v 1 (byc o) :: FNS b) :: R) [.val (.pointer (some ⟨b, 0, none⟩)), .agg (cSyn p), .agg (cSyn t)] (WQ b (o ++ wrapT p t (writeC t)) R) := by
 refine ACall.body (n := 24) tok Tryz.func81 rfl rfl rfl ?_
 refine AW.seq (AW.region ?_)
 refine AOL.p (P_box (v := .agg _) (cs := [.int .i64 _, .str _, .str _, .int .i64 _, _, .int .i64 _]) rfl rfl rfl) rfl ?_
 refine AOL.p (P_box (v := .agg _) (cs := [.int .i64 _, .str _, .str _, .int .i64 _, _, .int .i64 _]) rfl rfl rfl) rfl ?_
 refine AOL.nil (thenN ?_)
 refine AW.seq ?_
 refine AW.seq (AW.region ?_)
 refine AOL.p (P_fieldAddr_ptr (cs' := [.int .i64 _, .str _, .str _, .int .i64 _, _, .int .i64 _]) tok rfl rfl rfl rfl rfl rfl) rfl ?_
 refine AOL.p (P_load_ptr (c := .int .i64 _) tok rfl rfl rfl) rfl ?_
 refine AOL.p (P_fieldAddr_ptr (cs' := [.int .i64 _, .str _, .str _, .int .i64 _, _, .int .i64 _]) tok rfl rfl rfl rfl rfl rfl) rfl ?_
 refine AOL.p (P_load_ptr (c := .int .i64 _) tok rfl rfl rfl) rfl ?_
 refine AOL.p (P_callf (by kernel_rfl) rfl rfl (w_closed p.kind t.kind)) rfl ?_
 refine AOL.p (P_not rfl) rfl ?_
 refine AOL.nil (thenN ?_)
 refine AW.cond (b := _) rfl (fun hc1 => ?_) (fun hc1 => ?_)
 ·
  have hcl : closedC p.kind t.kind = false := by simpa using hc1
  have e : wrapT p t (writeC t) = writeC t := if_neg (by rw [hcl]; decide)
  rw [e] at hb
  refine AW.seq (AW.region ?_)
  refine AOL.p (P_move (v := .val _) rfl) rfl ?_
  refine AOL.p (P_load_ptr_agg (l := [.int .i64 _, .str _, .str _, .int .i64 _, _, .int .i64 _]) tok rfl rfl rfl rfl rfl) rfl ?_
  refine AOL.e (E_callf (by kernel_rfl) rfl rfl (hn _ _ _ ha R (by have h := hb; (try simp only [List.flatten_cons, List.flatten_nil, List.length_append, List.length_cons, List.length_nil, List.append_nil] at h ⊢); omega))) rfl ?_
  rintro _ _ ⟨v14, a14, rfl, ha14, rfl⟩
  refine AOL.nil (thenN ?_)
  refine AW.ret ?_
  refine thenR ?_
  refine ⟨.inr rfl, [], .nil, _, .refl _, ?_⟩
  exact wq ha14 (by rw [e])
 ·
  have hcl : closedC p.kind t.kind = true := by simpa using hc1
  have e : wrapT p t (writeC t) = [40] ++ writeC t ++ [41] := if_pos hcl
  rw [e] at hb
  refine AW.skip ?_
  refine thenN ?_
  refine AW.seq (AW.region ?_)
  refine AOL.p (P_move (v := .val _) rfl) rfl ?_
  refine AOL.p (P_buildSlice (es := [[.str _]]) tok rfl rfl rfl rfl rfl rfl rfl rfl rfl) rfl ?_
  refine AOL.e (E_callf (by kernel_rfl) rfl rfl (w_put b _ _ _ ha R [[40]] (Nat.le_of_ble_eq_true rfl) (by have h := hb; (try simp only [List.flatten_cons, List.flatten_nil, List.length_append, List.length_cons, List.length_nil, List.append_nil] at h ⊢); omega))) rfl ?_
  rintro _ _ ⟨v17, a17, rfl, ha17, rfl⟩
  refine AOL.nil (thenN ?_)
  refine AW.seq (AW.region ?_)
  refine AOL.p (P_move (v := .val _) rfl) rfl ?_
  refine AOL.p (P_load_ptr_agg (l := [.int .i64 _, .str _, .str _, .int .i64 _, _, .int .i64 _]) tok rfl rfl rfl rfl rfl) rfl ?_
  refine AOL.e (E_callf (by kernel_rfl) rfl rfl (hn _ _ _ ha17 R (by have h := hb; (try simp only [List.flatten_cons, List.flatten_nil, List.length_append, List.length_cons, List.length_nil, List.append_nil] at h ⊢); omega))) rfl ?_
  rintro _ _ ⟨v20, a20, rfl, ha20, rfl⟩
  refine AOL.nil (thenN ?_)
  refine AW.region ?_
  refine AOL.p (P_move (v := .val _) rfl) rfl ?_
  refine AOL.p (P_buildSlice (es := [[.str _]]) tok rfl rfl rfl rfl rfl rfl rfl rfl rfl) rfl ?_
  refine AOL.e (E_callf (by kernel_rfl) rfl rfl (w_put b _ _ _ ha20 R [[41]] (Nat.le_of_ble_eq_true rfl) (by have h := hb; (try simp only [List.flatten_cons, List.flatten_nil, List.length_append, List.length_cons, List.length_nil, List.append_nil] at h ⊢); omega))) rfl ?_
  rintro _ _ ⟨v23, a23, rfl, ha23, rfl⟩
  refine AOL.nil ?_
  refine ⟨.inl rfl, [], .nil, _, .refl _, ?_⟩
  exact wq ha23 (by rw [e]; simp only [List.flatten_cons, List.flatten_nil, List.append_nil, List.append_assoc, List.cons_append, List.nil_append])
set_option maxRecDepth 20000 in
set_option maxHeartbeats 1600000 in
theorem w_decl (b : Nat) (o : Str) (v : Value) (a : Option Addr) (ha : a = none ∨ a = some ⟨b, 0, none⟩) (R : List HO) (t : Syn) (hn : ∀ x ∈ t.kids, NodeOK b x) (hb : o.length + ([116, 121, 112, 101, 32] ++ t.text ++ [32, 123] ++ (if 0 < t.kids.length then [32] ++ joinC (t.kids.map writeC) ++ [32] else []) ++ [125, 10]).length ≤ big) : ACall Tryz.prog 69 (.row v (byc o).length 5 1 :: .box b 62 (.val (.pointer a) :: .row v 1 (byc o) :: FNS b) :: R) [.val (.pointer (some ⟨b, 0, none⟩)), .agg (cSyn t)] (WQ b (o ++ ([116, 121, 112, 101, 32] ++ t.text ++ [32, 123] ++ (if 0 < t.kids.length then [32] ++ joinC (t.kids.map writeC) ++ [32] else []) ++ [125, 10])) R) := by
 refine ACall.body (n := 26) tok Tryz.func69 rfl rfl rfl ?_
 refine AW.seq (AW.region ?_)
 refine AOL.p (P_box (v := .agg _) (cs := [.int .i64 _, .str _, .str _, .int .i64 _, _, .int .i64 _]) rfl rfl rfl) rfl ?_
 refine AOL.nil (thenN ?_)
 refine AW.seq ?_
 have hb0 : o.length + ([116, 121, 112, 101, 32] ++ t.text ++ [32, 123]).length ≤ big := by have h := hb; simp only [List.length_append] at h ⊢; omega
 refine AW.region ?_
 refine AOL.p (P_move (v := .val _) rfl) rfl ?_
 refine AOL.p (P_fieldAddr_ptr (cs' := [.str _, .str _, .int .i64 _, _, .int .i64 _]) tok rfl rfl rfl rfl rfl rfl) rfl ?_
 refine AOL.p (P_load_ptr (c := .str _) tok rfl rfl rfl) rfl ?_
 refine AOL.p (P_buildSlice (es := [[.str _], [.str _], [.str _]]) tok rfl rfl rfl rfl rfl rfl rfl rfl rfl) rfl ?_
 refine AOL.e (E_callf (by kernel_rfl) rfl rfl (w_put b _ _ _ ha R [[116, 121, 112, 101, 32], t.text, [32, 123]] (Nat.le_of_ble_eq_true rfl) (by have h := hb; (try simp only [List.flatten_cons, List.flatten_nil, List.length_append, List.length_cons, List.length_nil, List.append_nil] at h ⊢); omega))) rfl ?_
 rintro _ _ ⟨v8, a8, rfl, ha8, rfl⟩
 refine AOL.nil (thenN ?_)
 refine AW.seq ?_
 refine AW.seq (AW.region ?_)
 refine AOL.p (P_fieldAddr_ptr (cs' := [_, .int .i64 _]) tok rfl rfl rfl rfl rfl rfl) rfl ?_
 refine AOL.p (P_load_ptr (c := .sl _ _) tok rfl rfl rfl) rfl ?_
 refine AOL.p (P_len_sl (n := t.kids.length) tok rfl rfl rfl (by simp)) rfl ?_
 refine AOL.p (P_gtr rfl rfl) rfl ?_
 refine AOL.nil (thenN ?_)
 refine AW.cond (b := _) rfl (fun hc1 => ?_) (fun hc1 => ?_)
 ·
  have hk : 0 < t.kids.length := by have := of_decide_eq_true hc1; omega
  have ha := ha8
  rw [if_pos hk] at hb
  refine AW.seq (AW.region ?_)
  refine AOL.p (P_move (v := .val _) rfl) rfl ?_
  refine AOL.p (P_buildSlice (es := [[.str _]]) tok rfl rfl rfl rfl rfl rfl rfl rfl rfl) rfl ?_
  refine AOL.e (E_callf (by kernel_rfl) rfl rfl (w_put b _ _ _ ha8 R [[32]] (Nat.le_of_ble_eq_true rfl) (by have h := hb; (try simp only [List.flatten_cons, List.flatten_nil, List.length_append, List.length_cons, List.length_nil, List.append_nil] at h ⊢); omega))) rfl ?_
  rintro _ _ ⟨v15, a15, rfl, ha15, rfl⟩
  refine AOL.nil (thenN ?_)
  refine AW.seq (AW.region ?_)
  refine AOL.p (P_move (v := .val _) rfl) rfl ?_
  refine AOL.p (P_fieldAddr_ptr (cs' := [_, .int .i64 _]) tok rfl rfl rfl rfl rfl rfl) rfl ?_
  refine AOL.p (P_load_ptr (c := .sl _ _) tok rfl rfl rfl) rfl ?_
  refine AOL.e (E_callf (by kernel_rfl) rfl rfl (w_list b _ _ _ ha15 R t.kids hn (by have h := hb; (try simp only [List.flatten_cons, List.flatten_nil, List.length_append, List.length_cons, List.length_nil, List.append_nil] at h ⊢); omega))) rfl ?_
  rintro _ _ ⟨v19, a19, rfl, ha19, rfl⟩
  refine AOL.nil (thenN ?_)
  refine AW.region ?_
  refine AOL.p (P_move (v := .val _) rfl) rfl ?_
  refine AOL.p (P_buildSlice (es := [[.str _]]) tok rfl rfl rfl rfl rfl rfl rfl rfl rfl) rfl ?_
  refine AOL.e (E_callf (by kernel_rfl) rfl rfl (w_put b _ _ _ ha19 R [[32]] (Nat.le_of_ble_eq_true rfl) (by have h := hb; (try simp only [List.flatten_cons, List.flatten_nil, List.length_append, List.length_cons, List.length_nil, List.append_nil] at h ⊢); omega))) rfl ?_
  rintro _ _ ⟨v22, a22, rfl, ha22, rfl⟩
  refine AOL.nil (thenN ?_)
  refine AW.region ?_
  refine AOL.p (P_move (v := .val _) rfl) rfl ?_
  refine AOL.p (P_buildSlice (es := [[.str _]]) tok rfl rfl rfl rfl rfl rfl rfl rfl rfl) rfl ?_
  refine AOL.e (E_callf (by kernel_rfl) rfl rfl (w_put b _ _ _ ha22 R [[125, 10]] (Nat.le_of_ble_eq_true rfl) (by have h := hb; (try simp only [List.flatten_cons, List.flatten_nil, List.length_append, List.length_cons, List.length_nil, List.append_nil] at h ⊢); omega))) rfl ?_
  rintro _ _ ⟨v25, a25, rfl, ha25, rfl⟩
  refine AOL.nil ?_
  refine ⟨.inl rfl, [], .nil, _, .refl _, ?_⟩
  exact wq ha25 (by rw [if_pos hk]; simp only [List.flatten_cons, List.flatten_nil, List.append_nil, List.append_assoc, List.cons_append, List.nil_append])
 ·
  have hk : ¬ 0 < t.kids.length := by have := of_decide_eq_false hc1; omega
  rw [if_neg hk] at hb
  have ha22 := ha8
  refine AW.skip ?_
  refine thenN ?_
  refine AW.region ?_
  refine AOL.p (P_move (v := .val _) rfl) rfl ?_
  refine AOL.p (P_buildSlice (es := [[.str _]]) tok rfl rfl rfl rfl rfl rfl rfl rfl rfl) rfl ?_
  refine AOL.e (E_callf (by kernel_rfl) rfl rfl (w_put b _ _ _ ha22 R [[125, 10]] (Nat.le_of_ble_eq_true rfl) (by have h := hb; (try simp only [List.flatten_cons, List.flatten_nil, List.length_append, List.length_cons, List.length_nil, List.append_nil] at h ⊢); omega))) rfl ?_
  rintro _ _ ⟨v25, a25, rfl, ha25, rfl⟩
  refine AOL.nil ?_
  refine ⟨.inl rfl, [], .nil, _, .refl _, ?_⟩
  exact wq ha25 (by rw [if_neg hk]; simp only [List.flatten_cons, List.flatten_nil, List.append_nil, List.append_assoc, List.cons_append, List.nil_append])
set_option maxRecDepth 20000 in
set_option maxHeartbeats 1600000 in
theorem w_event (b : Nat) (o : Str) (v : Value) (a : Option Addr) (ha : a = none ∨ a = some ⟨b, 0, none⟩) (R : List HO) (t : Syn) (hn : ∀ x ∈ t.kids, NodeOK b x) (hb : o.length + (t.text ++ ([32] : Str) ++ t.name ++ (if h : 0 < t.kids.length then ([32, 105, 102, 32] : Str) ++ writeC t.kids[0] else [])).length ≤ big) : ACall Tryz.prog 73 (.row v (byc o).length 5 1 :: .box b 62 (.val (.pointer a) :: .row v 1 (byc o) :: FNS b) :: R) [.val (.pointer (some ⟨b, 0, none⟩)), .agg (cSyn t)] (WQ b (o ++ (t.text ++ ([32] : Str) ++ t.name ++ (if h : 0 < t.kids.length then ([32, 105, 102, 32] : Str) ++ writeC t.kids[0] else []))) R) := by
 refine ACall.body (n := 24) tok Tryz.func73 rfl rfl rfl ?_
 refine AW.seq (AW.region ?_)
 refine AOL.p (P_box (v := .agg _) (cs := [.int .i64 _, .str _, .str _, .int .i64 _, _, .int .i64 _]) rfl rfl rfl) rfl ?_
 refine AOL.nil (thenN ?_)
 refine AW.seq (AW.region ?_)
 refine AOL.p (P_move (v := .val _) rfl) rfl ?_
 refine AOL.p (P_fieldAddr_ptr (cs' := [.str _, .str _, .int .i64 _, _, .int .i64 _]) tok rfl rfl rfl rfl rfl rfl) rfl ?_
 refine AOL.p (P_load_ptr (c := .str _) tok rfl rfl rfl) rfl ?_
 refine AOL.p (P_fieldAddr_ptr (cs' := [.str _, .int .i64 _, _, .int .i64 _]) tok rfl rfl rfl rfl rfl rfl) rfl ?_
 refine AOL.p (P_load_ptr (c := .str _) tok rfl rfl rfl) rfl ?_
 refine AOL.p (P_buildSlice (es := [[.str _], [.str _], [.str _]]) tok rfl rfl rfl rfl rfl rfl rfl rfl rfl) rfl ?_
 refine AOL.e (E_callf (by kernel_rfl) rfl rfl (w_put b _ _ _ ha R [t.text, [32], t.name] (Nat.le_of_ble_eq_true rfl) (by have h := hb; (try simp only [List.flatten_cons, List.flatten_nil, List.length_append, List.length_cons, List.length_nil, List.append_nil] at h ⊢); omega))) rfl ?_
 rintro _ _ ⟨v10, a10, rfl, ha10, rfl⟩
 refine AOL.nil (thenN ?_)
 refine AW.seq (AW.region ?_)
 refine AOL.p (P_fieldAddr_ptr (cs' := [_, .int .i64 _]) tok rfl rfl rfl rfl rfl rfl) rfl ?_
 refine AOL.p (P_load_ptr (c := .sl _ _) tok rfl rfl rfl) rfl ?_
 refine AOL.p (P_len_sl (n := t.kids.length) tok rfl rfl rfl (by simp)) rfl ?_
 refine AOL.p (P_gtr rfl rfl) rfl ?_
 refine AOL.nil (thenN ?_)
 refine AW.cond (b := _) rfl (fun hc1 => ?_) (fun hc1 => ?_)
 ·
  have hk : 0 < t.kids.length := by have := of_decide_eq_true hc1; omega
  rw [dif_pos hk] at hb
  have hnx := hn _ (List.getElem_mem hk)
  refine AW.seq (AW.region ?_)
  refine AOL.p (P_move (v := .val _) rfl) rfl ?_
  refine AOL.p (P_buildSlice (es := [[.str _]]) tok rfl rfl rfl rfl rfl rfl rfl rfl rfl) rfl ?_
  refine AOL.e (E_callf (by kernel_rfl) rfl rfl (w_put b _ _ _ ha10 R [[32, 105, 102, 32]] (Nat.le_of_ble_eq_true rfl) (by have h := hb; (try simp only [List.flatten_cons, List.flatten_nil, List.length_append, List.length_cons, List.length_nil, List.append_nil] at h ⊢); omega))) rfl ?_
  rintro _ _ ⟨v17, a17, rfl, ha17, rfl⟩
  refine AOL.nil (thenN ?_)
  refine AW.region ?_
  refine AOL.p (P_move (v := .val _) rfl) rfl ?_
  refine AOL.p (P_fieldAddr_ptr (cs' := [_, .int .i64 _]) tok rfl rfl rfl rfl rfl rfl) rfl ?_
  refine AOL.p (P_load_ptr (c := .sl _ _) tok rfl rfl rfl) rfl ?_
  refine AOL.p (P_indexAddr (c := [.int .i64 _, .str _, .str _, .int .i64 _, _, .int .i64 _]) tok rfl rfl rfl rfl rfl rfl (by decide) (encS_at (List.getElem?_eq_getElem hk))) rfl ?_
  refine AOL.p (P_load_ptr_agg (l := [.int .i64 _, .str _, .str _, .int .i64 _, _, .int .i64 _]) tok rfl rfl rfl rfl rfl) rfl ?_
  refine AOL.e (E_callf (by kernel_rfl) rfl rfl (hnx _ _ _ ha17 R (by have h := hb; (try simp only [List.flatten_cons, List.flatten_nil, List.length_append, List.length_cons, List.length_nil, List.append_nil] at h ⊢); omega))) rfl ?_
  rintro _ _ ⟨v23, a23, rfl, ha23, rfl⟩
  refine AOL.nil ?_
  refine ⟨.inl rfl, [], .nil, _, .refl _, ?_⟩
  exact wq ha23 (by rw [dif_pos hk]; simp only [List.flatten_cons, List.flatten_nil, List.append_nil, List.append_assoc, List.cons_append, List.nil_append])
 ·
  have hk : ¬ 0 < t.kids.length := by have := of_decide_eq_false hc1; omega
  rw [dif_neg hk] at hb
  refine AW.skip ?_
  refine ⟨.inl rfl, [], .nil, _, .refl _, ?_⟩
  exact wq ha10 (by rw [dif_neg hk]; simp only [List.flatten_cons, List.flatten_nil, List.append_nil, List.append_assoc, List.cons_append, List.nil_append])
set_option maxRecDepth 20000 in
set_option maxHeartbeats 1600000 in
theorem w_constant (b : Nat) (o : Str) (v : Value) (a : Option Addr) (ha : a = none ∨ a = some ⟨b, 0, none⟩) (R : List HO) (t : Syn) (hi : -9223372036854775808 ≤ t.num ∧ t.num ≤ 9223372036854775807) (ht : t.text.length ≤ 1048576) (hb : o.length + (litT t).length ≤ big) : ACall Tryz.prog 75 (.row v (byc o).length 5 1 :: .box b 62 (.val (.pointer a) :: .row v 1 (byc o) :: FNS b) :: R) [.val (.pointer (some ⟨b, 0, none⟩)), .agg (cSyn t)] (WQ b (o ++ litT t) R) := by
 refine ACall.body (n := 35) tok Tryz.func75 rfl rfl rfl ?_
 refine AW.seq (AW.region ?_)
 refine AOL.p (P_box (v := .agg _) (cs := [.int .i64 _, .str _, .str _, .int .i64 _, _, .int .i64 _]) rfl rfl rfl) rfl ?_
 refine AOL.nil (thenN ?_)
 refine AW.seq (AW.region ?_)
 refine AOL.p (P_fieldAddr_ptr (cs' := [.str _, .int .i64 _, _, .int .i64 _]) tok rfl rfl rfl rfl rfl rfl) rfl ?_
 refine AOL.p (P_load_ptr (c := .str _) tok rfl rfl rfl) rfl ?_
 refine AOL.nil (thenN ?_)
 refine AW.block ?_
 refine AW.seq (AW.region ?_)
 refine AOL.p (P_eql_str rfl rfl) rfl ?_
 refine AOL.p (P_assign (v := .bool _) rfl) rfl ?_
 refine AOL.nil (thenN ?_)
 refine AW.cond (b := _) rfl (fun hc1 => ?_) (fun hc1 => ?_)
 ·
  have e : litT t = Lib.itoa t.num := if_pos hc1
  rw [e] at hb
  refine AW.region ?_
  refine AOL.p (P_move (v := .val _) rfl) rfl ?_
  refine AOL.p (P_fieldAddr_ptr (cs' := [.int .i64 _, _, .int .i64 _]) tok rfl rfl rfl rfl rfl rfl) rfl ?_
  refine AOL.p (P_load_ptr (c := .int .i64 _) tok rfl rfl rfl) rfl ?_
  refine AOL.p (P_callf (by kernel_rfl) rfl rfl (kItoa t.num hi.1 hi.2)) rfl ?_
  refine AOL.p (P_buildSlice (es := [[.str _]]) tok rfl rfl rfl rfl rfl rfl rfl rfl rfl) rfl ?_
  refine AOL.e (E_callf (by kernel_rfl) rfl rfl (w_put b _ _ _ ha R [Lib.itoa t.num] (Nat.le_of_ble_eq_true rfl) (by have h := hb; (try simp only [List.flatten_cons, List.flatten_nil, List.length_append, List.length_cons, List.length_nil, List.append_nil] at h ⊢); omega))) rfl ?_
  rintro _ _ ⟨v25, a25, rfl, ha25, rfl⟩
  refine AOL.nil ?_
  refine blkN ?_
  refine ⟨.inl rfl, [], .nil, _, .refl _, ?_⟩
  exact wq ha25 (by rw [e]; simp only [List.flatten_cons, List.flatten_nil, List.append_nil, List.append_assoc, List.cons_append, List.nil_append])
 ·
  refine AW.seq (AW.region ?_)
  refine AOL.p (P_eql_str rfl rfl) rfl ?_
  refine AOL.p (P_assign (v := .bool _) rfl) rfl ?_
  refine AOL.nil (thenN ?_)
  refine AW.cond (b := _) rfl (fun hc2 => ?_) (fun hc2 => ?_)
  ·
   have e : litT t = (if t.num == 1 then w_ttrue else w_tfalse) := by unfold litT; exact (ifF hc1).trans (if_pos hc2)
   rw [e] at hb
   refine AW.region ?_
   refine AOL.p (P_move (v := .val _) rfl) rfl ?_
   refine AOL.p (P_fieldAddr_ptr (cs' := [.int .i64 _, _, .int .i64 _]) tok rfl rfl rfl rfl rfl rfl) rfl ?_
   refine AOL.p (P_load_ptr (c := .int .i64 _) tok rfl rfl rfl) rfl ?_
   refine AOL.p (P_eql rfl rfl) rfl ?_
   refine AOL.p (P_callf (by kernel_rfl) rfl rfl (k_fbool (t.num == 1))) rfl ?_
   refine AOL.p (P_buildSlice (es := [[.str _]]) tok rfl rfl rfl rfl rfl rfl rfl rfl rfl) rfl ?_
   refine AOL.e (E_callf (by kernel_rfl) rfl rfl (w_put b _ _ _ ha R [if t.num == 1 then w_ttrue else w_tfalse] (Nat.le_of_ble_eq_true rfl) (by have h := hb; (try simp only [List.flatten_cons, List.flatten_nil, List.length_append, List.length_cons, List.length_nil, List.append_nil] at h ⊢); omega))) rfl ?_
   rintro _ _ ⟨v34, a34, rfl, ha34, rfl⟩
   refine AOL.nil ?_
   refine blkN ?_
   refine ⟨.inl rfl, [], .nil, _, .refl _, ?_⟩
   exact wq ha34 (by rw [e]; simp only [List.flatten_cons, List.flatten_nil, List.append_nil, List.append_assoc, List.cons_append, List.nil_append])
  ·
   have e : litT t = (quoteS t.text).1 := by unfold litT; exact (ifF hc1).trans (ifF hc2)
   rw [e] at hb
   refine AW.seq (AW.region ?_)
   refine AOL.p (P_fieldAddr_ptr (cs' := [.str _, .str _, .int .i64 _, _, .int .i64 _]) tok rfl rfl rfl rfl rfl rfl) rfl ?_
   refine AOL.p (P_load_ptr (c := .str _) tok rfl rfl rfl) rfl ?_
   refine AOL.p (P_callf (by kernel_rfl) rfl rfl (c24 t.text ht)) rfl ?_
   refine AOL.p (P_move (v := .tuple _) rfl) rfl ?_
   refine AOL.p (P_extract (v := .str _) rfl rfl) rfl ?_
   refine AOL.p (P_extract (v := .int .i64 _) rfl rfl) rfl ?_
   refine AOL.p (P_assign (v := .str _) rfl) rfl ?_
   refine AOL.p (P_assign (v := .int .i64 _) rfl) rfl ?_
   refine AOL.nil (thenN ?_)
   refine AW.region ?_
   refine AOL.p (P_move (v := .val _) rfl) rfl ?_
   refine AOL.p (P_move (v := .str _) rfl) rfl ?_
   refine AOL.p (P_buildSlice (es := [[.str _]]) tok rfl rfl rfl rfl rfl rfl rfl rfl rfl) rfl ?_
   refine AOL.e (E_callf (by kernel_rfl) rfl rfl (w_put b _ _ _ ha R [(quoteS t.text).1] (Nat.le_of_ble_eq_true rfl) (by have h := hb; (try simp only [List.flatten_cons, List.flatten_nil, List.length_append, List.length_cons, List.length_nil, List.append_nil] at h ⊢); omega))) rfl ?_
   rintro _ _ ⟨v17, a17, rfl, ha17, rfl⟩
   refine AOL.nil ?_
   refine blkN ?_
   refine ⟨.inl rfl, [], .nil, _, .refl _, ?_⟩
   exact wq ha17 (by rw [e]; simp only [List.flatten_cons, List.flatten_nil, List.append_nil, List.append_assoc, List.cons_append, List.nil_append])
set_option maxRecDepth 20000 in
set_option maxHeartbeats 1600000 in
theorem w_ref (b : Nat) (o : Str) (v : Value) (a : Option Addr) (ha : a = none ∨ a = some ⟨b, 0, none⟩) (R : List HO) (t : Syn) (hb : o.length + (t.text ++ ([46] : Str) ++ t.name).length ≤ big) : ACall Tryz.prog 76 (.row v (byc o).length 5 1 :: .box b 62 (.val (.pointer a) :: .row v 1 (byc o) :: FNS b) :: R) [.agg (cSyn t), .ptr [.val (.pointer (some ⟨b, 0, none⟩))]] (WQ b (o ++ (t.text ++ ([46] : Str) ++ t.name)) R) := by
 refine ACall.body (n := 10) tok Tryz.func76 rfl rfl rfl ?_
 refine AW.seq (AW.region ?_)
 refine AOL.p (P_box (v := .agg _) (cs := [.int .i64 _, .str _, .str _, .int .i64 _, _, .int .i64 _]) rfl rfl rfl) rfl ?_
 refine AOL.nil (thenN ?_)
 refine AW.region ?_
 refine AOL.p (P_load_ptr (c := .val _) tok rfl rfl rfl) rfl ?_
 refine AOL.p (P_fieldAddr_ptr (cs' := [.str _, .str _, .int .i64 _, _, .int .i64 _]) tok rfl rfl rfl rfl rfl rfl) rfl ?_
 refine AOL.p (P_load_ptr (c := .str _) tok rfl rfl rfl) rfl ?_
 refine AOL.p (P_fieldAddr_ptr (cs' := [.str _, .int .i64 _, _, .int .i64 _]) tok rfl rfl rfl rfl rfl rfl) rfl ?_
 refine AOL.p (P_load_ptr (c := .str _) tok rfl rfl rfl) rfl ?_
 refine AOL.p (P_buildSlice (es := [[.str _], [.str _], [.str _]]) tok rfl rfl rfl rfl rfl rfl rfl rfl rfl) rfl ?_
 refine AOL.e (E_callf (by kernel_rfl) rfl rfl (w_put b _ _ _ ha R [t.text, [46], t.name] (Nat.le_of_ble_eq_true rfl) (by have h := hb; (try simp only [List.flatten_cons, List.flatten_nil, List.length_append, List.length_cons, List.length_nil, List.append_nil] at h ⊢); omega))) rfl ?_
 rintro _ _ ⟨v9, a9, rfl, ha9, rfl⟩
 refine AOL.nil ?_
 refine ⟨.inl rfl, [], .nil, _, .refl _, ?_⟩
 exact wq ha9 (by simp only [List.flatten_cons, List.flatten_nil, List.append_nil, List.append_assoc, List.cons_append, List.nil_append])
set_option maxRecDepth 20000 in
set_option maxHeartbeats 1600000 in
theorem w_count (b : Nat) (o : Str) (v : Value) (a : Option Addr) (ha : a = none ∨ a = some ⟨b, 0, none⟩) (R : List HO) (t : Syn) (hb : o.length + (([99, 111, 117, 110, 116, 40] : Str) ++ t.text ++ ([41] : Str)).length ≤ big) : ACall Tryz.prog 77 (.row v (byc o).length 5 1 :: .box b 62 (.val (.pointer a) :: .row v 1 (byc o) :: FNS b) :: R) [.agg (cSyn t), .ptr [.val (.pointer (some ⟨b, 0, none⟩))]] (WQ b (o ++ (([99, 111, 117, 110, 116, 40] : Str) ++ t.text ++ ([41] : Str))) R) := by
 refine ACall.body (n := 8) tok Tryz.func77 rfl rfl rfl ?_
 refine AW.seq (AW.region ?_)
 refine AOL.p (P_box (v := .agg _) (cs := [.int .i64 _, .str _, .str _, .int .i64 _, _, .int .i64 _]) rfl rfl rfl) rfl ?_
 refine AOL.nil (thenN ?_)
 refine AW.region ?_
 refine AOL.p (P_load_ptr (c := .val _) tok rfl rfl rfl) rfl ?_
 refine AOL.p (P_fieldAddr_ptr (cs' := [.str _, .str _, .int .i64 _, _, .int .i64 _]) tok rfl rfl rfl rfl rfl rfl) rfl ?_
 refine AOL.p (P_load_ptr (c := .str _) tok rfl rfl rfl) rfl ?_
 refine AOL.p (P_buildSlice (es := [[.str _], [.str _], [.str _]]) tok rfl rfl rfl rfl rfl rfl rfl rfl rfl) rfl ?_
 refine AOL.e (E_callf (by kernel_rfl) rfl rfl (w_put b _ _ _ ha R [[99, 111, 117, 110, 116, 40], t.text, [41]] (Nat.le_of_ble_eq_true rfl) (by have h := hb; (try simp only [List.flatten_cons, List.flatten_nil, List.length_append, List.length_cons, List.length_nil, List.append_nil] at h ⊢); omega))) rfl ?_
 rintro _ _ ⟨v7, a7, rfl, ha7, rfl⟩
 refine AOL.nil ?_
 refine ⟨.inl rfl, [], .nil, _, .refl _, ?_⟩
 exact wq ha7 (by simp only [List.flatten_cons, List.flatten_nil, List.append_nil, List.append_assoc, List.cons_append, List.nil_append])
set_option maxRecDepth 20000 in
set_option maxHeartbeats 1600000 in
theorem w_not (b : Nat) (o : Str) (v : Value) (a : Option Addr) (ha : a = none ∨ a = some ⟨b, 0, none⟩) (R : List HO) (t k : Syn) (h0 : t.kids[0]? = some k) (hk : NodeOK b k) (hb : o.length + (([110, 111, 116, 32] : Str) ++ wrapT t k (writeC k)).length ≤ big) : ACall Tryz.prog 80 (.row v (byc o).length 5 1 :: .box b 62 (.val (.pointer a) :: .row v 1 (byc o) :: FNS b) :: R) [.agg (cSyn t), .ptr [.val (.pointer (some ⟨b, 0, none⟩))]] (WQ b (o ++ (([110, 111, 116, 32] : Str) ++ wrapT t k (writeC k))) R) := by
 refine ACall.body (n := 13) tok Tryz.func80 rfl rfl rfl ?_
 refine AW.seq (AW.region ?_)
 refine AOL.p (P_box (v := .agg _) (cs := [.int .i64 _, .str _, .str _, .int .i64 _, _, .int .i64 _]) rfl rfl rfl) rfl ?_
 refine AOL.nil (thenN ?_)
 refine AW.seq (AW.region ?_)
 refine AOL.p (P_load_ptr (c := .val _) tok rfl rfl rfl) rfl ?_
 refine AOL.p (P_buildSlice (es := [[.str _]]) tok rfl rfl rfl rfl rfl rfl rfl rfl rfl) rfl ?_
 refine AOL.e (E_callf (by kernel_rfl) rfl rfl (w_put b _ _ _ ha R [[110, 111, 116, 32]] (Nat.le_of_ble_eq_true rfl) (by have h := hb; (try simp only [List.flatten_cons, List.flatten_nil, List.length_append, List.length_cons, List.length_nil, List.append_nil] at h ⊢); omega))) rfl ?_
 rintro _ _ ⟨v5, a5, rfl, ha5, rfl⟩
 refine AOL.nil (thenN ?_)
 refine AW.draw mixed (fun _ => True) trivial (by kernel_rfl) ?_
 refine Canon.pure _ _ 0 _ _ rfl (by kernel_rfl) (by kernel_rfl) rfl (.run rfl (P_load_ptr (c := .val _) tok rfl rfl rfl)) ?_
 refine Canon.pure _ _ 1 _ _ rfl (by kernel_rfl) (by kernel_rfl) rfl (.run rfl (P_load_ptr_agg (l := [.int .i64 _, .str _, .str _, .int .i64 _, _, .int .i64 _]) tok rfl rfl rfl rfl rfl)) ?_
 refine Canon.pure _ _ 2 _ _ rfl (by kernel_rfl) (by kernel_rfl) rfl (.run rfl (P_fieldAddr_ptr (cs' := [_, .int .i64 _]) tok rfl rfl rfl rfl rfl rfl)) ?_
 refine Canon.pure _ _ 3 _ _ rfl (by kernel_rfl) (by kernel_rfl) rfl (.run rfl (P_load_ptr (c := .sl _ _) tok rfl rfl rfl)) ?_
 refine Canon.pure _ _ 4 _ _ rfl (by kernel_rfl) (by kernel_rfl) rfl (.run rfl (P_indexAddr (c := [.int .i64 _, .str _, .str _, .int .i64 _, _, .int .i64 _]) tok rfl rfl rfl rfl rfl rfl (by decide) (encS_at h0))) ?_
 refine Canon.pure _ _ 5 _ _ rfl (by kernel_rfl) (by kernel_rfl) rfl (.run rfl (P_load_ptr_agg (l := [.int .i64 _, .str _, .str _, .int .i64 _, _, .int .i64 _]) tok rfl rfl rfl rfl rfl)) ?_
 refine Canon.eff _ _ 6 _ _ rfl (by kernel_rfl) rfl rfl (E_callf (by kernel_rfl) rfl rfl (w_operand b _ _ _ ha5 R t k hk (by have h := hb; (try simp only [List.flatten_cons, List.flatten_nil, List.length_append, List.length_cons, List.length_nil, List.append_nil] at h ⊢); omega))) (fun _ _ _ => trivial) ?_
 rintro _ _ ⟨v12, a12, rfl, ha12, rfl⟩
 refine Canon.done _ _ (by kernel_rfl) ?_
 refine ⟨.inl rfl, [], .nil, _, .refl _, ?_⟩
 exact wq ha12 (by simp only [List.flatten_cons, List.flatten_nil, List.append_nil, List.append_assoc, List.cons_append, List.nil_append])
set_option maxRecDepth 20000 in
set_option maxHeartbeats 1600000 in
theorem w_call1 (b : Nat) (o : Str) (v : Value) (a : Option Addr) (ha : a = none ∨ a = some ⟨b, 0, none⟩) (R : List HO) (t : Syn) (w : Str) (hi : -9223372036854775808 ≤ t.num ∧ t.num ≤ 9223372036854775807) (hn : ∀ x ∈ t.kids, NodeOK b x) (hb : o.length + (w ++ ([40] : Str) ++ joinC (t.kids.map writeC) ++ (if t.kind == 11 then ([44, 32] : Str) ++ Lib.itoa t.num else []) ++ ([41] : Str)).length ≤ big) : ACall Tryz.prog 122 (.row v (byc o).length 5 1 :: .box b 62 (.val (.pointer a) :: .row v 1 (byc o) :: FNS b) :: R) [.agg (cSyn t), .ptr [.val (.pointer (some ⟨b, 0, none⟩))], .ptr [.str w]] (WQ b (o ++ (w ++ ([40] : Str) ++ joinC (t.kids.map writeC) ++ (if t.kind == 11 then ([44, 32] : Str) ++ Lib.itoa t.num else []) ++ ([41] : Str))) R) := by
 refine ACall.body (n := 24) tok Tryz.func122 rfl rfl rfl ?_
 refine AW.seq (AW.region ?_)
 refine AOL.p (P_box (v := .agg _) (cs := [.int .i64 _, .str _, .str _, .int .i64 _, _, .int .i64 _]) rfl rfl rfl) rfl ?_
 refine AOL.nil (thenN ?_)
 refine AW.seq ?_
 have hb0 := hb
 refine AW.region ?_
 refine AOL.p (P_load_ptr (c := .val _) tok rfl rfl rfl) rfl ?_
 refine AOL.p (P_load_ptr (c := .str _) tok rfl rfl rfl) rfl ?_
 refine AOL.p (P_buildSlice (es := [[.str _], [.str _]]) tok rfl rfl rfl rfl rfl rfl rfl rfl rfl) rfl ?_
 refine AOL.e (E_callf (by kernel_rfl) rfl rfl (w_put b _ _ _ ha R [w, [40]] (Nat.le_of_ble_eq_true rfl) (by have h := hb; (try simp only [List.flatten_cons, List.flatten_nil, List.length_append, List.length_cons, List.length_nil, List.append_nil] at h ⊢); omega))) rfl ?_
 rintro _ _ ⟨v7, a7, rfl, ha7, rfl⟩
 refine AOL.nil (thenN ?_)
 refine AW.seq (AW.region ?_)
 refine AOL.p (P_load_ptr (c := .val _) tok rfl rfl rfl) rfl ?_
 refine AOL.p (P_fieldAddr_ptr (cs' := [_, .int .i64 _]) tok rfl rfl rfl rfl rfl rfl) rfl ?_
 refine AOL.p (P_load_ptr (c := .sl _ _) tok rfl rfl rfl) rfl ?_
 refine AOL.e (E_callf (by kernel_rfl) rfl rfl (w_list b _ _ _ ha7 R t.kids hn (by have h := hb; (try simp only [List.flatten_cons, List.flatten_nil, List.length_append, List.length_cons, List.length_nil, List.append_nil] at h ⊢); omega))) rfl ?_
 rintro _ _ ⟨v11, a11, rfl, ha11, rfl⟩
 refine AOL.nil (thenN ?_)
 refine AW.seq ?_
 refine AW.seq (AW.region ?_)
 refine AOL.p (P_fieldAddr_ptr (cs' := [.int .i64 _, .str _, .str _, .int .i64 _, _, .int .i64 _]) tok rfl rfl rfl rfl rfl rfl) rfl ?_
 refine AOL.p (P_load_ptr (c := .int .i64 _) tok rfl rfl rfl) rfl ?_
 refine AOL.p (P_eql rfl rfl) rfl ?_
 refine AOL.nil (thenN ?_)
 refine AW.cond (b := _) rfl (fun hc1 => ?_) (fun hc1 => ?_)
 ·
  rw [if_pos hc1] at hb
  refine AW.draw mixed (fun _ => True) trivial (by kernel_rfl) ?_
  refine Canon.pure _ _ 0 _ _ rfl (by kernel_rfl) (by kernel_rfl) rfl (.run rfl (P_load_ptr (c := .val _) tok rfl rfl rfl)) ?_
  refine Canon.pure _ _ 1 _ _ rfl (by kernel_rfl) (by kernel_rfl) rfl (.run rfl (P_fieldAddr_ptr (cs' := [.int .i64 _, _, .int .i64 _]) tok rfl rfl rfl rfl rfl rfl)) ?_
  refine Canon.pure _ _ 2 _ _ rfl (by kernel_rfl) (by kernel_rfl) rfl (.run rfl (P_load_ptr (c := .int .i64 _) tok rfl rfl rfl)) ?_
  refine Canon.pure _ _ 3 _ _ rfl (by kernel_rfl) (by kernel_rfl) rfl (.run rfl (P_callf (by kernel_rfl) rfl rfl (kItoa t.num hi.1 hi.2))) ?_
  refine Canon.pure _ _ 4 _ _ rfl (by kernel_rfl) (by kernel_rfl) rfl (.run rfl (P_buildSlice (es := [[.str _], [.str _]]) tok rfl rfl rfl rfl rfl rfl rfl rfl rfl)) ?_
  refine Canon.eff _ _ 5 _ _ rfl (by kernel_rfl) rfl rfl (E_callf (by kernel_rfl) rfl rfl (w_put b _ _ _ ha11 R [[44, 32], Lib.itoa t.num] (Nat.le_of_ble_eq_true rfl) (by have h := hb; (try simp only [List.flatten_cons, List.flatten_nil, List.length_append, List.length_cons, List.length_nil, List.append_nil] at h ⊢); omega))) (fun _ _ _ => trivial) ?_
  rintro _ _ ⟨v20, a20, rfl, ha20, rfl⟩
  refine Canon.done _ _ (by kernel_rfl) ?_
  refine thenN ?_
  refine AW.region ?_
  refine AOL.p (P_load_ptr (c := .val _) tok rfl rfl rfl) rfl ?_
  refine AOL.p (P_buildSlice (es := [[.str _]]) tok rfl rfl rfl rfl rfl rfl rfl rfl rfl) rfl ?_
  refine AOL.e (E_callf (by kernel_rfl) rfl rfl (w_put b _ _ _ ha20 R [[41]] (Nat.le_of_ble_eq_true rfl) (by have h := hb; (try simp only [List.flatten_cons, List.flatten_nil, List.length_append, List.length_cons, List.length_nil, List.append_nil] at h ⊢); omega))) rfl ?_
  rintro _ _ ⟨v23, a23, rfl, ha23, rfl⟩
  refine AOL.nil ?_
  refine ⟨.inl rfl, [], .nil, _, .refl _, ?_⟩
  exact wq ha23 (by rw [if_pos hc1]; simp only [List.flatten_cons, List.flatten_nil, List.append_nil, List.append_assoc, List.cons_append, List.nil_append])
 ·
  rw [ifF hc1] at hb
  have ha20 := ha11
  refine AW.skip ?_
  refine thenN ?_
  refine AW.region ?_
  refine AOL.p (P_load_ptr (c := .val _) tok rfl rfl rfl) rfl ?_
  refine AOL.p (P_buildSlice (es := [[.str _]]) tok rfl rfl rfl rfl rfl rfl rfl rfl rfl) rfl ?_
  refine AOL.e (E_callf (by kernel_rfl) rfl rfl (w_put b _ _ _ ha20 R [[41]] (Nat.le_of_ble_eq_true rfl) (by have h := hb; (try simp only [List.flatten_cons, List.flatten_nil, List.length_append, List.length_cons, List.length_nil, List.append_nil] at h ⊢); omega))) rfl ?_
  rintro _ _ ⟨v23, a23, rfl, ha23, rfl⟩
  refine AOL.nil ?_
  refine ⟨.inl rfl, [], .nil, _, .refl _, ?_⟩
  exact wq ha23 (by rw [ifF hc1]; simp only [List.flatten_cons, List.flatten_nil, List.append_nil, List.append_assoc, List.cons_append, List.nil_append])
set_option maxRecDepth 20000 in
set_option maxHeartbeats 1600000 in
theorem w_field (b : Nat) (o : Str) (v : Value) (a : Option Addr) (ha : a = none ∨ a = some ⟨b, 0, none⟩) (R : List HO) (t : Syn) (hi : 0 ≤ t.num ∧ t.num ≤ 2) (hb : o.length + (t.text ++ ([58, 32] : Str) ++ kindT t.num).length ≤ big) : ACall Tryz.prog 70 (.row v (byc o).length 5 1 :: .box b 62 (.val (.pointer a) :: .row v 1 (byc o) :: FNS b) :: R) [.agg (cSyn t), .ptr [.val (.pointer (some ⟨b, 0, none⟩))]] (WQ b (o ++ (t.text ++ ([58, 32] : Str) ++ kindT t.num)) R) := by
 refine ACall.body (n := 13) tok Tryz.func70 rfl rfl rfl ?_
 refine AW.seq (AW.region ?_)
 refine AOL.p (P_box (v := .agg _) (cs := [.int .i64 _, .str _, .str _, .int .i64 _, _, .int .i64 _]) rfl rfl rfl) rfl ?_
 refine AOL.nil (thenN ?_)
 refine AW.draw mixed (fun _ => True) trivial (by kernel_rfl) ?_
 refine Canon.pure _ _ 0 _ _ rfl (by kernel_rfl) (by kernel_rfl) rfl (.run rfl (P_load_ptr (c := .val _) tok rfl rfl rfl)) ?_
 refine Canon.pure _ _ 1 _ _ rfl (by kernel_rfl) (by kernel_rfl) rfl (.run rfl (P_fieldAddr_ptr (cs' := [.str _, .str _, .int .i64 _, _, .int .i64 _]) tok rfl rfl rfl rfl rfl rfl)) ?_
 refine Canon.pure _ _ 2 _ _ rfl (by kernel_rfl) (by kernel_rfl) rfl (.run rfl (P_load_ptr (c := .str _) tok rfl rfl rfl)) ?_
 refine Canon.pure _ _ 3 _ _ rfl (by kernel_rfl) (by kernel_rfl) rfl (.run rfl (P_buildSlice (es := [[.str _], [.str _], [.str _]]) tok rfl rfl rfl rfl rfl rfl rfl rfl rfl)) ?_
 refine Canon.pure _ _ 4 _ _ rfl (by kernel_rfl) (by kernel_rfl) rfl (.run rfl (P_fieldAddr_ptr (cs' := [.int .i64 _, _, .int .i64 _]) tok rfl rfl rfl rfl rfl rfl)) ?_
 refine Canon.pure _ _ 5 _ _ rfl (by kernel_rfl) (by kernel_rfl) rfl (.run rfl (P_load_ptr (c := .int .i64 _) tok rfl rfl rfl)) ?_
 refine Canon.pure _ _ 6 _ _ rfl (by kernel_rfl) (by kernel_rfl) rfl (.run rfl (P_indexAddr (c := [.str (kindT t.num)]) tok rfl rfl rfl rfl rfl rfl (hi.1) (kind_at hi))) ?_
 refine Canon.pure _ _ 7 _ _ rfl (by kernel_rfl) (by kernel_rfl) rfl (.run rfl (P_load_ptr (c := .str _) tok rfl rfl rfl)) ?_
 refine Canon.pure _ _ 8 _ _ rfl (by kernel_rfl) (by kernel_rfl) rfl (.run rfl (P_buildSlice (es := [[.str _], [.str _], [.str _]]) tok rfl rfl rfl rfl rfl rfl rfl rfl rfl)) ?_
 refine Canon.eff _ _ 9 _ _ rfl (by kernel_rfl) rfl rfl (E_callf (by kernel_rfl) rfl rfl (w_put b _ _ _ ha R [t.text, [58, 32], kindT t.num] (Nat.le_of_ble_eq_true rfl) (by have h := hb; (try simp only [List.flatten_cons, List.flatten_nil, List.length_append, List.length_cons, List.length_nil, List.append_nil] at h ⊢); omega))) (fun _ _ _ => trivial) ?_
 rintro _ _ ⟨v12, a12, rfl, ha12, rfl⟩
 refine Canon.done _ _ (by kernel_rfl) ?_
 refine ⟨.inl rfl, [], .nil, _, .refl _, ?_⟩
 exact wq ha12 (by simp only [List.flatten_cons, List.flatten_nil, List.append_nil, List.append_assoc, List.cons_append, List.nil_append])

end Go.Proofs.YtabkeeedkhgodaaGreatDoor
