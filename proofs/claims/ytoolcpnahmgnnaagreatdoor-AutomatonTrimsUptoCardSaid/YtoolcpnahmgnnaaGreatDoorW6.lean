/-
  Walks of layer 23: searching in the reference. No condition.
-/
import Derived.Test.YtoolcpnahmgnnaaGreatDoorW5
import Derived.Test.YtoolcpnahmgnnaaGreatDoorP3
import Derived.KernelRfl
namespace Go.Proofs.YtoolcpnahmgnnaaGreatDoor
open Go Go.Aw
set_option linter.unusedVariables false
set_option linter.unusedSimpArgs false

def bB (l : List Bool) : List AV := l.map fun x => .bool x
def bI (l : List Int) : List AV := l.map fun x => .int .i64 x
theorem setSeg_map {α : Type} (f : α → AV) {L : List α} {k : Nat} {x : α} (h : k < L.length) : setSeg (L.map f) k [f x] = (L.set k x).map f := by
  apply List.ext_getElem?
  intro i
  unfold setSeg
  simp only [List.length_cons, List.length_nil, List.getElem?_append, List.length_take, List.length_map, List.getElem?_take, List.getElem?_drop, List.getElem?_map, List.getElem?_set, List.length_append]
  by_cases h1 : i < k
  · simp [h1, show min k L.length = k by omega, show k ≠ i by omega, show i < k + 1 by omega]
  · by_cases h2 : i = k
    · subst h2; simp [show min i L.length = i by omega, h]
    · simp [h1, show min k L.length = k by omega, show ¬ i < k + 1 by omega, show k ≠ i by omega, show k + 1 + (i - (k + 1)) = i by omega]
theorem bB_get {l : List Bool} {k : Nat} (h : k < l.length) : (bB l)[k]? = some (.bool (l.getD k false)) := by
  unfold bB
  rw [List.getElem?_map, List.getD_eq_getElem?_getD, List.getElem?_eq_getElem h]; rfl
theorem bI_get {l : List Int} {k : Nat} (h : k < l.length) : (bI l)[k]? = some (.int .i64 (l.getD k 0)) := by
  unfold bI
  rw [List.getElem?_map, List.getD_eq_getElem?_getD, List.getElem?_eq_getElem h]; rfl
theorem bB_len (l : List Bool) : (bB l).length = l.length := List.length_map ..
theorem bI_len (l : List Int) : (bI l).length = l.length := List.length_map ..
theorem bB_zero (n : Nat) : (List.replicate n [AV.bool false]).flatten = bB (List.replicate n false) := by
  induction n with
  | zero => rfl
  | succ n ih => rw [List.replicate_succ, List.replicate_succ, List.flatten_cons, ih]; rfl
theorem bI_zero (n : Nat) : (List.replicate n [AV.int .i64 0]).flatten = bI (List.replicate n 0) := by
  induction n with
  | zero => rfl
  | succ n ih => rw [List.replicate_succ, List.replicate_succ, List.flatten_cons, ih]; rfl
theorem bB_flat (l : List Bool) : (l.map cB).flatten = bB l := by
  induction l with
  | nil => rfl
  | cons a r ih => show [AV.bool a] ++ (r.map cB).flatten = _; rw [ih]; rfl
theorem bI_flat (l : List Int) : (l.map cI).flatten = bI l := by
  induction l with
  | nil => rfl
  | cons a r ih => show [AV.int .i64 a] ++ (r.map cI).flatten = _; rw [ih]; rfl
theorem bB_mark {l : List Bool} {s : Int} (h : s.toNat < l.length) : setSeg (bB l) s.toNat [.bool true] = bB (markS l s) := setSeg_map (fun x : Bool => AV.bool x) h
theorem bI_put {l : List Int} {s v : Int} (h : s.toNat < l.length) : setSeg (bI l) s.toNat [.int .i64 v] = bI (putS' l s v) := setSeg_map (fun x : Int => AV.int .i64 x) h
theorem InR.lt {n : Nat} {s : Int} (h : InR n s) : s < n := by have := h.1; have := h.2; omega
theorem one_each {α : Type} {f : α → List AV} (hf : ∀ x, (f x).length = 1) (l : List α) : ∀ e ∈ l.map f, e.length = 1 := fun e he => by
  obtain ⟨x, _, rfl⟩ := List.mem_map.1 he; exact hf x
theorem wp1 {b w : Bool} {G : List (Bool × Bool)} (h : allG ((b, w) :: G)) : b = w := h _ (List.mem_cons_self ..)
theorem rounds_succ (f : List Bool → List Bool) (k : Nat) (s : List Bool) : rounds f (k + 1) s = rounds f k (f s) := rfl
theorem off1 (n : Nat) : 0 + n * 1 = n := by omega

set_option maxRecDepth 20000 in
set_option maxHeartbeats 3200000 in
theorem r_reached (a : Au) (hn : 0 < a.states.length ∧ a.states.length ≤ 1048576) (hm : a.edges.length ≤ 1048576) (hE : EdR a.states.length a.edges) : APure Tryz.prog 45 [.agg (cAu a)] (.sl 1 (((reachR a)).map cB)) := by
  have hmx : 1048576 ≤ maxLen := by decide
  refine APure.body (n := 47) tok Tryz.func45 rfl rfl rfl fun H => ?_
  refine AW.seq ?_
  refine AW.region ?_
  refine AOL.p (P_box (v := .agg _) (cs := [.int .i64 _, .int .i64 _, _, _]) rfl rfl rfl) rfl ?_
  refine AOL.p (P_assign_nil (z := 1) rfl) rfl ?_
  refine AOL.nil ?_
  refine thenN ?_
  refine AW.seq ?_
  refine AW.region ?_
  refine AOL.p (P_fieldAddr_ptr (cs' := [_, _]) tok rfl rfl rfl rfl rfl rfl) rfl ?_
  refine AOL.p (P_load_ptr (c := .sl _ _) tok rfl rfl rfl) rfl ?_
  refine AOL.p (P_len_sl (n := a.states.length) tok rfl rfl rfl (by simp)) rfl ?_
  refine AOL.e (E_makeSlice (n := a.states.length) tok rfl rfl rfl rfl rfl rfl rfl (by show 1 * a.states.length ≤ _; omega) (by omega)) rfl ?_
  rintro _ _ ⟨b10, rfl, rfl⟩
  refine AOL.p (P_assign (v := .val _) rfl) rfl ?_
  refine AOL.ghost (GS.cells 0 rfl (bB_zero a.states.length)) ?_
  refine AOL.nil ?_
  refine thenN ?_
  refine AW.seq ?_
  refine AW.region ?_
  refine AOL.p (P_move (v := .val _) rfl) rfl ?_
  refine AOL.p (P_indexAddr_val tok rfl rfl rfl rfl rfl (by decide) (by omega) (off1 _)) rfl ?_
  refine AOL.e (E_store (k := 0) (v := .bool _) (cs' := bB (markS (List.replicate a.states.length false) (0 : Int))) (H2 := _ :: _) tok rfl rfl rfl rfl rfl rfl (by rw [bB_len]; exact Nat.ble_eq_true_of_le (by show ((0 : Int)).toNat + 1 ≤ _; rw [List.length_replicate]; exact hn.1)) (bB_mark (by rw [List.length_replicate]; exact hn.1)) rfl) rfl ?_
  rintro _ _ ⟨rfl, rfl⟩
  refine AOL.nil ?_
  refine thenN ?_
  refine AW.seq ?_
  refine AW.seq ?_
  refine AW.region ?_
  refine AOL.p (P_assign (v := .int .i64 _) rfl) rfl ?_
  refine AOL.nil ?_
  refine thenN ?_
  refine AW.block ?_
  refine AW.loopS (fun (p : Nat × List Bool) => (⟨[(1, .ptr (cAu a)), (3, .val (.slice (some ⟨b10, 0, none⟩) a.states.length a.states.length)), (4, .int .i64 (p.1 : Int))], .box b10 4 (bB p.2) :: H, 47⟩ : St)) (fun (p : Nat × List Bool) => p.1 ≤ a.states.length ∧ p.2.length = a.states.length ∧ (reachR a) = rounds (fun s => a.edges.foldl stepF s) (a.states.length - p.1) p.2) (fun (p : Nat × List Bool) => a.states.length - p.1) ((0, markS (List.replicate a.states.length false) 0)) ?_ (GS.weaken ⟨rfl, rfl, rfl, trivial⟩ (.refl _)) ?_
  · exact ⟨Nat.zero_le _, by simp [markS], rfl⟩
  · rintro p hR
    refine AW.seq ?_
    refine AW.seq ?_
    refine AW.region ?_
    refine AOL.p (P_move (v := .int .i64 _) rfl) rfl ?_
    refine AOL.p (P_fieldAddr_ptr (cs' := [_, _]) tok rfl rfl rfl rfl rfl rfl) rfl ?_
    refine AOL.p (P_load_ptr (c := .sl _ _) tok rfl rfl rfl) rfl ?_
    refine AOL.p (P_len_sl (n := a.states.length) tok rfl rfl rfl (by simp)) rfl ?_
    refine AOL.p (P_lss rfl rfl) rfl ?_
    refine AOL.nil ?_
    refine thenN ?_
    refine AW.cond (b := _) rfl (fun hc1 => ?_) (fun hc1 => ?_)
    · skip
      have hlt1 : p.1 < a.states.length := by have := of_decide_eq_true hc1; omega
      have hrnd := hR.2.2
      rw [show a.states.length - p.1 = (a.states.length - p.1 - 1) + 1 by omega, rounds_succ] at hrnd
      refine AW.skip ?_
      refine thenN ?_
      refine AW.seq ?_
      refine AW.block ?_
      refine AW.seq ?_
      refine AW.region ?_
      refine AOL.p (P_assign (v := .int .i64 _) rfl) rfl ?_
      refine AOL.nil ?_
      refine thenN ?_
      refine AW.block ?_
      refine AW.loopS (fun (q : Nat × List Bool) => (⟨[(1, .ptr (cAu a)), (3, .val (.slice (some ⟨b10, 0, none⟩) a.states.length a.states.length)), (4, .int .i64 (p.1 : Int)), (5, .int .i64 (q.1 : Int))], .box b10 4 (bB q.2) :: H, 47⟩ : St)) (fun (q : Nat × List Bool) => q.1 ≤ a.edges.length ∧ q.2.length = a.states.length ∧ (reachR a) = rounds (fun s => a.edges.foldl stepF s) (a.states.length - p.1 - 1) ((a.edges.drop q.1).foldl stepF q.2)) (fun (q : Nat × List Bool) => a.edges.length - q.1) ((0, p.2)) ?_ (GS.weaken ⟨rfl, rfl, rfl, rfl, trivial⟩ (.refl _)) ?_
      · exact ⟨Nat.zero_le _, hR.2.1, hrnd⟩
      · rintro q hR2
        refine AW.seq ?_
        refine AW.seq ?_
        refine AW.region ?_
        refine AOL.p (P_move (v := .int .i64 _) rfl) rfl ?_
        refine AOL.p (P_fieldAddr_ptr (cs' := [_]) tok rfl rfl rfl rfl rfl rfl) rfl ?_
        refine AOL.p (P_load_ptr (c := .sl _ _) tok rfl rfl rfl) rfl ?_
        refine AOL.p (P_len_sl (n := a.edges.length) tok rfl rfl rfl (by simp)) rfl ?_
        refine AOL.p (P_lss rfl rfl) rfl ?_
        refine AOL.nil ?_
        refine thenN ?_
        refine AW.cond (b := _) rfl (fun hc2 => ?_) (fun hc2 => ?_)
        · skip
          obtain ⟨x, hx⟩ := get_lt2 (l := a.edges) (k := q.1) (by have := of_decide_eq_true hc2; omega)
          have hltx := get_lt' hx
          have hmx2 := List.mem_of_getElem? hx
          obtain ⟨hxs, hxd⟩ := hE x hmx2
          have hlq := hR2.2.1
          have hdr := hR2.2.2
          rw [drop_cons hx, List.foldl_cons] at hdr
          refine AW.skip ?_
          refine thenN ?_
          refine AW.seq ?_
          refine AW.block ?_
          refine AW.seq ?_
          refine AW.region ?_
          refine AOL.p (P_fieldAddr_ptr (cs' := [_]) tok rfl rfl rfl rfl rfl rfl) rfl ?_
          refine AOL.p (P_load_ptr (c := .sl _ _) tok rfl rfl rfl) rfl ?_
          refine AOL.p (P_move (v := .int .i64 _) rfl) rfl ?_
          refine AOL.p (P_indexAddr (c := [.int .i64 _, .int .i64 _, .int .i64 _, .int .i64 _, .int .i64 _, _, .int .i64 _, .int .i64 _, .int .i64 _, .int .i64 _, .int .i64 _, .str _, _, _, _, _, _]) tok rfl rfl rfl rfl rfl rfl (by omega) (cEd_at hx)) rfl ?_
          refine AOL.p (P_load_ptr_agg (l := [.int .i64 _, .int .i64 _, .int .i64 _, .int .i64 _, .int .i64 _, _, .int .i64 _, .int .i64 _, .int .i64 _, .int .i64 _, .int .i64 _, .str _, _, _, _, _, _]) tok rfl rfl rfl rfl rfl) rfl ?_
          refine AOL.e (E_alloc (l := [.int .i64 0, .int .i64 0, .int .i64 0, .int .i64 0, .int .i64 0, .sl 8 [], .int .i64 0, .int .i64 0, .int .i64 0, .int .i64 0, .int .i64 0, .str [], .sl 1 [], .sl 1 [], .sl 8 [], .sl 2 [], .sl 1 []]) (by kernel_rfl)) rfl ?_
          rintro _ _ ⟨b6, rfl, rfl⟩
          refine AOL.e (E_store (k := 0) (v := .agg _) (cs' := [.int .i64 _, .int .i64 _, .int .i64 _, .int .i64 _, .int .i64 _, _, .int .i64 _, .int .i64 _, .int .i64 _, .int .i64 _, .int .i64 _, .str _, _, _, _, _, _]) (H2 := _ :: _ :: _) tok rfl rfl rfl rfl rfl rfl rfl rfl rfl) rfl ?_
          rintro _ _ ⟨rfl, rfl⟩
          refine AOL.ghost (GS.freeze (t := 6) 0 rfl rfl) ?_
          refine AOL.nil ?_
          refine thenN ?_
          refine AW.seq ?_
          refine AW.region ?_
          refine AOL.p (P_move (v := .val _) rfl) rfl ?_
          refine AOL.p (P_fieldAddr_ptr (cs' := [.int .i64 _, .int .i64 _, .int .i64 _, .int .i64 _, .int .i64 _, _, .int .i64 _, .int .i64 _, .int .i64 _, .int .i64 _, .int .i64 _, .str _, _, _, _, _, _]) tok rfl rfl rfl rfl rfl rfl) rfl ?_
          refine AOL.p (P_load_ptr (c := .int .i64 _) tok rfl rfl rfl) rfl ?_
          refine AOL.p (P_indexAddr_val tok rfl rfl rfl rfl rfl (hxs.1) (hxs.lt) (off1 _)) rfl ?_
          refine AOL.pk (P_load_box (k := 0) (c := .bool (seenS q.2 x.src)) tok rfl rfl rfl (bB_get (by rw [hlq]; exact hxs.2))) rfl rfl ?_
          refine AOL.p (P_move (v := .bool _) rfl) rfl ?_
          refine AOL.g (y := .ptr _) _ [] rfl (EntL.all trivial) (fun hG => P_fieldAddr_ptr (cs' := [.int .i64 _, .int .i64 _, .int .i64 _, .int .i64 _, _, .int .i64 _, .int .i64 _, .int .i64 _, .int .i64 _, .int .i64 _, .str _, _, _, _, _, _]) tok rfl rfl rfl rfl rfl rfl) rfl ?_
          refine AOL.g (y := .int .i64 _) _ [(38, _)] rfl (EntL.all ⟨Ent.self _ _, trivial⟩) (fun hG => P_load_ptr (c := .int .i64 _) tok rfl rfl rfl) rfl ?_
          refine AOL.g (y := .bool _) _ [(39, _)] rfl (EntL.all ⟨Ent.self _ _, trivial⟩) (fun hG => P_geq rfl rfl) rfl ?_
          refine AOL.p (P_pick_and rfl rfl rfl) rfl ?_
          refine AOL.nil ?_
          refine thenN ?_
          refine AW.cond (b := _) rfl (fun hc3 => ?_) (fun hc3 => ?_)
          · skip
            have hst1 : stepF q.2 x = markS q.2 x.dst := by unfold stepF; rw [if_pos hc3]
            rw [Bool.and_eq_true, decide_eq_true_eq] at hc3
            have hxd2 := hxd hc3.2
            refine AW.region ?_
            refine AOL.p (P_move (v := .val _) rfl) rfl ?_
            refine AOL.p (P_fieldAddr_ptr (cs' := [.int .i64 _, .int .i64 _, .int .i64 _, .int .i64 _, _, .int .i64 _, .int .i64 _, .int .i64 _, .int .i64 _, .int .i64 _, .str _, _, _, _, _, _]) tok rfl rfl rfl rfl rfl rfl) rfl ?_
            refine AOL.p (P_load_ptr (c := .int .i64 _) tok rfl rfl rfl) rfl ?_
            refine AOL.p (P_indexAddr_val tok rfl rfl rfl rfl rfl (hxd2.1) (hxd2.lt) (off1 _)) rfl ?_
            refine AOL.e (E_store (k := 0) (v := .bool _) (cs' := bB (markS q.2 x.dst)) (H2 := _ :: _) tok rfl rfl rfl rfl rfl rfl (by rw [bB_len]; exact Nat.ble_eq_true_of_le (by show (x.dst).toNat + 1 ≤ _; rw [hlq]; exact hxd2.2)) (bB_mark (by rw [hlq]; exact hxd2.2)) rfl) rfl ?_
            rintro _ _ ⟨rfl, rfl⟩
            refine AOL.nil ?_
            refine blkN ?_
            refine thenN ?_
            refine AW.region ?_
            refine AOL.p (P_move (v := .int .i64 _) rfl) rfl ?_
            refine AOL.p (P_add rfl rfl rfl (by constructor <;> omega)) rfl ?_
            refine AOL.p (P_assign (v := .int .i64 _) rfl) rfl ?_
            refine AOL.nil ?_
            refine thenN ?_
            refine ⟨(q.1 + 1, markS q.2 x.dst), ?_, ?_, GS.weaken ⟨rfl, rfl, rfl, rfl, trivial⟩ (.refl _)⟩
            · exact ⟨hltx, by rw [mark_len]; exact hR2.2.1, by rw [hdr, hst1]⟩
            · simp only; omega
          · skip
            have hst0 : stepF q.2 x = q.2 := by unfold stepF; rw [if_neg (by rw [hc3]; decide)]
            refine AW.skip ?_
            refine blkN ?_
            refine thenN ?_
            refine AW.region ?_
            refine AOL.p (P_move (v := .int .i64 _) rfl) rfl ?_
            refine AOL.p (P_add rfl rfl rfl (by constructor <;> omega)) rfl ?_
            refine AOL.p (P_assign (v := .int .i64 _) rfl) rfl ?_
            refine AOL.nil ?_
            refine thenN ?_
            refine ⟨(q.1 + 1, q.2), ?_, ?_, GS.weaken ⟨rfl, rfl, rfl, rfl, trivial⟩ (.refl _)⟩
            · exact ⟨hltx, hR2.2.1, by rw [hdr, hst0]⟩
            · simp only; omega
        · skip
          have hk : a.edges.length ≤ q.1 := by have := of_decide_eq_false hc2; omega
          have hend := hR2.2.2
          rw [List.drop_eq_nil_of_le hk] at hend
          refine AW.exit ?_
          refine thenE ?_
          refine thenE ?_
          refine blkHit ?_
          refine blkN ?_
          refine thenN ?_
          refine AW.region ?_
          refine AOL.p (P_move (v := .int .i64 _) rfl) rfl ?_
          refine AOL.p (P_add rfl rfl rfl (by constructor <;> omega)) rfl ?_
          refine AOL.p (P_assign (v := .int .i64 _) rfl) rfl ?_
          refine AOL.nil ?_
          refine thenN ?_
          refine ⟨(p.1 + 1, q.2), ?_, ?_, GS.weaken ⟨rfl, rfl, rfl, trivial⟩ (.refl _)⟩
          · exact ⟨by omega, hR2.2.1, by rw [show a.states.length - (p.1 + 1) = a.states.length - p.1 - 1 by omega]; exact hend⟩
          · simp only; omega
    · skip
      have hk : a.states.length - p.1 = 0 := by have := of_decide_eq_false hc1; omega
      have hrnd := hR.2.2
      rw [hk] at hrnd
      have hlp := hR.2.1
      refine AW.exit ?_
      refine thenE ?_
      refine thenE ?_
      refine blkHit ?_
      refine thenN ?_
      refine AW.seq ?_
      refine AW.region ?_
      refine AOL.ghost (GS.freezeSl (t := 3) (z := 1) (es := p.2.map cB) 0 rfl rfl (bB_flat _) (by rw [List.length_map, hlp]) (Nat.le_refl _) (by omega) (one_each (fun _ => rfl) _) slot_is) ?_
      refine AOL.p (P_move (v := .sl _ _) rfl) rfl ?_
      refine AOL.p (P_assign (v := .sl _ _) rfl) rfl ?_
      refine AOL.nil ?_
      refine thenN ?_
      refine AW.ret ?_
      refine ⟨.inr rfl, [.sl _ _], .cons (.tmp _ _ rfl) <| .nil, .refl _, ?_⟩
      rw [hrnd]; rfl
set_option maxRecDepth 20000 in
set_option maxHeartbeats 3200000 in
theorem r_helpful (a : Au) (hn : 0 < a.states.length ∧ a.states.length ≤ 1048576) (hm : a.edges.length ≤ 1048576) (hE : EdR a.states.length a.edges) : APure Tryz.prog 46 [.agg (cAu a)] (.sl 1 (((usefulR a)).map cB)) := by
  have hmx : 1048576 ≤ maxLen := by decide
  refine APure.body (n := 45) tok Tryz.func46 rfl rfl rfl fun H => ?_
  refine AW.seq ?_
  refine AW.region ?_
  refine AOL.p (P_box (v := .agg _) (cs := [.int .i64 _, .int .i64 _, _, _]) rfl rfl rfl) rfl ?_
  refine AOL.p (P_assign_nil (z := 1) rfl) rfl ?_
  refine AOL.nil ?_
  refine thenN ?_
  refine AW.seq ?_
  refine AW.region ?_
  refine AOL.p (P_fieldAddr_ptr (cs' := [_, _]) tok rfl rfl rfl rfl rfl rfl) rfl ?_
  refine AOL.p (P_load_ptr (c := .sl _ _) tok rfl rfl rfl) rfl ?_
  refine AOL.p (P_len_sl (n := a.states.length) tok rfl rfl rfl (by simp)) rfl ?_
  refine AOL.e (E_makeSlice (n := a.states.length) tok rfl rfl rfl rfl rfl rfl rfl (by show 1 * a.states.length ≤ _; omega) (by omega)) rfl ?_
  rintro _ _ ⟨b10, rfl, rfl⟩
  refine AOL.p (P_assign (v := .val _) rfl) rfl ?_
  refine AOL.ghost (GS.cells 0 rfl (bB_zero a.states.length)) ?_
  refine AOL.nil ?_
  refine thenN ?_
  refine AW.seq ?_
  refine AW.seq ?_
  refine AW.region ?_
  refine AOL.p (P_assign (v := .int .i64 _) rfl) rfl ?_
  refine AOL.nil ?_
  refine thenN ?_
  refine AW.block ?_
  refine AW.loopS (fun (p : Nat × List Bool) => (⟨[(1, .ptr (cAu a)), (3, .val (.slice (some ⟨b10, 0, none⟩) a.states.length a.states.length)), (4, .int .i64 (p.1 : Int))], .box b10 4 (bB p.2) :: H, 45⟩ : St)) (fun (p : Nat × List Bool) => p.1 ≤ a.states.length ∧ p.2.length = a.states.length ∧ (usefulR a) = rounds (fun s => a.edges.foldl stepB s) (a.states.length - p.1) p.2) (fun (p : Nat × List Bool) => a.states.length - p.1) ((0, List.replicate a.states.length false)) ?_ (GS.weaken ⟨rfl, rfl, rfl, trivial⟩ (.refl _)) ?_
  · exact ⟨Nat.zero_le _, List.length_replicate .., rfl⟩
  · rintro p hR
    refine AW.seq ?_
    refine AW.seq ?_
    refine AW.region ?_
    refine AOL.p (P_move (v := .int .i64 _) rfl) rfl ?_
    refine AOL.p (P_fieldAddr_ptr (cs' := [_, _]) tok rfl rfl rfl rfl rfl rfl) rfl ?_
    refine AOL.p (P_load_ptr (c := .sl _ _) tok rfl rfl rfl) rfl ?_
    refine AOL.p (P_len_sl (n := a.states.length) tok rfl rfl rfl (by simp)) rfl ?_
    refine AOL.p (P_lss rfl rfl) rfl ?_
    refine AOL.nil ?_
    refine thenN ?_
    refine AW.cond (b := _) rfl (fun hc1 => ?_) (fun hc1 => ?_)
    · skip
      have hlt1 : p.1 < a.states.length := by have := of_decide_eq_true hc1; omega
      have hrnd := hR.2.2
      rw [show a.states.length - p.1 = (a.states.length - p.1 - 1) + 1 by omega, rounds_succ] at hrnd
      refine AW.skip ?_
      refine thenN ?_
      refine AW.seq ?_
      refine AW.block ?_
      refine AW.seq ?_
      refine AW.region ?_
      refine AOL.p (P_assign (v := .int .i64 _) rfl) rfl ?_
      refine AOL.nil ?_
      refine thenN ?_
      refine AW.block ?_
      refine AW.loopS (fun (q : Nat × List Bool) => (⟨[(1, .ptr (cAu a)), (3, .val (.slice (some ⟨b10, 0, none⟩) a.states.length a.states.length)), (4, .int .i64 (p.1 : Int)), (5, .int .i64 (q.1 : Int))], .box b10 4 (bB q.2) :: H, 45⟩ : St)) (fun (q : Nat × List Bool) => q.1 ≤ a.edges.length ∧ q.2.length = a.states.length ∧ (usefulR a) = rounds (fun s => a.edges.foldl stepB s) (a.states.length - p.1 - 1) ((a.edges.drop q.1).foldl stepB q.2)) (fun (q : Nat × List Bool) => a.edges.length - q.1) ((0, p.2)) ?_ (GS.weaken ⟨rfl, rfl, rfl, rfl, trivial⟩ (.refl _)) ?_
      · exact ⟨Nat.zero_le _, hR.2.1, hrnd⟩
      · rintro q hR2
        refine AW.seq ?_
        refine AW.seq ?_
        refine AW.region ?_
        refine AOL.p (P_move (v := .int .i64 _) rfl) rfl ?_
        refine AOL.p (P_fieldAddr_ptr (cs' := [_]) tok rfl rfl rfl rfl rfl rfl) rfl ?_
        refine AOL.p (P_load_ptr (c := .sl _ _) tok rfl rfl rfl) rfl ?_
        refine AOL.p (P_len_sl (n := a.edges.length) tok rfl rfl rfl (by simp)) rfl ?_
        refine AOL.p (P_lss rfl rfl) rfl ?_
        refine AOL.nil ?_
        refine thenN ?_
        refine AW.cond (b := _) rfl (fun hc2 => ?_) (fun hc2 => ?_)
        · skip
          obtain ⟨x, hx⟩ := get_lt2 (l := a.edges) (k := q.1) (by have := of_decide_eq_true hc2; omega)
          have hltx := get_lt' hx
          have hmx2 := List.mem_of_getElem? hx
          obtain ⟨hxs, hxd⟩ := hE x hmx2
          have hlq := hR2.2.1
          have hdr := hR2.2.2
          rw [drop_cons hx, List.foldl_cons] at hdr
          refine AW.skip ?_
          refine thenN ?_
          refine AW.seq ?_
          refine AW.block ?_
          refine AW.seq ?_
          refine AW.region ?_
          refine AOL.p (P_fieldAddr_ptr (cs' := [_]) tok rfl rfl rfl rfl rfl rfl) rfl ?_
          refine AOL.p (P_load_ptr (c := .sl _ _) tok rfl rfl rfl) rfl ?_
          refine AOL.p (P_move (v := .int .i64 _) rfl) rfl ?_
          refine AOL.p (P_indexAddr (c := [.int .i64 _, .int .i64 _, .int .i64 _, .int .i64 _, .int .i64 _, _, .int .i64 _, .int .i64 _, .int .i64 _, .int .i64 _, .int .i64 _, .str _, _, _, _, _, _]) tok rfl rfl rfl rfl rfl rfl (by omega) (cEd_at hx)) rfl ?_
          refine AOL.p (P_load_ptr_agg (l := [.int .i64 _, .int .i64 _, .int .i64 _, .int .i64 _, .int .i64 _, _, .int .i64 _, .int .i64 _, .int .i64 _, .int .i64 _, .int .i64 _, .str _, _, _, _, _, _]) tok rfl rfl rfl rfl rfl) rfl ?_
          refine AOL.e (E_alloc (l := [.int .i64 0, .int .i64 0, .int .i64 0, .int .i64 0, .int .i64 0, .sl 8 [], .int .i64 0, .int .i64 0, .int .i64 0, .int .i64 0, .int .i64 0, .str [], .sl 1 [], .sl 1 [], .sl 8 [], .sl 2 [], .sl 1 []]) (by kernel_rfl)) rfl ?_
          rintro _ _ ⟨b6, rfl, rfl⟩
          refine AOL.e (E_store (k := 0) (v := .agg _) (cs' := [.int .i64 _, .int .i64 _, .int .i64 _, .int .i64 _, .int .i64 _, _, .int .i64 _, .int .i64 _, .int .i64 _, .int .i64 _, .int .i64 _, .str _, _, _, _, _, _]) (H2 := _ :: _ :: _) tok rfl rfl rfl rfl rfl rfl rfl rfl rfl) rfl ?_
          rintro _ _ ⟨rfl, rfl⟩
          refine AOL.ghost (GS.freeze (t := 6) 0 rfl rfl) ?_
          refine AOL.nil ?_
          refine thenN ?_
          refine AW.seq ?_
          refine AW.region ?_
          refine AOL.p (P_fieldAddr_ptr (cs' := [.int .i64 _, .int .i64 _, .int .i64 _, .int .i64 _, _, .int .i64 _, .int .i64 _, .int .i64 _, .int .i64 _, .int .i64 _, .str _, _, _, _, _, _]) tok rfl rfl rfl rfl rfl rfl) rfl ?_
          refine AOL.p (P_load_ptr (c := .int .i64 _) tok rfl rfl rfl) rfl ?_
          refine AOL.p (P_lss rfl rfl) rfl ?_
          refine AOL.p (P_move (v := .bool _) rfl) rfl ?_
          refine AOL.g (y := .val _) _ [] rfl (EntL.all trivial) (fun hG => P_move (v := .val _) rfl) rfl ?_
          refine AOL.g (y := .ptr _) _ [] rfl (EntL.all trivial) (fun hG => P_fieldAddr_ptr (cs' := [.int .i64 _, .int .i64 _, .int .i64 _, .int .i64 _, _, .int .i64 _, .int .i64 _, .int .i64 _, .int .i64 _, .int .i64 _, .str _, _, _, _, _, _]) tok rfl rfl rfl rfl rfl rfl) rfl ?_
          refine AOL.g (y := .int .i64 _) _ [(35, _)] rfl (EntL.all ⟨Ent.self _ _, trivial⟩) (fun hG => P_load_ptr (c := .int .i64 _) tok rfl rfl rfl) rfl ?_
          refine AOL.g (y := .val _) _ [(34, _), (36, _)] rfl (EntL.all ⟨Ent.self _ _, Ent.self _ _, trivial⟩) (fun hG => P_indexAddr_val tok rfl rfl rfl rfl rfl ((hxd (by have := wp1 hG; simpa using this)).1) ((hxd (by have := wp1 hG; simpa using this)).lt) (off1 _)) rfl ?_
          refine AOL.gk (y := .bool _) _ [(37, _)] rfl (EntL.all ⟨Ent.self _ _, trivial⟩) (fun hG => P_load_box (k := 0) (c := .bool (seenS q.2 x.dst)) tok rfl rfl rfl (bB_get (by rw [hlq]; exact (hxd (by have := wp1 hG; simpa using this)).2))) rfl rfl ?_
          refine AOL.p (P_pick_or rfl rfl rfl) rfl ?_
          refine AOL.nil ?_
          refine thenN ?_
          refine AW.cond (b := _) rfl (fun hc3 => ?_) (fun hc3 => ?_)
          · skip
            have hst1 : stepB q.2 x = markS q.2 x.src := by unfold stepB; rw [if_pos hc3]
            refine AW.region ?_
            refine AOL.p (P_move (v := .val _) rfl) rfl ?_
            refine AOL.p (P_fieldAddr_ptr (cs' := [.int .i64 _, .int .i64 _, .int .i64 _, .int .i64 _, .int .i64 _, _, .int .i64 _, .int .i64 _, .int .i64 _, .int .i64 _, .int .i64 _, .str _, _, _, _, _, _]) tok rfl rfl rfl rfl rfl rfl) rfl ?_
            refine AOL.p (P_load_ptr (c := .int .i64 _) tok rfl rfl rfl) rfl ?_
            refine AOL.p (P_indexAddr_val tok rfl rfl rfl rfl rfl (hxs.1) (hxs.lt) (off1 _)) rfl ?_
            refine AOL.e (E_store (k := 0) (v := .bool _) (cs' := bB (markS q.2 x.src)) (H2 := _ :: _) tok rfl rfl rfl rfl rfl rfl (by rw [bB_len]; exact Nat.ble_eq_true_of_le (by show (x.src).toNat + 1 ≤ _; rw [hlq]; exact hxs.2)) (bB_mark (by rw [hlq]; exact hxs.2)) rfl) rfl ?_
            rintro _ _ ⟨rfl, rfl⟩
            refine AOL.nil ?_
            refine blkN ?_
            refine thenN ?_
            refine AW.region ?_
            refine AOL.p (P_move (v := .int .i64 _) rfl) rfl ?_
            refine AOL.p (P_add rfl rfl rfl (by constructor <;> omega)) rfl ?_
            refine AOL.p (P_assign (v := .int .i64 _) rfl) rfl ?_
            refine AOL.nil ?_
            refine thenN ?_
            refine ⟨(q.1 + 1, markS q.2 x.src), ?_, ?_, GS.weaken ⟨rfl, rfl, rfl, rfl, trivial⟩ (.refl _)⟩
            · exact ⟨hltx, by rw [mark_len]; exact hR2.2.1, by rw [hdr, hst1]⟩
            · simp only; omega
          · skip
            have hst0 : stepB q.2 x = q.2 := by unfold stepB; rw [if_neg (by rw [hc3]; decide)]
            refine AW.skip ?_
            refine blkN ?_
            refine thenN ?_
            refine AW.region ?_
            refine AOL.p (P_move (v := .int .i64 _) rfl) rfl ?_
            refine AOL.p (P_add rfl rfl rfl (by constructor <;> omega)) rfl ?_
            refine AOL.p (P_assign (v := .int .i64 _) rfl) rfl ?_
            refine AOL.nil ?_
            refine thenN ?_
            refine ⟨(q.1 + 1, q.2), ?_, ?_, GS.weaken ⟨rfl, rfl, rfl, rfl, trivial⟩ (.refl _)⟩
            · exact ⟨hltx, hR2.2.1, by rw [hdr, hst0]⟩
            · simp only; omega
        · skip
          have hk : a.edges.length ≤ q.1 := by have := of_decide_eq_false hc2; omega
          have hend := hR2.2.2
          rw [List.drop_eq_nil_of_le hk] at hend
          refine AW.exit ?_
          refine thenE ?_
          refine thenE ?_
          refine blkHit ?_
          refine blkN ?_
          refine thenN ?_
          refine AW.region ?_
          refine AOL.p (P_move (v := .int .i64 _) rfl) rfl ?_
          refine AOL.p (P_add rfl rfl rfl (by constructor <;> omega)) rfl ?_
          refine AOL.p (P_assign (v := .int .i64 _) rfl) rfl ?_
          refine AOL.nil ?_
          refine thenN ?_
          refine ⟨(p.1 + 1, q.2), ?_, ?_, GS.weaken ⟨rfl, rfl, rfl, trivial⟩ (.refl _)⟩
          · exact ⟨by omega, hR2.2.1, by rw [show a.states.length - (p.1 + 1) = a.states.length - p.1 - 1 by omega]; exact hend⟩
          · simp only; omega
    · skip
      have hk : a.states.length - p.1 = 0 := by have := of_decide_eq_false hc1; omega
      have hrnd := hR.2.2
      rw [hk] at hrnd
      have hlp := hR.2.1
      refine AW.exit ?_
      refine thenE ?_
      refine thenE ?_
      refine blkHit ?_
      refine thenN ?_
      refine AW.seq ?_
      refine AW.region ?_
      refine AOL.ghost (GS.freezeSl (t := 3) (z := 1) (es := p.2.map cB) 0 rfl rfl (bB_flat _) (by rw [List.length_map, hlp]) (Nat.le_refl _) (by omega) (one_each (fun _ => rfl) _) slot_is) ?_
      refine AOL.p (P_move (v := .sl _ _) rfl) rfl ?_
      refine AOL.p (P_assign (v := .sl _ _) rfl) rfl ?_
      refine AOL.nil ?_
      refine thenN ?_
      refine AW.ret ?_
      refine ⟨.inr rfl, [.sl _ _], .cons (.tmp _ _ rfl) <| .nil, .refl _, ?_⟩
      rw [hrnd]; rfl
end Go.Proofs.YtoolcpnahmgnnaaGreatDoor
