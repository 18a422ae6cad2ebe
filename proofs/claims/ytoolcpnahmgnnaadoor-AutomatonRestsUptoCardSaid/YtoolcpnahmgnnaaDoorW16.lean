/-
  Walks of layer 23: texts. No condition.
-/
import Derived.Test.YtoolcpnahmgnnaaDoorW15
import Derived.Test.YtoolcpnahmgnnaaDoorP7
import Derived.KernelRfl
namespace Go.Proofs.YtoolcpnahmgnnaaDoor
open Go Go.Aw
set_option linter.unusedVariables false
set_option linter.unusedSimpArgs false

set_option maxRecDepth 20000 in
set_option maxHeartbeats 800000 in
theorem k_check0 (b TT : Nat) (r : AV) (rest : List AV) (hl : liesAt Tryd.prog Tryd.prog.depth TT ((rest.length + 2) / Tryd.prog.cellsOf TT) 0 85 1 = true) (R : List HO) : ACall Tryd.prog 63 (.box b TT (.val (.pointer none) :: r :: rest) :: R) [.val (.pointer (some ⟨b, 0, none⟩))] (fun x H' => x = .tuple [] ∧ H' = .box b TT (.val (.pointer (some ⟨b, 0, none⟩)) :: r :: rest) :: R) := by
  refine ACall.body (n := 20) tok Tryd.func63 rfl rfl rfl ?_
  refine AW.seq ?_
  refine AW.region ?_
  refine AOL.p (P_move (v := .val _) rfl) rfl ?_
  refine AOL.p (P_nilCheck rfl) rfl ?_
  refine AOL.p (P_fieldAddr_val tok rfl rfl rfl rfl rfl rfl) rfl ?_
  refine AOL.pk (P_load_box (k := 0) (c := .val (.pointer none)) tok rfl rfl rfl (rfl)) rfl rfl ?_
  refine AOL.p (P_eqNilPtr Tryd.underlying82 rfl rfl) rfl ?_
  refine AOL.nil ?_
  refine thenN ?_
  refine AW.cond (b := _) rfl (fun hc1 => ?_) (fun hc1 => ?_)
  · skip
    refine AW.region ?_
    refine AOL.p (P_move (v := .val _) rfl) rfl ?_
    refine AOL.p (P_move (v := .val _) rfl) rfl ?_
    refine AOL.pk (P_toUnsafeT (k := 0) tok Tryd.underlying82 Tryd.underlying130 rfl rfl rfl (rfl)) rfl rfl ?_
    refine AOL.p (P_noEscape Tryd.func76 (by kernel_rfl) (by kernel_rfl) (by kernel_rfl) (by kernel_rfl) rfl) rfl ?_
    refine AOL.pk (P_fromUnsafeT (k := 0) tok Tryd.underlying130 Tryd.underlying82 rfl (rfl) (hl) rfl) rfl rfl ?_
    refine AOL.p (P_nilCheck rfl) rfl ?_
    refine AOL.p (P_fieldAddr_val tok rfl rfl rfl rfl rfl rfl) rfl ?_
    refine AOL.e (E_store (k := 0) (v := .val _) (cs' := (.val (.pointer (some ⟨b, 0, none⟩)) :: r :: rest)) (H2 := _ :: _) tok rfl rfl rfl rfl rfl rfl (Nat.ble_eq_true_of_le (by show 0 + 1 ≤ rest.length + 1 + 1; omega)) (rfl) rfl) rfl ?_
    rintro _ _ ⟨rfl, rfl⟩
    refine AOL.nil ?_
    refine ⟨.inl rfl, [], .nil, _, .refl _, ?_⟩
    exact ⟨rfl, rfl⟩
  · skip
    cases hc1
set_option maxRecDepth 20000 in
set_option maxHeartbeats 800000 in
theorem k_check1 (b TT : Nat) (r : AV) (rest : List AV) (hl : liesAt Tryd.prog Tryd.prog.depth TT ((rest.length + 2) / Tryd.prog.cellsOf TT) 0 85 1 = true) (R : List HO) : ACall Tryd.prog 63 (.box b TT (.val (.pointer (some ⟨b, 0, none⟩)) :: r :: rest) :: R) [.val (.pointer (some ⟨b, 0, none⟩))] (fun x H' => x = .tuple [] ∧ H' = .box b TT (.val (.pointer (some ⟨b, 0, none⟩)) :: r :: rest) :: R) := by
  refine ACall.body (n := 20) tok Tryd.func63 rfl rfl rfl ?_
  refine AW.seq ?_
  refine AW.region ?_
  refine AOL.p (P_move (v := .val _) rfl) rfl ?_
  refine AOL.p (P_nilCheck rfl) rfl ?_
  refine AOL.p (P_fieldAddr_val tok rfl rfl rfl rfl rfl rfl) rfl ?_
  refine AOL.pk (P_load_box (k := 0) (c := .val (.pointer (some ⟨b, 0, none⟩))) tok rfl rfl rfl (rfl)) rfl rfl ?_
  refine AOL.p (P_eqNilPtr Tryd.underlying82 rfl rfl) rfl ?_
  refine AOL.nil ?_
  refine thenN ?_
  refine AW.cond (b := _) rfl (fun hc1 => ?_) (fun hc1 => ?_)
  · skip
    cases hc1
  · skip
    refine AW.seq ?_
    refine AW.region ?_
    refine AOL.p (P_move (v := .val _) rfl) rfl ?_
    refine AOL.p (P_nilCheck rfl) rfl ?_
    refine AOL.p (P_fieldAddr_val tok rfl rfl rfl rfl rfl rfl) rfl ?_
    refine AOL.pk (P_load_box (k := 0) (c := .val (.pointer (some ⟨b, 0, none⟩))) tok rfl rfl rfl (rfl)) rfl rfl ?_
    refine AOL.p (P_move (v := .val _) rfl) rfl ?_
    refine AOL.p (P_neqPtr (z := 2) Tryd.underlying82 (by kernel_rfl) rfl rfl rfl) rfl ?_
    refine AOL.nil ?_
    refine thenN ?_
    refine AW.cond (b := _) rfl (fun hc2 => ?_) (fun hc2 => ?_)
    · skip
      cases hc2
    · skip
      refine AW.skip ?_
      refine ⟨.inl rfl, [], .nil, _, .refl _, ?_⟩
      exact ⟨rfl, rfl⟩
theorem k_check (b TT : Nat) (p : Option Addr) (hp : p = none ∨ p = some ⟨b, 0, none⟩) (r : AV) (rest : List AV) (hl : liesAt Tryd.prog Tryd.prog.depth TT ((rest.length + 2) / Tryd.prog.cellsOf TT) 0 85 1 = true) (R : List HO) :
    ACall Tryd.prog 63 (.box b TT (.val (.pointer p) :: r :: rest) :: R) [.val (.pointer (some ⟨b, 0, none⟩))] (fun x H' => x = .tuple [] ∧ H' = .box b TT (.val (.pointer (some ⟨b, 0, none⟩)) :: r :: rest) :: R) := by
  rcases hp with rfl | rfl
  · exact k_check0 b TT r rest hl R
  · exact k_check1 b TT r rest hl R
theorem k_checkP (b TT : Nat) (p : Option Addr) (hp : p = none ∨ p = some ⟨b, 0, none⟩) (r : AV) (rest : List AV) (hl : liesAt Tryd.prog Tryd.prog.depth TT ((rest.length + 2) / Tryd.prog.cellsOf TT) 0 85 1 = true) :
    PCallS Tryd.prog 63 b TT (.val (.pointer p) :: r :: rest) (.val (.pointer (some ⟨b, 0, none⟩)) :: r :: rest) [.val (.pointer (some ⟨b, 0, none⟩))] (.tuple []) := fun R => k_check b TT p hp r rest hl R
set_option maxRecDepth 20000 in
set_option maxHeartbeats 1600000 in
theorem k_write (b TT : Nat) (p : Option Addr) (hp : p = none ∨ p = some ⟨b, 0, none⟩) (v : Value) (t s : Str) (rest : List AV) (hl : liesAt Tryd.prog Tryd.prog.depth TT ((rest.length + 2) / Tryd.prog.cellsOf TT) 0 85 1 = true) (hb : t.length + s.length ≤ 140737488355328) (R : List HO) : ACall Tryd.prog 41 (.row v (byc t).length 5 1 :: .box b TT (.val (.pointer p) :: .row v 1 (byc t) :: rest) :: R) [.val (.pointer (some ⟨b, 0, none⟩)), .str s] (fun x H' => ∃ v', x = .tuple [.int .i64 (s.length : Int), .val .nilIface] ∧ H' = .row v' (byc (t ++ s)).length 5 1 :: .box b TT (.val (.pointer (some ⟨b, 0, none⟩)) :: .row v' 1 (byc (t ++ s)) :: rest) :: R) := by
  refine ACall.body (n := 19) tok Tryd.func41 rfl rfl rfl ?_
  refine AW.seq ?_
  refine AW.region ?_
  refine AOL.p (P_assign (v := .int .i64 _) rfl) rfl ?_
  refine AOL.p (P_assign (v := .val _) rfl) rfl ?_
  refine AOL.nil ?_
  refine thenN ?_
  refine AW.seq ?_
  refine AW.region ?_
  refine AOL.p (P_move (v := .val _) rfl) rfl ?_
  refine AOL.e (E_callf (by kernel_rfl) rfl rfl ((k_checkP b TT p hp _ rest hl).at (k := 1) (H2 := _ :: _ :: _) rfl rfl)) rfl ?_
  rintro _ _ ⟨rfl, rfl⟩
  refine AOL.nil ?_
  refine thenN ?_
  refine AW.seq ?_
  refine AW.region ?_
  refine AOL.p (P_move (v := .val _) rfl) rfl ?_
  refine AOL.p (P_move (v := .val _) rfl) rfl ?_
  refine AOL.p (P_nilCheck rfl) rfl ?_
  refine AOL.p (P_fieldAddr_val tok rfl rfl rfl rfl rfl rfl) rfl ?_
  refine AOL.pk (P_load_box (k := 1) (c := .row _ _ _) tok rfl rfl rfl rfl) rfl rfl ?_
  refine AOL.p (P_move (v := .str _) rfl) rfl ?_
  refine AOL.e (E_appendStr (k := 0) tok rfl rfl rfl rfl Tryd.underlying9 rfl rfl rfl rfl (byc_sc _) (by rw [byc_len]; exact hb)) rfl ?_
  rintro _ _ ⟨v14, rfl, rfl⟩
  refine AOL.p (P_nilCheck rfl) rfl ?_
  refine AOL.p (P_fieldAddr_val tok rfl rfl rfl rfl rfl rfl) rfl ?_
  refine AOL.e (E_store (k := 1) (v := .row _ _ _) (cs' := (.val (.pointer (some ⟨b, 0, none⟩)) :: .row v14 1 (byc t ++ byc s) :: rest)) (H2 := _ :: _ :: _) tok rfl rfl rfl rfl rfl rfl (Nat.ble_eq_true_of_le (by show 1 + 1 ≤ rest.length + 1 + 1; omega)) (rfl) rfl) rfl ?_
  rintro _ _ ⟨rfl, rfl⟩
  refine AOL.nil ?_
  refine thenN ?_
  refine AW.seq ?_
  refine AW.region ?_
  refine AOL.p (P_move (v := .str _) rfl) rfl ?_
  refine AOL.p (P_len_str (n := s.length) tok rfl rfl rfl (rfl)) rfl ?_
  refine AOL.p (P_assign (v := .int .i64 _) rfl) rfl ?_
  refine AOL.p (P_assign (v := .val _) rfl) rfl ?_
  refine AOL.nil ?_
  refine thenN ?_
  refine AW.ret ?_
  refine ⟨.inr rfl, [.int .i64 _, .val _], .cons (.tmp _ _ rfl) <| .cons (.tmp _ _ rfl) <| .nil, _, .refl _, ?_⟩
  exact ⟨v14, rfl, congrArg (fun l => HO.row v14 l.length 5 1 :: HO.box b TT (.val (.pointer (some ⟨b, 0, none⟩)) :: .row v14 1 l :: rest) :: R) (byc_app t s).symm⟩
set_option maxRecDepth 20000 in
set_option maxHeartbeats 1600000 in
theorem k_string (b TT : Nat) (a0 : AV) (v : Value) (t : Str) (rest : List AV) (R : List HO) : ACall Tryd.prog 45 (.row v (byc t).length 5 1 :: .box b TT (a0 :: .row v 1 (byc t) :: rest) :: R) [.val (.pointer (some ⟨b, 0, none⟩))] (fun x H' => x = .str t ∧ H' = .row (.slice none 0 0) 0 5 1 :: .box b TT (a0 :: .row v 1 (byc t) :: rest) :: R) := by
  refine ACall.body (n := 14) tok Tryd.func45 rfl rfl rfl ?_
  refine AW.seq ?_
  refine AW.region ?_
  refine AOL.p (P_assign (v := .str _) rfl) rfl ?_
  refine AOL.nil ?_
  refine thenN ?_
  refine AW.seq ?_
  refine AW.draw mixed (fun H' => _ ∈ H') (List.mem_of_getElem? (i := 1) rfl) (by kernel_rfl) ?_
  refine Canon.pure _ _ 0 _ _ rfl (by kernel_rfl) (by kernel_rfl) rfl (.run rfl (P_move (v := .val _) rfl)) ?_
  refine Canon.pure _ _ 1 _ _ rfl (by kernel_rfl) (by kernel_rfl) rfl (.run rfl (P_nilCheck rfl)) ?_
  refine Canon.pure _ _ 2 _ _ rfl (by kernel_rfl) (by kernel_rfl) rfl (.run rfl (P_fieldAddr_val tok rfl rfl rfl rfl rfl rfl)) ?_
  refine Canon.pure _ _ 3 _ _ rfl (by kernel_rfl) (by kernel_rfl) rfl (.run rfl (OpP.mem (fun k => P_load_box (k := k) (c := .row _ _ _) tok rfl rfl rfl rfl) (fun _ h => h))) ?_
  refine Canon.pure _ _ 5 _ _ rfl (by kernel_rfl) (by kernel_rfl) rfl (.run rfl (P_move (v := .val _) rfl)) ?_
  refine Canon.pure _ _ 6 _ _ rfl (by kernel_rfl) (by kernel_rfl) rfl (.run rfl (P_nilCheck rfl)) ?_
  refine Canon.pure _ _ 7 _ _ rfl (by kernel_rfl) (by kernel_rfl) rfl (.run rfl (P_fieldAddr_val tok rfl rfl rfl rfl rfl rfl)) ?_
  refine Canon.pure _ _ 8 _ _ rfl (by kernel_rfl) (by kernel_rfl) rfl (.run rfl (OpP.mem (fun k => P_load_box (k := k) (c := .row _ _ _) tok rfl rfl rfl rfl) (fun _ h => h))) ?_
  refine Canon.pure _ _ 9 _ _ rfl (by kernel_rfl) (by kernel_rfl) rfl (.run rfl (P_len_row (n := t.length) tok rfl rfl rfl (byc_len t))) ?_
  refine Canon.eff _ _ 4 _ _ rfl (by kernel_rfl) rfl rfl (E_sliceData (k := 0) Tryd.underlying120 rfl rfl) (by rintro _ _ ⟨q7, hq7, rfl, rfl⟩; simp) ?_
  rintro _ _ ⟨q7, hq7, rfl, rfl⟩
  refine Canon.eff _ _ 10 _ _ rfl (by kernel_rfl) rfl rfl (E_unsafeString (k := 0) (kb := 1) (o := 1) Tryd.underlying120 (by kernel_rfl) rfl (rfl) hq7 rfl rfl rfl rfl) (by rintro _ _ ⟨rfl, rfl⟩; simp) ?_
  rintro _ _ ⟨rfl, rfl⟩
  refine Canon.pure _ _ 11 _ _ rfl (by kernel_rfl) (by kernel_rfl) rfl (.run rfl (P_assign (v := .str _) rfl)) ?_
  refine Canon.done _ _ (by kernel_rfl) ?_
  refine thenN ?_
  refine AW.ret ?_
  refine ⟨.inr rfl, [.str _], .cons (.tmp _ _ rfl) <| .nil, _, .refl _, ?_⟩
  exact ⟨rfl, rfl⟩
def wc (ws : List Str) : List (List AV) := ws.map fun s => [.str s]
theorem wc_app (a b : List Str) : wc (a ++ b) = wc a ++ wc b := List.map_append ..
theorem wc_len (a : List Str) : (wc a).length = a.length := List.length_map ..
theorem wc_sc (a : List Str) : ∀ c ∈ wc a, scalars c = true := sc_map fun _ => rfl
set_option maxRecDepth 20000 in
set_option maxHeartbeats 3200000 in
theorem l_add (b : Nat) (v : Value) (ws : List Str) (w : Str) (ns : List Int) (hi : ∀ x ∈ ns, I64 x) (hl : ws.length + ns.length ≤ 100000000) (R : List HO) : ACall Tryd.prog 40 (.row v (wc ws).length 9 1 :: .box b 88 [.row v 1 (wc ws)] :: R) [.val (.pointer (some ⟨b, 0, none⟩)), .str w, .sl 1 (ns.map cI)] (fun x H' => ∃ v', x = .tuple [] ∧ H' = .row v' (wc (ws ++ addW w ns)).length 9 1 :: .box b 88 [.row v' 1 (wc (ws ++ addW w ns))] :: R) := by
  refine ACall.body (n := 36) tok Tryd.func40 rfl rfl rfl ?_
  refine AW.seq ?_
  refine AW.region ?_
  refine AOL.p (P_move (v := .val _) rfl) rfl ?_
  refine AOL.p (P_move (v := .val _) rfl) rfl ?_
  refine AOL.p (P_nilCheck rfl) rfl ?_
  refine AOL.p (P_fieldAddr_val tok rfl rfl rfl rfl rfl rfl) rfl ?_
  refine AOL.pk (P_load_box (k := 1) (c := .row _ _ _) tok rfl rfl rfl rfl) rfl rfl ?_
  refine AOL.p (P_move (v := .str _) rfl) rfl ?_
  refine AOL.p (P_buildSlice (es := [[.str _]]) tok rfl rfl rfl rfl rfl rfl rfl rfl rfl) rfl ?_
  refine AOL.e (E_append (k := 0) tok rfl rfl rfl rfl rfl rfl rfl rfl (sc_one rfl) (wc_sc _) (by simp [wc_len]; omega) (by simp [wc_len, maxLen]; omega)) rfl ?_
  rintro _ _ ⟨v15, rfl, rfl⟩
  refine AOL.p (P_nilCheck rfl) rfl ?_
  refine AOL.p (P_fieldAddr_val tok rfl rfl rfl rfl rfl rfl) rfl ?_
  refine AOL.e (E_store (k := 1) (v := .row _ _ _) (cs' := [_]) (H2 := _ :: _ :: _) tok rfl rfl rfl rfl rfl rfl rfl rfl rfl) rfl ?_
  rintro _ _ ⟨rfl, rfl⟩
  refine AOL.nil ?_
  refine thenN ?_
  refine AW.seq ?_
  refine AW.region ?_
  refine AOL.p (P_move (v := .sl _ _) rfl) rfl ?_
  refine AOL.p (P_len_sl (n := ns.length) tok rfl rfl rfl (by simp)) rfl ?_
  refine AOL.p (P_move (v := .int .i64 _) rfl) rfl ?_
  refine AOL.nil ?_
  refine thenN ?_
  refine AW.block ?_
  refine AW.loopS (fun (p : Nat × List (List AV) × Value) => (⟨[(0, .val (.pointer (some ⟨b, 0, none⟩))), (18, .sl 1 (ns.map cI)), (19, .int .i64 ns.length), (20, .int .i64 (p.1 : Int))], .row p.2.2 p.2.1.length 9 1 :: .box b 88 [.row p.2.2 1 p.2.1] :: R, 36⟩ : St)) (fun (p : Nat × List (List AV) × Value) => p.1 ≤ ns.length ∧ p.2.1 = wc (ws ++ [w] ++ (ns.take p.1).map Lib.itoa)) (fun (p : Nat × List (List AV) × Value) => ns.length - p.1) ((0, wc ws ++ [[.str w]], v15)) ?_ (GS.weaken ⟨rfl, rfl, rfl, rfl, trivial⟩ (.refl _)) ?_
  · exact ⟨Nat.zero_le _, by rw [List.take_zero, List.map_nil, List.append_nil, wc_app]; rfl⟩
  · rintro p hR
    have hel : p.2.1.length = ws.length + 1 + p.1 := by rw [hR.2, wc_len]; simp; omega
    refine AW.seq ?_
    refine AW.region ?_
    refine AOL.p (P_lss rfl rfl) rfl ?_
    refine AOL.nil ?_
    refine thenN ?_
    refine AW.seq ?_
    refine AW.cond (b := _) rfl (fun hc1 => ?_) (fun hc1 => ?_)
    · skip
      obtain ⟨x, hx⟩ := get_lt2 (l := ns) (k := p.1) (by have := of_decide_eq_true hc1; omega)
      have hltx := get_lt' hx
      have hmx := List.mem_of_getElem? hx
      refine AW.skip ?_
      refine thenN ?_
      refine AW.seq ?_
      refine AW.block ?_
      refine AW.seq ?_
      refine AW.region ?_
      refine AOL.p (P_indexAddr (c := [.int .i64 _]) tok rfl rfl rfl rfl rfl rfl (by omega) (cI_at hx)) rfl ?_
      refine AOL.p (P_load_ptr (c := .int .i64 _) tok rfl rfl rfl) rfl ?_
      refine AOL.p (P_assign (v := .int .i64 _) rfl) rfl ?_
      refine AOL.nil ?_
      refine thenN ?_
      refine AW.draw mixed (fun H' => _ ∈ H') (List.mem_of_getElem? (i := 1) rfl) (by kernel_rfl) ?_
      refine Canon.pure _ _ 0 _ _ rfl (by kernel_rfl) (by kernel_rfl) rfl (.run rfl (P_move (v := .val _) rfl)) ?_
      refine Canon.pure _ _ 1 _ _ rfl (by kernel_rfl) (by kernel_rfl) rfl (.run rfl (P_move (v := .val _) rfl)) ?_
      refine Canon.pure _ _ 2 _ _ rfl (by kernel_rfl) (by kernel_rfl) rfl (.run rfl (P_nilCheck rfl)) ?_
      refine Canon.pure _ _ 3 _ _ rfl (by kernel_rfl) (by kernel_rfl) rfl (.run rfl (P_fieldAddr_val tok rfl rfl rfl rfl rfl rfl)) ?_
      refine Canon.pure _ _ 4 _ _ rfl (by kernel_rfl) (by kernel_rfl) rfl (.run rfl (OpP.mem (fun k => P_load_box (k := k) (c := .row _ _ _) tok rfl rfl rfl rfl) (fun _ h => h))) ?_
      refine Canon.pure _ _ 5 _ _ rfl (by kernel_rfl) (by kernel_rfl) rfl (.run rfl (P_move (v := .int .i64 _) rfl)) ?_
      refine Canon.pure _ _ 6 _ _ rfl (by kernel_rfl) (by kernel_rfl) rfl (.run rfl (P_callf (by kernel_rfl) rfl rfl (kItoa x (hi x hmx).1 (hi x hmx).2))) ?_
      refine Canon.pure _ _ 7 _ _ rfl (by kernel_rfl) (by kernel_rfl) rfl (.run rfl (P_buildSlice (es := [[.str _]]) tok rfl rfl rfl rfl rfl rfl rfl rfl rfl)) ?_
      refine Canon.eff _ _ 8 _ _ rfl (by kernel_rfl) rfl rfl (E_append (k := 0) tok rfl rfl rfl rfl rfl rfl rfl rfl (sc_one rfl) (by rw [hR.2]; exact wc_sc _) (by rw [hel]; simp; omega) (by rw [hel]; simp [maxLen]; omega)) (by rintro _ _ ⟨v32, rfl, rfl⟩; simp) ?_
      rintro _ _ ⟨v32, rfl, rfl⟩
      refine Canon.pure _ _ 9 _ _ rfl (by kernel_rfl) (by kernel_rfl) rfl (.run rfl (P_nilCheck rfl)) ?_
      refine Canon.pure _ _ 10 _ _ rfl (by kernel_rfl) (by kernel_rfl) rfl (.run rfl (P_fieldAddr_val tok rfl rfl rfl rfl rfl rfl)) ?_
      refine Canon.last _ _ 11 _ _ rfl (by kernel_rfl) rfl rfl (E_store (k := 1) (v := .row _ _ _) (cs' := [_]) (H2 := _ :: _ :: _) tok rfl rfl rfl rfl rfl rfl rfl rfl rfl) (by kernel_rfl) ?_
      rintro _ _ ⟨rfl, rfl⟩
      refine blkN ?_
      refine thenN ?_
      refine AW.region ?_
      refine AOL.p (P_add rfl rfl rfl (by constructor <;> omega)) rfl ?_
      refine AOL.p (P_move (v := .int .i64 _) rfl) rfl ?_
      refine AOL.nil ?_
      refine thenN ?_
      refine ⟨(p.1 + 1, p.2.1 ++ [[.str (Lib.itoa x)]], v32), ?_, ?_, GS.weaken ⟨rfl, rfl, rfl, rfl, trivial⟩ (.refl _)⟩
      · exact ⟨hltx, by simp only; rw [take_get hx, List.map_append, ← List.append_assoc, wc_app, hR.2]; rfl⟩
      · simp only; omega
    · skip
      have hk : ns.length ≤ p.1 := by have := of_decide_eq_false hc1; omega
      refine AW.exit ?_
      refine thenE ?_
      refine thenE ?_
      refine blkHit ?_
      refine ⟨.inl rfl, [], .nil, _, .refl _, ?_⟩
      have h8 := hR.2
      rw [List.take_of_length_le hk] at h8
      exact ⟨p.2.2, rfl, congrArg (fun l => HO.row p.2.2 l.length 9 1 :: HO.box b 88 [.row p.2.2 1 l] :: R) (h8.trans (congrArg wc (by unfold addW; simp)))⟩
set_option maxRecDepth 20000 in
set_option maxHeartbeats 1600000 in
theorem l_list (b : Nat) (v : Value) (ws : List Str) (w : Str) (ns : List Int) (hi : ∀ x ∈ ns, I64 x) (hl : ws.length + ns.length ≤ 100000000) (R : List HO) : ACall Tryd.prog 65 (.row v (wc ws).length 9 1 :: .box b 88 [.row v 1 (wc ws)] :: R) [.val (.pointer (some ⟨b, 0, none⟩)), .str w, .sl 1 (ns.map cI)] (fun x H' => ∃ v', x = .tuple [] ∧ H' = .row v' (wc (ws ++ listW w ns)).length 9 1 :: .box b 88 [.row v' 1 (wc (ws ++ listW w ns))] :: R) := by
  refine ACall.body (n := 13) tok Tryd.func65 rfl rfl rfl ?_
  refine AW.seq ?_
  refine AW.region ?_
  refine AOL.p (P_move (v := .sl _ _) rfl) rfl ?_
  refine AOL.p (P_len_sl (n := ns.length) tok rfl rfl rfl (by simp)) rfl ?_
  refine AOL.p (P_gtr rfl rfl) rfl ?_
  refine AOL.nil ?_
  refine thenN ?_
  refine AW.cond (b := _) rfl (fun hc1 => ?_) (fun hc1 => ?_)
  · skip
    have h9 : listW w ns = addW w ns := if_pos hc1
    refine AW.region ?_
    refine AOL.p (P_move (v := .val _) rfl) rfl ?_
    refine AOL.p (P_move (v := .str _) rfl) rfl ?_
    refine AOL.p (P_move (v := .sl _ _) rfl) rfl ?_
    refine AOL.e (E_callf (by kernel_rfl) rfl rfl (l_add b v ws w ns hi hl R)) rfl ?_
    rintro _ _ ⟨v12, rfl, rfl⟩
    refine AOL.nil ?_
    refine ⟨.inl rfl, [], .nil, _, .refl _, ?_⟩
    exact ⟨v12, rfl, congrArg (fun l => HO.row v12 (wc (ws ++ l)).length 9 1 :: HO.box b 88 [.row v12 1 (wc (ws ++ l))] :: R) h9.symm⟩
  · skip
    have h9 : listW w ns = [] := if_neg (Bool.eq_false_iff.mp hc1)
    refine AW.skip ?_
    refine ⟨.inl rfl, [], .nil, _, .refl _, ?_⟩
    exact ⟨v, rfl, congrArg (fun l => HO.row v (wc l).length 9 1 :: HO.box b 88 [.row v 1 (wc l)] :: R) (h9 ▸ (List.append_nil ws).symm)⟩
set_option maxRecDepth 20000 in
set_option maxHeartbeats 1600000 in
theorem l_text (b : Nat) (v : Value) (ws : List Str) (hl : ws.length ≤ 100000000) (ht : (lineT ws).length ≤ 140737488355328) (R : List HO) : ACall Tryd.prog 42 (.row v (wc ws).length 9 1 :: .box b 88 [.row v 1 (wc ws)] :: R) [.val (.pointer (some ⟨b, 0, none⟩))] (fun x H' => x = .str (lineT ws) ∧ H' = .row v (wc ws).length 9 1 :: .box b 88 [.row v 1 (wc ws)] :: R) := by
  refine ACall.body (n := 9) tok Tryd.func42 rfl rfl rfl ?_
  refine AW.seq ?_
  refine AW.region ?_
  refine AOL.p (P_assign (v := .str _) rfl) rfl ?_
  refine AOL.nil ?_
  refine thenN ?_
  refine AW.seq ?_
  refine AW.region ?_
  refine AOL.p (P_move (v := .val _) rfl) rfl ?_
  refine AOL.p (P_nilCheck rfl) rfl ?_
  refine AOL.p (P_fieldAddr_val tok rfl rfl rfl rfl rfl rfl) rfl ?_
  refine AOL.pk (P_load_box (k := 1) (c := .row _ _ _) tok rfl rfl rfl rfl) rfl rfl ?_
  refine AOL.ghost (GS.unrow 6 rfl) ?_
  refine AOL.p (P_callf (by kernel_rfl) rfl rfl (kJoin ws [32] (by omega) (by unfold lineT at ht; rw [List.length_append] at ht; omega))) rfl ?_
  refine AOL.p (P_add_str rfl rfl rfl (Nat.le_trans ht (by decide))) rfl ?_
  refine AOL.p (P_assign (v := .str _) rfl) rfl ?_
  refine AOL.nil ?_
  refine thenN ?_
  refine AW.ret ?_
  refine ⟨.inr rfl, [.str _], .cons (.tmp _ _ rfl) <| .nil, _, .refl _, ?_⟩
  exact ⟨rfl, rfl⟩

end Go.Proofs.YtoolcpnahmgnnaaDoor
