/-
  Walks: the builder and the writer. No condition.
-/
import Derived.Test.YtabkeeedkhgodaaGreatDoorW13a
import Derived.Test.YtabkeeedkhgodaaGreatDoorC13
import Derived.KernelRfl
namespace Go.Proofs.YtabkeeedkhgodaaGreatDoor
open Go Go.Aw
set_option linter.unusedVariables false
set_option linter.unusedSimpArgs false

set_option maxRecDepth 20000 in
set_option maxHeartbeats 800000 in
theorem k_check0 (b TT : Nat) (r : AV) (rest : List AV) (hl : liesAt Tryz.prog Tryz.prog.depth TT ((rest.length + 2) / Tryz.prog.cellsOf TT) 0 59 1 = true) (R : List HO) : ACall Tryz.prog 150 (.box b TT (.val (.pointer none) :: r :: rest) :: R) [.val (.pointer (some ⟨b, 0, none⟩))] (fun x H' => x = .tuple [] ∧ H' = .box b TT (.val (.pointer (some ⟨b, 0, none⟩)) :: r :: rest) :: R) := by
 refine ACall.body (n := 20) tok Tryz.func150 rfl rfl rfl ?_
 refine AW.seq (AW.region ?_)
 refine AOL.p (P_move (v := .val _) rfl) rfl ?_
 refine AOL.p (P_nilCheck rfl) rfl ?_
 refine AOL.p (P_fieldAddr_val tok rfl rfl rfl rfl rfl rfl) rfl ?_
 refine AOL.pk (P_load_box (k := 0) (c := .val (.pointer none)) tok rfl rfl rfl (rfl)) rfl rfl ?_
 refine AOL.p (P_eqNilPtr Tryz.underlying56 rfl rfl) rfl ?_
 refine AOL.nil (thenN ?_)
 refine AW.cond (b := _) rfl (fun hc1 => ?_) (fun hc1 => ?_)
 ·
  refine AW.region ?_
  refine AOL.p (P_move (v := .val _) rfl) rfl ?_
  refine AOL.p (P_move (v := .val _) rfl) rfl ?_
  refine AOL.pk (P_toUnsafeT (k := 0) tok Tryz.underlying56 Tryz.underlying135 rfl rfl rfl (rfl)) rfl rfl ?_
  refine AOL.p (P_noEscape Tryz.func167 (by kernel_rfl) (by kernel_rfl) (by kernel_rfl) (by kernel_rfl) rfl) rfl ?_
  refine AOL.pk (P_fromUnsafeT (k := 0) tok Tryz.underlying135 Tryz.underlying56 rfl (rfl) (hl) rfl) rfl rfl ?_
  refine AOL.p (P_nilCheck rfl) rfl ?_
  refine AOL.p (P_fieldAddr_val tok rfl rfl rfl rfl rfl rfl) rfl ?_
  refine AOL.e (E_store (k := 0) (v := .val _) (cs' := (.val (.pointer (some ⟨b, 0, none⟩)) :: r :: rest)) (H2 := _ :: _) tok rfl rfl rfl rfl rfl rfl (Nat.ble_eq_true_of_le (by show 0 + 1 ≤ rest.length + 1 + 1; omega)) (rfl) rfl) rfl ?_
  rintro _ _ ⟨rfl, rfl⟩
  refine AOL.nil ?_
  refine ⟨.inl rfl, [], .nil, _, .refl _, ?_⟩
  exact ⟨rfl, rfl⟩
 ·
  cases hc1
set_option maxRecDepth 20000 in
set_option maxHeartbeats 800000 in
theorem k_check1 (b TT : Nat) (r : AV) (rest : List AV) (hl : liesAt Tryz.prog Tryz.prog.depth TT ((rest.length + 2) / Tryz.prog.cellsOf TT) 0 59 1 = true) (R : List HO) : ACall Tryz.prog 150 (.box b TT (.val (.pointer (some ⟨b, 0, none⟩)) :: r :: rest) :: R) [.val (.pointer (some ⟨b, 0, none⟩))] (fun x H' => x = .tuple [] ∧ H' = .box b TT (.val (.pointer (some ⟨b, 0, none⟩)) :: r :: rest) :: R) := by
 refine ACall.body (n := 20) tok Tryz.func150 rfl rfl rfl ?_
 refine AW.seq (AW.region ?_)
 refine AOL.p (P_move (v := .val _) rfl) rfl ?_
 refine AOL.p (P_nilCheck rfl) rfl ?_
 refine AOL.p (P_fieldAddr_val tok rfl rfl rfl rfl rfl rfl) rfl ?_
 refine AOL.pk (P_load_box (k := 0) (c := .val (.pointer (some ⟨b, 0, none⟩))) tok rfl rfl rfl (rfl)) rfl rfl ?_
 refine AOL.p (P_eqNilPtr Tryz.underlying56 rfl rfl) rfl ?_
 refine AOL.nil (thenN ?_)
 refine AW.cond (b := _) rfl (fun hc1 => ?_) (fun hc1 => ?_)
 ·
  cases hc1
 ·
  refine AW.seq (AW.region ?_)
  refine AOL.p (P_move (v := .val _) rfl) rfl ?_
  refine AOL.p (P_nilCheck rfl) rfl ?_
  refine AOL.p (P_fieldAddr_val tok rfl rfl rfl rfl rfl rfl) rfl ?_
  refine AOL.pk (P_load_box (k := 0) (c := .val (.pointer (some ⟨b, 0, none⟩))) tok rfl rfl rfl (rfl)) rfl rfl ?_
  refine AOL.p (P_move (v := .val _) rfl) rfl ?_
  refine AOL.p (P_neqPtr (z := 2) Tryz.underlying56 (by kernel_rfl) rfl rfl rfl) rfl ?_
  refine AOL.nil (thenN ?_)
  refine AW.cond (b := _) rfl (fun hc2 => ?_) (fun hc2 => ?_)
  ·
   cases hc2
  ·
   refine AW.skip ?_
   refine ⟨.inl rfl, [], .nil, _, .refl _, ?_⟩
   exact ⟨rfl, rfl⟩
theorem k_check (b TT : Nat) (p : Option Addr) (hp : p = none ∨ p = some ⟨b, 0, none⟩) (r : AV) (rest : List AV) (hl : liesAt Tryz.prog Tryz.prog.depth TT ((rest.length + 2) / Tryz.prog.cellsOf TT) 0 59 1 = true) (R : List HO) :
    ACall Tryz.prog 150 (.box b TT (.val (.pointer p) :: r :: rest) :: R) [.val (.pointer (some ⟨b, 0, none⟩))] (fun x H' => x = .tuple [] ∧ H' = .box b TT (.val (.pointer (some ⟨b, 0, none⟩)) :: r :: rest) :: R) := by
  rcases hp with rfl | rfl
  · exact k_check0 b TT r rest hl R
  · exact k_check1 b TT r rest hl R
theorem k_checkP (b TT : Nat) (p : Option Addr) (hp : p = none ∨ p = some ⟨b, 0, none⟩) (r : AV) (rest : List AV) (hl : liesAt Tryz.prog Tryz.prog.depth TT ((rest.length + 2) / Tryz.prog.cellsOf TT) 0 59 1 = true) :
    PCallS Tryz.prog 150 b TT (.val (.pointer p) :: r :: rest) (.val (.pointer (some ⟨b, 0, none⟩)) :: r :: rest) [.val (.pointer (some ⟨b, 0, none⟩))] (.tuple []) := fun R => k_check b TT p hp r rest hl R
set_option maxRecDepth 20000 in
set_option maxHeartbeats 1600000 in
theorem k_write (b TT : Nat) (p : Option Addr) (hp : p = none ∨ p = some ⟨b, 0, none⟩) (v : Value) (t s : Str) (rest : List AV) (hl : liesAt Tryz.prog Tryz.prog.depth TT ((rest.length + 2) / Tryz.prog.cellsOf TT) 0 59 1 = true) (hb : t.length + s.length ≤ 140737488355328) (R : List HO) : ACall Tryz.prog 121 (.row v (byc t).length 5 1 :: .box b TT (.val (.pointer p) :: .row v 1 (byc t) :: rest) :: R) [.val (.pointer (some ⟨b, 0, none⟩)), .str s] (fun x H' => ∃ v', x = .tuple [.int .i64 (s.length : Int), .val .nilIface] ∧ H' = .row v' (byc (t ++ s)).length 5 1 :: .box b TT (.val (.pointer (some ⟨b, 0, none⟩)) :: .row v' 1 (byc (t ++ s)) :: rest) :: R) := by
 refine ACall.body (n := 19) tok Tryz.func121 rfl rfl rfl ?_
 refine AW.seq (AW.region ?_)
 refine AOL.p (P_assign (v := .int .i64 _) rfl) rfl ?_
 refine AOL.p (P_assign (v := .val _) rfl) rfl ?_
 refine AOL.nil (thenN ?_)
 refine AW.seq (AW.region ?_)
 refine AOL.p (P_move (v := .val _) rfl) rfl ?_
 refine AOL.e (E_callf (by kernel_rfl) rfl rfl ((k_checkP b TT p hp _ rest hl).at (k := 1) (H2 := _ :: _ :: _) rfl rfl)) rfl ?_
 rintro _ _ ⟨rfl, rfl⟩
 refine AOL.nil (thenN ?_)
 refine AW.seq (AW.region ?_)
 refine AOL.p (P_move (v := .val _) rfl) rfl ?_
 refine AOL.p (P_move (v := .val _) rfl) rfl ?_
 refine AOL.p (P_nilCheck rfl) rfl ?_
 refine AOL.p (P_fieldAddr_val tok rfl rfl rfl rfl rfl rfl) rfl ?_
 refine AOL.pk (P_load_box (k := 1) (c := .row _ _ _) tok rfl rfl rfl rfl) rfl rfl ?_
 refine AOL.p (P_move (v := .str _) rfl) rfl ?_
 refine AOL.e (E_appendStr (k := 0) tok rfl rfl rfl rfl Tryz.underlying9 rfl rfl rfl rfl (byc_sc _) (by rw [byc_len]; exact hb)) rfl ?_
 rintro _ _ ⟨v14, rfl, rfl⟩
 refine AOL.p (P_nilCheck rfl) rfl ?_
 refine AOL.p (P_fieldAddr_val tok rfl rfl rfl rfl rfl rfl) rfl ?_
 refine AOL.e (E_store (k := 1) (v := .row _ _ _) (cs' := (.val (.pointer (some ⟨b, 0, none⟩)) :: .row v14 1 (byc t ++ byc s) :: rest)) (H2 := _ :: _ :: _) tok rfl rfl rfl rfl rfl rfl (Nat.ble_eq_true_of_le (by show 1 + 1 ≤ rest.length + 1 + 1; omega)) (rfl) rfl) rfl ?_
 rintro _ _ ⟨rfl, rfl⟩
 refine AOL.nil (thenN ?_)
 refine AW.seq (AW.region ?_)
 refine AOL.p (P_move (v := .str _) rfl) rfl ?_
 refine AOL.p (P_len_str (n := s.length) tok rfl rfl rfl (rfl)) rfl ?_
 refine AOL.p (P_assign (v := .int .i64 _) rfl) rfl ?_
 refine AOL.p (P_assign (v := .val _) rfl) rfl ?_
 refine AOL.nil (thenN ?_)
 refine AW.ret ?_
 refine ⟨.inr rfl, [.int .i64 _, .val _], .cons (.tmp _ _ rfl) <| .cons (.tmp _ _ rfl) <| .nil, _, .refl _, ?_⟩
 exact ⟨v14, rfl, congrArg (fun l => HO.row v14 l.length 5 1 :: HO.box b TT (.val (.pointer (some ⟨b, 0, none⟩)) :: .row v14 1 l :: rest) :: R) (byc_app t s).symm⟩
set_option maxRecDepth 20000 in
set_option maxHeartbeats 1600000 in
theorem k_string (b TT : Nat) (a0 : AV) (v : Value) (t : Str) (rest : List AV) (R : List HO) : ACall Tryz.prog 50 (.row v (byc t).length 5 1 :: .box b TT (a0 :: .row v 1 (byc t) :: rest) :: R) [.val (.pointer (some ⟨b, 0, none⟩))] (fun x H' => x = .str t ∧ H' = .row (.slice none 0 0) 0 5 1 :: .box b TT (a0 :: .row v 1 (byc t) :: rest) :: R) := by
 refine ACall.body (n := 14) tok Tryz.func50 rfl rfl rfl ?_
 refine AW.seq (AW.region ?_)
 refine AOL.p (P_assign (v := .str _) rfl) rfl ?_
 refine AOL.nil (thenN ?_)
 refine AW.seq ?_
 refine AW.draw mixed (fun H' => _ ∈ H') (List.mem_of_getElem? (i := 1) rfl) (by kernel_rfl) ?_
 refine Canon.pure _ _ 0 _ _ rfl (by kernel_rfl) (by kernel_rfl) rfl (.run rfl (P_move (v := .val _) rfl)) ?_
 refine Canon.pure _ _ 1 _ _ rfl (by kernel_rfl) (by kernel_rfl) rfl (.run rfl (P_nilCheck rfl)) ?_
 refine Canon.pure _ _ 2 _ _ rfl (by kernel_rfl) (by kernel_rfl) rfl (.run rfl (P_fieldAddr_val tok rfl rfl rfl rfl rfl rfl)) ?_
 refine Canon.pure _ _ 3 _ _ rfl (by kernel_rfl) (by kernel_rfl) rfl (.run rfl (OpP.mem (fun k => P_load_box (k := k) (c := .row _ _ _) tok rfl rfl rfl rfl) (fun _ h => h))) ?_
 refine Canon.pure _ _ 5 _ _ rfl (by kernel_rfl) (by kernel_rfl) rfl (.run rfl (P_move (v := .val _) rfl)) ?_
 refine Canon.pure _ _ 6 _ _ rfl (by kernel_rfl) (by kernel_rfl) rfl (.run rfl (P_nilCheck rfl)) ?_
 refine Canon.pure _ _ 7 _ _ rfl (by kernel_rfl) (by kernel_rfl) rfl (.run rfl (P_fieldAddr_val tok rfl rfl rfl rfl rfl rfl)) ?_
 refine Canon.pure _ _ 8 _ _ rfl (by kernel_rfl) (by kernel_rfl) rfl (.run rfl (OpP.mem (fun k => P_load_box (k := k) (c := .row _ _ _) tok rfl rfl rfl rfl) (fun _ h => h))) ?_
 refine Canon.pure _ _ 9 _ _ rfl (by kernel_rfl) (by kernel_rfl) rfl (.run rfl (P_len_row (n := t.length) tok rfl rfl rfl (byc_len t))) ?_
 refine Canon.eff _ _ 4 _ _ rfl (by kernel_rfl) rfl rfl (E_sliceData (k := 0) Tryz.underlying83 rfl rfl) (by rintro _ _ ⟨q7, hq7, rfl, rfl⟩; simp) ?_
 rintro _ _ ⟨q7, hq7, rfl, rfl⟩
 refine Canon.eff _ _ 10 _ _ rfl (by kernel_rfl) rfl rfl (E_unsafeString (k := 0) (kb := 1) (o := 1) Tryz.underlying83 (by kernel_rfl) rfl (rfl) hq7 rfl rfl rfl rfl) (by rintro _ _ ⟨rfl, rfl⟩; simp) ?_
 rintro _ _ ⟨rfl, rfl⟩
 refine Canon.pure _ _ 11 _ _ rfl (by kernel_rfl) (by kernel_rfl) rfl (.run rfl (P_assign (v := .str _) rfl)) ?_
 refine Canon.done _ _ (by kernel_rfl) ?_
 refine thenN ?_
 refine AW.ret ?_
 refine ⟨.inr rfl, [.str _], .cons (.tmp _ _ rfl) <| .nil, _, .refl _, ?_⟩
 exact ⟨rfl, rfl⟩
set_option maxRecDepth 20000 in
set_option maxHeartbeats 1600000 in
theorem k_blen (b TT : Nat) (a0 : AV) (v : Value) (t : Str) (rest : List AV) (R : List HO) : ACall Tryz.prog 49 (.row v (byc t).length 5 1 :: .box b TT (a0 :: .row v 1 (byc t) :: rest) :: R) [.val (.pointer (some ⟨b, 0, none⟩))] (fun x H' => x = .int .i64 (t.length : Int) ∧ H' = .row v (byc t).length 5 1 :: .box b TT (a0 :: .row v 1 (byc t) :: rest) :: R) := by
 refine ACall.body (n := 8) tok Tryz.func49 rfl rfl rfl ?_
 refine AW.seq (AW.region ?_)
 refine AOL.p (P_assign (v := .int .i64 _) rfl) rfl ?_
 refine AOL.nil (thenN ?_)
 refine AW.seq (AW.region ?_)
 refine AOL.p (P_move (v := .val _) rfl) rfl ?_
 refine AOL.p (P_nilCheck rfl) rfl ?_
 refine AOL.p (P_fieldAddr_val tok rfl rfl rfl rfl rfl rfl) rfl ?_
 refine AOL.pk (P_load_box (k := 1) (c := .row _ _ _) tok rfl rfl rfl rfl) rfl rfl ?_
 refine AOL.p (P_len_row (n := t.length) tok rfl rfl rfl (byc_len t)) rfl ?_
 refine AOL.p (P_assign (v := .int .i64 _) rfl) rfl ?_
 refine AOL.nil (thenN ?_)
 refine AW.ret ?_
 refine ⟨.inr rfl, [.int .i64 _], .cons (.tmp _ _ rfl) <| .nil, _, .refl _, ?_⟩
 exact ⟨rfl, rfl⟩
set_option maxRecDepth 20000 in
set_option maxHeartbeats 400000 in
theorem k_fb0 (c : Bool) : APure Tryz.prog 152 [.bool c] (.str (if c then w_ttrue else w_tfalse)) := by
 refine APure.body (n := 4) tok Tryz.func152 rfl rfl rfl fun H => ?_
 refine AW.seq (AW.region ?_)
 refine AOL.p (P_assign (v := .str _) rfl) rfl ?_
 refine AOL.nil (thenN ?_)
 refine AW.seq ?_
 refine AW.seq (AW.region ?_)
 refine AOL.p (P_move (v := .bool _) rfl) rfl ?_
 refine AOL.nil (thenN ?_)
 refine AW.cond (b := _) rfl (fun hc1 => ?_) (fun hc1 => ?_)
 ·
  refine AW.seq (AW.region ?_)
  refine AOL.p (P_assign (v := .str _) rfl) rfl ?_
  refine AOL.nil (thenN ?_)
  refine AW.ret ?_
  refine thenR ?_
  refine ⟨.inr rfl, [.str _], .cons (.tmp _ _ rfl) <| .nil, .refl _, ?_⟩
  simp only [resOf]
  rw [if_pos hc1]
 ·
  refine AW.skip ?_
  refine thenN ?_
  refine AW.seq (AW.region ?_)
  refine AOL.p (P_assign (v := .str _) rfl) rfl ?_
  refine AOL.nil (thenN ?_)
  refine AW.ret ?_
  refine ⟨.inr rfl, [.str _], .cons (.tmp _ _ rfl) <| .nil, .refl _, ?_⟩
  simp only [resOf]
  rw [ifF hc1]
set_option maxRecDepth 20000 in
set_option maxHeartbeats 400000 in
theorem k_fbool (c : Bool) : APure Tryz.prog 124 [.bool c] (.str (if c then w_ttrue else w_tfalse)) := by
 refine APure.body (n := 5) tok Tryz.func124 rfl rfl rfl fun H => ?_
 refine AW.seq (AW.region ?_)
 refine AOL.p (P_assign (v := .str _) rfl) rfl ?_
 refine AOL.nil (thenN ?_)
 refine AW.seq (AW.region ?_)
 refine AOL.p (P_move (v := .bool _) rfl) rfl ?_
 refine AOL.p (P_callf (by kernel_rfl) rfl rfl (k_fb0 c)) rfl ?_
 refine AOL.p (P_assign (v := .str _) rfl) rfl ?_
 refine AOL.nil (thenN ?_)
 refine AW.ret ?_
 refine ⟨.inr rfl, [.str _], .cons (.tmp _ _ rfl) <| .nil, .refl _, ?_⟩
 rfl
/-- The functions of the writer that lies in the variable b. -/
def FNS (b : Nat) : List AV :=
  [.fn (.func 68) [] [.ptr [.val (.pointer (some ⟨b, 0, none⟩))]],
   .fn (.func 69) [.val (.pointer (some ⟨b, 0, none⟩))] [],
   .fn (.func 70) [] [.ptr [.val (.pointer (some ⟨b, 0, none⟩))]],
   .fn (.func 72) [.val (.pointer (some ⟨b, 0, none⟩))] [],
   .val .nilFunc,
   .fn (.func 73) [.val (.pointer (some ⟨b, 0, none⟩))] [],
   .fn (.func 122) [] [.ptr [.val (.pointer (some ⟨b, 0, none⟩))], .ptr [.str w_seq]],
   .fn (.func 122) [] [.ptr [.val (.pointer (some ⟨b, 0, none⟩))], .ptr [.str w_alt]],
   .fn (.func 122) [] [.ptr [.val (.pointer (some ⟨b, 0, none⟩))], .ptr [.str w_all]],
   .fn (.func 122) [] [.ptr [.val (.pointer (some ⟨b, 0, none⟩))], .ptr [.str w_plus]],
   .fn (.func 122) [] [.ptr [.val (.pointer (some ⟨b, 0, none⟩))], .ptr [.str w_lacks]],
   .fn (.func 122) [] [.ptr [.val (.pointer (some ⟨b, 0, none⟩))], .ptr [.str w_within]],
   .fn (.func 122) [] [.ptr [.val (.pointer (some ⟨b, 0, none⟩))], .ptr [.str w_twhere]],
   .fn (.func 75) [.val (.pointer (some ⟨b, 0, none⟩))] [],
   .fn (.func 76) [] [.ptr [.val (.pointer (some ⟨b, 0, none⟩))]],
   .fn (.func 77) [] [.ptr [.val (.pointer (some ⟨b, 0, none⟩))]],
   .fn (.func 78) [.val (.pointer (some ⟨b, 0, none⟩))] [],
   .fn (.func 79) [.val (.pointer (some ⟨b, 0, none⟩))] [],
   .fn (.func 80) [] [.ptr [.val (.pointer (some ⟨b, 0, none⟩))]]]
/-- What the writer's functions leave. -/
def WQ (b : Nat) (o : Str) (R : List HO) : AV → List HO → Prop := fun x H' => ∃ v a, x = .tuple [] ∧ (a = none ∨ a = some ⟨b, 0, none⟩) ∧ H' = (.row v (byc o).length 5 1 :: .box b 62 (.val (.pointer a) :: .row v 1 (byc o) :: FNS b) :: R)
theorem wq {b : Nat} {o o' : Str} {v : Value} {a : Option Addr} {R : List HO} (ha : a = none ∨ a = some ⟨b, 0, none⟩) (e : o = o') : WQ b o' R (.tuple []) (.row v (byc o).length 5 1 :: .box b 62 (.val (.pointer a) :: .row v 1 (byc o) :: FNS b) :: R) := e ▸ ⟨v, a, rfl, ha, rfl⟩
theorem wlies0 : liesAt Tryz.prog Tryz.prog.depth 62 (21 / Tryz.prog.cellsOf 62) 0 59 1 = true := by kernel_rfl
theorem wlies (b : Nat) : liesAt Tryz.prog Tryz.prog.depth 62 (((FNS b).length + 2) / Tryz.prog.cellsOf 62) 0 59 1 = true := wlies0
abbrev big : Nat := 140737488355328
def sc (ws : List Str) : List (List AV) := ws.map fun s => [.str s]
theorem sc_at {l : List Str} {k : Nat} {x : Str} (h : l[k]? = some x) : (sc l)[k]? = some [.str x] := by unfold sc; rw [List.getElem?_map, h]; rfl
theorem flat_take {l : List Str} {k : Nat} {x : Str} (h : l[k]? = some x) : (l.take (k + 1)).flatten = (l.take k).flatten ++ x := by
  rw [List.take_add_one, h]; simp
theorem flat_le {l : List Str} {k : Nat} {x : Str} (h : l[k]? = some x) : (l.take k).flatten.length + x.length ≤ l.flatten.length := by
  have h1 := congrArg List.length (flat_take h)
  have h2 := congrArg List.length (congrArg List.flatten (List.take_append_drop (k + 1) l))
  rw [List.flatten_append] at h2
  simp only [List.length_append] at h1 h2
  omega
set_option maxRecDepth 20000 in
set_option maxHeartbeats 1600000 in
theorem w_put (b : Nat) (o : Str) (v : Value) (a : Option Addr) (ha : a = none ∨ a = some ⟨b, 0, none⟩) (R : List HO) (l : List Str) (hl : l.length ≤ 100) (hb : o.length + l.flatten.length ≤ big) : ACall Tryz.prog 71 (.row v (byc o).length 5 1 :: .box b 62 (.val (.pointer a) :: .row v 1 (byc o) :: FNS b) :: R) [.val (.pointer (some ⟨b, 0, none⟩)), .sl 1 (sc l)] (WQ b (o ++ l.flatten) R) := by
 refine ACall.body (n := 18) tok Tryz.func71 rfl rfl rfl ?_
 refine AW.seq (AW.region ?_)
 refine AOL.p (P_move (v := .sl _ _) rfl) rfl ?_
 refine AOL.p (P_len_sl (n := l.length) tok rfl rfl rfl (by simp [sc])) rfl ?_
 refine AOL.p (P_move (v := .int .i64 _) rfl) rfl ?_
 refine AOL.nil (thenN ?_)
 refine AW.block ?_
 refine AW.loopS (fun (p : Nat × Str × Value × Option Addr) => (⟨[(0, .val (.pointer (some ⟨b, 0, none⟩))), (6, .sl 1 (sc l)), (7, .int .i64 l.length), (8, .int .i64 (p.1 : Int))], (.row p.2.2.1 (byc p.2.1).length 5 1 :: .box b 62 (.val (.pointer p.2.2.2) :: .row p.2.2.1 1 (byc p.2.1) :: FNS b) :: R), 18⟩ : St)) (fun (p : Nat × Str × Value × Option Addr) => p.1 ≤ l.length ∧ p.2.1 = o ++ (l.take p.1).flatten ∧ (p.2.2.2 = none ∨ p.2.2.2 = some ⟨b, 0, none⟩)) (fun (p : Nat × Str × Value × Option Addr) => l.length - p.1) ((0, o, v, a)) ?_ (GS.weaken ⟨rfl, rfl, rfl, rfl, trivial⟩ (.refl _)) ?_
 · exact ⟨Nat.zero_le _, by simp, ha⟩
 ·
  rintro p hR
  refine AW.seq (AW.region ?_)
  refine AOL.p (P_lss rfl rfl) rfl ?_
  refine AOL.nil (thenN ?_)
  refine AW.seq ?_
  refine AW.cond (b := _) rfl (fun hc1 => ?_) (fun hc1 => ?_)
  ·
   obtain ⟨x, hx⟩ := gt2 (l := l) (k := p.1) (by have := of_decide_eq_true hc1; omega)
   have hlt := gt_lt hx
   have hle := flat_le hx
   refine AW.skip ?_
   refine thenN ?_
   refine AW.seq ?_
   refine AW.block ?_
   refine AW.seq (AW.region ?_)
   refine AOL.p (P_indexAddr (c := [.str _]) tok rfl rfl rfl rfl rfl rfl (by omega) (sc_at hx)) rfl ?_
   refine AOL.p (P_load_ptr (c := .str _) tok rfl rfl rfl) rfl ?_
   refine AOL.p (P_assign (v := .str _) rfl) rfl ?_
   refine AOL.nil (thenN ?_)
   refine AW.region ?_
   refine AOL.p (P_move (v := .val _) rfl) rfl ?_
   refine AOL.p (P_nilCheck rfl) rfl ?_
   refine AOL.p (P_fieldAddr_val tok rfl rfl rfl rfl rfl rfl) rfl ?_
   refine AOL.p (P_move (v := .str _) rfl) rfl ?_
   refine AOL.e (E_callf (by kernel_rfl) rfl rfl (k_write b 62 p.2.2.2 hR.2.2 p.2.2.1 p.2.1 x (FNS b) (wlies b) (by rw [hR.2.1, List.length_append]; unfold big at hb; omega) R)) rfl ?_
   rintro _ _ ⟨v16, rfl, rfl⟩
   refine AOL.nil ?_
   refine blkN ?_
   refine thenN ?_
   refine AW.region ?_
   refine AOL.p (P_add rfl rfl rfl (by constructor <;> omega)) rfl ?_
   refine AOL.p (P_move (v := .int .i64 _) rfl) rfl ?_
   refine AOL.nil (thenN ?_)
   refine ⟨(p.1 + 1, p.2.1 ++ x, v16, some ⟨b, 0, none⟩), ?_, ?_, GS.weaken ⟨rfl, rfl, rfl, rfl, trivial⟩ (.refl _)⟩
   · exact ⟨hlt, by rw [flat_take hx, ← List.append_assoc, ← hR.2.1], .inr rfl⟩
   · simp only; omega
  ·
   have hk : l.length ≤ p.1 := by have := of_decide_eq_false hc1; omega
   refine AW.exit ?_
   refine thenE ?_
   refine thenE ?_
   refine blkHit ?_
   refine ⟨.inl rfl, [], .nil, _, .refl _, ?_⟩
   exact wq hR.2.2 (by rw [hR.2.1, List.take_of_length_le hk])

end Go.Proofs.YtabkeeedkhgodaaGreatDoor
