/-
  Walks of the parser: events, and what follows in patterns. No condition.
-/
import Derived.Test.YtabkeeedkhgodaaGreatDoorV6
import Derived.KernelRfl
namespace Go.Proofs.YtabkeeedkhgodaaGreatDoor
open Go Go.Aw
set_option linter.unusedVariables false
set_option linter.unusedSimpArgs false

theorem okD_zero {D : Int} (hD : 0 ≤ D) {st : PS} (h : okD D st) : okD 0 st := ⟨h.1, by have := h.2.1; omega, h.2.2⟩
theorem okD_rng {D : Int} (hD : 0 ≤ D) {st : PS} (h : okD D st) : Rng st := ⟨by have := h.2.1; omega, h.2.2⟩
theorem okD_goes {D : Int} {a b : PS} (h : okD D a) (g : Goes a b) : okD D b := (okD_of g.1 g.2.2).2 h
/-- A tree whose kids still grow. -/
abbrev cRw (z : Syn) (v : Value) (es : List (List AV)) : List AV := [.int .i64 z.kind, .str z.text, .str z.name, .int .i64 z.num, .row v 6 es, .int .i64 z.pos]
set_option maxRecDepth 20000 in
set_option maxHeartbeats 400000 in
theorem p_event (st : PS) (bp : Nat) (E : PS → Syn × PS) (hFE : Fine E) (hE : ∀ (st : PS) (bp : Nat), okD 0 st → PCallS Tryz.prog 40 bp 70 (cP st) (cP (E st).2) [.val (.pointer (some ⟨bp, 0, none⟩))] (.agg (cSyn (E st).1))) (hO : okD 0 st) : PCallS Tryz.prog 141 bp 70 (cP st) (cP ((eventP E st).2)) [.val (.pointer (some ⟨bp, 0, none⟩))] (.agg (cSyn (eventP E st).1)) := by
 intro H
 have hS := hO.1
 refine ACall.body (n := 18) tok Tryz.func141 rfl rfl rfl ?_
 refine AW.seq (AW.region ?_)
 refine AOL.e (E_alloc (l := [.int .i64 0, .str [], .str [], .int .i64 0, .sl 6 [], .int .i64 0]) (by kernel_rfl)) rfl ?_
 rintro _ _ ⟨b2, rfl, rfl⟩
 refine AOL.nil (thenN ?_)
 refine AW.seq (AW.region ?_)
 refine AOL.p (P_move (v := .val _) rfl) rfl ?_
 refine AOL.pk (P_callf_k (k := 1) (by kernel_rfl) rfl rfl (p_offset _ _)) rfl rfl ?_
 refine AOL.p (P_move (v := .val _) rfl) rfl ?_
 refine AOL.e (E_callf (by kernel_rfl) rfl rfl ((p_name _ _ (by simpa using hS)).at (k := 1) (H2 := _ :: _ :: _) rfl rfl)) rfl ?_
 rintro _ _ ⟨rfl, rfl⟩
 refine AOL.p (P_move (v := .val _) rfl) rfl ?_
 refine AOL.e (E_callf (by kernel_rfl) rfl rfl ((p_name _ _ (by simpa using hS)).at (k := 1) (H2 := _ :: _ :: _) rfl rfl)) rfl ?_
 rintro _ _ ⟨rfl, rfl⟩
 refine AOL.p (P_build (l := [.int .i64 _, .str _, .str _, .int .i64 _, _, .int .i64 _]) tok rfl rfl rfl) rfl ?_
 refine AOL.e (E_alloc (l := [.int .i64 0, .str [], .str [], .int .i64 0, .sl 6 [], .int .i64 0]) (by kernel_rfl)) rfl ?_
 rintro _ _ ⟨b3, rfl, rfl⟩
 refine AOL.e (E_store (k := 0) (v := .agg _) (cs' := [.int .i64 _, .str _, .str _, .int .i64 _, _, .int .i64 _]) (H2 := _ :: _ :: _ :: _) tok rfl rfl rfl rfl rfl rfl rfl rfl rfl) rfl ?_
 rintro _ _ ⟨rfl, rfl⟩
 refine AOL.nil (thenN ?_)
 refine AW.seq ?_
 refine AW.seq (AW.region ?_)
 refine AOL.p (P_move (v := .val _) rfl) rfl ?_
 refine AOL.e (E_callf (by kernel_rfl) rfl rfl ((p_accept _ _ _ (by simpa using hS) (by first | assumption | decide)).at (k := 2) (H2 := _ :: _ :: _ :: _) rfl rfl)) rfl ?_
 rintro _ _ ⟨rfl, rfl⟩
 refine AOL.nil (thenN ?_)
 refine AW.cond (b := _) rfl (fun hc1 => ?_) (fun hc1 => ?_)
 ·
  try simp only [Bool.not_eq_true', Bool.not_eq_false'] at hc1
  refine AW.ghost (GS.cellsTo (H2 := _ :: _ :: _ :: _) 2 rfl (congrArg cP (acc_yes hc1)) rfl) ?_
  refine AW.region ?_
  refine AOL.p (P_move (v := .val _) rfl) rfl ?_
  refine AOL.e (E_callf (by kernel_rfl) rfl rfl ((hE _ bp (by simpa using hO)).at (k := 2) (H2 := _ :: _ :: _ :: _) rfl rfl)) rfl ?_
  rintro _ _ ⟨rfl, rfl⟩
  refine AOL.p (P_buildSlice (es := [[.int .i64 _, .str _, .str _, .int .i64 _, _, .int .i64 _]]) tok rfl rfl rfl rfl rfl rfl rfl rfl rfl) rfl ?_
  refine AOL.p (P_fieldAddr_val tok rfl rfl rfl rfl rfl rfl) rfl ?_
  refine AOL.e (E_store (k := 0) (v := .sl _ _) (cs' := [.int .i64 _, .str _, .str _, .int .i64 _, _, .int .i64 _]) (H2 := _ :: _ :: _ :: _) tok rfl rfl rfl rfl rfl rfl rfl rfl rfl) rfl ?_
  rintro _ _ ⟨rfl, rfl⟩
  refine AOL.nil (thenN ?_)
  refine AW.seq (AW.region ?_)
  refine AOL.pk (P_load_box_agg (k := 0) (l := [.int .i64 _, .str _, .str _, .int .i64 _, _, .int .i64 _]) tok rfl rfl rfl rfl rfl) rfl rfl ?_
  refine AOL.e (E_store (k := 1) (v := .agg _) (cs' := [.int .i64 _, .str _, .str _, .int .i64 _, _, .int .i64 _]) (H2 := _ :: _ :: _ :: _) tok rfl rfl rfl rfl rfl rfl rfl rfl rfl) rfl ?_
  rintro _ _ ⟨rfl, rfl⟩
  refine AOL.nil (thenN ?_)
  refine AW.ret ?_
  refine ⟨.inr rfl, [.agg [.int .i64 _, .str _, .str _, .int .i64 _, _, .int .i64 _]], .cons (.box _ _ _ 1 _ _ _ _ rfl rfl rfl rfl rfl rfl) <| .nil, _, .cons _ (.cons _ (.refl _)), ?_⟩
  refine ⟨?_, congrArg (fun c => HO.box bp 70 c :: H) ?_⟩
  ·
   try simp only [resOf, eventP, cSyn, List.map_cons, List.map_nil, encS_eq, hc1, ↓reduceIte, Bool.false_eq_true, Bool.not_true, Bool.not_false]
   try rfl
  ·
   try simp only [cP, eventP, hc1, ↓reduceIte, Bool.false_eq_true, Bool.not_true, Bool.not_false]
   try rfl
 ·
  try simp only [Bool.not_eq_true', Bool.not_eq_false'] at hc1
  refine AW.ghost (GS.cellsTo (H2 := _ :: _ :: _ :: _) 2 rfl (congrArg cP (acc_no hc1)) rfl) ?_
  refine AW.skip ?_
  refine thenN ?_
  refine AW.seq (AW.region ?_)
  refine AOL.pk (P_load_box_agg (k := 0) (l := [.int .i64 _, .str _, .str _, .int .i64 _, _, .int .i64 _]) tok rfl rfl rfl rfl rfl) rfl rfl ?_
  refine AOL.e (E_store (k := 1) (v := .agg _) (cs' := [.int .i64 _, .str _, .str _, .int .i64 _, _, .int .i64 _]) (H2 := _ :: _ :: _ :: _) tok rfl rfl rfl rfl rfl rfl rfl rfl rfl) rfl ?_
  rintro _ _ ⟨rfl, rfl⟩
  refine AOL.nil (thenN ?_)
  refine AW.ret ?_
  refine ⟨.inr rfl, [.agg [.int .i64 _, .str _, .str _, .int .i64 _, _, .int .i64 _]], .cons (.box _ _ _ 1 _ _ _ _ rfl rfl rfl rfl rfl rfl) <| .nil, _, .cons _ (.cons _ (.refl _)), ?_⟩
  refine ⟨?_, congrArg (fun c => HO.box bp 70 c :: H) ?_⟩
  ·
   try simp only [resOf, eventP, cSyn, List.map_cons, List.map_nil, encS_eq, hc1, ↓reduceIte, Bool.false_eq_true, Bool.not_true, Bool.not_false]
   try rfl
  ·
   try simp only [cP, eventP, hc1, ↓reduceIte, Bool.false_eq_true, Bool.not_true, Bool.not_false]
   try rfl
set_option maxRecDepth 20000 in
set_option maxHeartbeats 400000 in
theorem p_form2 (st : PS) (bp : Nat) (z : Syn) (bo : Nat) (v : Value) (es : List (List AV)) (he : es = z.kids.map encS) (hz : z.kids.length ≤ 1000) (R : List HO) (E : PS → Syn × PS) (hFE : Fine E) (hE : ∀ (st : PS) (bp : Nat), okD 0 st → PCallS Tryz.prog 40 bp 70 (cP st) (cP (E st).2) [.val (.pointer (some ⟨bp, 0, none⟩))] (.agg (cSyn (E st).1))) (hO : okD 0 st) : ACall Tryz.prog 161 (.box bp 70 (cP st) :: .box bo 24 (cRw z v es) :: .row v es.length 24 6 :: R) [.val (.pointer (some ⟨bp, 0, none⟩)), .val (.pointer (some ⟨bo, 0, none⟩))] (fun r H' => r = .tuple [] ∧ ∃ v' es', es' = (restP E dullP 10 z st).1.kids.map encS ∧ H' = .box bp 70 (cP (restP E dullP 10 z st).2) :: .box bo 24 (cRw (restP E dullP 10 z st).1 v' es') :: .row v' es'.length 24 6 :: R) := by
 have hS := hO.1
 have hsc : ∀ c ∈ es, scalars c = true := by rw [he]; exact sc_syn _
 have hel : es.length ≤ 1000 := by rw [he, List.length_map]; exact hz
 refine ACall.body (n := 18) tok Tryz.func161 rfl rfl rfl ?_
 refine AW.ghostPost ?_
 refine AW.seq (AW.region ?_)
 refine AOL.p (P_move (v := .val _) rfl) rfl ?_
 refine AOL.e (E_callf (by kernel_rfl) rfl rfl ((p_expect _ _ _ (by simpa using hS) (by first | assumption | decide)).at (k := 0) (H2 := _ :: _ :: _ :: _) rfl rfl)) rfl ?_
 rintro _ _ ⟨rfl, rfl⟩
 refine AOL.nil (thenN ?_)
 refine AW.draw mixed (fun H' => _ ∈ H') (List.mem_of_getElem? (i := 1) rfl) (by kernel_rfl) ?_
 refine Canon.pure _ _ 0 _ _ rfl (by kernel_rfl) (by kernel_rfl) rfl (.run rfl (P_move (v := .val _) rfl)) ?_
 refine Canon.pure _ _ 1 _ _ rfl (by kernel_rfl) (by kernel_rfl) rfl (.run rfl (P_nilCheck rfl)) ?_
 refine Canon.pure _ _ 2 _ _ rfl (by kernel_rfl) (by kernel_rfl) rfl (.run rfl (P_fieldAddr_val tok rfl rfl rfl rfl rfl rfl)) ?_
 refine Canon.pure _ _ 3 _ _ rfl (by kernel_rfl) (by kernel_rfl) rfl (.run rfl (OpP.mem (fun k => P_load_box (k := k) (c := .row _ _ _) tok rfl rfl rfl rfl) (fun _ h => h))) ?_
 refine Canon.pure _ _ 4 _ _ rfl (by kernel_rfl) (by kernel_rfl) rfl (.run rfl (P_move (v := .val _) rfl)) ?_
 refine Canon.pure _ _ 6 _ _ rfl (by kernel_rfl) (by kernel_rfl) rfl (.run rfl (P_len_row tok rfl rfl rfl rfl)) ?_
 refine Canon.pure _ _ 7 _ _ rfl (by kernel_rfl) (by kernel_rfl) rfl (.run rfl (P_buildSliceC tok rfl rfl rfl rfl rfl rfl rfl rfl rfl)) ?_
 refine Canon.eff _ _ 5 _ _ rfl (by kernel_rfl) rfl rfl (E_callf (by kernel_rfl) rfl rfl ((p_event (expP w_comma st) bp E hFE hE (by simpa using hO)).at (k := 0) (H2 := _ :: _ :: _ :: _) rfl rfl)) (by rintro _ _ ⟨rfl, rfl⟩; simp) ?_
 rintro _ _ ⟨rfl, rfl⟩
 refine Canon.sync (fun _ => True) _ _ 8 _ _ rfl (by kernel_rfl) rfl rfl (E_appendZ (k := 2) tok rfl rfl rfl rfl rfl rfl rfl rfl (sc_one rfl) rfl (hsc) (by simp; omega) (by simp [maxLen]; omega)) (by kernel_rfl) (fun _ _ _ => trivial) ?_
 rintro _ _ ⟨ba14, ca14, rfl, rfl⟩
 refine Canon.pure _ _ 9 _ _ rfl (by kernel_rfl) (by kernel_rfl) rfl (.run rfl (P_indexAddr_val (o' := es.length * 6) tok rfl rfl rfl rfl rfl (by omega) (by omega) (by simp))) ?_
 refine Canon.pure _ _ 11 _ _ rfl (by kernel_rfl) (by kernel_rfl) rfl (.run rfl (P_nilCheck rfl)) ?_
 refine Canon.pure _ _ 12 _ _ rfl (by kernel_rfl) (by kernel_rfl) rfl (.run rfl (P_fieldAddr_val tok rfl rfl rfl rfl rfl rfl)) ?_
 refine Canon.two _ _ 10 13 _ _ _ _ rfl rfl (by kernel_rfl) rfl rfl rfl rfl (E_storeApp (k := 2) (v := .agg _) (H2 := _ :: _ :: _ :: _) tok rfl rfl rfl rfl (by simp) (by simp) rfl rfl rfl rfl) (E_store (k := 1) (v := .val _) (cs' := [.int .i64 _, .str _, .str _, .int .i64 _, _, .int .i64 _]) (H2 := _ :: _ :: _ :: _) tok rfl rfl rfl rfl rfl rfl rfl rfl rfl) (by rintro _ _ ⟨rfl, rfl⟩; trivial) (by rintro _ _ ⟨rfl, rfl⟩; trivial) ?_ ?_
 ·
  rintro _ _ ⟨rfl, rfl⟩
  refine Canon.eff _ _ 13 _ _ rfl (by kernel_rfl) rfl rfl (E_store (k := 1) (v := .val _) (cs' := [.int .i64 _, .str _, .str _, .int .i64 _, _, .int .i64 _]) (H2 := _ :: _ :: _ :: _) tok rfl rfl rfl rfl rfl rfl rfl rfl rfl) (fun _ _ _ => trivial) ?_
  rintro _ _ ⟨rfl, rfl⟩
  refine Canon.done _ _ (by kernel_rfl) ?_
  refine ⟨_, GS.appCell (H2 := _ :: _ :: _ :: _) 2 1 4 rfl (by simp) rfl rfl rfl rfl, .inl rfl, [], .nil, _, .refl _, ?_⟩
  exact ⟨rfl, _, _, syn_next he, rfl⟩
 ·
  rintro _ _ ⟨rfl, rfl⟩
  refine Canon.eff _ _ 10 _ _ rfl (by kernel_rfl) rfl rfl (E_storeApp (k := 2) (v := .agg _) (H2 := _ :: _ :: _ :: _) tok rfl rfl rfl rfl (by simp) (by simp) rfl rfl rfl rfl) (fun _ _ _ => trivial) ?_
  rintro _ _ ⟨rfl, rfl⟩
  refine Canon.done _ _ (by kernel_rfl) ?_
  refine ⟨_, GS.appCell (H2 := _ :: _ :: _ :: _) 2 1 4 rfl (by simp) rfl rfl rfl rfl, .inl rfl, [], .nil, _, .refl _, ?_⟩
  exact ⟨rfl, _, _, syn_next he, rfl⟩
set_option maxRecDepth 20000 in
set_option maxHeartbeats 400000 in
theorem p_form1 (st : PS) (bp : Nat) (z : Syn) (bo : Nat) (v : Value) (es : List (List AV)) (he : es = z.kids.map encS) (hz : z.kids.length ≤ 1000) (R : List HO) : ACall Tryz.prog 160 (.box bp 70 (cP st) :: .box bo 24 (cRw z v es) :: .row v es.length 24 6 :: R) [.val (.pointer (some ⟨bp, 0, none⟩)), .val (.pointer (some ⟨bo, 0, none⟩))] (fun r H' => r = .tuple [] ∧ ∃ v' es', es' = (restP dullP dullP 9 z st).1.kids.map encS ∧ H' = .box bp 70 (cP (restP dullP dullP 9 z st).2) :: .box bo 24 (cRw (restP dullP dullP 9 z st).1 v' es') :: .row v' es'.length 24 6 :: R) := by
 refine ACall.body (n := 4) tok Tryz.func160 rfl rfl rfl ?_
 refine AW.skip ?_
 refine ⟨.inl rfl, [], .nil, _, .refl _, ?_⟩
 exact ⟨rfl, _, _, he, rfl⟩
set_option maxRecDepth 20000 in
set_option maxHeartbeats 400000 in
theorem p_form3 (st : PS) (bp : Nat) (z : Syn) (bo : Nat) (v : Value) (es : List (List AV)) (he : es = z.kids.map encS) (hz : z.kids.length ≤ 1000) (R : List HO) (hS : okS st) : ACall Tryz.prog 162 (.box bp 70 (cP st) :: .box bo 24 (cRw z v es) :: .row v es.length 24 6 :: R) [.val (.pointer (some ⟨bp, 0, none⟩)), .val (.pointer (some ⟨bo, 0, none⟩))] (fun r H' => r = .tuple [] ∧ ∃ v' es', es' = (restP dullP dullP 11 z st).1.kids.map encS ∧ H' = .box bp 70 (cP (restP dullP dullP 11 z st).2) :: .box bo 24 (cRw (restP dullP dullP 11 z st).1 v' es') :: .row v' es'.length 24 6 :: R) := by
 refine ACall.body (n := 11) tok Tryz.func162 rfl rfl rfl ?_
 refine AW.seq (AW.region ?_)
 refine AOL.p (P_move (v := .val _) rfl) rfl ?_
 refine AOL.e (E_callf (by kernel_rfl) rfl rfl ((p_expect _ _ _ (by simpa using hS) (by first | assumption | decide)).at (k := 0) (H2 := _ :: _ :: _ :: _) rfl rfl)) rfl ?_
 rintro _ _ ⟨rfl, rfl⟩
 refine AOL.nil (thenN ?_)
 refine AW.region ?_
 refine AOL.p (P_move (v := .val _) rfl) rfl ?_
 refine AOL.p (P_move (v := .val _) rfl) rfl ?_
 refine AOL.e (E_callf (by kernel_rfl) rfl rfl ((p_number _ _ (by simpa using hS)).at (k := 0) (H2 := _ :: _ :: _ :: _) rfl rfl)) rfl ?_
 rintro _ _ ⟨rfl, rfl⟩
 refine AOL.p (P_nilCheck rfl) rfl ?_
 refine AOL.p (P_fieldAddr_val tok rfl rfl rfl rfl rfl rfl) rfl ?_
 refine AOL.e (E_store (k := 1) (v := .int .i64 _) (cs' := [.int .i64 _, .str _, .str _, .int .i64 _, _, .int .i64 _]) (H2 := _ :: _ :: _ :: _) tok rfl rfl rfl rfl rfl rfl rfl rfl rfl) rfl ?_
 rintro _ _ ⟨rfl, rfl⟩
 refine AOL.nil ?_
 refine ⟨.inl rfl, [], .nil, _, .refl _, ?_⟩
 exact ⟨rfl, _, _, he, rfl⟩
set_option maxRecDepth 20000 in
set_option maxHeartbeats 400000 in
theorem p_form4 (st : PS) (bp : Nat) (z : Syn) (bo : Nat) (v : Value) (es : List (List AV)) (he : es = z.kids.map encS) (hz : z.kids.length ≤ 1000) (R : List HO) (E : PS → Syn × PS) (hFE : Fine E) (hE : ∀ (st : PS) (bp : Nat), okD 0 st → PCallS Tryz.prog 40 bp 70 (cP st) (cP (E st).2) [.val (.pointer (some ⟨bp, 0, none⟩))] (.agg (cSyn (E st).1))) (hO : okD 0 st) : ACall Tryz.prog 164 (.box bp 70 (cP st) :: .box bo 24 (cRw z v es) :: .row v es.length 24 6 :: R) [.val (.pointer (some ⟨bp, 0, none⟩)), .val (.pointer (some ⟨bo, 0, none⟩))] (fun r H' => r = .tuple [] ∧ ∃ v' es', es' = (restP E dullP 12 z st).1.kids.map encS ∧ H' = .box bp 70 (cP (restP E dullP 12 z st).2) :: .box bo 24 (cRw (restP E dullP 12 z st).1 v' es') :: .row v' es'.length 24 6 :: R) := by
 have hS := hO.1
 have hsc : ∀ c ∈ es, scalars c = true := by rw [he]; exact sc_syn _
 have hel : es.length ≤ 1000 := by rw [he, List.length_map]; exact hz
 refine ACall.body (n := 18) tok Tryz.func164 rfl rfl rfl ?_
 refine AW.ghostPost ?_
 refine AW.seq (AW.region ?_)
 refine AOL.p (P_move (v := .val _) rfl) rfl ?_
 refine AOL.e (E_callf (by kernel_rfl) rfl rfl ((p_expect _ _ _ (by simpa using hS) (by first | assumption | decide)).at (k := 0) (H2 := _ :: _ :: _ :: _) rfl rfl)) rfl ?_
 rintro _ _ ⟨rfl, rfl⟩
 refine AOL.nil (thenN ?_)
 refine AW.draw mixed (fun H' => _ ∈ H') (List.mem_of_getElem? (i := 1) rfl) (by kernel_rfl) ?_
 refine Canon.pure _ _ 0 _ _ rfl (by kernel_rfl) (by kernel_rfl) rfl (.run rfl (P_move (v := .val _) rfl)) ?_
 refine Canon.pure _ _ 1 _ _ rfl (by kernel_rfl) (by kernel_rfl) rfl (.run rfl (P_nilCheck rfl)) ?_
 refine Canon.pure _ _ 2 _ _ rfl (by kernel_rfl) (by kernel_rfl) rfl (.run rfl (P_fieldAddr_val tok rfl rfl rfl rfl rfl rfl)) ?_
 refine Canon.pure _ _ 3 _ _ rfl (by kernel_rfl) (by kernel_rfl) rfl (.run rfl (OpP.mem (fun k => P_load_box (k := k) (c := .row _ _ _) tok rfl rfl rfl rfl) (fun _ h => h))) ?_
 refine Canon.pure _ _ 4 _ _ rfl (by kernel_rfl) (by kernel_rfl) rfl (.run rfl (P_move (v := .val _) rfl)) ?_
 refine Canon.pure _ _ 6 _ _ rfl (by kernel_rfl) (by kernel_rfl) rfl (.run rfl (P_len_row tok rfl rfl rfl rfl)) ?_
 refine Canon.pure _ _ 7 _ _ rfl (by kernel_rfl) (by kernel_rfl) rfl (.run rfl (P_buildSliceC tok rfl rfl rfl rfl rfl rfl rfl rfl rfl)) ?_
 refine Canon.eff _ _ 5 _ _ rfl (by kernel_rfl) rfl rfl (E_callf (by kernel_rfl) rfl rfl ((hE (expP w_comma st) bp (by simpa using hO)).at (k := 0) (H2 := _ :: _ :: _ :: _) rfl rfl)) (by rintro _ _ ⟨rfl, rfl⟩; simp) ?_
 rintro _ _ ⟨rfl, rfl⟩
 refine Canon.sync (fun _ => True) _ _ 8 _ _ rfl (by kernel_rfl) rfl rfl (E_appendZ (k := 2) tok rfl rfl rfl rfl rfl rfl rfl rfl (sc_one rfl) rfl (hsc) (by simp; omega) (by simp [maxLen]; omega)) (by kernel_rfl) (fun _ _ _ => trivial) ?_
 rintro _ _ ⟨ba14, ca14, rfl, rfl⟩
 refine Canon.pure _ _ 9 _ _ rfl (by kernel_rfl) (by kernel_rfl) rfl (.run rfl (P_indexAddr_val (o' := es.length * 6) tok rfl rfl rfl rfl rfl (by omega) (by omega) (by simp))) ?_
 refine Canon.pure _ _ 11 _ _ rfl (by kernel_rfl) (by kernel_rfl) rfl (.run rfl (P_nilCheck rfl)) ?_
 refine Canon.pure _ _ 12 _ _ rfl (by kernel_rfl) (by kernel_rfl) rfl (.run rfl (P_fieldAddr_val tok rfl rfl rfl rfl rfl rfl)) ?_
 refine Canon.two _ _ 10 13 _ _ _ _ rfl rfl (by kernel_rfl) rfl rfl rfl rfl (E_storeApp (k := 2) (v := .agg _) (H2 := _ :: _ :: _ :: _) tok rfl rfl rfl rfl (by simp) (by simp) rfl rfl rfl rfl) (E_store (k := 1) (v := .val _) (cs' := [.int .i64 _, .str _, .str _, .int .i64 _, _, .int .i64 _]) (H2 := _ :: _ :: _ :: _) tok rfl rfl rfl rfl rfl rfl rfl rfl rfl) (by rintro _ _ ⟨rfl, rfl⟩; trivial) (by rintro _ _ ⟨rfl, rfl⟩; trivial) ?_ ?_
 ·
  rintro _ _ ⟨rfl, rfl⟩
  refine Canon.eff _ _ 13 _ _ rfl (by kernel_rfl) rfl rfl (E_store (k := 1) (v := .val _) (cs' := [.int .i64 _, .str _, .str _, .int .i64 _, _, .int .i64 _]) (H2 := _ :: _ :: _ :: _) tok rfl rfl rfl rfl rfl rfl rfl rfl rfl) (fun _ _ _ => trivial) ?_
  rintro _ _ ⟨rfl, rfl⟩
  refine Canon.done _ _ (by kernel_rfl) ?_
  refine ⟨_, GS.appCell (H2 := _ :: _ :: _ :: _) 2 1 4 rfl (by simp) rfl rfl rfl rfl, .inl rfl, [], .nil, _, .refl _, ?_⟩
  exact ⟨rfl, _, _, syn_next he, rfl⟩
 ·
  rintro _ _ ⟨rfl, rfl⟩
  refine Canon.eff _ _ 10 _ _ rfl (by kernel_rfl) rfl rfl (E_storeApp (k := 2) (v := .agg _) (H2 := _ :: _ :: _ :: _) tok rfl rfl rfl rfl (by simp) (by simp) rfl rfl rfl rfl) (fun _ _ _ => trivial) ?_
  rintro _ _ ⟨rfl, rfl⟩
  refine Canon.done _ _ (by kernel_rfl) ?_
  refine ⟨_, GS.appCell (H2 := _ :: _ :: _ :: _) 2 1 4 rfl (by simp) rfl rfl rfl rfl, .inl rfl, [], .nil, _, .refl _, ?_⟩
  exact ⟨rfl, _, _, syn_next he, rfl⟩
abbrev sev0 (T : PS → Syn × PS) (st : PS) : Syn × PS := T (expP w_comma st)
set_option maxRecDepth 20000 in
set_option maxHeartbeats 1600000 in
theorem p_several (st : PS) (bp : Nat) (z : Syn) (bo : Nat) (v : Value) (es : List (List AV)) (he : es = z.kids.map encS) (hz : z.kids.length ≤ 1000) (R : List HO) (D : Int) (hD : 0 ≤ D) (T : PS → Syn × PS) (hFT : Fine T) (hT : ∀ (st : PS) (bp : Nat), okD D st → PCallS Tryz.prog 108 bp 70 (cP st) (cP (T st).2) [.val (.pointer (some ⟨bp, 0, none⟩))] (.agg (cSyn (T st).1))) (hO : okD D st) : ACall Tryz.prog 159 (.box bp 70 (cP st) :: .box bo 24 (cRw z v es) :: .row v es.length 24 6 :: R) [.val (.pointer (some ⟨bp, 0, none⟩)), .val (.pointer (some ⟨bo, 0, none⟩))] (fun r H' => r = .tuple [] ∧ ∃ v' es', es' = (sevP T z st).1.kids.map encS ∧ H' = .box bp 70 (cP (sevP T z st).2) :: .box bo 24 (cRw (sevP T z st).1 v' es') :: .row v' es'.length 24 6 :: R) := by
 have hS := hO.1
 have hsc : ∀ c ∈ es, scalars c = true := by rw [he]; exact sc_syn _
 have hel : es.length ≤ 1000 := by rw [he, List.length_map]; exact hz
 have hO1 : okD D (expP w_comma st) := by simpa using hO
 have hO3 : okD D (sev0 T st).2 := hFT.okD hD hO1
 refine ACall.body (n := 32) tok Tryz.func159 rfl rfl rfl ?_
 refine AW.ghostPost ?_
 refine AW.seq (AW.region ?_)
 refine AOL.p (P_move (v := .val _) rfl) rfl ?_
 refine AOL.e (E_callf (by kernel_rfl) rfl rfl ((p_expect _ _ _ (by simpa using hS) (by first | assumption | decide)).at (k := 0) (H2 := _ :: _ :: _ :: _) rfl rfl)) rfl ?_
 rintro _ _ ⟨rfl, rfl⟩
 refine AOL.nil (thenN ?_)
 refine AW.cut (fun (q : Value) => (⟨[(0, .val (.pointer (some ⟨bp, 0, none⟩))), (1, .val (.pointer (some ⟨bo, 0, none⟩)))], .box bp 70 (cP (sev0 T st).2) :: .box bo 24 (cRw z q (es ++ [cSyn (sev0 T st).1])) :: .row q (es ++ [cSyn (sev0 T st).1]).length 24 6 :: R, 32⟩ : St)) (fun (q : Value) => True) ?_ ?_
 ·
  refine AW.draw mixed (fun H' => _ ∈ H') (List.mem_of_getElem? (i := 1) rfl) (by kernel_rfl) ?_
  refine Canon.pure _ _ 0 _ _ rfl (by kernel_rfl) (by kernel_rfl) rfl (.run rfl (P_move (v := .val _) rfl)) ?_
  refine Canon.pure _ _ 1 _ _ rfl (by kernel_rfl) (by kernel_rfl) rfl (.run rfl (P_nilCheck rfl)) ?_
  refine Canon.pure _ _ 2 _ _ rfl (by kernel_rfl) (by kernel_rfl) rfl (.run rfl (P_fieldAddr_val tok rfl rfl rfl rfl rfl rfl)) ?_
  refine Canon.pure _ _ 3 _ _ rfl (by kernel_rfl) (by kernel_rfl) rfl (.run rfl (OpP.mem (fun k => P_load_box (k := k) (c := .row _ _ _) tok rfl rfl rfl rfl) (fun _ h => h))) ?_
  refine Canon.pure _ _ 4 _ _ rfl (by kernel_rfl) (by kernel_rfl) rfl (.run rfl (P_move (v := .val _) rfl)) ?_
  refine Canon.pure _ _ 6 _ _ rfl (by kernel_rfl) (by kernel_rfl) rfl (.run rfl (P_len_row tok rfl rfl rfl rfl)) ?_
  refine Canon.pure _ _ 7 _ _ rfl (by kernel_rfl) (by kernel_rfl) rfl (.run rfl (P_buildSliceC tok rfl rfl rfl rfl rfl rfl rfl rfl rfl)) ?_
  refine Canon.eff _ _ 5 _ _ rfl (by kernel_rfl) rfl rfl (E_callf (by kernel_rfl) rfl rfl ((hT (expP w_comma st) bp hO1).at (k := 0) (H2 := _ :: _ :: _ :: _) rfl rfl)) (by rintro _ _ ⟨rfl, rfl⟩; simp) ?_
  rintro _ _ ⟨rfl, rfl⟩
  refine Canon.sync (fun _ => True) _ _ 8 _ _ rfl (by kernel_rfl) rfl rfl (E_appendZ (k := 2) tok rfl rfl rfl rfl rfl rfl rfl rfl (sc_one rfl) rfl (hsc) (by simp; omega) (by simp [maxLen]; omega)) (by kernel_rfl) (fun _ _ _ => trivial) ?_
  rintro _ _ ⟨ba14, ca14, rfl, rfl⟩
  refine Canon.pure _ _ 9 _ _ rfl (by kernel_rfl) (by kernel_rfl) rfl (.run rfl (P_indexAddr_val (o' := es.length * 6) tok rfl rfl rfl rfl rfl (by omega) (by omega) (by simp))) ?_
  refine Canon.pure _ _ 11 _ _ rfl (by kernel_rfl) (by kernel_rfl) rfl (.run rfl (P_nilCheck rfl)) ?_
  refine Canon.pure _ _ 12 _ _ rfl (by kernel_rfl) (by kernel_rfl) rfl (.run rfl (P_fieldAddr_val tok rfl rfl rfl rfl rfl rfl)) ?_
  refine Canon.two _ _ 10 13 _ _ _ _ rfl rfl (by kernel_rfl) rfl rfl rfl rfl (E_storeApp (k := 2) (v := .agg _) (H2 := _ :: _ :: _ :: _) tok rfl rfl rfl rfl (by simp) (by simp) rfl rfl rfl rfl) (E_store (k := 1) (v := .val _) (cs' := [.int .i64 _, .str _, .str _, .int .i64 _, _, .int .i64 _]) (H2 := _ :: _ :: _ :: _) tok rfl rfl rfl rfl rfl rfl rfl rfl rfl) (by rintro _ _ ⟨rfl, rfl⟩; trivial) (by rintro _ _ ⟨rfl, rfl⟩; trivial) ?_ ?_
  ·
   rintro _ _ ⟨rfl, rfl⟩
   refine Canon.eff _ _ 13 _ _ rfl (by kernel_rfl) rfl rfl (E_store (k := 1) (v := .val _) (cs' := [.int .i64 _, .str _, .str _, .int .i64 _, _, .int .i64 _]) (H2 := _ :: _ :: _ :: _) tok rfl rfl rfl rfl rfl rfl rfl rfl rfl) (fun _ _ _ => trivial) ?_
   rintro _ _ ⟨rfl, rfl⟩
   refine Canon.done _ _ (by kernel_rfl) ?_
   refine thenN ?_
   refine ⟨.slice (some ⟨ba14, 0, none⟩) (es.length + 1) ca14, ?_, GS.trans (GS.appCell (H2 := _ :: _ :: _ :: _) 2 1 4 rfl (by simp) rfl rfl rfl rfl) (GS.weaken ⟨rfl, rfl, trivial⟩ (.refl _))⟩
   trivial
  ·
   rintro _ _ ⟨rfl, rfl⟩
   refine Canon.eff _ _ 10 _ _ rfl (by kernel_rfl) rfl rfl (E_storeApp (k := 2) (v := .agg _) (H2 := _ :: _ :: _ :: _) tok rfl rfl rfl rfl (by simp) (by simp) rfl rfl rfl rfl) (fun _ _ _ => trivial) ?_
   rintro _ _ ⟨rfl, rfl⟩
   refine Canon.done _ _ (by kernel_rfl) ?_
   refine thenN ?_
   refine ⟨.slice (some ⟨ba14, 0, none⟩) (es.length + 1) ca14, ?_, GS.trans (GS.appCell (H2 := _ :: _ :: _ :: _) 2 1 4 rfl (by simp) rfl rfl rfl rfl) (GS.weaken ⟨rfl, rfl, trivial⟩ (.refl _))⟩
   trivial
 ·
  rintro q _
  refine AW.block ?_
  refine AW.loopS (fun (p : Nat × PS × List Syn × List (List AV) × Value) => (⟨[(0, .val (.pointer (some ⟨bp, 0, none⟩))), (1, .val (.pointer (some ⟨bo, 0, none⟩)))], .box bp 70 (cP p.2.1) :: .box bo 24 (cRw z p.2.2.2.2 p.2.2.2.1) :: .row p.2.2.2.2 p.2.2.2.1.length 24 6 :: R, 32⟩ : St)) (fun (p : Nat × PS × List Syn × List (List AV) × Value) => p.2.2.2.1 = p.2.2.1.map encS ∧ okD D p.2.1 ∧ fuel p.2.1 ≤ p.1 ∧ p.2.2.1.length ≤ p.2.1.pos + 1002 ∧ listGo T (fuel (sev0 T st).2) (sev0 T st).2 (z.kids ++ [(sev0 T st).1]) = listGo T p.1 p.2.1 p.2.2.1) (fun (p : Nat × PS × List Syn × List (List AV) × Value) => p.1) ((fuel (sev0 T st).2, (sev0 T st).2, z.kids ++ [(sev0 T st).1], es ++ [cSyn (sev0 T st).1], q)) ?_ (GS.weaken ⟨rfl, rfl, trivial⟩ (.refl _)) ?_
  · exact ⟨syn_next he, hO3, Nat.le_refl _, by simp only [List.length_append, List.length_singleton]; omega, rfl⟩
  ·
   rintro p hR
   have hes : p.2.2.2.1 = p.2.2.1.map encS := hR.1
   have hO2 : okD D p.2.1 := hR.2.1
   have hS := hO2.1
   have hfu : fuel p.2.1 ≤ p.1 := hR.2.2.1
   have hn : 0 < p.1 := by unfold fuel at hfu; omega
   have hol : p.2.2.1.length ≤ p.2.1.pos + 1002 := hR.2.2.2.1
   have hsc2 : ∀ c ∈ p.2.2.2.1, scalars c = true := by rw [hes]; exact sc_syn _
   have hel2 : p.2.2.2.1.length = p.2.2.1.length := by rw [hes, List.length_map]
   refine AW.seq ?_
   refine AW.seq (AW.region ?_)
   refine AOL.p (P_move (v := .val _) rfl) rfl ?_
   refine AOL.e (E_callf (by kernel_rfl) rfl rfl ((p_accept _ _ _ (by simpa using hS) (by first | assumption | decide)).at (k := 0) (H2 := _ :: _ :: _ :: _) rfl rfl)) rfl ?_
   rintro _ _ ⟨rfl, rfl⟩
   refine AOL.nil (thenN ?_)
   refine AW.cond (b := _) rfl (fun hc1 => ?_) (fun hc1 => ?_)
   ·
    try simp only [Bool.not_eq_true', Bool.not_eq_false'] at hc1
    have hlt := is_lt hc1
    have hml := hS.1
    have hFa := hFT (adv p.2.1) (by have := hO2.2.1; show (0 : Int) ≤ p.2.1.depth; omega) hO2.2.2
    have hps : p.2.1.pos + 1 ≤ (T (adv p.2.1)).2.pos := hFa.2.1
    have hts : (T (adv p.2.1)).2.toks = p.2.1.toks := hFa.1
    refine AW.ghost (GS.cellsTo (H2 := _ :: _ :: _ :: _) 0 rfl (congrArg cP (acc_yes hc1)) rfl) ?_
    refine AW.skip ?_
    refine thenN ?_
    refine AW.block ?_
    refine AW.draw mixed (fun H' => _ ∈ H') (List.mem_of_getElem? (i := 1) rfl) (by kernel_rfl) ?_
    refine Canon.pure _ _ 0 _ _ rfl (by kernel_rfl) (by kernel_rfl) rfl (.run rfl (P_move (v := .val _) rfl)) ?_
    refine Canon.pure _ _ 1 _ _ rfl (by kernel_rfl) (by kernel_rfl) rfl (.run rfl (P_nilCheck rfl)) ?_
    refine Canon.pure _ _ 2 _ _ rfl (by kernel_rfl) (by kernel_rfl) rfl (.run rfl (P_fieldAddr_val tok rfl rfl rfl rfl rfl rfl)) ?_
    refine Canon.pure _ _ 3 _ _ rfl (by kernel_rfl) (by kernel_rfl) rfl (.run rfl (OpP.mem (fun k => P_load_box (k := k) (c := .row _ _ _) tok rfl rfl rfl rfl) (fun _ h => h))) ?_
    refine Canon.pure _ _ 4 _ _ rfl (by kernel_rfl) (by kernel_rfl) rfl (.run rfl (P_move (v := .val _) rfl)) ?_
    refine Canon.pure _ _ 6 _ _ rfl (by kernel_rfl) (by kernel_rfl) rfl (.run rfl (P_len_row tok rfl rfl rfl rfl)) ?_
    refine Canon.pure _ _ 7 _ _ rfl (by kernel_rfl) (by kernel_rfl) rfl (.run rfl (P_buildSliceC tok rfl rfl rfl rfl rfl rfl rfl rfl rfl)) ?_
    refine Canon.eff _ _ 5 _ _ rfl (by kernel_rfl) rfl rfl (E_callf (by kernel_rfl) rfl rfl ((hT _ bp (by simpa using hO2)).at (k := 0) (H2 := _ :: _ :: _ :: _) rfl rfl)) (by rintro _ _ ⟨rfl, rfl⟩; simp) ?_
    rintro _ _ ⟨rfl, rfl⟩
    refine Canon.sync (fun _ => True) _ _ 8 _ _ rfl (by kernel_rfl) rfl rfl (E_appendZ (k := 2) tok rfl rfl rfl rfl rfl rfl rfl rfl (sc_one rfl) rfl (hsc2) (by simp; omega) (by simp [maxLen]; omega)) (by kernel_rfl) (fun _ _ _ => trivial) ?_
    rintro _ _ ⟨ba28, ca28, rfl, rfl⟩
    refine Canon.pure _ _ 9 _ _ rfl (by kernel_rfl) (by kernel_rfl) rfl (.run rfl (P_indexAddr_val (o' := p.2.2.2.1.length * 6) tok rfl rfl rfl rfl rfl (by omega) (by omega) (by simp))) ?_
    refine Canon.pure _ _ 11 _ _ rfl (by kernel_rfl) (by kernel_rfl) rfl (.run rfl (P_nilCheck rfl)) ?_
    refine Canon.pure _ _ 12 _ _ rfl (by kernel_rfl) (by kernel_rfl) rfl (.run rfl (P_fieldAddr_val tok rfl rfl rfl rfl rfl rfl)) ?_
    refine Canon.two _ _ 10 13 _ _ _ _ rfl rfl (by kernel_rfl) rfl rfl rfl rfl (E_storeApp (k := 2) (v := .agg _) (H2 := _ :: _ :: _ :: _) tok rfl rfl rfl rfl (by simp) (by simp) rfl rfl rfl rfl) (E_store (k := 1) (v := .val _) (cs' := [.int .i64 _, .str _, .str _, .int .i64 _, _, .int .i64 _]) (H2 := _ :: _ :: _ :: _) tok rfl rfl rfl rfl rfl rfl rfl rfl rfl) (by rintro _ _ ⟨rfl, rfl⟩; trivial) (by rintro _ _ ⟨rfl, rfl⟩; trivial) ?_ ?_
    ·
     rintro _ _ ⟨rfl, rfl⟩
     refine Canon.eff _ _ 13 _ _ rfl (by kernel_rfl) rfl rfl (E_store (k := 1) (v := .val _) (cs' := [.int .i64 _, .str _, .str _, .int .i64 _, _, .int .i64 _]) (H2 := _ :: _ :: _ :: _) tok rfl rfl rfl rfl rfl rfl rfl rfl rfl) (fun _ _ _ => trivial) ?_
     rintro _ _ ⟨rfl, rfl⟩
     refine Canon.done _ _ (by kernel_rfl) ?_
     refine blkN ?_
     refine thenN ?_
     refine ⟨(p.1 - 1, (T (adv p.2.1)).2, p.2.2.1 ++ [(T (adv p.2.1)).1], p.2.2.2.1 ++ [cSyn (T (adv p.2.1)).1], .slice (some ⟨ba28, 0, none⟩) (p.2.2.2.1.length + 1) ca28), ?_, ?_, GS.trans (GS.appCell (H2 := _ :: _ :: _ :: _) 2 1 4 rfl (by simp) rfl rfl rfl rfl) (GS.weaken ⟨rfl, rfl, trivial⟩ (.refl _))⟩
     · exact ⟨syn_next hes, hFT.okD hD (by simpa using hO2), by unfold fuel at hfu ⊢; rw [hts]; simp only; omega, by simp only [List.length_append, List.length_singleton]; omega, hR.2.2.2.2.trans (by rw [listGo_pos hn, if_pos hc1])⟩
     · simp only; omega
    ·
     rintro _ _ ⟨rfl, rfl⟩
     refine Canon.eff _ _ 10 _ _ rfl (by kernel_rfl) rfl rfl (E_storeApp (k := 2) (v := .agg _) (H2 := _ :: _ :: _ :: _) tok rfl rfl rfl rfl (by simp) (by simp) rfl rfl rfl rfl) (fun _ _ _ => trivial) ?_
     rintro _ _ ⟨rfl, rfl⟩
     refine Canon.done _ _ (by kernel_rfl) ?_
     refine blkN ?_
     refine thenN ?_
     refine ⟨(p.1 - 1, (T (adv p.2.1)).2, p.2.2.1 ++ [(T (adv p.2.1)).1], p.2.2.2.1 ++ [cSyn (T (adv p.2.1)).1], .slice (some ⟨ba28, 0, none⟩) (p.2.2.2.1.length + 1) ca28), ?_, ?_, GS.trans (GS.appCell (H2 := _ :: _ :: _ :: _) 2 1 4 rfl (by simp) rfl rfl rfl rfl) (GS.weaken ⟨rfl, rfl, trivial⟩ (.refl _))⟩
     · exact ⟨syn_next hes, hFT.okD hD (by simpa using hO2), by unfold fuel at hfu ⊢; rw [hts]; simp only; omega, by simp only [List.length_append, List.length_singleton]; omega, hR.2.2.2.2.trans (by rw [listGo_pos hn, if_pos hc1])⟩
     · simp only; omega
   ·
    try simp only [Bool.not_eq_true', Bool.not_eq_false'] at hc1
    refine AW.ghost (GS.cellsTo (H2 := _ :: _ :: _ :: _) 0 rfl (congrArg cP (acc_no hc1)) rfl) ?_
    refine AW.exit ?_
    refine thenE ?_
    refine thenE ?_
    refine blkHit ?_
    refine ⟨_, GS.refl _, .inl rfl, [], .nil, _, .refl _, ?_⟩
    have h9 : sevP T z st = ({ z with kids := p.2.2.1 }, p.2.1) := by
     have h8 : listGo T (fuel (sev0 T st).2) (sev0 T st).2 (z.kids ++ [(sev0 T st).1]) = (p.2.2.1, p.2.1) := hR.2.2.2.2.trans (by rw [listGo_pos hn, if_neg (Bool.eq_false_iff.mp hc1)])
     unfold sevP
     simp only
     rw [h8]
    exact ⟨rfl, p.2.2.2.2, p.2.2.2.1, by rw [h9]; exact hes, by rw [h9]⟩

end Go.Proofs.YtabkeeedkhgodaaGreatDoor
