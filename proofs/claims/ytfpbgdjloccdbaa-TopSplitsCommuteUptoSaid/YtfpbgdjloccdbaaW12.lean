/-
  The walk of Split. No condition.
-/
import Derived.Test.YtfpbgdjloccdbaaW12a
import Derived.KernelRfl
namespace Go.Proofs.Ytfpbgdjloccdbaa
open Go Go.Aw
set_option linter.unusedVariables false
set_option linter.unusedSimpArgs false

set_option maxRecDepth 20000 in
/-- a new key: its entry, and a row for what it will hold -/
theorem E_entryRow {d : Option Nat} {ty : TypeId} {pos : String} {aft : Array Edge} {gd : Option (Nat × Bool)} {ρ : Operand → AV} {t : TypeId} {m k : Operand} {kt et b i E z : Nat} {td tk te : TD} {gs : List (Nat × Nat × Bool × Nat)} {n : List AV} {es : List (List AV × AV)} {eq : List AV → Bool} {r : Bool} {H : List HO} (ht : tget TL t = some td) (hk : td.kind = .map kt et) (htk : tget TL kt = some tk) (hkk : tk.kind = .struct gs)
    (hte : tget TL et = some te) (hzs : zscal Try.prog et = true) (hzv : (Try.prog.info? et).bind (fun i => i.zero) = some (.slice none 0 0)) (hz : te.zero = [.sl z []])
    (hm : ρ m = .val (.map (some b))) (hkey : ρ k = .agg n) (hnn : aeqs TL gs n n = some r) (heq : ∀ p ∈ es, aeqs TL gs n p.1 = some (eq p.1)) (hH : H[i]? = some (.kmap b es)) (hnew : kget eq es = none) :
    OpE Try.prog ⟨d, .mapEntry t m k, ty, pos, aft, gd⟩ ρ H (fun y H' => y = .tuple [.row (.slice none 0 0) z [], .int .i64 ((es.length : Nat) : Int)] ∧ H' = .row (.slice none 0 0) 0 E z :: H.set i (.kmap b (es ++ [(n, .row (.slice none 0 0) z [])]))) := by
  intro g w a next Q hr hHK hn
  refine E_mapEntryNewV (P := Try.prog) (T := TL) (eq := eq) (zv := .slice none 0 0) (y := .row (.slice none 0 0) z []) tok ht hk htk hkk hte hzs hzv (fun _ _ => .row _ _ _ (.sl0 _ _ _ (Nat.zero_le _))) hm hkey hnn heq hH hnew g w a next Q hr hHK fun g' w' v x H' h1 h2 h3 h4 => ?_
  obtain ⟨rfl, rfl⟩ := h1
  exact hn g' w' v _ _ ⟨rfl, rfl⟩ h2 (h3.cons (.inl ⟨rfl, rfl⟩) (fun b hb => by simp [HO.blk] at hb)) h4

set_option maxRecDepth 20000 in
set_option maxHeartbeats 400000 in
theorem s_Split (l : List Ev) (hl : l.length ≤ 12) (hv : ∀ e ∈ l, e.values.length ≤ 1048576) (key : List Int) : APure Try.prog 9 [.sl 5 (l.map cEv), .sl 1 (key.map cI)] (.tuple [.sl 3 ((splitS l key).1.map cV), .sl 1 ((splitS l key).2.1.map cLs), .int .i64 (splitS l key).2.2]) := by
  refine APure.body (n := 78) tok Try.func9 rfl rfl rfl fun H => ?_
  refine AW.seq ?_
  refine AW.region ?_
  refine AOL.p (P_assign_nil (z := 3) rfl) rfl ?_
  refine AOL.p (P_assign_nil (z := 1) rfl) rfl ?_
  refine AOL.p (P_assign (v := .int .i64 _) rfl) rfl ?_
  refine AOL.nil ?_
  refine thenN ?_
  refine AW.seq ?_
  refine AW.seq ?_
  refine AW.region ?_
  refine AOL.p (P_move (v := .sl _ _) rfl) rfl ?_
  refine AOL.p (P_callf (by kernel_rfl) rfl rfl (s_Check l)) rfl ?_
  refine AOL.p (P_assign (v := .int .i64 _) rfl) rfl ?_
  refine AOL.nil ?_
  refine thenN ?_
  refine AW.seq ?_
  refine AW.region ?_
  refine AOL.p (P_move (v := .int .i64 _) rfl) rfl ?_
  refine AOL.p (P_neq rfl rfl) rfl ?_
  refine AOL.nil ?_
  refine thenN ?_
  refine AW.cond (b := _) rfl (fun hc1 => ?_) (fun hc1 => ?_)
  · skip
    refine AW.seq ?_
    refine AW.region ?_
    refine AOL.p (P_move (v := .int .i64 _) rfl) rfl ?_
    refine AOL.p (P_assign_nil (z := 3) rfl) rfl ?_
    refine AOL.p (P_assign_nil (z := 1) rfl) rfl ?_
    refine AOL.p (P_assign (v := .int .i64 _) rfl) rfl ?_
    refine AOL.nil ?_
    refine thenN ?_
    refine AW.ret ?_
    refine thenR ?_
    refine ⟨.inr rfl, [.sl _ _, .sl _ _, .int .i64 _], .cons (.tmp _ _ rfl) <| .cons (.tmp _ _ rfl) <| .cons (.tmp _ _ rfl) <| .nil, .refl _, ?_⟩
    rw [show splitS l key = ([], [], streamS l) by unfold splitS; rw [if_pos hc1]]; rfl
  · skip
    refine AW.skip ?_
    refine thenN ?_
    refine AW.seq ?_
    refine AW.region ?_
    refine AOL.e (E_makeKMap) rfl ?_
    rintro _ _ ⟨b23, rfl, rfl⟩
    refine AOL.p (P_assign (v := .val _) rfl) rfl ?_
    refine AOL.nil ?_
    refine thenN ?_
    refine AW.seq ?_
    refine AW.region ?_
    refine AOL.p (P_assign (v := .val _) rfl) rfl ?_
    refine AOL.ghost (GS.buf 39 3) ?_
    refine AOL.nil ?_
    refine thenN ?_
    refine AW.seq ?_
    refine AW.seq ?_
    refine AW.region ?_
    refine AOL.p (P_move (v := .sl _ _) rfl) rfl ?_
    refine AOL.p (P_len_sl (n := l.length) tok rfl rfl rfl (by simp)) rfl ?_
    refine AOL.p (P_move (v := .int .i64 _) rfl) rfl ?_
    refine AOL.nil ?_
    refine thenN ?_
    refine AW.block ?_
    refine AW.loopS (fun (p : Nat × List PR × Value) => (⟨[(1, .sl 1 (key.map cI)), (8, .val (.map (some b23))), (9, .val p.2.2), (24, .sl 5 (l.map cEv)), (25, .int .i64 l.length), (26, .int .i64 (p.1 : Int))], .buf p.2.2 ((pKeys p.2.1).map cV) 39 3 :: .kmap b23 (pMap p.2.1) :: (pRows p.2.1 ++ H), 78⟩ : St)) (fun (p : Nat × List PR × Value) => p.1 ≤ l.length ∧ splitGo key [] l = splitGo key (plain p.2.1) (l.drop p.1) ∧ (∀ q ∈ p.2.1, q.2.2 ≠ []) ∧ p.2.1.length ≤ p.1 ∧ (∀ q ∈ p.2.1, q.2.2.length ≤ p.1)) (fun (p : Nat × List PR × Value) => l.length - p.1) ((0, [], .slice none 0 0)) ?_ (GS.weaken ⟨rfl, rfl, rfl, rfl, rfl, rfl, trivial⟩ (.refl _)) ?_
    · exact ⟨Nat.zero_le _, rfl, by simp, Nat.le_refl _, by simp⟩
    · rintro p hR
      have hpl := hR.2.2.2.1
      refine AW.seq ?_
      refine AW.region ?_
      refine AOL.p (P_lss rfl rfl) rfl ?_
      refine AOL.nil ?_
      refine thenN ?_
      refine AW.seq ?_
      refine AW.cond (b := _) rfl (fun hc2 => ?_) (fun hc2 => ?_)
      · skip
        obtain ⟨a, ha⟩ := get_lt hc2
        have hlt := get_lt' ha
        have hm := List.mem_of_getElem? ha
        have hg := hR.2.1
        rw [drop_cons ha] at hg
        refine AW.skip ?_
        refine thenN ?_
        refine AW.seq ?_
        refine AW.block ?_
        refine AW.seq ?_
        refine AW.region ?_
        refine AOL.p (P_indexAddr (c := [.int .i64 _, .int .i64 _, .int .i64 _, .int .i64 _, _]) tok rfl rfl rfl rfl rfl rfl (by omega) (map_at ha)) rfl ?_
        refine AOL.p (P_load_ptr_agg (l := [.int .i64 _, .int .i64 _, .int .i64 _, .int .i64 _, _]) tok rfl rfl rfl rfl rfl) rfl ?_
        refine AOL.e (E_alloc (l := [.int .i64 0, .int .i64 0, .int .i64 0, .int .i64 0, .sl 3 []]) (by kernel_rfl)) rfl ?_
        rintro _ _ ⟨b11, rfl, rfl⟩
        refine AOL.e (E_store (k := 0) (v := .agg _) (cs' := [.int .i64 _, .int .i64 _, .int .i64 _, .int .i64 _, _]) (H2 := _ :: _ :: _ :: _) tok rfl rfl rfl rfl rfl rfl rfl rfl rfl) rfl ?_
        rintro _ _ ⟨rfl, rfl⟩
        refine AOL.ghost (GS.freeze (t := 11) 0 rfl rfl) ?_
        refine AOL.nil ?_
        refine thenN ?_
        refine AW.seq ?_
        refine AW.region ?_
        refine AOL.p (P_load_ptr_agg (l := [.int .i64 _, .int .i64 _, .int .i64 _, .int .i64 _, _]) tok rfl rfl rfl rfl rfl) rfl ?_
        refine AOL.p (P_move (v := .sl _ _) rfl) rfl ?_
        refine AOL.p (P_callf (by kernel_rfl) rfl rfl (s_keyed a key)) rfl ?_
        refine AOL.p (P_move (v := .tuple _) rfl) rfl ?_
        refine AOL.p (P_extract (v := .agg [.int .i64 _, .int .i64 _, .str _]) rfl rfl) rfl ?_
        refine AOL.p (P_extract (v := .bool _) rfl rfl) rfl ?_
        refine AOL.p (P_extract (v := .int .i64 _) rfl rfl) rfl ?_
        refine AOL.e (E_alloc (l := [.int .i64 0, .int .i64 0, .str []]) (by kernel_rfl)) rfl ?_
        rintro _ _ ⟨b12, rfl, rfl⟩
        refine AOL.e (E_store (k := 0) (v := .agg _) (cs' := [.int .i64 _, .int .i64 _, .str _]) (H2 := _ :: _ :: _ :: _) tok rfl rfl rfl rfl rfl rfl rfl rfl rfl) rfl ?_
        rintro _ _ ⟨rfl, rfl⟩
        refine AOL.p (P_assign (v := .bool _) rfl) rfl ?_
        refine AOL.p (P_assign (v := .int .i64 _) rfl) rfl ?_
        refine AOL.ghost (GS.freeze (t := 12) 0 rfl rfl) ?_
        refine AOL.nil ?_
        refine thenN ?_
        refine AW.seq ?_
        refine AW.seq ?_
        refine AW.region ?_
        refine AOL.p (P_move (v := .int .i64 _) rfl) rfl ?_
        refine AOL.p (P_neq rfl rfl) rfl ?_
        refine AOL.nil ?_
        refine thenN ?_
        refine AW.cond (b := _) rfl (fun hc3 => ?_) (fun hc3 => ?_)
        · skip
          refine AW.seq ?_
          refine AW.region ?_
          refine AOL.p (P_move (v := .int .i64 _) rfl) rfl ?_
          refine AOL.p (P_assign_nil (z := 3) rfl) rfl ?_
          refine AOL.p (P_assign_nil (z := 1) rfl) rfl ?_
          refine AOL.p (P_assign (v := .int .i64 _) rfl) rfl ?_
          refine AOL.nil ?_
          refine thenN ?_
          refine AW.ret ?_
          refine thenR ?_
          refine blkR ?_
          refine thenR ?_
          refine thenR ?_
          refine blkR ?_
          refine thenR ?_
          refine ⟨.inr rfl, [.sl _ _, .sl _ _, .int .i64 _], .cons (.tmp _ _ rfl) <| .cons (.tmp _ _ rfl) <| .cons (.tmp _ _ rfl) <| .nil, .cons _ (.cons _ ((List.sublist_append_right _ _))), ?_⟩
          rw [split_err hc3] at hg
          rw [show splitS l key = ([], [], (keyed a key).2.2) by unfold splitS; rw [ifF hc1, hg, if_pos hc3]]; rfl
        · skip
          refine AW.skip ?_
          refine thenN ?_
          refine AW.seq ?_
          refine AW.seq ?_
          refine AW.region ?_
          refine AOL.p (P_move (v := .bool _) rfl) rfl ?_
          refine AOL.p (P_not rfl) rfl ?_
          refine AOL.nil ?_
          refine thenN ?_
          refine AW.cond (b := _) rfl (fun hc4 => ?_) (fun hc4 => ?_)
          · skip
            refine AW.exit ?_
            refine thenE ?_
            refine blkHit ?_
            refine thenN ?_
            refine AW.region ?_
            refine AOL.p (P_add rfl rfl rfl (by constructor <;> omega)) rfl ?_
            refine AOL.p (P_move (v := .int .i64 _) rfl) rfl ?_
            refine AOL.nil ?_
            refine thenN ?_
            refine ⟨(p.1 + 1, p.2.1, p.2.2), ?_, ?_, GS.trans (GS.refl _) (GS.weaken ⟨rfl, rfl, rfl, rfl, rfl, rfl, trivial⟩ (.refl _))⟩
            · exact ⟨hlt, by rw [hg, split_skip hc3 hc4], hR.2.2.1, by simp only; omega, fun q hq => Nat.le_succ_of_le (hR.2.2.2.2 q hq)⟩
            · simp only; omega
          · skip
            refine AW.skip ?_
            refine thenN ?_
            refine AW.seq ?_
            refine AW.seq ?_
            refine AW.region ?_
            refine AOL.p (P_move (v := .val _) rfl) rfl ?_
            refine AOL.p (P_load_ptr_agg (l := [.int .i64 _, .int .i64 _, .str _]) tok rfl rfl rfl rfl rfl) rfl ?_
            refine AOL.pk (OpP.toW (P_klook (i := 1) (eq := eqVl (keyed a key).1) tok rfl rfl rfl rfl rfl (by kernel_rfl) rfl rfl (rfl) (pMap_eq (keyed a key).1 p.2.1) (look_def (.sl 5 []))) (look_p (keyed a key).1 p.2.1)) rfl rfl ?_
            refine AOL.p (P_len_sl (n := (partOf (plain p.2.1) (keyed a key).1).length) tok rfl rfl rfl (by simp)) rfl ?_
            refine AOL.p (P_eql rfl rfl) rfl ?_
            refine AOL.nil ?_
            refine thenN ?_
            refine AW.cond (b := _) rfl (fun hc5 => ?_) (fun hc5 => ?_)
            · skip
              have hnone := map_len0 hR.2.2.1 hc5
              refine AW.region ?_
              refine AOL.p (P_move (v := .val _) rfl) rfl ?_
              refine AOL.p (P_load_ptr_agg (l := [.int .i64 _, .int .i64 _, .str _]) tok rfl rfl rfl rfl rfl) rfl ?_
              refine AOL.p (P_buildSlice (es := [[.int .i64 _, .int .i64 _, .str _]]) tok rfl rfl rfl rfl rfl rfl rfl rfl rfl) rfl ?_
              refine AOL.e (E_appendBuf (k := 0) tok rfl rfl rfl rfl rfl rfl rfl rfl (rfl) (by simp [pKeys]; omega) (by simp [pKeys, maxLen]; omega)) rfl ?_
              rintro _ _ ⟨v50, rfl, rfl⟩
              refine AOL.p (P_assign (v := .val _) rfl) rfl ?_
              refine AOL.nil ?_
              refine thenN ?_
              refine AW.draw mixed (fun _ => True) trivial (by kernel_rfl) ?_
              refine Canon.pure _ _ 0 _ _ rfl (by kernel_rfl) (by kernel_rfl) rfl (.run rfl (P_move (v := .val _) rfl)) ?_
              refine Canon.pure _ _ 1 _ _ rfl (by kernel_rfl) (by kernel_rfl) rfl (.run rfl (P_load_ptr_agg (l := [.int .i64 _, .int .i64 _, .str _]) tok rfl rfl rfl rfl rfl)) ?_
              refine Canon.pure _ _ 2 _ _ rfl (by kernel_rfl) (by kernel_rfl) rfl (.run rfl (P_load_ptr_agg (l := [.int .i64 _, .int .i64 _, .int .i64 _, .int .i64 _, _]) tok rfl rfl rfl rfl rfl)) ?_
              refine Canon.pure _ _ 3 _ _ rfl (by kernel_rfl) (by kernel_rfl) rfl (.run rfl (P_callf (by kernel_rfl) rfl rfl (s_copied a (hv a hm)))) ?_
              refine Canon.pure _ _ 4 _ _ rfl (by kernel_rfl) (by kernel_rfl) rfl (.run rfl (P_buildSlice (es := [[.int .i64 _, .int .i64 _, .int .i64 _, .int .i64 _, _]]) tok rfl rfl rfl rfl rfl rfl rfl rfl rfl)) ?_
              refine Canon.eff _ _ 5 _ _ rfl (by kernel_rfl) rfl rfl (E_entryRow (i := 1) (E := 30) (eq := eqVl (keyed a key).1) rfl rfl rfl rfl rfl (by kernel_rfl) (by kernel_rfl) rfl rfl rfl rfl (pMap_eq (keyed a key).1 p.2.1) rfl (by rw [kget_p, hnone]; rfl)) (fun _ _ _ => trivial) ?_
              rintro _ _ ⟨rfl, rfl⟩
              refine Canon.pure _ _ 6 _ _ rfl (by kernel_rfl) (by kernel_rfl) rfl (.run rfl (P_extract (v := .row _ _ _) rfl rfl)) ?_
              refine Canon.pure _ _ 8 _ _ rfl (by kernel_rfl) (by kernel_rfl) rfl (.run rfl (P_extract (v := .int .i64 _) rfl rfl)) ?_
              refine Canon.eff _ _ 7 _ _ rfl (by kernel_rfl) rfl rfl (E_append (k := 0) tok rfl rfl rfl rfl rfl rfl rfl rfl (sc_one rfl) sc_nil (by show (0 + 1) * 56 ≤ _; omega) (by simp [maxLen])) (fun _ _ _ => trivial) ?_
              rintro _ _ ⟨v58, rfl, rfl⟩
              refine Canon.eff _ _ 9 _ _ rfl (by kernel_rfl) rfl rfl (E_entryStore (i := 2) (j := (pMap p.2.1).length) (x := .row v58 5 [cEv a]) rfl rfl rfl rfl (pMap_end _ _ _) rfl) (fun _ _ _ => trivial) ?_
              rintro _ _ ⟨rfl, rfl⟩
              refine Canon.done _ _ (by kernel_rfl) ?_
              refine blkN ?_
              refine thenN ?_
              refine AW.region ?_
              refine AOL.p (P_add rfl rfl rfl (by constructor <;> omega)) rfl ?_
              refine AOL.p (P_move (v := .int .i64 _) rfl) rfl ?_
              refine AOL.nil ?_
              refine thenN ?_
              refine ⟨(p.1 + 1, p.2.1 ++ [((keyed a key).1, v58, [a])], v50), ?_, ?_, GS.trans (GS.trans (GS.heapTo (H2 := .row v58 [cEv a].length 30 5 :: .buf v50 ((pKeys p.2.1).map cV ++ [cV (keyed a key).1]) 39 3 :: .kmap b23 (pMap (p.2.1 ++ [((keyed a key).1, v58, [a])])) :: (pRows p.2.1 ++ H)) (congrArg (fun x => HO.row v58 [cEv a].length 30 5 :: HO.buf v50 ((pKeys p.2.1).map cV ++ [cV (keyed a key).1]) 39 3 :: HO.kmap b23 x :: (pRows p.2.1 ++ H)) (kput_end p.2.1 (keyed a key).1 _ v58 a))) (GS.trans (GS.perm (rows_perm _ _ p.2.1 (keyed a key).1 v58 a H)) (GS.heapTo (H2 := .buf v50 ((pKeys (p.2.1 ++ [((keyed a key).1, v58, [a])])).map cV) 39 3 :: .kmap b23 (pMap (p.2.1 ++ [((keyed a key).1, v58, [a])])) :: (pRows (p.2.1 ++ [((keyed a key).1, v58, [a])]) ++ H)) (congrArg (fun x => HO.buf v50 x 39 3 :: HO.kmap b23 (pMap (p.2.1 ++ [((keyed a key).1, v58, [a])])) :: (pRows (p.2.1 ++ [((keyed a key).1, v58, [a])]) ++ H)) (by unfold pKeys; simp))))) (GS.weaken ⟨rfl, rfl, rfl, rfl, rfl, rfl, trivial⟩ (.refl _))⟩
              · exact ⟨hlt, by rw [hg, split_put hc3 hc4, put_new v58 hnone], by intro q hq; rcases List.mem_append.1 hq with h | h; exact hR.2.2.1 q h; rw [List.mem_singleton.1 h]; simp, by simp; omega, by intro q hq; rcases List.mem_append.1 hq with h | h; exact Nat.le_succ_of_le (hR.2.2.2.2 q h); rw [List.mem_singleton.1 h]; simp⟩
              · simp only; omega
            · skip
              refine (map_len1 hc5).elim fun j hj0 => ?_
              refine hj0.elim fun q hq0 => ?_
              have hj1 := hq0.1
              have hj2 := hq0.2.1
              have hj3 := hq0.2.2
              have hjm := List.mem_of_getElem? hj2
              have hqs := hR.2.2.2.2 q hjm
              refine AW.skip ?_
              refine thenN ?_
              refine AW.draw mixed (fun _ => True) trivial (by kernel_rfl) ?_
              refine Canon.pure _ _ 0 _ _ rfl (by kernel_rfl) (by kernel_rfl) rfl (.run rfl (P_move (v := .val _) rfl)) ?_
              refine Canon.pure _ _ 1 _ _ rfl (by kernel_rfl) (by kernel_rfl) rfl (.run rfl (P_load_ptr_agg (l := [.int .i64 _, .int .i64 _, .str _]) tok rfl rfl rfl rfl rfl)) ?_
              refine Canon.pure _ _ 2 _ _ rfl (by kernel_rfl) (by kernel_rfl) rfl (.run rfl (P_load_ptr_agg (l := [.int .i64 _, .int .i64 _, .int .i64 _, .int .i64 _, _]) tok rfl rfl rfl rfl rfl)) ?_
              refine Canon.pure _ _ 3 _ _ rfl (by kernel_rfl) (by kernel_rfl) rfl (.run rfl (P_callf (by kernel_rfl) rfl rfl (s_copied a (hv a hm)))) ?_
              refine Canon.pure _ _ 4 _ _ rfl (by kernel_rfl) (by kernel_rfl) rfl (.run rfl (P_buildSlice (es := [[.int .i64 _, .int .i64 _, .int .i64 _, .int .i64 _, _]]) tok rfl rfl rfl rfl rfl rfl rfl rfl rfl)) ?_
              refine Canon.eff _ _ 5 _ _ rfl (by kernel_rfl) rfl rfl (E_mapEntry (i := 1) (eq := eqVl (keyed a key).1) tok rfl rfl rfl rfl rfl rfl rfl (pMap_eq (keyed a key).1 p.2.1) rfl (by rw [kidx_p]; exact hj1) (pMap_at hj2 hj3) rfl) (fun _ _ _ => trivial) ?_
              rintro _ _ ⟨rfl, rfl⟩
              refine Canon.pure _ _ 6 _ _ rfl (by kernel_rfl) (by kernel_rfl) rfl (.run rfl (P_extract (v := .row _ _ _) rfl rfl)) ?_
              refine Canon.pure _ _ 8 _ _ rfl (by kernel_rfl) (by kernel_rfl) rfl (.run rfl (P_extract (v := .int .i64 _) rfl rfl)) ?_
              refine Canon.eff _ _ 7 _ _ rfl (by kernel_rfl) rfl rfl (E_append (k := j + 2) tok rfl rfl rfl rfl rfl rfl rfl (row_at hj2) (sc_one rfl) (sc_map fun _ => rfl) (by rw [List.length_map]; show (q.2.2.length + 1) * 56 ≤ _; omega) (by rw [List.length_map]; simp [maxLen]; omega)) (fun _ _ _ => trivial) ?_
              rintro _ _ ⟨v58, rfl, rfl⟩
              refine Canon.eff _ _ 9 _ _ rfl (by kernel_rfl) rfl rfl (E_entryStore (i := 1) (j := j) (x := .row v58 5 (q.2.2.map cEv ++ [cEv a])) rfl rfl rfl rfl (pMap_at hj2 hj3) rfl) (fun _ _ _ => trivial) ?_
              rintro _ _ ⟨rfl, rfl⟩
              refine Canon.done _ _ (by kernel_rfl) ?_
              refine blkN ?_
              refine thenN ?_
              refine AW.region ?_
              refine AOL.p (P_add rfl rfl rfl (by constructor <;> omega)) rfl ?_
              refine AOL.p (P_move (v := .int .i64 _) rfl) rfl ?_
              refine AOL.nil ?_
              refine thenN ?_
              refine ⟨(p.1 + 1, p.2.1.set j (q.1, v58, q.2.2 ++ [a]), p.2.2), ?_, ?_, GS.trans (GS.heapTo (old_heap p.2.2 v58 b23 a H hj2)) (GS.weaken ⟨rfl, rfl, rfl, rfl, rfl, rfl, trivial⟩ (.refl _))⟩
              · exact ⟨hlt, by rw [hg, split_put hc3 hc4, put_old v58 hj1 hj2], not_nil hR.2.2.1, by rw [List.length_set]; simp only; omega, small_set hjm hR.2.2.2.2⟩
              · simp only; omega
      · skip
        have hd := get_end hc2
        have hg := hR.2.1
        rw [hd] at hg
        refine AW.exit ?_
        refine thenE ?_
        refine thenE ?_
        refine blkHit ?_
        refine thenN ?_
        refine AW.seq ?_
        refine AW.region ?_
        refine AOL.p (P_move (v := .val _) rfl) rfl ?_
        refine AOL.e (E_callf (by kernel_rfl) rfl rfl (s_sortV 14 (by kernel_rfl) vCmp v_Compare (pKeys p.2.1) (by unfold pKeys; rw [List.length_map]; omega) p.2.2 _)) rfl ?_
        rintro _ _ ⟨rfl, rfl⟩
        refine AOL.nil ?_
        refine thenN ?_
        refine AW.seq ?_
        refine AW.region ?_
        refine AOL.p (P_assign (v := .val _) rfl) rfl ?_
        refine AOL.ghost (GS.row (t := 15) 24 1 rfl) ?_
        refine AOL.nil ?_
        refine thenN ?_
        refine AW.seq ?_
        refine AW.seq ?_
        refine AW.ghost (GS.freezeBuf (t := 9) 1 rfl rfl) ?_
        refine AW.region ?_
        refine AOL.p (P_move (v := .sl _ _) rfl) rfl ?_
        refine AOL.p (P_len_sl (n := (sortS v0 vLt (pKeys p.2.1)).length) tok rfl rfl rfl (List.length_map ..)) rfl ?_
        refine AOL.p (P_move (v := .int .i64 _) rfl) rfl ?_
        refine AOL.nil ?_
        refine thenN ?_
        refine AW.block ?_
        have hkl : (sortS v0 vLt (pKeys p.2.1)).length ≤ 12 := by rw [sort_len]; unfold pKeys; rw [List.length_map]; omega
        refine AW.loopS (fun (r : Nat × List (List AV) × Value) => (⟨[(8, .val (.map (some b23))), (9, .sl 3 ((sortS v0 vLt (pKeys p.2.1)).map cV)), (15, .row r.2.2 1 r.2.1), (63, .sl 3 ((sortS v0 vLt (pKeys p.2.1)).map cV)), (64, .int .i64 (sortS v0 vLt (pKeys p.2.1)).length), (65, .int .i64 (r.1 : Int))], .row r.2.2 r.2.1.length 24 1 :: .kmap b23 (pMap p.2.1) :: H, 78⟩ : St)) (fun (r : Nat × List (List AV) × Value) => r.1 ≤ (sortS v0 vLt (pKeys p.2.1)).length ∧ r.2.1 = (((sortS v0 vLt (pKeys p.2.1)).take r.1).map (partOf (plain p.2.1))).map cLs) (fun (r : Nat × List (List AV) × Value) => (sortS v0 vLt (pKeys p.2.1)).length - r.1) ((0, [], .slice none 0 0)) ?_ (GS.weaken ⟨rfl, rfl, rfl, rfl, rfl, rfl, trivial⟩ (.cons_cons _ (.cons_cons _ ((List.sublist_append_right _ _))))) ?_
        · exact ⟨Nat.zero_le _, rfl⟩
        · rintro r hQ
          have hsc : ∀ c ∈ r.2.1, scalars c = true := by rw [hQ.2]; exact sc_map fun _ => rfl
          have hel : r.2.1.length ≤ r.1 := by rw [hQ.2]; simp; omega
          refine AW.seq ?_
          refine AW.region ?_
          refine AOL.p (P_lss rfl rfl) rfl ?_
          refine AOL.nil ?_
          refine thenN ?_
          refine AW.seq ?_
          refine AW.cond (b := _) rfl (fun hc6 => ?_) (fun hc6 => ?_)
          · skip
            obtain ⟨c, hc⟩ := get_lt hc6
            have hlc := get_lt' hc
            have hce : c = c := rfl
            refine AW.skip ?_
            refine thenN ?_
            refine AW.seq ?_
            refine AW.block ?_
            refine AW.seq ?_
            refine AW.region ?_
            refine AOL.p (P_indexAddr (c := [.int .i64 _, .int .i64 _, .str _]) tok rfl rfl rfl rfl rfl rfl (by omega) (map_at hc)) rfl ?_
            refine AOL.p (P_load_ptr_agg (l := [.int .i64 _, .int .i64 _, .str _]) tok rfl rfl rfl rfl rfl) rfl ?_
            refine AOL.e (E_alloc (l := [.int .i64 0, .int .i64 0, .str []]) (by kernel_rfl)) rfl ?_
            rintro _ _ ⟨b17, rfl, rfl⟩
            refine AOL.e (E_store (k := 0) (v := .agg _) (cs' := [.int .i64 _, .int .i64 _, .str _]) (H2 := _ :: _ :: _ :: _) tok rfl rfl rfl rfl rfl rfl rfl rfl rfl) rfl ?_
            rintro _ _ ⟨rfl, rfl⟩
            refine AOL.ghost (GS.freeze (t := 17) 0 rfl rfl) ?_
            refine AOL.nil ?_
            refine thenN ?_
            refine AW.region ?_
            refine AOL.p (P_move (v := .row _ _ _) rfl) rfl ?_
            refine AOL.p (P_move (v := .val _) rfl) rfl ?_
            refine AOL.p (P_load_ptr_agg (l := [.int .i64 _, .int .i64 _, .str _]) tok rfl rfl rfl rfl rfl) rfl ?_
            refine AOL.pk (OpP.toW (P_klook (i := 1) (eq := eqVl c) tok rfl rfl rfl rfl rfl (by kernel_rfl) rfl rfl (rfl) (pMap_eq c p.2.1) (look_def (.sl 5 []))) (look_p c p.2.1)) rfl rfl ?_
            refine AOL.p (P_buildSlice (es := [[_]]) tok rfl rfl rfl rfl rfl rfl rfl rfl rfl) rfl ?_
            refine AOL.e (E_append (k := 0) tok rfl rfl rfl rfl rfl rfl rfl rfl (sc_one rfl) (hsc) (by simp; omega) (by simp [maxLen]; omega)) rfl ?_
            rintro _ _ ⟨v74, rfl, rfl⟩
            refine AOL.p (P_assign (v := .row _ _ _) rfl) rfl ?_
            refine AOL.nil ?_
            refine blkN ?_
            refine thenN ?_
            refine AW.region ?_
            refine AOL.p (P_add rfl rfl rfl (by constructor <;> omega)) rfl ?_
            refine AOL.p (P_move (v := .int .i64 _) rfl) rfl ?_
            refine AOL.nil ?_
            refine thenN ?_
            refine ⟨(r.1 + 1, r.2.1 ++ [cLs (partOf (plain p.2.1) c)], v74), ?_, ?_, GS.weaken ⟨rfl, rfl, rfl, rfl, rfl, rfl, trivial⟩ (.refl _)⟩
            · exact ⟨hlc, by simp only; rw [take_get hc, List.map_append, List.map_append, hQ.2]; rfl⟩
            · simp only; omega
          · skip
            have hte := take_end hc6
            refine AW.exit ?_
            refine thenE ?_
            refine thenE ?_
            refine blkHit ?_
            refine thenN ?_
            refine AW.seq ?_
            refine AW.region ?_
            refine AOL.p (P_move (v := .sl _ _) rfl) rfl ?_
            refine AOL.ghost (GS.unrow 15 rfl) ?_
            refine AOL.p (P_move (v := .sl _ _) rfl) rfl ?_
            refine AOL.p (P_assign (v := .sl _ _) rfl) rfl ?_
            refine AOL.p (P_assign (v := .sl _ _) rfl) rfl ?_
            refine AOL.p (P_assign (v := .int .i64 _) rfl) rfl ?_
            refine AOL.nil ?_
            refine thenN ?_
            refine AW.ret ?_
            refine ⟨.inr rfl, [.sl _ _, .sl _ _, .int .i64 _], .cons (.tmp _ _ rfl) <| .cons (.tmp _ _ rfl) <| .cons (.tmp _ _ rfl) <| .nil, .cons _ (.cons _ (.refl _)), ?_⟩
            rw [hte] at hQ
            have h9 : splitS l key = (sortS v0 vLt (pKeys p.2.1), (sortS v0 vLt (pKeys p.2.1)).map (partOf (plain p.2.1)), 0) := by
              have hk : pKeys p.2.1 = (plain p.2.1).map (·.1) := by unfold pKeys plain; rw [List.map_map]; rfl
              unfold splitS; rw [ifF hc1, hg, hk]; rfl
            rw [h9, hQ.2]; rfl

end Go.Proofs.Ytfpbgdjloccdbaa
