/-
  The abstract layer: abstract values, what represents them, states, operations, code, calls. No condition.
-/
import Derived.Test.YtoolcpnahmgnnaaDoorAw
set_option linter.unusedVariables false
set_option linter.unusedSimpArgs false
namespace Go.Aw

section
variable {P : Program} {T : List (Nat × TD)} {d : Option Nat} {ty : TypeId} {pos : String} {aft : Array Edge} {gd : Option (Nat × Bool)} {ρ : Operand → AV} {K : List HO → Prop}

/-- A pointer to something settled is not nil. -/
theorem P_nilCheck_ptr {x : Operand} {cs : List AV} (h : ρ x = .ptr cs) : OpP P ⟨d, .nilCheck x, ty, pos, aft, gd⟩ ρ K (.ptr cs) :=
  .of_run fun g w a hr => by
    have h1 := (h ▸ hr x (by simp [Op.operands]) : Rep g w _ _)
    obtain ⟨b, o, e, _⟩ := h1.inv_ptr
    exact ⟨a.eval x, by simp [execOp, e], h1⟩

/-- To unsafe.Pointer and back, by the table of types. -/
theorem P_toUnsafeT {x : Operand} {s t' e k b o TT : Nat} {te : TD} {cs : List AV} (hT : TOK P T) (hs : P.underlying s = some (.pointer e)) (hd : P.underlying t' = some .unsafePointer) (hte : tget T e = some te) (hz : Nat.beq te.size 0 = false)
    (hx : ρ x = .val (.pointer (some ⟨b, o, none⟩))) (ho : Nat.blt o cs.length = true) :
    OpP P ⟨d, .convert s t' x, ty, pos, aft, gd⟩ ρ (fun H => H[k]? = some (.box b TT cs)) (.val (.pointer (some ⟨b, o, none⟩))) := by
  obtain ⟨it, hit, his, _⟩ := (hT e te hte).info
  exact P_toUnsafe hs hd hit (by rw [his]; exact hz) hx ho
theorem P_fromUnsafeT {x : Operand} {s t' e k b o TT n : Nat} {te : TD} {cs : List AV} (hT : TOK P T) (hs : P.underlying s = some .unsafePointer) (hd : P.underlying t' = some (.pointer e)) (hte : tget T e = some te) (hn' : cs.length = n)
    (hl : liesAt P P.depth TT (n / P.cellsOf TT) o e 1 = true) (hx : ρ x = .val (.pointer (some ⟨b, o, none⟩))) :
    OpP P ⟨d, .convert s t' x, ty, pos, aft, gd⟩ ρ (fun H => H[k]? = some (.box b TT cs)) (.val (.pointer (some ⟨b, o, none⟩))) := by
  obtain ⟨it, hit, _⟩ := (hT e te hte).info
  exact P_fromUnsafe hs hd hit hn' hl hx

/-- A made slice that is not written any more. -/
theorem P_makeSlice {t e z n : Nat} {x y : Operand} {kl kc : IntKind} {td te : TD} (hT : TOK P T) (ht : tget T t = some td) (hk : td.kind = .slice e) (hte : tget T e = some te) (hz : te.size = z) (hpos : Nat.blt 0 z = true)
    (hx : ρ x = .int kl n) (hy : ρ y = .int kc n) (hb : te.bytes * n ≤ 281474976710656) (hm : n ≤ maxLen) (hzl : Nat.beq te.zero.length z = true) :
    OpP P ⟨d, .makeSlice t x y, ty, pos, aft, gd⟩ ρ K (.sl z (List.replicate n te.zero)) := by
  intro g w a H next Q hr hH _ hn
  refine E_makeSlice (H := H) hT ht hk hte hz hpos hx hy hb hm g w a next Q hr hH ?_
  rintro g' w' v _ H' ⟨b, rfl, rfl⟩ hv hH' hxx
  have hv' := hv.inv_val
  obtain ⟨hg, vs, h1, h2⟩ := hH'.ok _ (List.mem_cons_self ..)
  have hes : ∀ e ∈ List.replicate n te.zero, e.length = z := fun e he => by rw [List.eq_of_mem_replicate he]; exact Nat.eq_of_beq_eq_true hzl
  have hx2 : Ext g' w' (g'.put b none) w' := by
    refine ⟨rfl, rfl, rfl, Nat.le_refl _, fun c hc hgc => ⟨?_, rfl⟩, fun c m hc hgc => ⟨fun m' hm => ?_, fun _ _ => rfl⟩⟩
    · by_cases e : c = b
      · subst e; exact Gh.put_same _ _ _
      · rw [Gh.put_ne _ _ e]; exact hgc
    · by_cases e : c = b
      · subst e; rw [Gh.put_same] at hm; cases hm
      · rw [Gh.put_ne _ _ e, hgc] at hm; cases hm; exact Nat.le_refl _
  refine hn (g'.put b none) w' v ?_ ?_ (hxx.trans hx2)
  · rw [hv']
    refine .sl b 0 n n z _ (List.length_replicate ..).symm (Nat.le_refl _) hm hes (fun i j => vs.getD (i * z + j) undef) (fun i e hi j y hj => ⟨by unfold settled; rw [Gh.put_same]; trivial, ?_⟩) (fun i e hi j y hj => ?_)
    · have h3 := flatten_get hes hi hj
      have hlt : i * z + j < vs.size := by rw [h2.1]; exact (List.getElem?_eq_some_iff.1 h3).1
      rw [Nat.zero_add, cell_of_heap h1]; simp [hlt]
    · exact (h2.2 _ _ (flatten_get hes hi hj)).mono hx2
  · have hsub : H.Sublist (.box b e (List.replicate n te.zero).flatten :: H) := List.sublist_cons_self ..
    refine ⟨(hH'.sub hsub).nodup, fun o ho => ?_, hH'.glob.mono hx2⟩
    refine HO.ok_of_same hx2 (hH'.ok o (List.mem_cons_of_mem _ ho)) fun c hc => ⟨Gh.put_ne _ _ fun e => ?_, rfl⟩
    obtain ⟨j, hj⟩ := List.getElem?_of_mem ho
    have := hH'.nodup_blk (i := 0) (j := j + 1) rfl (by simpa using hj) rfl (e ▸ hc)
    omega

/-- The constant nil for a slice without elements. -/
theorem APure.nil2 {f : FuncId} {x r : AV} {z : Nat} (h : APure P f [x, .sl z []] r) : APure P f [x, .val (.slice none 0 0)] r := by
  intro H g w vs hH ha
  refine h H g w vs hH ⟨ha.1, fun i y hi => ?_⟩
  match i, hi with
  | 0, hi => cases hi; exact ha.2 0 _ rfl
  | 1, hi => cases hi; rw [(ha.2 1 _ rfl).inv_val]; exact .sl0 _ _ _ (Nat.zero_le _)
  | i + 2, hi => simp at hi

/-- A part of a made slice. -/
theorem P_slice_val {x : Operand} {lo hi : Option Operand} {t e z b o n c : Nat} {td te : TD} {l h o' : Nat} (hT : TOK P T) (hx : ρ x = .val (.slice (some ⟨b, o, none⟩) n c)) (ht : tget T t = some td) (hk : td.kind = .slice e) (hte : tget T e = some te) (hz : te.size = z)
    (hlo : match lo with | none => l = 0 | some y => ∃ k, ρ y = .int k (l : Int)) (hhi : match hi with | none => h = n | some y => ∃ k, ρ y = .int k (h : Int)) (h1 : l ≤ h) (h2 : h ≤ n) (h3 : n ≤ c) (hlc : l < c) (ho : o + l * z = o') :
    OpP P ⟨d, .slice t x lo hi none, ty, pos, aft, gd⟩ ρ K (.val (.slice (some ⟨b, o', none⟩) (h - l) (c - l))) :=
  .of_run fun g w a hr => by
    have e1 := (hx ▸ hr x (by simp [Op.operands]) : Rep g w _ _).inv_val
    have hu := slice_inv (hT t td ht) hk
    have hsz := size_run (hT e te hte) w
    subst ho
    have e2 : ∀ v, lo.map a.eval = some v → ∃ k, v = .int k (l : Int) := fun v hv => by
      cases lo with
      | none => cases hv
      | some y =>
        obtain ⟨k, hk⟩ := hlo
        simp only [Option.map_some, Option.some.injEq] at hv; subst hv
        exact ⟨k, (hk ▸ hr y (by simp [Op.operands]) : Rep g w _ _).inv_int⟩
    have e3 : ∀ v, hi.map a.eval = some v → ∃ k, v = .int k (h : Int) := fun v hv => by
      cases hi with
      | none => cases hv
      | some y =>
        obtain ⟨k, hk⟩ := hhi
        simp only [Option.map_some, Option.some.injEq] at hv; subst hv
        exact ⟨k, (hk ▸ hr y (by simp [Op.operands]) : Rep g w _ _).inv_int⟩
    have key : (Instr.sliceBounds true n c (lo.map a.eval) (hi.map a.eval) none).run P w = .ok (l, h, c) w := by
      unfold Instr.sliceBounds
      simp only [Sem.run_bind, Sem.run_pure, Result.andThen_ok]
      cases hh : hi.map a.eval with
      | none =>
        have : h = n := by cases hi with | none => exact hhi | some y => cases hh
        subst this
        simp only [Sem.run_pure, Result.andThen_ok]
        cases hl : lo.map a.eval with
        | none =>
          have : l = 0 := by cases lo with | none => exact hlo | some y => cases hl
          subst this; rfl
        | some v => obtain ⟨k, rfl⟩ := e2 v hl; simp [sliceBound_run (P := P) (k := k) (n := (l : Int)) (y := h) (by omega) (by omega)]
      | some v =>
        obtain ⟨k, rfl⟩ := e3 v hh
        simp only [sliceBound_run (P := P) (k := k) (n := (h : Int)) (y := c) (by omega) (by omega), Sem.run_bind, Result.andThen_ok, Int.toNat_natCast]
        cases hl : lo.map a.eval with
        | none =>
          have : l = 0 := by cases lo with | none => exact hlo | some y => cases hl
          subst this; rfl
        | some v => obtain ⟨k, rfl⟩ := e2 v hl; simp [sliceBound_run (P := P) (k := k) (n := (l : Int)) (y := h) (by omega) (by omega)]
    refine ⟨_, ?_, .val _⟩
    have hne : ¬ c = l := by omega
    simp only [execOp, e1, Instr.sliceAt, Sem.run_bind, under_run hu, Result.andThen_ok, Instr.slice, Option.map_none, key, hsz, hz, Sem.run_pure, if_neg hne, Option.map_some, add_lit]

/-- copy within one made slice, cell by cell. -/
theorem E_copyVal {x y : Operand} {t u e k b o o2 dn dc sn sc m TT : Nat} {td te : TD} {cs cs' : List AV} {H H2 : List HO} (hT : TOK P T) (hx : ρ x = .val (.slice (some ⟨b, o, none⟩) dn dc)) (hy : ρ y = .val (.slice (some ⟨b, o2, none⟩) sn sc)) (ht : tget T t = some td) (hk : td.kind = .slice e)
    (hte : tget T e = some te) (hz : te.size = 1) (hH : H[k]? = some (.box b TT cs)) (hsc : scalars cs = true) (hm : Nat.min sn dn = m) (h1 : o + m ≤ cs.length) (h2 : o2 + m ≤ cs.length) (hcs : setSeg cs o ((cs.drop o2).take m) = cs') (hH2 : H.set k (.box b TT cs') = H2) :
    OpE P ⟨d, .call ⟨.builtin .copy, #[x, y], #[t, u]⟩, ty, pos, aft, gd⟩ ρ H (fun r H' => r = .int .i64 (m : Int) ∧ H' = H2) := by
  subst hH2; subst hcs
  intro g w a next Q hr hHK hn
  have e1 := (hx ▸ hr x (by simp [Op.operands, Call.operands]) : Rep g w _ _).inv_val
  have e2 := (hy ▸ hr y (by simp [Op.operands, Call.operands]) : Rep g w _ _).inv_val
  have hu := slice_inv (hT t td ht) hk
  obtain ⟨it, hit, his, _⟩ := (hT e te hte).info
  obtain ⟨hg, vs, h5, h6⟩ := hHK.ok _ (List.mem_of_getElem? hH)
  have hone : ∀ v ∈ vs.toList, v.oneCell' = true := fun v hv => by
    obtain ⟨i, hi⟩ := List.getElem?_of_mem hv
    have hi' : vs[i]? = some v := by simpa using hi
    have hil : i < cs.length := by rw [← h6.1]; exact (Array.getElem?_eq_some_iff.1 hi').1
    have hr7 := h6.2 i _ (List.getElem?_eq_getElem hil)
    have : vs.getD i undef = v := by rw [Array.getD_eq_getD_getElem?, hi']; rfl
    rw [this] at hr7
    exact oneCell_of hr7 (scalars_mem hsc _ (List.getElem_mem hil))
  have hnl : ((vs.toList.drop o2).take m).length = m := by rw [List.length_take, List.length_drop, Array.length_toList, h6.1]; omega
  have hrun := run_copy_row (P := P) w t u ty e b o dn dc ⟨b, o2, none⟩ sn sc vs TT ((vs.toList.drop o2).take m) hu (by rw [hit]; simp [his, hz]) h5 (by rw [hnl]; exact hm.symm) (fun j v hj => by
      rw [add_lit, cell_of_heap h5]
      rw [List.getElem?_take] at hj
      split at hj
      · rw [List.getElem?_drop] at hj; simpa using hj
      · cases hj) (by rw [hnl, h6.1]; exact h1) (fun v hv => hone v (List.mem_of_mem_drop (List.mem_of_mem_take hv)))
  rw [hnl] at hrun
  have hx : Ext g w g (w.setRow b (vs.toList.take o ++ (vs.toList.drop o2).take m ++ vs.toList.drop (o + m)).toArray) := Ext.setRow hg
  unfold Oper.wp
  rw [exec_builtin' (v := goInt m) (w' := w.setRow b (vs.toList.take o ++ (vs.toList.drop o2).take m ++ vs.toList.drop (o + m)).toArray) (by
    have : (#[x, y] : Array Operand).map a.eval = #[a.eval x, a.eval y] := by simp
    rw [this, e1, e2]
    simp only [builtin, Sem.run_bind, hrun, Result.andThen_ok, Sem.run_pure])]
  refine hn g _ _ _ _ ⟨rfl, rfl⟩ (.int _ _) (hHK.set hx hH (fun b' hb' => .inl hb') ⟨hg, _, setRow_heap w b vs _ TT (0, 0) h5, ?_⟩ ?_) hx
  · have hml : ((cs.drop o2).take m).length = m := by rw [List.length_take, List.length_drop]; omega
    have r1 := ((h6.take o).append ((h6.drop o2).take m)).append (h6.drop (o + ((cs.drop o2).take m).length))
    rw [hml] at r1
    have e9 : (vs.toList.take o ++ (vs.toList.drop o2).take m ++ vs.toList.drop (o + m)).toArray = (vs.toList.take o).toArray ++ (((vs.toList.drop o2).toArray).toList.take m).toArray ++ (vs.toList.drop (o + m)).toArray := by
      apply Array.toList_inj.1; simp
    unfold setSeg
    rw [hml]
    have r3 := r1.mono hx
    rw [← e9] at r3
    exact r3
  · intro c _ hne _
    exact ⟨rfl, setRow_other w b c _ (fun e => hne (by rw [e]; rfl))⟩

/-- copy of what is settled into a made slice, cell by cell. -/
theorem E_copySl {x y : Operand} {t u e k b o dn dc m TT : Nat} {td te : TD} {es : List (List AV)} {cs cs' : List AV} {H H2 : List HO} (hT : TOK P T) (hx : ρ x = .val (.slice (some ⟨b, o, none⟩) dn dc)) (hy : ρ y = .sl 1 es) (ht : tget T t = some td) (hk : td.kind = .slice e)
    (hte : tget T e = some te) (hz : te.size = 1) (hH : H[k]? = some (.box b TT cs)) (hne : es ≠ []) (hs : ∀ c ∈ es, scalars c = true) (hm : Nat.min es.length dn = m) (h1 : o + m ≤ cs.length) (hcs : setSeg cs o (es.flatten.take m) = cs') (hH2 : H.set k (.box b TT cs') = H2) :
    OpE P ⟨d, .call ⟨.builtin .copy, #[x, y], #[t, u]⟩, ty, pos, aft, gd⟩ ρ H (fun r H' => r = .int .i64 (m : Int) ∧ H' = H2) := by
  subst hH2; subst hcs
  intro g w a next Q hr hHK hn
  have e1 := (hx ▸ hr x (by simp [Op.operands, Call.operands]) : Rep g w _ _).inv_val
  have r2 := (hy ▸ hr y (by simp [Op.operands, Call.operands]) : Rep g w _ _)
  obtain ⟨a2, sn, sc, e2, h22, _⟩ := r2.inv_sl
  rw [e2] at r2
  obtain ⟨_, hz2, b2, o2, hb2, news, n1, n2, n3, n4⟩ := cells_lists r2 (Nat.zero_lt_one) hs hne
  subst hb2
  have hu := slice_inv (hT t td ht) hk
  obtain ⟨it, hit, his, _⟩ := (hT e te hte).info
  obtain ⟨hg, vs, h5, h6⟩ := hHK.ok _ (List.mem_of_getElem? hH)
  have hnl : (news.take m).length = m := by
    have hle : m ≤ es.length := hm ▸ Nat.min_le_left _ _
    rw [List.length_take, n1]; omega
  have hrun := run_copy_row (P := P) w t u ty e b o dn dc ⟨b2, o2, none⟩ sn sc vs TT (news.take m) hu (by rw [hit]; simp [his, hz]) h5 (by rw [hnl, h22]; exact hm.symm) (fun j v hj => by
      rw [List.getElem?_take] at hj
      split at hj
      · rw [add_lit]; exact (n4 j v hj).2
      · cases hj) (by rw [hnl, h6.1]; exact h1) (fun v hv => n3 v (List.mem_of_mem_take hv))
  rw [hnl] at hrun
  have hx : Ext g w g (w.setRow b (vs.toList.take o ++ news.take m ++ vs.toList.drop (o + m)).toArray) := Ext.setRow hg
  unfold Oper.wp
  rw [exec_builtin' (v := goInt m) (w' := w.setRow b (vs.toList.take o ++ news.take m ++ vs.toList.drop (o + m)).toArray) (by
    have : (#[x, y] : Array Operand).map a.eval = #[a.eval x, a.eval y] := by simp
    rw [this, e1, e2]
    simp only [builtin, Sem.run_bind, hrun, Result.andThen_ok, Sem.run_pure])]
  refine hn g _ _ _ _ ⟨rfl, rfl⟩ (.int _ _) (hHK.set hx hH (fun b' hb' => .inl hb') ⟨hg, _, setRow_heap w b vs _ TT (0, 0) h5, ?_⟩ ?_) hx
  · have hfl : es.flatten.length = sn := by rw [flatten_len hz2, h22, Nat.mul_one]
    have hle : m ≤ es.length := hm ▸ Nat.min_le_left _ _
    have hml : (es.flatten.take m).length = m := by rw [List.length_take, hfl]; omega
    have r1 := ((h6.take o).append (n2.take m)).append (h6.drop (o + (es.flatten.take m).length))
    rw [hml] at r1
    have e9 : (vs.toList.take o ++ news.take m ++ vs.toList.drop (o + m)).toArray = (vs.toList.take o).toArray ++ ((news.toArray).toList.take m).toArray ++ (vs.toList.drop (o + m)).toArray := by
      apply Array.toList_inj.1; simp
    unfold setSeg
    rw [hml]
    have r3 := r1.mono hx
    rw [← e9] at r3
    exact r3
  · intro c _ hne _
    exact ⟨rfl, setRow_other w b c _ (fun e => hne (by rw [e]; rfl))⟩
end

/-- The objects of the heap in another order. -/
theorem GS.perm {sl : List (Nat × AV)} {H H2 : List HO} {n : Nat} (h : H.Perm H2) : GS ⟨sl, H, n⟩ ⟨sl, H2, n⟩ := fun g _ w hG =>
  ⟨g, ⟨hG.size, hG.defers, hG.sl, hG.heap.perm h⟩, Ext.refl g w⟩
end Go.Aw
