/-
  Two operations that this seat needs beside the abstract layer: strings compared by the machine's own code, and 'append' of zeros to nothing. No condition.
-/
import Derived.Test.YtfpbgdjloccdbaaS03
import Derived.Lib.AppendZeros
namespace Go.Aw
open Go
set_option linter.unusedVariables false
set_option linter.unusedSimpArgs false

/-- A step in thought at the end. -/
theorem AW.ghostPost {P : Program} {c : Code} {Q : Exit → St → Prop} {s : St} (h : AW P c (fun e s => ∃ s', GS s s' ∧ Q e s') s) : AW P c Q s := by
  intro Q' g a w hG hQ
  refine h Q' g a w hG fun e g' s' a' w' h1 h2 ⟨s2, h3, h4⟩ => ?_
  obtain ⟨g2, k1, k2⟩ := h3 g' a' w' h1
  exact hQ e g2 s2 a' w' k1 (h2.trans k2) h4
section
variable {P : Program} {T : List (Nat × TD)} {d : Option Nat} {ty : TypeId} {pos : String} {aft : Array Edge} {gd : Option (Nat × Bool)} {ρ : Operand → AV} {K : List HO → Prop}

theorem P_cmpstr {f : FuncId} {fn : Func} {x y : Operand} {ats : Array TypeId} {a b : List UInt8} (hf : P.funcs[f]? = some fn) (hname : (fn.name == "runtime.NumGoroutine") = false)
    (hb : fn.body.isNone = true) (hn' : Extern.findNext fn = none) (he : Extern.find fn = some Extern.BytealgCompare.compare) (hx : ρ x = .str a) (hy : ρ y = .str b) :
    OpP P ⟨d, .call ⟨.value (.func f), #[x, y], ats⟩, ty, pos, aft, gd⟩ ρ K (.int .i64 (Extern.BytealgCompare.cmp ⟨a.toArray⟩ ⟨b.toArray⟩)) :=
  .of_run fun g w ac hr => by
    have h1 := (hx ▸ hr x (by simp [Op.operands, Call.operands]) : Rep g w _ _).inv_str.1
    have h2 := (hy ▸ hr y (by simp [Op.operands, Call.operands]) : Rep g w _ _).inv_str.1
    refine ⟨.int .i64 (Extern.BytealgCompare.cmp ⟨a.toArray⟩ ⟨b.toArray⟩), ?_, .int _ _⟩
    have e1 : ac.eval (.func f) = .func (.func f) #[] #[] := rfl
    have e2 : (#[x, y] : Array Operand).map ac.eval = #[.string ⟨a.toArray⟩, .string ⟨b.toArray⟩] := by simp [h1, h2]
    have e3 := run_callFunc_extern hf hname hb hn' he #[.string ⟨a.toArray⟩, .string ⟨b.toArray⟩] w
    have e5 : (Extern.BytealgCompare.compare #[.string ⟨a.toArray⟩, .string ⟨b.toArray⟩]).run P w = .ok (.int .i64 (Extern.BytealgCompare.cmp ⟨a.toArray⟩ ⟨b.toArray⟩)) w := by
      have e6 : Extern.BytealgCompare.compare #[.string ⟨a.toArray⟩, .string ⟨b.toArray⟩] = (do pure (goInt (Extern.BytealgCompare.cmp (← Extern.Bytes.bytesOf (.string ⟨a.toArray⟩)) (← Extern.Bytes.bytesOf (.string ⟨b.toArray⟩))))) := rfl
      rw [e6]
      rfl
    simp only [execOp, resolve, e1, e2, Deferred.ofValue, Sem.run_bind, Sem.run_pure, Result.andThen_ok, invoke]
    have e4 : (#[] : Array Value) ++ #[.string ⟨a.toArray⟩, .string ⟨b.toArray⟩] ++ #[] = #[.string ⟨a.toArray⟩, .string ⟨b.toArray⟩] := by simp
    rw [e4, e3]
    rfl

/-- the capacity of nothing -/
theorem P_cap_nil {x : Operand} {t e : Nat} {td : TD} (hT : TOK P T) (h : ρ x = .val (.slice none 0 0)) (ht : tget T t = some td) (hk : td.kind = .slice e) :
    OpP P ⟨d, .call ⟨.builtin .cap, #[x], #[t]⟩, ty, pos, aft, gd⟩ ρ K (.int .i64 0) :=
  .of_run fun g w a hr => by
    have h1 := (h ▸ hr x (by simp [Op.operands, Call.operands]) : Rep g w _ _).inv_val
    refine ⟨.int .i64 0, exec_builtin ?_, .int _ _⟩
    have hu := slice_inv (hT t td ht) hk
    simp only [builtin, Builtin.cap_, List.map_toArray, List.map_cons, List.map_nil, h1, Sem.run_bind]
    simp [under_run hu, goInt]

/-- the first no elements of nothing -/
theorem P_slice_nil {x y : Operand} {t e : Nat} {td te : TD} {k : IntKind} (hT : TOK P T) (hx : ρ x = .val (.slice none 0 0)) (hy : ρ y = .int k 0) (ht : tget T t = some td) (hk : td.kind = .slice e) (hte : tget T e = some te) :
    OpP P ⟨d, .slice t x none (some y) none, ty, pos, aft, gd⟩ ρ K (.val (.slice none 0 0)) :=
  .of_run fun g w a hr => by
    have e1 := (hx ▸ hr x (by simp [Op.operands]) : Rep g w _ _).inv_val
    have e2 := (hy ▸ hr y (by simp [Op.operands]) : Rep g w _ _).inv_int
    have hu := slice_inv (hT t td ht) hk
    have hsz := size_run (hT e te hte) w
    refine ⟨.slice none 0 0, ?_, .val _⟩
    have key : (Instr.sliceBounds true 0 0 none (some (.int k 0)) none).run P w = .ok (0, 0, 0) w := by
      unfold Instr.sliceBounds
      simp only [Sem.run_bind, Sem.run_pure, Result.andThen_ok]
      simp [sliceBound_run (P := P) (k := k) (n := 0) (y := 0) (by omega) (by omega)]
    simp only [execOp, e1, Instr.sliceAt, Sem.run_bind, under_run hu, Result.andThen_ok, Instr.slice, Option.map_none, Option.map_some, e2, key, hsz, Sem.run_pure, if_true, Nat.sub_zero]

/-- zeros, appended to nothing: room for a row -/
theorem E_appendMake {x y : Operand} {t tn e z n : Nat} {kn kk : IntKind} {td te : TD} {H : List HO} (hT : TOK P T) (hx : ρ x = .val (.slice none 0 0)) (hy : ρ y = .int kk (n : Int)) (ht : tget T t = some td) (hk : td.kind = .slice e)
    (hn : P.underlying tn = some (.int kn)) (hte : tget T e = some te) (hz : te.size = z) (hp : Nat.blt 0 z = true) (h0 : 0 < n) (hm : n ≤ 1048576) (hb : n * te.bytes ≤ 140737488355328) :
    OpE P ⟨d, .call ⟨.builtin .append, #[x, y], #[t, tn]⟩, ty, pos, aft, gd⟩ ρ H (fun r H' => ∃ b c, n ≤ c ∧ r = .val (.slice (some ⟨b, 0, none⟩) n c) ∧ H' = .row (.slice (some ⟨b, 0, none⟩) 0 c) 0 e z :: H) := by
  intro g w a next Q hr hHK hnx
  have hpos : 0 < z := by simpa using hp
  have e1 := (hx ▸ hr x (by simp [Op.operands, Call.operands]) : Rep g w _ _).inv_val
  have e2 := (hy ▸ hr y (by simp [Op.operands, Call.operands]) : Rep g w _ _).inv_int
  have hu := slice_inv (hT t td ht) hk
  obtain ⟨it, hit, his, hib, zv, hzv, hzs, _⟩ := (hT e te hte).info
  have hmax : maxLen = 9223372036854775807 := rfl
  have hrun := Lib.run_append_nil_zeros (P := P) w t tn ty e it zv kk kn hu hn hit hzv n h0 (by rw [his, hz]; exact hpos) (by omega) (by rw [hib]; omega)
  have hcap := grownCap_ge w n 0 e
  have hcapM := grownCap_le_maxLen w n 0 e (by omega)
  have hext : Ext g w (g.put w.heap.size (some 0)) (w.drew.alloc (.cells (Builtin.zeroCells zv.cells n ++ Builtin.zeroCells zv.cells (grownCap w n 0 e - n)) e)) := (Ext.drew g w).trans (Ext.alloc g w.drew _ _)
  unfold Oper.wp
  rw [exec_builtin' (v := .slice (some ⟨w.heap.size, 0, none⟩) n (grownCap w n 0 e)) (w' := w.drew.alloc (.cells (Builtin.zeroCells zv.cells n ++ Builtin.zeroCells zv.cells (grownCap w n 0 e - n)) e)) (by
      have : (#[x, y] : Array Operand).map a.eval = #[a.eval x, a.eval y] := by simp
      rw [this, e1, e2]
      simp only [builtin, Sem.run_bind, hrun, Result.andThen_ok, Sem.run_pure])]
  refine hnx (g.put w.heap.size (some 0)) _ _ _ _ ⟨w.heap.size, grownCap w n 0 e, hcap, rfl, rfl⟩ (.val _) ?_ hext
  refine (hHK.drew.alloc _ (some 0)).cons (.inr ⟨w.heap.size, grownCap w n 0 e, _, rfl, by rw [Nat.zero_mul]; exact Gh.put_same _ _ _, alloc_new w.drew _, ?_, Nat.zero_le _, hcapM⟩) ?_
  · simp only [Array.size_append, size_zeroCells, hzs, hz, Nat.sub_mul]
    have := Nat.mul_le_mul_right z hcap
    omega
  · intro b hb x hx' hb'
    simp only [HO.blk, Option.some.injEq] at hb
    have := (HO.ok_lt (hHK.drew.ok x hx') hb').1
    have h3 : w.drew.heap.size = w.heap.size := rfl
    omega

/-- nothing in a row that has room -/
theorem GS.rowOf {sl : List (Nat × AV)} {H : List HO} {n t : Nat} {v : Value} {E z : Nat} (k : Nat) (h : get sl t = .val v) (hk : H[k]? = some (.row v 0 E z)) : GS ⟨sl, H, n⟩ ⟨(t, .row v z []) :: sl, H, n⟩ := fun g a w hG => by
  have hok := hG.heap.ok _ (List.mem_of_getElem? hk)
  have hv := (h ▸ hG.sl t : Rep g w _ _).inv_val
  refine ⟨g, ⟨hG.size, hG.defers, fun i => ?_, hG.heap⟩, Ext.refl g w⟩
  show Rep _ w _ (get ((t, AV.row v z []) :: sl) i)
  rw [get_cons]
  split
  · rename_i e; subst e; rw [hv]
    rcases hok with ⟨rfl, _⟩ | ⟨b, cap, cur, rfl, _, _, _, _, hm⟩
    · exact .row _ _ _ (.sl0 _ _ _ (Nat.zero_le _))
    · exact .row _ _ _ (.sl0 _ _ _ hm)
  · exact hG.sl i
/-- A slice of one constant struct. -/
theorem P_buildSliceC {t e z : Nat} {td te : TD} {vs : Array Value} {es : List (List AV)} (hT : TOK P T) (ht : tget T t = some td) (hk : td.kind = .slice e) (hte : tget T e = some te) (hz : te.size = z)
    (hb : Nat.ble (1 * z) 16777216 = true) (hl : Nat.beq vs.toList.length z = true) (hs : scalars (vs.toList.map AV.val) = true) (hp : Nat.blt 0 z = true) (hes : [vs.toList.map AV.val] = es) : OpP P ⟨d, .buildSlice t 1 #[(0, .const (.agg vs))], ty, pos, aft, gd⟩ ρ K (.sl z es) := by
  have h := P_buildSlice (d := d) (ty := ty) (pos := pos) (aft := aft) (gd := gd) (K := K) (ρ := fun _ => .agg (vs.toList.map AV.val)) (parts := #[(0, .const (.agg vs))]) (n := 1) (es := es) hT ht hk hte hz rfl hb
    (by simp only [litOK, cellsA, List.length_map, Nat.beq_refl, Bool.true_and, Bool.and_true, hs, hl]) hp (by subst hes; rfl)
  intro g w a H next Q hr hH hK hn
  refine h g w a H next Q (fun y hy => ?_) hH hK hn
  simp only [Op.operands, List.map_toArray, List.map_cons, List.map_nil, List.mem_toArray, List.mem_singleton] at hy
  subst hy
  refine .agg vs _ (by simp) (fun i x hi => ?_)
  rw [List.getElem?_map] at hi
  cases hv : vs.toList[i]? with
  | none => rw [hv] at hi; cases hi
  | some u =>
    rw [hv] at hi
    cases hi
    have : vs.getD i undef = u := by
      rw [Array.getD_eq_getD_getElem?]
      have : vs[i]? = some u := by simpa using hv
      rw [this]; rfl
    rw [this]; exact .val _
/-- what is known of a value, weakened -/
theorem OpP.toW {o : Oper} {x x' : AV} (h : OpP P o ρ K x) (hw : ∀ g w u, Rep g w u x → Rep g w u x') : OpP P o ρ K x' :=
  fun g w a H next Q hr hH hK hn => h g w a H next Q hr hH hK fun g' w' v hv hH' hx => hn g' w' v (hw _ _ _ hv) hH' hx
theorem rep_tuple2 {g : Gh} {w : World} {u : Value} {x x' y : AV} (hw : ∀ g w u, Rep g w u x → Rep g w u x') (h : Rep g w u (.tuple [x, y])) : Rep g w u (.tuple [x', y]) := by
  obtain ⟨vs, rfl, h1, h2⟩ := h.inv_tuple
  refine .tuple vs _ h1 fun i z hz => ?_
  match i, hz with
  | 0, hz => cases hz; exact hw _ _ _ (h2 0 x rfl)
  | 1, hz => cases hz; exact h2 1 y rfl
  | i + 2, hz => cases hz
theorem ACall.ofPure {f : FuncId} {args : List AV} {r : AV} {H : List HO} {Q : AV → List HO → Prop} (h : APure P f args r) (hq : Q r H) : ACall P f H args Q := by
  intro g w vs hH hA
  refine (h H g w vs hH hA).mono ?_
  rintro e w' ⟨v, g', x, H', rfl, k1, k2, k3, rfl, rfl⟩
  exact ⟨v, g', _, _, rfl, k1, k2, k3, hq⟩
end
end Go.Aw
