/-
  Further lemmas of the abstract layer (the law's frame). No condition.
-/
import Derived.Test.YtoolcpnahmgnnaaGreatDoorAw
import Derived.JoinedCond
import Derived.ProofKit
set_option linter.unusedVariables false
set_option linter.unusedSimpArgs false
namespace Go.Aw
open Go
theorem HOK.nil {g : Gh} {w : World} (h : GlobOK g w) : HOK g w [] := ⟨by simp, by simp, h⟩
end Go.Aw
namespace Go.Aw

section
variable {P : Program} {Q : Exit → St → Prop} {N : St → Prop} {s : St}
end

end Go.Aw
namespace Go.Aw

section
variable {P : Program} {T : List (Nat × TD)} {d : Option Nat} {ty : TypeId} {pos : String} {aft : Array Edge} {gd : Option (Nat × Bool)} {ρ : Operand → AV} {K : List HO → Prop}

end
end Go.Aw
namespace Go.Aw
section
variable {P : Program} {T : List (Nat × TD)} {ρ : Operand → AV} {K : List HO → Prop} {d : Option Nat} {ty : TypeId} {pos : String} {aft : Array Edge} {gd : Option (Nat × Bool)}

end
end Go.Aw
namespace Go.Aw

section
variable {H : Type} {enc : TypeId × Value → H} {P : Program} {w : World} {sp : Nat → Bool} {hd : Bool} {B : DataW H → Nat} {BA : List (DataW H) → Nat}

/-- the value itself -/
theorem Rd.value {α : Type} {t : TypeId} {f : α → List AV} {ok : α → Prop} {bk : α → Nat} (hr : ∀ fuel, Rd enc P w sp hd B fuel t f ok bk) {v : Value} {d : DataW H} {ps : List MemPlace} (h : DataW.Trod enc P w 0 sp hd t v d ps) :
    ∃ x, ok x ∧ bk x ≤ B d ∧ RepL g0 w v.cells.toList.toArray (f x) := by
  obtain ⟨n, hn⟩ := h
  exact hr n _ d ps hn

theorem rep_agg {v : Value} {l : List AV} {vs : Array Value} (hv : v = .agg vs) (h : RepL g0 w v.cells.toList.toArray l) : Rep g0 w v (.agg l) := by
  subst hv
  exact .agg vs l h.1 h.2
theorem rep_cell {v : Value} {x : AV} (hv : ∀ vs, v ≠ .agg vs) (h : RepL g0 w v.cells.toList.toArray [x]) : Rep g0 w v x := by
  have e : v.cells = #[v] := by cases v <;> first | rfl | exact absurd rfl (hv _)
  rw [e] at h
  exact h.2 0 x rfl
end

theorem Ext.below {w w' : World} {g' : Gh} (h : Ext g0 w g' w') : RowKit.Below w.heap.size w w' :=
  ⟨h.os, h.tape, h.output, h.size, fun k hk => (h.full k hk rfl).2⟩

section
open Go.ChangeShapes
variable {H : Type} {enc : TypeId × Value → H} {P : Program}

theorem trodAll_stays (hl : laidOutB P = true) {W W' : World} {sp' : Nat → Bool} : ∀ {ts : List TypeId} {vs : List Value} {ds : List (DataW H)} {ps : List MemPlace}, (ts.all fun t => P.readableRec t && decide (t < P.types.size)) = true →
    DataW.TrodAll enc P W 0 (fun _ => true) true ts vs ds ps → (∀ p ∈ ps, W.sameAt W' p) → (∀ p ∈ ps, sp' p.block = true) → DataW.TrodAll enc P W' 0 sp' true ts vs ds ps
  | [], vs, ds, ps, _, h, _, _ => by
    obtain ⟨rfl, rfl, rfl⟩ := trodAll_nil h
    exact trodAll_mk0
  | t :: ts, vs, ds, ps, ht, h, hs, hsp => by
    obtain ⟨v, vs1, d, ds1, a, b, rfl, rfl, rfl, h1, h2⟩ := trodAll_cons h
    simp only [List.all_cons, Bool.and_eq_true, decide_eq_true_eq] at ht
    exact trodAll_cons_mk (WideElems.Trod_stays hl ht.1.1 ht.1.2 h1 (fun p hp => hs p (List.mem_append_left _ hp)) (fun p hp => hsp p (List.mem_append_left _ hp)))
      (trodAll_stays hl ht.2 h2 (fun p hp => hs p (List.mem_append_right _ hp)) (fun p hp => hsp p (List.mem_append_right _ hp)))

/-- A call that has changed nothing of what was there, and returns what reads without places. -/
theorem post_of_below {f : Func} {s : ChangeSpec} {apart fresh handsOn again : Bool} {W W' : World} {args : Array Value} {v : Value} {ds gs : List (DataW H)} {before : List MemPlace}
    (hl : laidOutB P = true) (ht : (f.params.toList.all fun t => P.readableRec t && decide (t < P.types.size)) = true) (hv : s.vars = [])
    (hW : DataW.Whole enc P f.params.toList s.vars apart W args.toList ds gs before)
    (hres : ∀ (b : Nat) (sp : Nat → Bool) (hd : Bool), DataW.TrodAll enc P W' b sp hd f.resultTypes.toList (v.resultList f.resultTypes.size) (s.fn H (ds ++ gs)).results [])
    (hargs : (s.fn H (ds ++ gs)).args = ds) (hvars : (s.fn H (ds ++ gs)).vars = []) (hb : RowKit.Below W.heap.size W W')
    (hok : ∀ (j : Nat) (t : TypeId) (r : Value), f.resultTypes[j]? = some t → (v.resultList f.resultTypes.size)[j]? = some r → Value.okWide P W' .any 0 t r) :
    s.post enc P f apart fresh handsOn again W args v W' := by
  have hlt := hW.lt
  have hW' := hW
  obtain ⟨p, q, hA, hV, rfl, hz, hn⟩ := hW
  rw [hv] at hV
  obtain ⟨rfl, rfl⟩ := trodVars_none hV
  have hA' : ∀ sp' : Nat → Bool, (∀ x ∈ p, sp' x.block = true) → DataW.TrodAll enc P W' 0 sp' true f.params.toList args.toList ds p := fun sp' hsp =>
    trodAll_stays hl ht hA (fun x hx => hb.same (hlt x (by simpa using hx))) hsp
  refine ⟨ds, [], p ++ [], [], p, [], hW', hres _ _ _, by rw [hargs]; exact hA' _ fun x hx => by simpa using hlt x (by simpa using hx), by rw [hv, hvars]; rfl, hb.frame _, fun _ => ?_⟩
  refine ⟨hok, _, [], ([] ++ p) ++ [], ⟨[] ++ p, [], trodAll_append (hA' _ fun _ _ => rfl) (hres _ _ _), by rw [hv]; rfl, rfl, ?_, ?_⟩, ?_⟩
  · intro b off hp
    rw [hb.frozen (hlt _ (by simpa using hp))]
    exact hz b off (by simpa using hp)
  · intro ha
    simpa using hn ha
  · intro x hx _
    simpa using hx

end
end Go.Aw
namespace Go.Aw
section
variable {H : Type} {enc : TypeId × Value → H} {P : Program} {w : World} {sp : Nat → Bool} {hd : Bool} {B : DataW H → Nat} {BA : List (DataW H) → Nat}

end
end Go.Aw
namespace Go.Aw
open Go.ChangeShapes Go.WideShapes Go.RowKit
section
variable {H : Type} {enc : TypeId × Value → H} {P : Program}

/-- A law's step out of its contract. -/
theorem law_of_pure {f : FuncId} {fn : Func} {s : ChangeSpec} {apart fresh handsOn again : Bool} {W : World} {args : Array Value} {ds gs : List (DataW H)} {before : List MemPlace} {tb : TypeId} {avs : List AV}
    (hl : laidOutB P = true) (ht : (fn.params.toList.all fun t => P.readableRec t && decide (t < P.types.size)) = true) (hv : s.vars = []) (hr : fn.resultTypes = #[tb]) (htb : P.underlying tb = some .bool)
    (hcell : P.cellsOf tb = 1) (hW : DataW.Whole enc P fn.params.toList s.vars apart W args.toList ds gs before) (hs : s.fn H (ds ++ gs) = { results := [.lit (.bool true)], args := ds })
    (ha : RepL g0 W args avs) (hgl : GlobOK g0 W) (hp : APure P f avs (.bool true)) : Calls P f args W fun e W' => ∃ v, e = .returned v ∧ s.post enc P fn apart fresh handsOn again W args v W' := by
  refine (hp [] g0 W args (HOK.nil hgl) ha).mono ?_
  rintro e W' ⟨v, g', r, H', rfl, h1, _, h2, rfl, _⟩
  have hb := h1.inv_bool
  subst hb
  refine ⟨_, rfl, post_of_below hl ht hv hW ?_ (by rw [hs]) (by rw [hs]) h2.below ?_⟩
  · intro b sp hd
    rw [hs, hr]
    exact trodAll_cons_mk (shut_bool htb _) trodAll_mk0
  · exact ok_one hr rfl (okWide_bool_mk htb _)

theorem repL_cons {g : Gh} {w : World} {v : Value} {x : AV} {vs : List Value} {l : List AV} (h : Rep g w v x) (hs : RepL g w vs.toArray l) : RepL g w (v :: vs).toArray (x :: l) := by
  have := (repL_one h).append hs
  simpa using this
theorem repL_nil {g : Gh} {w : World} : RepL g w ([] : List Value).toArray [] := ⟨rfl, by simp⟩
end
end Go.Aw
namespace Go.Aw
section
variable {P : Program} {W : World} {r : Reach} {b : Nat} {t : TypeId} {v : Value}
theorem notAgg_int {k : IntKind} (h : P.underlying t = some (.int k)) (hv : Value.okWide P W r b t v) : ∀ vs, v ≠ .agg vs := by
  rintro vs rfl; simp [Value.okWide, h, Cell.okWide, Cell.ok] at hv
end
end Go.Aw
namespace Go.Aw

section
variable {P : Program} {T : List (Nat × TD)} {ρ : Operand → AV} {ty : TypeId} {pos : String} {aft : Array Edge} {gd : Option (Nat × Bool)} {d : Option Nat}

end
end Go.Aw
namespace Go.Aw
end Go.Aw
namespace Go.Aw

section
variable {P : Program} {T : List (Nat × TD)} {d : Option Nat} {ty : TypeId} {pos : String} {aft : Array Edge} {gd : Option (Nat × Bool)} {ρ : Operand → AV}

variable {K : List HO → Prop}
end
end Go.Aw
namespace Go.Aw

section
variable {P : Program} {T : List (Nat × TD)} {d : Option Nat} {ty : TypeId} {pos : String} {aft : Array Edge} {gd : Option (Nat × Bool)} {ρ : Operand → AV} {K : List HO → Prop}

end

end Go.Aw
namespace Go.Aw

section
variable {P : Program} {T : List (Nat × TD)} {d : Option Nat} {ty : TypeId} {pos : String} {aft : Array Edge} {gd : Option (Nat × Bool)} {ρ : Operand → AV} {K : List HO → Prop}

end
end Go.Aw
namespace Go.Aw

section
variable {P : Program} {T : List (Nat × TD)} {d : Option Nat} {ty : TypeId} {pos : String} {aft : Array Edge} {gd : Option (Nat × Bool)} {ρ : Operand → AV} {K : List HO → Prop}

end

section
variable {P : Program} {T : List (Nat × TD)} {d : Option Nat} {ty : TypeId} {pos : String} {aft : Array Edge} {gd : Option (Nat × Bool)} {ρ : Operand → AV} {K : List HO → Prop}
end
end Go.Aw
namespace Go.Aw

section
variable {P : Program} {T : List (Nat × TD)} {d : Option Nat} {ty : TypeId} {pos : String} {aft : Array Edge} {gd : Option (Nat × Bool)} {ρ : Operand → AV} {K : List HO → Prop}

end
end Go.Aw

