/-
  Walks of streams: their check, what is sorted. No condition.
-/
import Derived.Test.YtfpbgdjloccdbaaW7
import Derived.KernelRfl
namespace Go.Proofs.Ytfpbgdjloccdbaa
open Go Go.Aw
set_option linter.unusedVariables false
set_option linter.unusedSimpArgs false

def cId (e : Ev) : List AV := [.int .i64 e.source, .int .i64 e.seq]
def eqId (e : Ev) (k : List AV) : Bool := (aeqs TL [(0, 1, true, 3), (1, 1, true, 3)] (cId e) k).getD false
def mapId (l : List Ev) : List (List AV × AV) := l.map fun e => (cId e, .bool true)
def mapEv (l : List Ev) : List (List AV × AV) := l.map fun e => (cId e, .agg (cEv e))
theorem eqId_is (e x : Ev) : aeqs TL [(0, 1, true, 3), (1, 1, true, 3)] (cId e) (cId x) = some (sameId e x) := by
  show some ((e.source == x.source) && ((e.seq == x.seq) && true)) = _
  rw [Bool.and_true]; rfl
theorem mapId_eq (e : Ev) (l : List Ev) : ∀ p ∈ mapId l, aeqs TL [(0, 1, true, 3), (1, 1, true, 3)] (cId e) p.1 = some (eqId e p.1) := by
  intro p hp
  obtain ⟨x, _, rfl⟩ := List.mem_map.1 hp
  unfold eqId
  rw [eqId_is]; rfl
theorem mapEv_eq (e : Ev) (l : List Ev) : ∀ p ∈ mapEv l, aeqs TL [(0, 1, true, 3), (1, 1, true, 3)] (cId e) p.1 = some (eqId e p.1) := by
  intro p hp
  obtain ⟨x, _, rfl⟩ := List.mem_map.1 hp
  unfold eqId
  rw [eqId_is]; rfl
theorem eqId_cId (e x : Ev) : eqId e (cId x) = sameId e x := by unfold eqId; rw [eqId_is]; rfl
theorem mapId_get (e : Ev) : ∀ l : List Ev, kget (eqId e) (mapId l) = if l.any (sameId e) then some (.bool true) else none
  | [] => rfl
  | x :: r => by
    have ih := mapId_get e r
    unfold mapId at ih ⊢
    rw [List.map_cons, kget, eqId_cId, List.any_cons, ih]
    cases sameId e x <;> rfl
theorem mapEv_get (e : Ev) : ∀ l : List Ev, kget (eqId e) (mapEv l) = (l.find? (sameId e)).map fun x => .agg (cEv x)
  | [] => rfl
  | x :: r => by
    have ih := mapEv_get e r
    unfold mapEv at ih ⊢
    rw [List.map_cons, kget, eqId_cId, List.find?_cons, ih]
    cases sameId e x <;> rfl
theorem mapId_look (e : Ev) (l : List Ev) : match kget (eqId e) (mapId l) with | some y => y = .bool (l.any (sameId e)) | none => [AV.bool false] = [.bool (l.any (sameId e))] := by
  rw [mapId_get]
  cases h : l.any (sameId e) <;> rfl
theorem mapId_new {e : Ev} {l : List Ev} (h : l.any (sameId e) = false) : kget (eqId e) (mapId l) = none := by rw [mapId_get, h]; rfl
theorem mapId_snoc (e : Ev) (l : List Ev) : mapId l ++ [(cId e, .bool true)] = mapId (l ++ [e]) := by unfold mapId; rw [List.map_append]; rfl
theorem mapEv_snoc (e : Ev) (l : List Ev) : mapEv l ++ [(cId e, .agg (cEv e))] = mapEv (l ++ [e]) := by unfold mapEv; rw [List.map_append]; rfl
theorem mapEv_look (e : Ev) (l : List Ev) : ∀ g w u, Rep g w u (.tuple [(kget (eqId e) (mapEv l)).getD (.agg (cEv ev0)), .bool (kget (eqId e) (mapEv l)).isSome]) → Rep g w u (.tuple [.agg (cEv ((l.find? (sameId e)).getD ev0)), .bool (l.find? (sameId e)).isSome]) := fun g w u h => by
  rw [mapEv_get] at h
  cases hf : l.find? (sameId e) with
  | none => rw [hf] at h; exact h
  | some x => rw [hf] at h; exact h
theorem mapEv_new {e : Ev} {l : List Ev} (h : (l.find? (sameId e)).isSome = false) : kget (eqId e) (mapEv l) = none := by
  rw [mapEv_get]
  cases hf : l.find? (sameId e) with
  | none => rfl
  | some x => rw [hf] at h; cases h
/-! what a step does -/
theorem stepE_placed {seen : List Ev} {e : Ev} (h : (!placedS e) = true) : stepE seen e = 2 := by unfold stepE; rw [if_pos h]
theorem go_stop {seen r : List Ev} {e : Ev} {x : Int} (h : stepE seen e = x) (hx : x ≠ 0) : streamGo seen (e :: r) = x := by
  rw [streamGo, if_pos (by rw [h]; simpa using hx), h]
theorem go_step {seen r : List Ev} {e : Ev} (h : stepE seen e = 0) : streamGo seen (e :: r) = streamGo (seen ++ [e]) r := by
  rw [streamGo, ifF (by rw [h]; rfl)]
theorem last_take {l : List Ev} {k : Nat} (h : 0 < k) (hk : k ≤ l.length) : (l.take k).getLast? = l[k - 1]? := by
  rw [List.getLast?_eq_getElem?, List.length_take, Nat.min_eq_left hk, List.getElem?_take, if_pos (by omega)]
theorem order_is {l : List Ev} {k : Nat} (e : Ev) (hk : k ≤ l.length) : prevBad (l.take k) e = (decide ((0 : Int) < (k : Int)) && decide (0 ≤ evCmp ((l[k - 1]?).getD ev0) e)) := by
  cases k with
  | zero => rfl
  | succ k =>
    unfold prevBad
    rw [last_take (by omega) hk]
    have h1 : l[k + 1 - 1]? = some ((l[k + 1 - 1]?).getD ev0) := get_def ev0 (by omega)
    have h2 : decide ((0 : Int) < ((k + 1 : Nat) : Int)) = true := by simp
    rw [h2, Bool.true_and, h1]; rfl
theorem step_is {l : List Ev} {k : Nat} (e : Ev) (hk : k ≤ l.length) : stepE (l.take k) e = if !placedS e then 2 else if (decide ((0 : Int) < (k : Int)) && decide (0 ≤ evCmp ((l[k - 1]?).getD ev0) e)) then 14 else if (l.take k).any (sameId e) then 7 else 0 := by
  unfold stepE
  rw [order_is e hk]
theorem once_bad {out r : List Ev} {e : Ev} (h : ((out.find? (sameId e)).isSome && !equalS ((out.find? (sameId e)).getD ev0) e) = true) : onceS out (e :: r) = none := by
  rw [onceS]
  cases hf : out.find? (sameId e) with
  | none => rw [hf] at h; cases h
  | some f =>
    rw [hf] at h
    have h2 : equalS f e = false := by simpa using h
    simp only [h2, Bool.false_eq_true, if_false]
theorem once_new {out r : List Ev} {e : Ev} (h : (!(out.find? (sameId e)).isSome) = true) : onceS out (e :: r) = onceS (out ++ [e]) r := by
  rw [onceS]
  cases hf : out.find? (sameId e) with
  | none => rfl
  | some f => rw [hf] at h; cases h
theorem once_old {out r : List Ev} {e : Ev} (h : ((out.find? (sameId e)).isSome && !equalS ((out.find? (sameId e)).getD ev0) e) = false) (h2 : (!(out.find? (sameId e)).isSome) = false) : onceS out (e :: r) = onceS out r := by
  rw [onceS]
  cases hf : out.find? (sameId e) with
  | none => rw [hf] at h2; cases h2
  | some f =>
    rw [hf] at h
    have h3 : equalS f e = true := by simpa using h
    simp only [h3, if_true]
theorem prev_at {l : List Ev} {k : Nat} (h : 0 < k) (hk : k < l.length) : (l.map cEv)[((k : Int) - 1).toNat]? = some (cEv ((l[k - 1]?).getD ev0)) := by
  have e : ((k : Int) - 1).toNat = k - 1 := by omega
  rw [e]
  exact map_at (get_def ev0 (by omega))
theorem GS.heapTo {sl : List (Nat × AV)} {H H2 : List HO} {n : Nat} (h : H = H2) : GS ⟨sl, H, n⟩ ⟨sl, H2, n⟩ := by subst h; exact GS.refl _
def sortedR (l : List Ev) : List Ev × Bool := match sortedS l with | some s => (s, true) | none => ([], false)
def invGo : List Ev → List Ev → Nat
  | _, [] => 0
  | seen, e :: r => (seen.filter fun x => decide (0 < evCmp x e)).length + invGo (seen ++ [e]) r
def invR (l : List Ev) : Int × Int := if allS l != 0 then (0, allS l) else ((invGo [] l : Nat), 0)
theorem filt_take {l : List Ev} {k : Nat} {a : Ev} (f : Ev → Bool) (h : l[k]? = some a) : ((l.take (k + 1)).filter f).length = ((l.take k).filter f).length + if f a then 1 else 0 := by
  rw [take_get h, List.filter_append, List.length_append]
  cases hf : f a <;> simp [hf]

set_option maxRecDepth 20000 in
set_option maxHeartbeats 1600000 in
theorem s_Check (l : List Ev) : APure Try.prog 20 [.sl 5 (l.map cEv)] (.int .i64 (streamS l)) := by
  refine APure.body (n := 43) tok Try.func20 rfl rfl rfl fun H => ?_
  refine AW.seq ?_
  refine AW.region ?_
  refine AOL.p (P_assign (v := .int .i64 _) rfl) rfl ?_
  refine AOL.nil ?_
  refine thenN ?_
  refine AW.seq ?_
  refine AW.seq ?_
  refine AW.region ?_
  refine AOL.p (P_move (v := .sl _ _) rfl) rfl ?_
  refine AOL.p (P_len_sl (n := l.length) tok rfl rfl rfl (by simp)) rfl ?_
  refine AOL.p (P_gtr rfl rfl) rfl ?_
  refine AOL.nil ?_
  refine thenN ?_
  refine AW.cond (b := _) rfl (fun hc1 => ?_) (fun hc1 => ?_)
  · skip
    refine AW.seq ?_
    refine AW.region ?_
    refine AOL.p (P_assign (v := .int .i64 _) rfl) rfl ?_
    refine AOL.nil ?_
    refine thenN ?_
    refine AW.ret ?_
    refine thenR ?_
    refine ⟨.inr rfl, [.int .i64 _], .cons (.tmp _ _ rfl) <| .nil, .refl _, ?_⟩
    exact congrArg (AV.int .i64) (by unfold streamS; rw [if_pos hc1])
  · skip
    refine AW.skip ?_
    refine thenN ?_
    refine AW.seq ?_
    refine AW.region ?_
    refine AOL.e (E_makeKMap) rfl ?_
    rintro _ _ ⟨b9, rfl, rfl⟩
    refine AOL.p (P_assign (v := .val _) rfl) rfl ?_
    refine AOL.nil ?_
    refine thenN ?_
    refine AW.seq ?_
    refine AW.seq ?_
    refine AW.region ?_
    refine AOL.p (P_move (v := .sl _ _) rfl) rfl ?_
    refine AOL.p (P_len_sl (n := l.length) tok rfl rfl rfl (by simp)) rfl ?_
    refine AOL.p (P_move (v := .int .i64 _) rfl) rfl ?_
    refine AOL.nil ?_
    refine thenN ?_
    refine AW.block ?_
    refine AW.sllen 10 rfl fun hlen => ?_
    simp only [List.length_map, maxLen] at hlen
    refine AW.loopS (fun (k : Nat) => (⟨[(0, .sl 5 (l.map cEv)), (3, .val (.map (some b9))), (10, .sl 5 (l.map cEv)), (11, .int .i64 l.length), (12, .int .i64 (k : Int))], .kmap b9 (mapId (l.take k)) :: H, 43⟩ : St)) (fun (k : Nat) => k ≤ l.length ∧ streamGo [] l = streamGo (l.take k) (l.drop k)) (fun (k : Nat) => l.length - k) (0) ?_ (GS.weaken ⟨rfl, rfl, rfl, rfl, rfl, trivial⟩ (.refl _)) ?_
    · exact ⟨Nat.zero_le _, by simp⟩
    · rintro k hR
      refine AW.seq ?_
      refine AW.region ?_
      refine AOL.p (P_lss rfl rfl) rfl ?_
      refine AOL.nil ?_
      refine thenN ?_
      refine AW.seq ?_
      refine AW.cond (b := _) rfl (fun hc2 => ?_) (fun hc2 => ?_)
      · skip
        obtain ⟨a, ha⟩ := get_lt hc2
        have hlt := get_lt' ha
        have hm := List.mem_of_getElem? ha
        have hst := step_is (l := l) (k := k) a (by omega)
        refine AW.skip ?_
        refine thenN ?_
        refine AW.seq ?_
        refine AW.block ?_
        refine AW.seq ?_
        refine AW.region ?_
        refine AOL.p (P_move (v := .int .i64 _) rfl) rfl ?_
        refine AOL.p (P_indexAddr (c := [.int .i64 _, .int .i64 _, .int .i64 _, .int .i64 _, _]) tok rfl rfl rfl rfl rfl rfl (by omega) (map_at ha)) rfl ?_
        refine AOL.p (P_load_ptr_agg (l := [.int .i64 _, .int .i64 _, .int .i64 _, .int .i64 _, _]) tok rfl rfl rfl rfl rfl) rfl ?_
        refine AOL.e (E_alloc (l := [.int .i64 0, .int .i64 0, .int .i64 0, .int .i64 0, .sl 3 []]) (by kernel_rfl)) rfl ?_
        rintro _ _ ⟨b5, rfl, rfl⟩
        refine AOL.p (P_assign (v := .int .i64 _) rfl) rfl ?_
        refine AOL.e (E_store (k := 0) (v := .agg _) (cs' := [.int .i64 _, .int .i64 _, .int .i64 _, .int .i64 _, _]) (H2 := _ :: _ :: _) tok rfl rfl rfl rfl rfl rfl rfl rfl rfl) rfl ?_
        rintro _ _ ⟨rfl, rfl⟩
        refine AOL.ghost (GS.freeze (t := 5) 0 rfl rfl) ?_
        refine AOL.nil ?_
        refine thenN ?_
        refine AW.seq ?_
        refine AW.block ?_
        refine AW.seq ?_
        refine AW.region ?_
        refine AOL.p (P_load_ptr_agg (l := [.int .i64 _, .int .i64 _, .int .i64 _, .int .i64 _, _]) tok rfl rfl rfl rfl rfl) rfl ?_
        refine AOL.p (P_callf (by kernel_rfl) rfl rfl (s_placed a)) rfl ?_
        refine AOL.p (P_not rfl) rfl ?_
        refine AOL.p (P_assign (v := .bool _) rfl) rfl ?_
        refine AOL.nil ?_
        refine thenN ?_
        refine AW.cond (b := _) rfl (fun hc3 => ?_) (fun hc3 => ?_)
        · skip
          refine AW.seq ?_
          refine AW.region ?_
          refine AOL.p (P_assign (v := .int .i64 _) rfl) rfl ?_
          refine AOL.nil ?_
          refine thenN ?_
          refine AW.ret ?_
          refine blkR ?_
          refine thenR ?_
          refine blkR ?_
          refine thenR ?_
          refine thenR ?_
          refine blkR ?_
          refine thenR ?_
          refine ⟨.inr rfl, [.int .i64 _], .cons (.tmp _ _ rfl) <| .nil, .cons _ (.refl _), ?_⟩
          exact congrArg (AV.int .i64) (by unfold streamS; rw [ifF hc1, hR.2, drop_cons ha, go_stop (x := 2) (by rw [hst, if_pos hc3]) (by decide)])
        · skip
          refine AW.seq ?_
          refine AW.draw mixed (fun _ => True) trivial (by kernel_rfl) ?_
          refine Canon.pure _ _ 0 _ _ rfl (by kernel_rfl) (by kernel_rfl) rfl (.run rfl (P_move (v := .int .i64 _) rfl)) ?_
          refine Canon.pure _ _ 1 _ _ rfl (by kernel_rfl) (by kernel_rfl) rfl (.run rfl (P_gtr rfl rfl)) ?_
          refine Canon.pure _ _ 2 _ _ rfl (by kernel_rfl) (by kernel_rfl) rfl (.run rfl (P_move (v := .bool _) rfl)) ?_
          refine Canon.pure _ _ 3 _ _ rfl (by kernel_rfl) (by kernel_rfl) rfl (.opt _ (.sl _ _) [] rfl (EntL.all trivial) (fun hG => P_move (v := .sl _ _) rfl) rfl) ?_
          refine Canon.pure _ _ 4 _ _ rfl (by kernel_rfl) (by kernel_rfl) rfl (.opt _ (.int .i64 _) [] rfl (EntL.all trivial) (fun hG => P_move (v := .int .i64 _) rfl) rfl) ?_
          refine Canon.pure _ _ 5 _ _ rfl (by kernel_rfl) (by kernel_rfl) rfl (.opt _ (.int .i64 _) [(26, _)] rfl (EntL.all ⟨Ent.self _ _, trivial⟩) (fun hG => P_sub rfl rfl rfl (by constructor <;> omega)) rfl) ?_
          refine Canon.pure _ _ 6 _ _ rfl (by kernel_rfl) (by kernel_rfl) rfl (.opt _ (.ptr _) [(25, _), (27, _)] rfl (EntL.all ⟨Ent.self _ _, Ent.self _ _, trivial⟩) (fun hG => P_indexAddr (c := cEv ((l[k - 1]?).getD ev0)) tok rfl rfl rfl rfl rfl rfl (by have := of_decide_eq_true (guard_one hG); omega) (prev_at (by have := of_decide_eq_true (guard_one hG); omega) hlt)) rfl) ?_
          refine Canon.pure _ _ 7 _ _ rfl (by kernel_rfl) (by kernel_rfl) rfl (.opt _ (.agg _) [(28, _)] rfl (EntL.all ⟨Ent.self _ _, trivial⟩) (fun hG => P_load_ptr_agg (l := [.int .i64 _, .int .i64 _, .int .i64 _, .int .i64 _, _]) tok rfl rfl rfl rfl rfl) rfl) ?_
          refine Canon.pure _ _ 8 _ _ rfl (by kernel_rfl) (by kernel_rfl) rfl (.opt _ (.agg _) [] rfl (EntL.all trivial) (fun hG => P_load_ptr_agg (l := [.int .i64 _, .int .i64 _, .int .i64 _, .int .i64 _, _]) tok rfl rfl rfl rfl rfl) rfl) ?_
          refine Canon.pure _ _ 9 _ _ rfl (by kernel_rfl) (by kernel_rfl) rfl (.opt _ (.int .i64 _) [(29, _), (30, _)] rfl (EntL.all ⟨Ent.self _ _, Ent.self _ _, trivial⟩) (fun hG => P_callf (by kernel_rfl) rfl rfl (e_Compare _ a)) rfl) ?_
          refine Canon.pure _ _ 10 _ _ rfl (by kernel_rfl) (by kernel_rfl) rfl (.opt _ (.bool _) [(31, _)] rfl (EntL.all ⟨Ent.self _ _, trivial⟩) (fun hG => P_geq rfl rfl) rfl) ?_
          refine Canon.pure _ _ 11 _ _ rfl (by kernel_rfl) (by kernel_rfl) rfl (.run rfl (P_pick_and rfl rfl rfl)) ?_
          refine Canon.pure _ _ 12 _ _ rfl (by kernel_rfl) (by kernel_rfl) rfl (.run rfl (P_assign (v := .bool _) rfl)) ?_
          refine Canon.done _ _ (by kernel_rfl) ?_
          refine thenN ?_
          refine AW.cond (b := _) rfl (fun hc4 => ?_) (fun hc4 => ?_)
          · skip
            refine AW.seq ?_
            refine AW.region ?_
            refine AOL.p (P_assign (v := .int .i64 _) rfl) rfl ?_
            refine AOL.nil ?_
            refine thenN ?_
            refine AW.ret ?_
            refine blkR ?_
            refine thenR ?_
            refine blkR ?_
            refine thenR ?_
            refine thenR ?_
            refine blkR ?_
            refine thenR ?_
            refine ⟨.inr rfl, [.int .i64 _], .cons (.tmp _ _ rfl) <| .nil, .cons _ (.refl _), ?_⟩
            exact congrArg (AV.int .i64) (by unfold streamS; rw [ifF hc1, hR.2, drop_cons ha, go_stop (x := 14) (by rw [hst, ifF hc3, if_pos hc4]) (by decide)])
          · skip
            refine AW.seq ?_
            refine AW.region ?_
            refine AOL.p (P_move (v := .val _) rfl) rfl ?_
            refine AOL.p (P_load_ptr_agg (l := [.int .i64 _, .int .i64 _, .int .i64 _, .int .i64 _, _]) tok rfl rfl rfl rfl rfl) rfl ?_
            refine AOL.p (P_callf (by kernel_rfl) rfl rfl (s_of a)) rfl ?_
            refine AOL.pk (P_klook (i := 0) (eq := eqId a) tok rfl rfl rfl rfl rfl (by kernel_rfl) rfl rfl (rfl) (mapId_eq a (l.take k)) (mapId_look a (l.take k))) rfl rfl ?_
            refine AOL.p (P_assign (v := .bool _) rfl) rfl ?_
            refine AOL.nil ?_
            refine thenN ?_
            refine AW.cond (b := _) rfl (fun hc5 => ?_) (fun hc5 => ?_)
            · skip
              refine AW.seq ?_
              refine AW.region ?_
              refine AOL.p (P_assign (v := .int .i64 _) rfl) rfl ?_
              refine AOL.nil ?_
              refine thenN ?_
              refine AW.ret ?_
              refine blkR ?_
              refine thenR ?_
              refine blkR ?_
              refine thenR ?_
              refine thenR ?_
              refine blkR ?_
              refine thenR ?_
              refine ⟨.inr rfl, [.int .i64 _], .cons (.tmp _ _ rfl) <| .nil, .cons _ (.refl _), ?_⟩
              exact congrArg (AV.int .i64) (by unfold streamS; rw [ifF hc1, hR.2, drop_cons ha, go_stop (x := 7) (by rw [hst, ifF hc3, ifF hc4, if_pos hc5]) (by decide)])
            · skip
              have hs0 : stepE (l.take k) a = 0 := by rw [hst, ifF hc3, ifF hc4, ifF hc5]
              refine AW.skip ?_
              refine blkN ?_
              refine thenN ?_
              refine AW.region ?_
              refine AOL.p (P_move (v := .val _) rfl) rfl ?_
              refine AOL.p (P_load_ptr_agg (l := [.int .i64 _, .int .i64 _, .int .i64 _, .int .i64 _, _]) tok rfl rfl rfl rfl rfl) rfl ?_
              refine AOL.p (P_callf (by kernel_rfl) rfl rfl (s_of a)) rfl ?_
              refine AOL.e (E_kmapAdd (i := 0) (eq := eqId a) (H2 := _ :: _) tok rfl rfl rfl rfl rfl rfl rfl (rfl) (mapId_eq a (l.take k)) rfl (mapId_new hc5) rfl) rfl ?_
              rintro _ _ ⟨rfl, rfl⟩
              refine AOL.nil ?_
              refine blkN ?_
              refine thenN ?_
              refine AW.region ?_
              refine AOL.p (P_add rfl rfl rfl (by constructor <;> omega)) rfl ?_
              refine AOL.p (P_move (v := .int .i64 _) rfl) rfl ?_
              refine AOL.nil ?_
              refine thenN ?_
              refine ⟨k + 1, ?_, ?_, GS.trans (GS.heapTo (H2 := _ :: _) (congrArg (fun x => HO.kmap b9 x :: H) ((mapId_snoc a (l.take k)).trans (congrArg mapId (take_get ha).symm)))) (GS.weaken ⟨rfl, rfl, rfl, rfl, rfl, trivial⟩ (.refl _))⟩
              · exact ⟨hlt, by rw [hR.2, drop_cons ha, go_step hs0, take_get ha]⟩
              · omega
      · skip
        have hd := get_end hc2
        refine AW.exit ?_
        refine thenE ?_
        refine thenE ?_
        refine blkHit ?_
        refine thenN ?_
        refine AW.seq ?_
        refine AW.region ?_
        refine AOL.p (P_assign (v := .int .i64 _) rfl) rfl ?_
        refine AOL.nil ?_
        refine thenN ?_
        refine AW.ret ?_
        refine ⟨.inr rfl, [.int .i64 _], .cons (.tmp _ _ rfl) <| .nil, .cons _ (.refl _), ?_⟩
        exact congrArg (AV.int .i64) (by unfold streamS; rw [ifF hc1, hR.2, hd]; rfl)
set_option maxRecDepth 20000 in
set_option maxHeartbeats 1600000 in
theorem s_sorted (l : List Ev) (hl : l.length ≤ 12) (hv : ∀ e ∈ l, e.values.length ≤ 1048576) : APure Try.prog 19 [.sl 5 (l.map cEv)] (.tuple [.sl 5 ((sortedR l).1.map cEv), .bool (sortedR l).2]) := by
  refine APure.body (n := 46) tok Try.func19 rfl rfl rfl fun H => ?_
  refine AW.ghostPost ?_
  refine AW.seq ?_
  refine AW.region ?_
  refine AOL.p (P_assign_nil (z := 5) rfl) rfl ?_
  refine AOL.p (P_assign (v := .bool _) rfl) rfl ?_
  refine AOL.nil ?_
  refine thenN ?_
  refine AW.seq ?_
  refine AW.region ?_
  refine AOL.e (E_makeKMap) rfl ?_
  rintro _ _ ⟨b10, rfl, rfl⟩
  refine AOL.p (P_assign (v := .val _) rfl) rfl ?_
  refine AOL.nil ?_
  refine thenN ?_
  refine AW.seq ?_
  refine AW.region ?_
  refine AOL.p (P_assign (v := .val _) rfl) rfl ?_
  refine AOL.ghost (GS.buf 30 5) ?_
  refine AOL.nil ?_
  refine thenN ?_
  refine AW.seq ?_
  refine AW.seq ?_
  refine AW.region ?_
  refine AOL.p (P_move (v := .sl _ _) rfl) rfl ?_
  refine AOL.p (P_len_sl (n := l.length) tok rfl rfl rfl (by simp)) rfl ?_
  refine AOL.p (P_move (v := .int .i64 _) rfl) rfl ?_
  refine AOL.nil ?_
  refine thenN ?_
  refine AW.block ?_
  refine AW.loopS (fun (p : Nat × List Ev × Value) => (⟨[(4, .val (.map (some b10))), (5, .val p.2.2), (11, .sl 5 (l.map cEv)), (12, .int .i64 l.length), (13, .int .i64 (p.1 : Int))], .buf p.2.2 (p.2.1.map cEv) 30 5 :: .kmap b10 (mapEv p.2.1) :: H, 46⟩ : St)) (fun (p : Nat × List Ev × Value) => p.1 ≤ l.length ∧ onceS [] l = onceS p.2.1 (l.drop p.1) ∧ p.2.1.length ≤ p.1) (fun (p : Nat × List Ev × Value) => l.length - p.1) ((0, [], .slice none 0 0)) ?_ (GS.weaken ⟨rfl, rfl, rfl, rfl, rfl, trivial⟩ (.refl _)) ?_
  · exact ⟨Nat.zero_le _, rfl, Nat.le_refl _⟩
  · rintro p hR
    have hol := hR.2.2
    refine AW.seq ?_
    refine AW.region ?_
    refine AOL.p (P_lss rfl rfl) rfl ?_
    refine AOL.nil ?_
    refine thenN ?_
    refine AW.seq ?_
    refine AW.cond (b := _) rfl (fun hc1 => ?_) (fun hc1 => ?_)
    · skip
      obtain ⟨a, ha⟩ := get_lt hc1
      have hlt := get_lt' ha
      have hm := List.mem_of_getElem? ha
      have hg := hR.2.1
      rw [drop_cons ha] at hg
      refine AW.skip ?_
      refine thenN ?_
      refine AW.seq ?_
      refine AW.block ?_
      refine AW.seq ?_
      refine AW.region ?_
      refine AOL.p (P_indexAddr (c := [.int .i64 _, .int .i64 _, .int .i64 _, .int .i64 _, _]) tok rfl rfl rfl rfl rfl rfl (by omega) (map_at ha)) rfl ?_
      refine AOL.p (P_load_ptr_agg (l := [.int .i64 _, .int .i64 _, .int .i64 _, .int .i64 _, _]) tok rfl rfl rfl rfl rfl) rfl ?_
      refine AOL.e (E_alloc (l := [.int .i64 0, .int .i64 0, .int .i64 0, .int .i64 0, .sl 3 []]) (by kernel_rfl)) rfl ?_
      rintro _ _ ⟨b7, rfl, rfl⟩
      refine AOL.e (E_store (k := 0) (v := .agg _) (cs' := [.int .i64 _, .int .i64 _, .int .i64 _, .int .i64 _, _]) (H2 := _ :: _ :: _ :: _) tok rfl rfl rfl rfl rfl rfl rfl rfl rfl) rfl ?_
      rintro _ _ ⟨rfl, rfl⟩
      refine AOL.ghost (GS.freeze (t := 7) 0 rfl rfl) ?_
      refine AOL.nil ?_
      refine thenN ?_
      refine AW.seq ?_
      refine AW.region ?_
      refine AOL.p (P_move (v := .val _) rfl) rfl ?_
      refine AOL.p (P_load_ptr_agg (l := [.int .i64 _, .int .i64 _, .int .i64 _, .int .i64 _, _]) tok rfl rfl rfl rfl rfl) rfl ?_
      refine AOL.p (P_callf (by kernel_rfl) rfl rfl (s_of a)) rfl ?_
      refine AOL.pk (OpP.toW (P_klook2 (i := 1) (eq := eqId a) tok rfl rfl rfl rfl rfl (by kernel_rfl) rfl rfl (rfl) (mapEv_eq a p.2.1) rfl rfl) (mapEv_look a p.2.1)) rfl rfl ?_
      refine AOL.p (P_move (v := .tuple _) rfl) rfl ?_
      refine AOL.p (P_extract (v := .agg [.int .i64 _, .int .i64 _, .int .i64 _, .int .i64 _, _]) rfl rfl) rfl ?_
      refine AOL.p (P_extract (v := .bool _) rfl rfl) rfl ?_
      refine AOL.e (E_alloc (l := [.int .i64 0, .int .i64 0, .int .i64 0, .int .i64 0, .sl 3 []]) (by kernel_rfl)) rfl ?_
      rintro _ _ ⟨b8, rfl, rfl⟩
      refine AOL.e (E_store (k := 0) (v := .agg _) (cs' := [.int .i64 _, .int .i64 _, .int .i64 _, .int .i64 _, _]) (H2 := _ :: _ :: _ :: _) tok rfl rfl rfl rfl rfl rfl rfl rfl rfl) rfl ?_
      rintro _ _ ⟨rfl, rfl⟩
      refine AOL.p (P_assign (v := .bool _) rfl) rfl ?_
      refine AOL.ghost (GS.freeze (t := 8) 0 rfl rfl) ?_
      refine AOL.nil ?_
      refine thenN ?_
      refine AW.seq ?_
      refine AW.seq ?_
      refine AW.region ?_
      refine AOL.p (P_move (v := .bool _) rfl) rfl ?_
      refine AOL.p (P_move (v := .bool _) rfl) rfl ?_
      refine AOL.g (y := .agg _) _ [] rfl (EntL.all trivial) (fun hG => P_load_ptr_agg (l := [.int .i64 _, .int .i64 _, .int .i64 _, .int .i64 _, _]) tok rfl rfl rfl rfl rfl) rfl ?_
      refine AOL.g (y := .agg _) _ [] rfl (EntL.all trivial) (fun hG => P_load_ptr_agg (l := [.int .i64 _, .int .i64 _, .int .i64 _, .int .i64 _, _]) tok rfl rfl rfl rfl rfl) rfl ?_
      refine AOL.g (y := .bool _) _ [(26, _), (27, _)] rfl (EntL.all ⟨Ent.self _ _, Ent.self _ _, trivial⟩) (fun hG => P_callf (by kernel_rfl) rfl rfl (s_equal _ a)) rfl ?_
      refine AOL.g (y := .bool _) _ [(28, _)] rfl (EntL.all ⟨Ent.self _ _, trivial⟩) (fun hG => P_not rfl) rfl ?_
      refine AOL.p (P_pick_and rfl rfl rfl) rfl ?_
      refine AOL.nil ?_
      refine thenN ?_
      refine AW.cond (b := _) rfl (fun hc2 => ?_) (fun hc2 => ?_)
      · skip
        refine AW.seq ?_
        refine AW.region ?_
        refine AOL.p (P_assign_nil (z := 5) rfl) rfl ?_
        refine AOL.p (P_assign (v := .bool _) rfl) rfl ?_
        refine AOL.nil ?_
        refine thenN ?_
        refine AW.ret ?_
        refine thenR ?_
        refine blkR ?_
        refine thenR ?_
        refine thenR ?_
        refine blkR ?_
        refine thenR ?_
        refine ⟨_, GS.refl _, .inr rfl, [.sl _ _, .bool _], .cons (.tmp _ _ rfl) <| .cons (.tmp _ _ rfl) <| .nil, .cons _ (.cons _ (.refl _)), ?_⟩
        have h9 : sortedR l = ([], false) := by unfold sortedR sortedS; rw [hg, once_bad hc2]; rfl
        rw [h9]; rfl
      · skip
        refine AW.skip ?_
        refine thenN ?_
        refine AW.seq ?_
        refine AW.region ?_
        refine AOL.p (P_move (v := .bool _) rfl) rfl ?_
        refine AOL.p (P_not rfl) rfl ?_
        refine AOL.nil ?_
        refine thenN ?_
        refine AW.cond (b := _) rfl (fun hc3 => ?_) (fun hc3 => ?_)
        · skip
          refine AW.seq ?_
          refine AW.draw mixed (fun _ => True) trivial (by kernel_rfl) ?_
          refine Canon.pure _ _ 0 _ _ rfl (by kernel_rfl) (by kernel_rfl) rfl (.run rfl (P_move (v := .val _) rfl)) ?_
          refine Canon.pure _ _ 1 _ _ rfl (by kernel_rfl) (by kernel_rfl) rfl (.run rfl (P_load_ptr_agg (l := [.int .i64 _, .int .i64 _, .int .i64 _, .int .i64 _, _]) tok rfl rfl rfl rfl rfl)) ?_
          refine Canon.pure _ _ 2 _ _ rfl (by kernel_rfl) (by kernel_rfl) rfl (.run rfl (P_callf (by kernel_rfl) rfl rfl (s_of a))) ?_
          refine Canon.pure _ _ 3 _ _ rfl (by kernel_rfl) (by kernel_rfl) rfl (.run rfl (P_load_ptr_agg (l := [.int .i64 _, .int .i64 _, .int .i64 _, .int .i64 _, _]) tok rfl rfl rfl rfl rfl)) ?_
          refine Canon.eff _ _ 4 _ _ rfl (by kernel_rfl) rfl rfl (E_kmapAdd (i := 1) (eq := eqId a) (H2 := _ :: _ :: _) tok rfl rfl rfl rfl rfl rfl rfl (rfl) (mapEv_eq a p.2.1) rfl (mapEv_new (by simpa using hc3)) rfl) (fun _ _ _ => trivial) ?_
          rintro _ _ ⟨rfl, rfl⟩
          refine Canon.done _ _ (by kernel_rfl) ?_
          refine thenN ?_
          refine AW.region ?_
          refine AOL.p (P_move (v := .val _) rfl) rfl ?_
          refine AOL.p (P_load_ptr_agg (l := [.int .i64 _, .int .i64 _, .int .i64 _, .int .i64 _, _]) tok rfl rfl rfl rfl rfl) rfl ?_
          refine AOL.p (P_callf (by kernel_rfl) rfl rfl (s_copied a (hv a hm))) rfl ?_
          refine AOL.p (P_buildSlice (es := [[.int .i64 _, .int .i64 _, .int .i64 _, .int .i64 _, _]]) tok rfl rfl rfl rfl rfl rfl rfl rfl rfl) rfl ?_
          refine AOL.e (E_appendBuf (k := 0) tok rfl rfl rfl rfl rfl rfl rfl rfl (rfl) (by simp; omega) (by simp [maxLen]; omega)) rfl ?_
          rintro _ _ ⟨v41, rfl, rfl⟩
          refine AOL.p (P_assign (v := .val _) rfl) rfl ?_
          refine AOL.nil ?_
          refine blkN ?_
          refine thenN ?_
          refine AW.region ?_
          refine AOL.p (P_add rfl rfl rfl (by constructor <;> omega)) rfl ?_
          refine AOL.p (P_move (v := .int .i64 _) rfl) rfl ?_
          refine AOL.nil ?_
          refine thenN ?_
          refine ⟨(p.1 + 1, p.2.1 ++ [a], v41), ?_, ?_, GS.trans ((GS.heapTo (H2 := _ :: _) (by first | rfl | exact congr (congrArg (fun x y => HO.buf v41 x 30 5 :: HO.kmap b10 y :: H) (List.map_append (f := cEv) (l₁ := p.2.1) (l₂ := [a])).symm) (mapEv_snoc a p.2.1)))) (GS.weaken ⟨rfl, rfl, rfl, rfl, rfl, trivial⟩ (.refl _))⟩
          · exact ⟨hlt, by rw [hg, once_new hc3], by simp; omega⟩
          · simp only; omega
        · skip
          refine AW.skip ?_
          refine blkN ?_
          refine thenN ?_
          refine AW.region ?_
          refine AOL.p (P_add rfl rfl rfl (by constructor <;> omega)) rfl ?_
          refine AOL.p (P_move (v := .int .i64 _) rfl) rfl ?_
          refine AOL.nil ?_
          refine thenN ?_
          refine ⟨(p.1 + 1, p.2.1, p.2.2), ?_, ?_, GS.trans ((GS.heapTo (H2 := _ :: _) (by first | rfl | exact congr (congrArg (fun x y => HO.buf v41 x 30 5 :: HO.kmap b10 y :: H) (List.map_append (f := cEv) (l₁ := p.2.1) (l₂ := [a])).symm) (mapEv_snoc a p.2.1)))) (GS.weaken ⟨rfl, rfl, rfl, rfl, rfl, trivial⟩ (.refl _))⟩
          · exact ⟨hlt, by rw [hg, once_old hc2 hc3], by simp only; omega⟩
          · simp only; omega
    · skip
      have hd := get_end hc1
      have hg := hR.2.1
      rw [hd] at hg
      refine AW.exit ?_
      refine thenE ?_
      refine thenE ?_
      refine blkHit ?_
      refine thenN ?_
      refine AW.seq ?_
      refine AW.region ?_
      refine AOL.p (P_move (v := .val _) rfl) rfl ?_
      refine AOL.e (E_callf (by kernel_rfl) rfl rfl (s_sortE 27 (by kernel_rfl) evCmp e_Compare p.2.1 (by omega) p.2.2 _)) rfl ?_
      rintro _ _ ⟨rfl, rfl⟩
      refine AOL.nil ?_
      refine thenN ?_
      refine AW.seq ?_
      refine AW.region ?_
      refine AOL.p (P_move (v := .val _) rfl) rfl ?_
      refine AOL.p (P_assign (v := .val _) rfl) rfl ?_
      refine AOL.p (P_assign (v := .bool _) rfl) rfl ?_
      refine AOL.nil ?_
      refine thenN ?_
      refine AW.ret ?_
      refine ⟨_, GS.freezeBuf (t := 2) 0 rfl rfl, .inr rfl, [.sl _ _, .bool _], .cons (.tmp _ _ rfl) <| .cons (.tmp _ _ rfl) <| .nil, .cons _ (.refl _), ?_⟩
      have h9 : sortedR l = (sortS ev0 evLt p.2.1, true) := by unfold sortedR sortedS; rw [hg]; rfl
      rw [h9]; rfl

end Go.Proofs.Ytfpbgdjloccdbaa
