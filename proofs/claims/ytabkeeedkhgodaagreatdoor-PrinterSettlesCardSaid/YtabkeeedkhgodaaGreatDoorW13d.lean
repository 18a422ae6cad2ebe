/-
  Walks: the functions of the writer, part 2. No condition.
-/
import Derived.Test.YtabkeeedkhgodaaGreatDoorW13c
import Derived.KernelRfl
namespace Go.Proofs.YtabkeeedkhgodaaGreatDoor
open Go Go.Aw
set_option linter.unusedVariables false
set_option linter.unusedSimpArgs false

theorem agg_look {n : Int} (h : 1 ≤ n ∧ n ≤ 5) : mget [(1, AV.str w_tsum), (2, .str w_tmin), (3, .str w_tmax), (4, .str w_tfirst), (5, .str w_tlast)] n = some (.str (aggT n)) := by
  have : n = 1 ∨ n = 2 ∨ n = 3 ∨ n = 4 ∨ n = 5 := by omega
  rcases this with rfl | rfl | rfl | rfl | rfl <;> rfl
theorem oper_look {n : Int} (h : 5 ≤ n ∧ n ≤ 11) : mget [(5, AV.str [32, 43, 32]), (6, .str [32, 45, 32]), (7, .str [32, 60, 32]), (8, .str [32, 60, 61, 32]), (9, .str [32, 61, 61, 32]), (10, .str [32, 97, 110, 100, 32]), (11, .str [32, 111, 114, 32])] n = some (.str (([32] : Str) ++ operT n ++ [32])) := by
  have : n = 5 ∨ n = 6 ∨ n = 7 ∨ n = 8 ∨ n = 9 ∨ n = 10 ∨ n = 11 := by omega
  rcases this with rfl | rfl | rfl | rfl | rfl | rfl | rfl <;> rfl
theorem tail_at {l : List Syn} {k : Nat} {x : Syn} (h : l[k]? = some x) : tailC ((l.map writeC).drop k) = [44, 32] ++ writeC x ++ tailC ((l.map writeC).drop (k + 1)) := by
  obtain ⟨h1, h2⟩ := List.getElem?_eq_some_iff.1 (wm_at h)
  rw [List.drop_eq_getElem_cons h1, tailC, h2]
theorem flat_at {l : List Syn} {k : Nat} {x : Syn} (h : l[k]? = some x) : ((l.map writeC).drop k).flatten = writeC x ++ ((l.map writeC).drop (k + 1)).flatten := by
  obtain ⟨h1, h2⟩ := List.getElem?_eq_some_iff.1 (wm_at h)
  rw [List.drop_eq_getElem_cons h1, List.flatten_cons, h2]
set_option maxRecDepth 20000 in
set_option maxHeartbeats 3200000 in
theorem w_total (b : Nat) (o : Str) (v : Value) (a : Option Addr) (ha : a = none ∨ a = some ⟨b, 0, none⟩) (R : List HO) (t : Syn) (hi : 1 ≤ t.num ∧ t.num ≤ 5) (hn : ∀ x ∈ t.kids, NodeOK b x) (hb : o.length + (aggT t.num ++ ([40] : Str) ++ t.text ++ ([46] : Str) ++ t.name ++ tailC (t.kids.map writeC) ++ ([41] : Str)).length ≤ big) : ACall Tryz.prog 78 (.row v (byc o).length 5 1 :: .box b 62 (.val (.pointer a) :: .row v 1 (byc o) :: FNS b) :: R) [.val (.pointer (some ⟨b, 0, none⟩)), .agg (cSyn t)] (WQ b (o ++ (aggT t.num ++ ([40] : Str) ++ t.text ++ ([46] : Str) ++ t.name ++ tailC (t.kids.map writeC) ++ ([41] : Str))) R) := by
 refine ACall.body (n := 37) tok Tryz.func78 rfl rfl rfl ?_
 refine AW.seq (AW.region ?_)
 refine AOL.p (P_box (v := .agg _) (cs := [.int .i64 _, .str _, .str _, .int .i64 _, _, .int .i64 _]) rfl rfl rfl) rfl ?_
 refine AOL.nil (thenN ?_)
 refine AW.seq (AW.region ?_)
 refine AOL.e (E_makeMap) rfl ?_
 rintro _ _ ⟨b7, rfl, rfl⟩
 refine AOL.e (E_insert (i := 0) (x := .str _) (H2 := _ :: _ :: _ :: _) tok rfl rfl rfl rfl rfl rfl rfl rfl rfl rfl) rfl ?_
 rintro _ _ ⟨rfl, rfl⟩
 refine AOL.e (E_insert (i := 0) (x := .str _) (H2 := _ :: _ :: _ :: _) tok rfl rfl rfl rfl rfl rfl rfl rfl rfl rfl) rfl ?_
 rintro _ _ ⟨rfl, rfl⟩
 refine AOL.e (E_insert (i := 0) (x := .str _) (H2 := _ :: _ :: _ :: _) tok rfl rfl rfl rfl rfl rfl rfl rfl rfl rfl) rfl ?_
 rintro _ _ ⟨rfl, rfl⟩
 refine AOL.e (E_insert (i := 0) (x := .str _) (H2 := _ :: _ :: _ :: _) tok rfl rfl rfl rfl rfl rfl rfl rfl rfl rfl) rfl ?_
 rintro _ _ ⟨rfl, rfl⟩
 refine AOL.e (E_insert (i := 0) (x := .str _) (H2 := _ :: _ :: _ :: _) tok rfl rfl rfl rfl rfl rfl rfl rfl rfl rfl) rfl ?_
 rintro _ _ ⟨rfl, rfl⟩
 refine AOL.p (P_move (v := .val _) rfl) rfl ?_
 refine AOL.p (P_assign (v := .val _) rfl) rfl ?_
 refine AOL.ghost (GS.freezeMap (t := 4) 0 rfl rfl) ?_
 refine AOL.nil (thenN ?_)
 refine AW.seq (AW.region ?_)
 refine AOL.p (P_move (v := .val _) rfl) rfl ?_
 refine AOL.p (P_move (v := .mapv _) rfl) rfl ?_
 refine AOL.p (P_fieldAddr_ptr (cs' := [.int .i64 _, _, .int .i64 _]) tok rfl rfl rfl rfl rfl rfl) rfl ?_
 refine AOL.p (P_load_ptr (c := .int .i64 _) tok rfl rfl rfl) rfl ?_
 refine AOL.p (P_lookup tok rfl rfl rfl rfl rfl rfl (agg_look hi)) rfl ?_
 refine AOL.p (P_fieldAddr_ptr (cs' := [.str _, .str _, .int .i64 _, _, .int .i64 _]) tok rfl rfl rfl rfl rfl rfl) rfl ?_
 refine AOL.p (P_load_ptr (c := .str _) tok rfl rfl rfl) rfl ?_
 refine AOL.p (P_fieldAddr_ptr (cs' := [.str _, .int .i64 _, _, .int .i64 _]) tok rfl rfl rfl rfl rfl rfl) rfl ?_
 refine AOL.p (P_load_ptr (c := .str _) tok rfl rfl rfl) rfl ?_
 refine AOL.p (P_buildSlice (es := [[.str _], [.str _], [.str _], [.str _], [.str _]]) tok rfl rfl rfl rfl rfl rfl rfl rfl rfl) rfl ?_
 refine AOL.e (E_callf (by kernel_rfl) rfl rfl (w_put b _ _ _ ha R [aggT t.num, [40], t.text, [46], t.name] (Nat.le_of_ble_eq_true rfl) (by have h := hb; (try simp only [List.flatten_cons, List.flatten_nil, List.length_append, List.length_cons, List.length_nil, List.append_nil] at h ⊢); omega))) rfl ?_
 rintro _ _ ⟨v19, a19, rfl, ha19, rfl⟩
 refine AOL.nil (thenN ?_)
 refine AW.seq ?_
 refine AW.seq (AW.region ?_)
 refine AOL.p (P_fieldAddr_ptr (cs' := [_, .int .i64 _]) tok rfl rfl rfl rfl rfl rfl) rfl ?_
 refine AOL.p (P_load_ptr (c := .sl _ _) tok rfl rfl rfl) rfl ?_
 refine AOL.p (P_len_sl (n := t.kids.length) tok rfl rfl rfl (by simp)) rfl ?_
 refine AOL.p (P_move (v := .int .i64 _) rfl) rfl ?_
 refine AOL.nil (thenN ?_)
 refine AW.block ?_
 refine AW.sllen 21 rfl fun hlen => ?_
 simp only [List.length_map, maxLen] at hlen
 refine AW.loopS (fun (p : Nat × Str × Value × Option Addr) => (⟨[(0, .val (.pointer (some ⟨b, 0, none⟩))), (21, .sl 6 (t.kids.map encS)), (22, .int .i64 t.kids.length), (23, .int .i64 (p.1 : Int))], (.row p.2.2.1 (byc p.2.1).length 5 1 :: .box b 62 (.val (.pointer p.2.2.2) :: .row p.2.2.1 1 (byc p.2.1) :: FNS b) :: R), 37⟩ : St)) (fun (p : Nat × Str × Value × Option Addr) => p.1 ≤ t.kids.length ∧ p.2.1 ++ tailC ((t.kids.map writeC).drop p.1) = (o ++ [aggT t.num, [40], t.text, [46], t.name].flatten) ++ tailC (t.kids.map writeC) ∧ (p.2.2.2 = none ∨ p.2.2.2 = some ⟨b, 0, none⟩)) (fun (p : Nat × Str × Value × Option Addr) => t.kids.length - p.1) ((0, _, v19, a19)) ?_ (GS.weaken ⟨rfl, rfl, rfl, rfl, trivial⟩ (.refl _)) ?_
 · exact ⟨Nat.zero_le _, rfl, ha19⟩
 ·
  rintro p hR
  have ha := hR.2.2
  refine AW.seq (AW.region ?_)
  refine AOL.p (P_lss rfl rfl) rfl ?_
  refine AOL.nil (thenN ?_)
  refine AW.seq ?_
  refine AW.cond (b := _) rfl (fun hc1 => ?_) (fun hc1 => ?_)
  ·
   obtain ⟨x, hx⟩ := gt2 (l := t.kids) (k := p.1) (by have := of_decide_eq_true hc1; omega)
   have hlt := gt_lt hx
   have hnx := hn x (List.mem_of_getElem? hx)
   have hr := tail_at hx
   have hle := congrArg List.length hR.2.1
   rw [hr] at hle
   simp only [List.length_append, List.length_cons, List.length_nil, List.flatten_cons, List.flatten_nil, List.append_nil] at hle
   refine AW.skip ?_
   refine thenN ?_
   refine AW.seq ?_
   refine AW.block ?_
   refine AW.seq (AW.region ?_)
   refine AOL.p (P_indexAddr (c := [.int .i64 _, .str _, .str _, .int .i64 _, _, .int .i64 _]) tok rfl rfl rfl rfl rfl rfl (by omega) (encS_at hx)) rfl ?_
   refine AOL.p (P_load_ptr_agg (l := [.int .i64 _, .str _, .str _, .int .i64 _, _, .int .i64 _]) tok rfl rfl rfl rfl rfl) rfl ?_
   refine AOL.e (E_alloc (l := [.int .i64 0, .str [], .str [], .int .i64 0, .sl 6 [], .int .i64 0]) (by kernel_rfl)) rfl ?_
   rintro _ _ ⟨b6, rfl, rfl⟩
   refine AOL.e (E_store (k := 0) (v := .agg _) (cs' := [.int .i64 _, .str _, .str _, .int .i64 _, _, .int .i64 _]) (H2 := _ :: _ :: _ :: _) tok rfl rfl rfl rfl rfl rfl rfl rfl rfl) rfl ?_
   rintro _ _ ⟨rfl, rfl⟩
   refine AOL.ghost (GS.freeze (t := 6) 0 rfl rfl) ?_
   refine AOL.nil (thenN ?_)
   refine AW.seq (AW.region ?_)
   refine AOL.p (P_move (v := .val _) rfl) rfl ?_
   refine AOL.p (P_buildSlice (es := [[.str _]]) tok rfl rfl rfl rfl rfl rfl rfl rfl rfl) rfl ?_
   refine AOL.e (E_callf (by kernel_rfl) rfl rfl (w_put b _ _ _ ha R [[44, 32]] (Nat.le_of_ble_eq_true rfl) (by simp only [List.length_append, List.length_cons, List.length_nil, List.flatten_cons, List.flatten_nil, List.append_nil] at hb ⊢; omega))) rfl ?_
   rintro _ _ ⟨v29, a29, rfl, ha29, rfl⟩
   refine AOL.nil (thenN ?_)
   refine AW.region ?_
   refine AOL.p (P_move (v := .val _) rfl) rfl ?_
   refine AOL.p (P_load_ptr_agg (l := [.int .i64 _, .str _, .str _, .int .i64 _, _, .int .i64 _]) tok rfl rfl rfl rfl rfl) rfl ?_
   refine AOL.e (E_callf (by kernel_rfl) rfl rfl (hnx _ _ _ ha29 R (by simp only [List.length_append, List.length_cons, List.length_nil, List.flatten_cons, List.flatten_nil, List.append_nil] at hb ⊢; omega))) rfl ?_
   rintro _ _ ⟨v32, a32, rfl, ha32, rfl⟩
   refine AOL.nil ?_
   refine blkN ?_
   refine thenN ?_
   refine AW.region ?_
   refine AOL.p (P_add rfl rfl rfl (by constructor <;> omega)) rfl ?_
   refine AOL.p (P_move (v := .int .i64 _) rfl) rfl ?_
   refine AOL.nil (thenN ?_)
   refine ⟨(p.1 + 1, (p.2.1 ++ [[44, 32]].flatten) ++ writeC x, v32, a32), ?_, ?_, GS.weaken ⟨rfl, rfl, rfl, rfl, trivial⟩ (.refl _)⟩
   · exact ⟨hlt, by rw [← hR.2.1, hr]; simp, ha32⟩
   · simp only; omega
  ·
   have hk : (t.kids.map writeC).length ≤ p.1 := by have := of_decide_eq_false hc1; rw [List.length_map]; omega
   have he := hR.2.1
   rw [List.drop_eq_nil_of_le hk, tailC, List.append_nil] at he
   have hle := congrArg List.length he
   simp only [List.length_append, List.length_cons, List.length_nil, List.flatten_cons, List.flatten_nil, List.append_nil] at hle
   refine AW.exit ?_
   refine thenE ?_
   refine thenE ?_
   refine blkHit ?_
   refine thenN ?_
   refine AW.region ?_
   refine AOL.p (P_move (v := .val _) rfl) rfl ?_
   refine AOL.p (P_buildSlice (es := [[.str _]]) tok rfl rfl rfl rfl rfl rfl rfl rfl rfl) rfl ?_
   refine AOL.e (E_callf (by kernel_rfl) rfl rfl (w_put b _ _ _ hR.2.2 R [[41]] (Nat.le_of_ble_eq_true rfl) (by simp only [List.length_append, List.length_cons, List.length_nil, List.flatten_cons, List.flatten_nil, List.append_nil] at hb ⊢; omega))) rfl ?_
   rintro _ _ ⟨v36, a36, rfl, ha36, rfl⟩
   refine AOL.nil ?_
   refine ⟨.inl rfl, [], .nil, _, .refl _, ?_⟩
   exact wq ha36 (by rw [he]; simp only [List.flatten_cons, List.flatten_nil, List.append_nil, List.append_assoc, List.cons_append, List.nil_append])
set_option maxRecDepth 20000 in
set_option maxHeartbeats 3200000 in
theorem w_binary (b : Nat) (o : Str) (v : Value) (a : Option Addr) (ha : a = none ∨ a = some ⟨b, 0, none⟩) (R : List HO) (t k0 k1 : Syn) (h0 : t.kids[0]? = some k0) (h1 : t.kids[1]? = some k1) (hi : 5 ≤ t.num ∧ t.num ≤ 11) (hn0 : NodeOK b k0) (hn1 : NodeOK b k1) (hb : o.length + (wrapT t k0 (writeC k0) ++ ([32] : Str) ++ operT t.num ++ ([32] : Str) ++ wrapT t k1 (writeC k1)).length ≤ big) : ACall Tryz.prog 79 (.row v (byc o).length 5 1 :: .box b 62 (.val (.pointer a) :: .row v 1 (byc o) :: FNS b) :: R) [.val (.pointer (some ⟨b, 0, none⟩)), .agg (cSyn t)] (WQ b (o ++ (wrapT t k0 (writeC k0) ++ ([32] : Str) ++ operT t.num ++ ([32] : Str) ++ wrapT t k1 (writeC k1))) R) := by
 refine ACall.body (n := 28) tok Tryz.func79 rfl rfl rfl ?_
 refine AW.seq (AW.region ?_)
 refine AOL.p (P_box (v := .agg _) (cs := [.int .i64 _, .str _, .str _, .int .i64 _, _, .int .i64 _]) rfl rfl rfl) rfl ?_
 refine AOL.nil (thenN ?_)
 refine AW.seq (AW.region ?_)
 refine AOL.e (E_makeMap) rfl ?_
 rintro _ _ ⟨b5, rfl, rfl⟩
 refine AOL.e (E_insert (i := 0) (x := .str _) (H2 := _ :: _ :: _ :: _) tok rfl rfl rfl rfl rfl rfl rfl rfl rfl rfl) rfl ?_
 rintro _ _ ⟨rfl, rfl⟩
 refine AOL.e (E_insert (i := 0) (x := .str _) (H2 := _ :: _ :: _ :: _) tok rfl rfl rfl rfl rfl rfl rfl rfl rfl rfl) rfl ?_
 rintro _ _ ⟨rfl, rfl⟩
 refine AOL.e (E_insert (i := 0) (x := .str _) (H2 := _ :: _ :: _ :: _) tok rfl rfl rfl rfl rfl rfl rfl rfl rfl rfl) rfl ?_
 rintro _ _ ⟨rfl, rfl⟩
 refine AOL.e (E_insert (i := 0) (x := .str _) (H2 := _ :: _ :: _ :: _) tok rfl rfl rfl rfl rfl rfl rfl rfl rfl rfl) rfl ?_
 rintro _ _ ⟨rfl, rfl⟩
 refine AOL.e (E_insert (i := 0) (x := .str _) (H2 := _ :: _ :: _ :: _) tok rfl rfl rfl rfl rfl rfl rfl rfl rfl rfl) rfl ?_
 rintro _ _ ⟨rfl, rfl⟩
 refine AOL.e (E_insert (i := 0) (x := .str _) (H2 := _ :: _ :: _ :: _) tok rfl rfl rfl rfl rfl rfl rfl rfl rfl rfl) rfl ?_
 rintro _ _ ⟨rfl, rfl⟩
 refine AOL.e (E_insert (i := 0) (x := .str _) (H2 := _ :: _ :: _ :: _) tok rfl rfl rfl rfl rfl rfl rfl rfl rfl rfl) rfl ?_
 rintro _ _ ⟨rfl, rfl⟩
 refine AOL.p (P_move (v := .val _) rfl) rfl ?_
 refine AOL.p (P_assign (v := .val _) rfl) rfl ?_
 refine AOL.ghost (GS.freezeMap (t := 4) 0 rfl rfl) ?_
 refine AOL.nil (thenN ?_)
 refine AW.seq ?_
 refine AW.draw mixed (fun _ => True) trivial (by kernel_rfl) ?_
 refine Canon.pure _ _ 0 _ _ rfl (by kernel_rfl) (by kernel_rfl) rfl (.run rfl (P_move (v := .val _) rfl)) ?_
 refine Canon.pure _ _ 1 _ _ rfl (by kernel_rfl) (by kernel_rfl) rfl (.run rfl (P_load_ptr_agg (l := [.int .i64 _, .str _, .str _, .int .i64 _, _, .int .i64 _]) tok rfl rfl rfl rfl rfl)) ?_
 refine Canon.pure _ _ 2 _ _ rfl (by kernel_rfl) (by kernel_rfl) rfl (.run rfl (P_fieldAddr_ptr (cs' := [_, .int .i64 _]) tok rfl rfl rfl rfl rfl rfl)) ?_
 refine Canon.pure _ _ 3 _ _ rfl (by kernel_rfl) (by kernel_rfl) rfl (.run rfl (P_load_ptr (c := .sl _ _) tok rfl rfl rfl)) ?_
 refine Canon.pure _ _ 4 _ _ rfl (by kernel_rfl) (by kernel_rfl) rfl (.run rfl (P_indexAddr (c := [.int .i64 _, .str _, .str _, .int .i64 _, _, .int .i64 _]) tok rfl rfl rfl rfl rfl rfl (by decide) (encS_at h0))) ?_
 refine Canon.pure _ _ 5 _ _ rfl (by kernel_rfl) (by kernel_rfl) rfl (.run rfl (P_load_ptr_agg (l := [.int .i64 _, .str _, .str _, .int .i64 _, _, .int .i64 _]) tok rfl rfl rfl rfl rfl)) ?_
 refine Canon.eff _ _ 6 _ _ rfl (by kernel_rfl) rfl rfl (E_callf (by kernel_rfl) rfl rfl (w_operand b _ _ _ ha R t k0 hn0 (by have h := hb; (try simp only [List.flatten_cons, List.flatten_nil, List.length_append, List.length_cons, List.length_nil, List.append_nil] at h ⊢); omega))) (fun _ _ _ => trivial) ?_
 rintro _ _ ⟨v13, a13, rfl, ha13, rfl⟩
 refine Canon.done _ _ (by kernel_rfl) ?_
 refine thenN ?_
 refine AW.seq (AW.region ?_)
 refine AOL.p (P_move (v := .val _) rfl) rfl ?_
 refine AOL.p (P_move (v := .mapv _) rfl) rfl ?_
 refine AOL.p (P_fieldAddr_ptr (cs' := [.int .i64 _, _, .int .i64 _]) tok rfl rfl rfl rfl rfl rfl) rfl ?_
 refine AOL.p (P_load_ptr (c := .int .i64 _) tok rfl rfl rfl) rfl ?_
 refine AOL.p (P_lookup tok rfl rfl rfl rfl rfl rfl (oper_look hi)) rfl ?_
 refine AOL.p (P_buildSlice (es := [[.str _]]) tok rfl rfl rfl rfl rfl rfl rfl rfl rfl) rfl ?_
 refine AOL.e (E_callf (by kernel_rfl) rfl rfl (w_put b _ _ _ ha13 R [[32] ++ operT t.num ++ [32]] (Nat.le_of_ble_eq_true rfl) (by have h := hb; (try simp only [List.flatten_cons, List.flatten_nil, List.length_append, List.length_cons, List.length_nil, List.append_nil] at h ⊢); omega))) rfl ?_
 rintro _ _ ⟨v20, a20, rfl, ha20, rfl⟩
 refine AOL.nil (thenN ?_)
 refine AW.draw mixed (fun _ => True) trivial (by kernel_rfl) ?_
 refine Canon.pure _ _ 0 _ _ rfl (by kernel_rfl) (by kernel_rfl) rfl (.run rfl (P_move (v := .val _) rfl)) ?_
 refine Canon.pure _ _ 1 _ _ rfl (by kernel_rfl) (by kernel_rfl) rfl (.run rfl (P_load_ptr_agg (l := [.int .i64 _, .str _, .str _, .int .i64 _, _, .int .i64 _]) tok rfl rfl rfl rfl rfl)) ?_
 refine Canon.pure _ _ 2 _ _ rfl (by kernel_rfl) (by kernel_rfl) rfl (.run rfl (P_fieldAddr_ptr (cs' := [_, .int .i64 _]) tok rfl rfl rfl rfl rfl rfl)) ?_
 refine Canon.pure _ _ 3 _ _ rfl (by kernel_rfl) (by kernel_rfl) rfl (.run rfl (P_load_ptr (c := .sl _ _) tok rfl rfl rfl)) ?_
 refine Canon.pure _ _ 4 _ _ rfl (by kernel_rfl) (by kernel_rfl) rfl (.run rfl (P_indexAddr (c := [.int .i64 _, .str _, .str _, .int .i64 _, _, .int .i64 _]) tok rfl rfl rfl rfl rfl rfl (by decide) (encS_at h1))) ?_
 refine Canon.pure _ _ 5 _ _ rfl (by kernel_rfl) (by kernel_rfl) rfl (.run rfl (P_load_ptr_agg (l := [.int .i64 _, .str _, .str _, .int .i64 _, _, .int .i64 _]) tok rfl rfl rfl rfl rfl)) ?_
 refine Canon.eff _ _ 6 _ _ rfl (by kernel_rfl) rfl rfl (E_callf (by kernel_rfl) rfl rfl (w_operand b _ _ _ ha20 R t k1 hn1 (by have h := hb; (try simp only [List.flatten_cons, List.flatten_nil, List.length_append, List.length_cons, List.length_nil, List.append_nil] at h ⊢); omega))) (fun _ _ _ => trivial) ?_
 rintro _ _ ⟨v27, a27, rfl, ha27, rfl⟩
 refine Canon.done _ _ (by kernel_rfl) ?_
 refine ⟨.inl rfl, [], .nil, _, .refl _, ?_⟩
 exact wq ha27 (by simp only [List.flatten_cons, List.flatten_nil, List.append_nil, List.append_assoc, List.cons_append, List.nil_append])
set_option maxRecDepth 20000 in
set_option maxHeartbeats 1600000 in
theorem w_program (b : Nat) (o : Str) (v : Value) (a : Option Addr) (ha : a = none ∨ a = some ⟨b, 0, none⟩) (R : List HO) (t : Syn) (hn : ∀ x ∈ t.kids, NodeOK b x) (hb : o.length + ((t.kids.map writeC).flatten).length ≤ big) : ACall Tryz.prog 68 (.row v (byc o).length 5 1 :: .box b 62 (.val (.pointer a) :: .row v 1 (byc o) :: FNS b) :: R) [.agg (cSyn t), .ptr [.val (.pointer (some ⟨b, 0, none⟩))]] (WQ b (o ++ ((t.kids.map writeC).flatten)) R) := by
 refine ACall.body (n := 16) tok Tryz.func68 rfl rfl rfl ?_
 refine AW.seq (AW.region ?_)
 refine AOL.p (P_box (v := .agg _) (cs := [.int .i64 _, .str _, .str _, .int .i64 _, _, .int .i64 _]) rfl rfl rfl) rfl ?_
 refine AOL.nil (thenN ?_)
 refine AW.seq (AW.region ?_)
 refine AOL.p (P_fieldAddr_ptr (cs' := [_, .int .i64 _]) tok rfl rfl rfl rfl rfl rfl) rfl ?_
 refine AOL.p (P_load_ptr (c := .sl _ _) tok rfl rfl rfl) rfl ?_
 refine AOL.p (P_len_sl (n := t.kids.length) tok rfl rfl rfl (by simp)) rfl ?_
 refine AOL.p (P_move (v := .int .i64 _) rfl) rfl ?_
 refine AOL.nil (thenN ?_)
 refine AW.block ?_
 refine AW.sllen 6 rfl fun hlen => ?_
 simp only [List.length_map, maxLen] at hlen
 refine AW.loopS (fun (p : Nat × Str × Value × Option Addr) => (⟨[(1, .ptr [.val (.pointer (some ⟨b, 0, none⟩))]), (6, .sl 6 (t.kids.map encS)), (7, .int .i64 t.kids.length), (8, .int .i64 (p.1 : Int))], (.row p.2.2.1 (byc p.2.1).length 5 1 :: .box b 62 (.val (.pointer p.2.2.2) :: .row p.2.2.1 1 (byc p.2.1) :: FNS b) :: R), 16⟩ : St)) (fun (p : Nat × Str × Value × Option Addr) => p.1 ≤ t.kids.length ∧ p.2.1 ++ ((t.kids.map writeC).drop p.1).flatten = o ++ (t.kids.map writeC).flatten ∧ (p.2.2.2 = none ∨ p.2.2.2 = some ⟨b, 0, none⟩)) (fun (p : Nat × Str × Value × Option Addr) => t.kids.length - p.1) ((0, o, v, a)) ?_ (GS.weaken ⟨rfl, rfl, rfl, rfl, trivial⟩ (.refl _)) ?_
 · exact ⟨Nat.zero_le _, rfl, ha⟩
 ·
  rintro p hR
  have ha := hR.2.2
  refine AW.seq (AW.region ?_)
  refine AOL.p (P_lss rfl rfl) rfl ?_
  refine AOL.nil (thenN ?_)
  refine AW.seq ?_
  refine AW.cond (b := _) rfl (fun hc1 => ?_) (fun hc1 => ?_)
  ·
   obtain ⟨x, hx⟩ := gt2 (l := t.kids) (k := p.1) (by have := of_decide_eq_true hc1; omega)
   have hlt := gt_lt hx
   have hnx := hn x (List.mem_of_getElem? hx)
   have hr := flat_at hx
   have hle := congrArg List.length hR.2.1
   rw [hr] at hle
   simp only [List.length_append] at hle
   refine AW.skip ?_
   refine thenN ?_
   refine AW.seq ?_
   refine AW.block ?_
   refine AW.seq (AW.region ?_)
   refine AOL.p (P_indexAddr (c := [.int .i64 _, .str _, .str _, .int .i64 _, _, .int .i64 _]) tok rfl rfl rfl rfl rfl rfl (by omega) (encS_at hx)) rfl ?_
   refine AOL.p (P_load_ptr_agg (l := [.int .i64 _, .str _, .str _, .int .i64 _, _, .int .i64 _]) tok rfl rfl rfl rfl rfl) rfl ?_
   refine AOL.e (E_alloc (l := [.int .i64 0, .str [], .str [], .int .i64 0, .sl 6 [], .int .i64 0]) (by kernel_rfl)) rfl ?_
   rintro _ _ ⟨b4, rfl, rfl⟩
   refine AOL.e (E_store (k := 0) (v := .agg _) (cs' := [.int .i64 _, .str _, .str _, .int .i64 _, _, .int .i64 _]) (H2 := _ :: _ :: _ :: _) tok rfl rfl rfl rfl rfl rfl rfl rfl rfl) rfl ?_
   rintro _ _ ⟨rfl, rfl⟩
   refine AOL.ghost (GS.freeze (t := 4) 0 rfl rfl) ?_
   refine AOL.nil (thenN ?_)
   refine AW.region ?_
   refine AOL.p (P_load_ptr (c := .val _) tok rfl rfl rfl) rfl ?_
   refine AOL.p (P_load_ptr_agg (l := [.int .i64 _, .str _, .str _, .int .i64 _, _, .int .i64 _]) tok rfl rfl rfl rfl rfl) rfl ?_
   refine AOL.e (E_callf (by kernel_rfl) rfl rfl (hnx _ _ _ ha R (by omega))) rfl ?_
   rintro _ _ ⟨v14, a14, rfl, ha14, rfl⟩
   refine AOL.nil ?_
   refine blkN ?_
   refine thenN ?_
   refine AW.region ?_
   refine AOL.p (P_add rfl rfl rfl (by constructor <;> omega)) rfl ?_
   refine AOL.p (P_move (v := .int .i64 _) rfl) rfl ?_
   refine AOL.nil (thenN ?_)
   refine ⟨(p.1 + 1, p.2.1 ++ writeC x, v14, a14), ?_, ?_, GS.weaken ⟨rfl, rfl, rfl, rfl, trivial⟩ (.refl _)⟩
   · exact ⟨hlt, by rw [← hR.2.1, hr]; simp, ha14⟩
   · simp only; omega
  ·
   have hk : (t.kids.map writeC).length ≤ p.1 := by have := of_decide_eq_false hc1; rw [List.length_map]; omega
   have he := hR.2.1
   rw [List.drop_eq_nil_of_le hk, List.flatten_nil, List.append_nil] at he
   refine AW.exit ?_
   refine thenE ?_
   refine thenE ?_
   refine blkHit ?_
   refine ⟨.inl rfl, [], .nil, _, .refl _, ?_⟩
   exact wq hR.2.2 he
set_option maxRecDepth 20000 in
set_option maxHeartbeats 3200000 in
theorem w_query (b : Nat) (o : Str) (v : Value) (a : Option Addr) (ha : a = none ∨ a = some ⟨b, 0, none⟩) (R : List HO) (t k0 k1 : Syn) (r : List Syn) (hq : t.kids = k0 :: k1 :: r) (hn1 : NodeOK b k1) (hnr : ∀ x ∈ r, NodeOK b x) (hb : o.length + (([113, 117, 101, 114, 121, 32] : Str) ++ t.text ++ (if !(k0.text == []) then ([32, 98, 121, 32] : Str) ++ k0.text else []) ++ ([10, 109, 97, 116, 99, 104, 32] : Str) ++ writeC k1 ++ ([10, 114, 101, 116, 117, 114, 110, 32] : Str) ++ joinC (r.map writeC) ++ ([59, 10] : Str)).length ≤ big) : ACall Tryz.prog 72 (.row v (byc o).length 5 1 :: .box b 62 (.val (.pointer a) :: .row v 1 (byc o) :: FNS b) :: R) [.val (.pointer (some ⟨b, 0, none⟩)), .agg (cSyn t)] (WQ b (o ++ (([113, 117, 101, 114, 121, 32] : Str) ++ t.text ++ (if !(k0.text == []) then ([32, 98, 121, 32] : Str) ++ k0.text else []) ++ ([10, 109, 97, 116, 99, 104, 32] : Str) ++ writeC k1 ++ ([10, 114, 101, 116, 117, 114, 110, 32] : Str) ++ joinC (r.map writeC) ++ ([59, 10] : Str))) R) := by
 refine ACall.body (n := 41) tok Tryz.func72 rfl rfl rfl ?_
 refine AW.seq (AW.region ?_)
 refine AOL.p (P_box (v := .agg _) (cs := [.int .i64 _, .str _, .str _, .int .i64 _, _, .int .i64 _]) rfl rfl rfl) rfl ?_
 refine AOL.nil (thenN ?_)
 refine AW.seq ?_
 have hb0 := hb
 refine AW.region ?_
 refine AOL.p (P_move (v := .val _) rfl) rfl ?_
 refine AOL.p (P_fieldAddr_ptr (cs' := [.str _, .str _, .int .i64 _, _, .int .i64 _]) tok rfl rfl rfl rfl rfl rfl) rfl ?_
 refine AOL.p (P_load_ptr (c := .str _) tok rfl rfl rfl) rfl ?_
 refine AOL.p (P_buildSlice (es := [[.str _], [.str _]]) tok rfl rfl rfl rfl rfl rfl rfl rfl rfl) rfl ?_
 refine AOL.e (E_callf (by kernel_rfl) rfl rfl (w_put b _ _ _ ha R [[113, 117, 101, 114, 121, 32], t.text] (Nat.le_of_ble_eq_true rfl) (by have h := hb; (try simp only [List.flatten_cons, List.flatten_nil, List.length_append, List.length_cons, List.length_nil, List.append_nil] at h ⊢); omega))) rfl ?_
 rintro _ _ ⟨v9, a9, rfl, ha9, rfl⟩
 refine AOL.nil (thenN ?_)
 refine AW.seq ?_
 refine AW.seq (AW.region ?_)
 refine AOL.p (P_fieldAddr_ptr (cs' := [_, .int .i64 _]) tok rfl rfl rfl rfl rfl rfl) rfl ?_
 refine AOL.p (P_load_ptr (c := .sl _ _) tok rfl rfl rfl) rfl ?_
 refine AOL.p (P_indexAddr (c := [.int .i64 _, .str _, .str _, .int .i64 _, _, .int .i64 _]) tok rfl rfl rfl rfl rfl rfl (by decide) (encS_at (k := 0) (a := k0) (by rw [hq]; rfl))) rfl ?_
 refine AOL.p (P_fieldAddr_ptr (cs' := [.str _, .str _, .int .i64 _, _, .int .i64 _]) tok rfl rfl rfl rfl rfl rfl) rfl ?_
 refine AOL.p (P_load_ptr (c := .str _) tok rfl rfl rfl) rfl ?_
 refine AOL.p (P_assign (v := .str _) rfl) rfl ?_
 refine AOL.nil (thenN ?_)
 refine AW.seq (AW.region ?_)
 refine AOL.p (P_move (v := .str _) rfl) rfl ?_
 refine AOL.p (P_neq_str rfl rfl) rfl ?_
 refine AOL.nil (thenN ?_)
 refine AW.cond (b := _) rfl (fun hc1 => ?_) (fun hc1 => ?_)
 ·
  rw [if_pos hc1] at hb
  refine AW.region ?_
  refine AOL.p (P_move (v := .val _) rfl) rfl ?_
  refine AOL.p (P_move (v := .str _) rfl) rfl ?_
  refine AOL.p (P_buildSlice (es := [[.str _], [.str _]]) tok rfl rfl rfl rfl rfl rfl rfl rfl rfl) rfl ?_
  refine AOL.e (E_callf (by kernel_rfl) rfl rfl (w_put b _ _ _ ha9 R [[32, 98, 121, 32], k0.text] (Nat.le_of_ble_eq_true rfl) (by have h := hb; (try simp only [List.flatten_cons, List.flatten_nil, List.length_append, List.length_cons, List.length_nil, List.append_nil] at h ⊢); omega))) rfl ?_
  rintro _ _ ⟨v20, a20, rfl, ha20, rfl⟩
  refine AOL.nil (thenN ?_)
  refine AW.seq (AW.region ?_)
  refine AOL.p (P_move (v := .val _) rfl) rfl ?_
  refine AOL.p (P_buildSlice (es := [[.str _]]) tok rfl rfl rfl rfl rfl rfl rfl rfl rfl) rfl ?_
  refine AOL.e (E_callf (by kernel_rfl) rfl rfl (w_put b _ _ _ ha20 R [[10, 109, 97, 116, 99, 104, 32]] (Nat.le_of_ble_eq_true rfl) (by have h := hb; (try simp only [List.flatten_cons, List.flatten_nil, List.length_append, List.length_cons, List.length_nil, List.append_nil] at h ⊢); omega))) rfl ?_
  rintro _ _ ⟨v23, a23, rfl, ha23, rfl⟩
  refine AOL.nil (thenN ?_)
  refine AW.seq (AW.region ?_)
  refine AOL.p (P_move (v := .val _) rfl) rfl ?_
  refine AOL.p (P_fieldAddr_ptr (cs' := [_, .int .i64 _]) tok rfl rfl rfl rfl rfl rfl) rfl ?_
  refine AOL.p (P_load_ptr (c := .sl _ _) tok rfl rfl rfl) rfl ?_
  refine AOL.p (P_indexAddr (c := [.int .i64 _, .str _, .str _, .int .i64 _, _, .int .i64 _]) tok rfl rfl rfl rfl rfl rfl (by decide) (encS_at (k := 1) (a := k1) (by rw [hq]; rfl))) rfl ?_
  refine AOL.p (P_load_ptr_agg (l := [.int .i64 _, .str _, .str _, .int .i64 _, _, .int .i64 _]) tok rfl rfl rfl rfl rfl) rfl ?_
  refine AOL.e (E_callf (by kernel_rfl) rfl rfl (hn1 _ _ _ ha23 R (by have h := hb; (try simp only [List.flatten_cons, List.flatten_nil, List.length_append, List.length_cons, List.length_nil, List.append_nil] at h ⊢); omega))) rfl ?_
  rintro _ _ ⟨v29, a29, rfl, ha29, rfl⟩
  refine AOL.nil (thenN ?_)
  refine AW.seq (AW.region ?_)
  refine AOL.p (P_move (v := .val _) rfl) rfl ?_
  refine AOL.p (P_buildSlice (es := [[.str _]]) tok rfl rfl rfl rfl rfl rfl rfl rfl rfl) rfl ?_
  refine AOL.e (E_callf (by kernel_rfl) rfl rfl (w_put b _ _ _ ha29 R [[10, 114, 101, 116, 117, 114, 110, 32]] (Nat.le_of_ble_eq_true rfl) (by have h := hb; (try simp only [List.flatten_cons, List.flatten_nil, List.length_append, List.length_cons, List.length_nil, List.append_nil] at h ⊢); omega))) rfl ?_
  rintro _ _ ⟨v32, a32, rfl, ha32, rfl⟩
  refine AOL.nil (thenN ?_)
  refine AW.seq (AW.region ?_)
  refine AOL.p (P_move (v := .val _) rfl) rfl ?_
  refine AOL.p (P_fieldAddr_ptr (cs' := [_, .int .i64 _]) tok rfl rfl rfl rfl rfl rfl) rfl ?_
  refine AOL.p (P_load_ptr (c := .sl _ _) tok rfl rfl rfl) rfl ?_
  refine AOL.p (P_slice_sl (l := 2) (h := (t.kids.map encS).length) tok rfl rfl rfl rfl rfl (⟨_, rfl⟩) (rfl) (by rw [List.length_map, hq]; simp) (Nat.le_refl _) (show _ = r.map encS from by rw [List.take_length, hq]; rfl)) rfl ?_
  refine AOL.e (E_callf (by kernel_rfl) rfl rfl (w_list b _ _ _ ha32 R r hnr (by have h := hb; (try simp only [List.flatten_cons, List.flatten_nil, List.length_append, List.length_cons, List.length_nil, List.append_nil] at h ⊢); omega))) rfl ?_
  rintro _ _ ⟨v37, a37, rfl, ha37, rfl⟩
  refine AOL.nil (thenN ?_)
  refine AW.region ?_
  refine AOL.p (P_move (v := .val _) rfl) rfl ?_
  refine AOL.p (P_buildSlice (es := [[.str _]]) tok rfl rfl rfl rfl rfl rfl rfl rfl rfl) rfl ?_
  refine AOL.e (E_callf (by kernel_rfl) rfl rfl (w_put b _ _ _ ha37 R [[59, 10]] (Nat.le_of_ble_eq_true rfl) (by have h := hb; (try simp only [List.flatten_cons, List.flatten_nil, List.length_append, List.length_cons, List.length_nil, List.append_nil] at h ⊢); omega))) rfl ?_
  rintro _ _ ⟨v40, a40, rfl, ha40, rfl⟩
  refine AOL.nil ?_
  refine ⟨.inl rfl, [], .nil, _, .refl _, ?_⟩
  exact wq ha40 (by rw [if_pos hc1]; simp only [List.flatten_cons, List.flatten_nil, List.append_nil, List.append_assoc, List.cons_append, List.nil_append])
 ·
  rw [ifF hc1] at hb
  have ha20 := ha9
  refine AW.skip ?_
  refine thenN ?_
  refine AW.seq (AW.region ?_)
  refine AOL.p (P_move (v := .val _) rfl) rfl ?_
  refine AOL.p (P_buildSlice (es := [[.str _]]) tok rfl rfl rfl rfl rfl rfl rfl rfl rfl) rfl ?_
  refine AOL.e (E_callf (by kernel_rfl) rfl rfl (w_put b _ _ _ ha20 R [[10, 109, 97, 116, 99, 104, 32]] (Nat.le_of_ble_eq_true rfl) (by have h := hb; (try simp only [List.flatten_cons, List.flatten_nil, List.length_append, List.length_cons, List.length_nil, List.append_nil] at h ⊢); omega))) rfl ?_
  rintro _ _ ⟨v23, a23, rfl, ha23, rfl⟩
  refine AOL.nil (thenN ?_)
  refine AW.seq (AW.region ?_)
  refine AOL.p (P_move (v := .val _) rfl) rfl ?_
  refine AOL.p (P_fieldAddr_ptr (cs' := [_, .int .i64 _]) tok rfl rfl rfl rfl rfl rfl) rfl ?_
  refine AOL.p (P_load_ptr (c := .sl _ _) tok rfl rfl rfl) rfl ?_
  refine AOL.p (P_indexAddr (c := [.int .i64 _, .str _, .str _, .int .i64 _, _, .int .i64 _]) tok rfl rfl rfl rfl rfl rfl (by decide) (encS_at (k := 1) (a := k1) (by rw [hq]; rfl))) rfl ?_
  refine AOL.p (P_load_ptr_agg (l := [.int .i64 _, .str _, .str _, .int .i64 _, _, .int .i64 _]) tok rfl rfl rfl rfl rfl) rfl ?_
  refine AOL.e (E_callf (by kernel_rfl) rfl rfl (hn1 _ _ _ ha23 R (by have h := hb; (try simp only [List.flatten_cons, List.flatten_nil, List.length_append, List.length_cons, List.length_nil, List.append_nil] at h ⊢); omega))) rfl ?_
  rintro _ _ ⟨v29, a29, rfl, ha29, rfl⟩
  refine AOL.nil (thenN ?_)
  refine AW.seq (AW.region ?_)
  refine AOL.p (P_move (v := .val _) rfl) rfl ?_
  refine AOL.p (P_buildSlice (es := [[.str _]]) tok rfl rfl rfl rfl rfl rfl rfl rfl rfl) rfl ?_
  refine AOL.e (E_callf (by kernel_rfl) rfl rfl (w_put b _ _ _ ha29 R [[10, 114, 101, 116, 117, 114, 110, 32]] (Nat.le_of_ble_eq_true rfl) (by have h := hb; (try simp only [List.flatten_cons, List.flatten_nil, List.length_append, List.length_cons, List.length_nil, List.append_nil] at h ⊢); omega))) rfl ?_
  rintro _ _ ⟨v32, a32, rfl, ha32, rfl⟩
  refine AOL.nil (thenN ?_)
  refine AW.seq (AW.region ?_)
  refine AOL.p (P_move (v := .val _) rfl) rfl ?_
  refine AOL.p (P_fieldAddr_ptr (cs' := [_, .int .i64 _]) tok rfl rfl rfl rfl rfl rfl) rfl ?_
  refine AOL.p (P_load_ptr (c := .sl _ _) tok rfl rfl rfl) rfl ?_
  refine AOL.p (P_slice_sl (l := 2) (h := (t.kids.map encS).length) tok rfl rfl rfl rfl rfl (⟨_, rfl⟩) (rfl) (by rw [List.length_map, hq]; simp) (Nat.le_refl _) (show _ = r.map encS from by rw [List.take_length, hq]; rfl)) rfl ?_
  refine AOL.e (E_callf (by kernel_rfl) rfl rfl (w_list b _ _ _ ha32 R r hnr (by have h := hb; (try simp only [List.flatten_cons, List.flatten_nil, List.length_append, List.length_cons, List.length_nil, List.append_nil] at h ⊢); omega))) rfl ?_
  rintro _ _ ⟨v37, a37, rfl, ha37, rfl⟩
  refine AOL.nil (thenN ?_)
  refine AW.region ?_
  refine AOL.p (P_move (v := .val _) rfl) rfl ?_
  refine AOL.p (P_buildSlice (es := [[.str _]]) tok rfl rfl rfl rfl rfl rfl rfl rfl rfl) rfl ?_
  refine AOL.e (E_callf (by kernel_rfl) rfl rfl (w_put b _ _ _ ha37 R [[59, 10]] (Nat.le_of_ble_eq_true rfl) (by have h := hb; (try simp only [List.flatten_cons, List.flatten_nil, List.length_append, List.length_cons, List.length_nil, List.append_nil] at h ⊢); omega))) rfl ?_
  rintro _ _ ⟨v40, a40, rfl, ha40, rfl⟩
  refine AOL.nil ?_
  refine ⟨.inl rfl, [], .nil, _, .refl _, ?_⟩
  exact wq ha40 (by rw [ifF hc1]; simp only [List.flatten_cons, List.flatten_nil, List.append_nil, List.append_assoc, List.cons_append, List.nil_append])

end Go.Proofs.YtabkeeedkhgodaaGreatDoor
