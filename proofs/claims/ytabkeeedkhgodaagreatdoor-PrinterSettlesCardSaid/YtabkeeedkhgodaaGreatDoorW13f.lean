/-
  Walks: a node is written. No condition.
-/
import Derived.Test.YtabkeeedkhgodaaGreatDoorW13e
import Derived.KernelRfl
namespace Go.Proofs.YtabkeeedkhgodaaGreatDoor
open Go Go.Aw
set_option linter.unusedVariables false
set_option linter.unusedSimpArgs false

theorem fns_at {b : Nat} {n : Nat} {x y z : AV} (h : (FNS b)[n]? = some x) : (y :: z :: FNS b)[2 + n]? = some x := by rw [Nat.add_comm]; exact h
set_option maxRecDepth 20000 in
set_option maxHeartbeats 3200000 in
theorem w_node (b : Nat) (o : Str) (v : Value) (a : Option Addr) (ha : a = none ∨ a = some ⟨b, 0, none⟩) (R : List HO) (t : Syn) (s : Str) (f : Nat) (first cap : List AV) (hk : 0 ≤ t.kind ∧ t.kind ≤ 18) (hv : (FNS b)[t.kind.toNat]? = some (.fn (.func f) first cap)) (hf : fnB Tryz.prog f = true) (hc : ACall Tryz.prog f (.row v (byc o).length 5 1 :: .box b 62 (.val (.pointer a) :: .row v 1 (byc o) :: FNS b) :: R) (first ++ [.agg (cSyn t)] ++ cap) (WQ b (o ++ s) R)) : ACall Tryz.prog 48 (.row v (byc o).length 5 1 :: .box b 62 (.val (.pointer a) :: .row v 1 (byc o) :: FNS b) :: R) [.val (.pointer (some ⟨b, 0, none⟩)), .agg (cSyn t)] (WQ b (o ++ s) R) := by
 refine ACall.body (n := 13) tok Tryz.func48 rfl rfl rfl ?_
 refine AW.seq (AW.region ?_)
 refine AOL.p (P_box (v := .agg _) (cs := [.int .i64 _, .str _, .str _, .int .i64 _, _, .int .i64 _]) rfl rfl rfl) rfl ?_
 refine AOL.nil (thenN ?_)
 refine AW.draw mixed (fun H' => _ ∈ H') (List.mem_of_getElem? (i := 1) rfl) (by kernel_rfl) ?_
 refine Canon.pure _ _ 0 _ _ rfl (by kernel_rfl) (by kernel_rfl) rfl (.run rfl (P_move (v := .val _) rfl)) ?_
 refine Canon.pure _ _ 1 _ _ rfl (by kernel_rfl) (by kernel_rfl) rfl (.run rfl (P_fieldAddr_ptr (cs' := [.int .i64 _, .str _, .str _, .int .i64 _, _, .int .i64 _]) tok rfl rfl rfl rfl rfl rfl)) ?_
 refine Canon.pure _ _ 2 _ _ rfl (by kernel_rfl) (by kernel_rfl) rfl (.run rfl (P_load_ptr (c := .int .i64 _) tok rfl rfl rfl)) ?_
 refine Canon.pure _ _ 3 _ _ rfl (by kernel_rfl) (by kernel_rfl) rfl (.run rfl (P_nilCheck rfl)) ?_
 refine Canon.pure _ _ 4 _ _ rfl (by kernel_rfl) (by kernel_rfl) rfl (.run rfl (P_fieldAddr_val tok rfl rfl rfl rfl rfl rfl)) ?_
 refine Canon.pure _ _ 5 _ _ rfl (by kernel_rfl) (by kernel_rfl) rfl (.run rfl (P_indexAddr_arr (o' := (2 + t.kind.toNat)) tok rfl rfl rfl rfl rfl (hk.1) (by omega) (by show 2 + t.kind.toNat * 1 = _; omega))) ?_
 refine Canon.pure _ _ 6 _ _ rfl (by kernel_rfl) (by kernel_rfl) rfl (.run rfl (OpP.mem (fun k => P_load_box (k := k) (c := .fn (.func f) first cap) tok rfl rfl rfl (fns_at hv)) (fun _ h => h))) ?_
 refine Canon.pure _ _ 7 _ _ rfl (by kernel_rfl) (by kernel_rfl) rfl (.run rfl (P_load_ptr_agg (l := [.int .i64 _, .str _, .str _, .int .i64 _, _, .int .i64 _]) tok rfl rfl rfl rfl rfl)) ?_
 refine Canon.last _ _ 8 _ _ rfl (by kernel_rfl) rfl rfl (E_call (hf) rfl rfl rfl (ACall.front2 (R := _) 1 0 rfl rfl rfl (hc))) (by kernel_rfl) ?_
 rintro _ _ ⟨v12, a12, rfl, ha12, rfl⟩
 refine ⟨.inl rfl, [], .nil, _, .refl _, ?_⟩
 exact ⟨v12, a12, rfl, ha12, rfl⟩

end Go.Proofs.YtabkeeedkhgodaaGreatDoor
