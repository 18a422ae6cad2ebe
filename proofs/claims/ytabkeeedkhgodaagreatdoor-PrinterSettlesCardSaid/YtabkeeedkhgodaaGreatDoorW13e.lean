/-
  Walks: the writer made. No condition.
-/
import Derived.Test.YtabkeeedkhgodaaGreatDoorW13d
import Derived.KernelRfl
namespace Go.Proofs.YtabkeeedkhgodaaGreatDoor
open Go Go.Aw
set_option linter.unusedVariables false
set_option linter.unusedSimpArgs false

set_option maxRecDepth 20000 in
set_option maxHeartbeats 400000 in
theorem w_call (b : Nat) (w : Str) : APure Tryz.prog 74 [.val (.pointer (some ⟨b, 0, none⟩)), .str w] (.fn (.func 122) [] [.ptr [.val (.pointer (some ⟨b, 0, none⟩))], .ptr [.str w]]) := by
 refine APure.body (n := 6) tok Tryz.func74 rfl rfl rfl fun H => ?_
 refine AW.seq (AW.region ?_)
 refine AOL.p (P_box (v := .val _) (cs := [_]) rfl rfl rfl) rfl ?_
 refine AOL.p (P_box (v := .str _) (cs := [.str _]) rfl rfl rfl) rfl ?_
 refine AOL.p (P_assign (v := .val _) rfl) rfl ?_
 refine AOL.nil (thenN ?_)
 refine AW.seq (AW.region ?_)
 refine AOL.p (P_makeFunc (l := []) (l' := [.ptr _, .ptr _]) rfl rfl) rfl ?_
 refine AOL.p (P_assign (v := .fn _ _ _) rfl) rfl ?_
 refine AOL.nil (thenN ?_)
 refine AW.ret ?_
 refine ⟨.inr rfl, [.fn _ _ _], .cons (.tmp _ _ rfl) <| .nil, .refl _, ?_⟩
 rfl
set_option maxRecDepth 20000 in
set_option maxHeartbeats 6400000 in
theorem w_new (H : List HO) : ACall Tryz.prog 47 H [] (fun x H' => ∃ b, x = .val (.pointer (some ⟨b, 0, none⟩)) ∧ H' = (.row (.slice none 0 0) (byc []).length 5 1 :: .box b 62 (.val (.pointer none) :: .row (.slice none 0 0) 1 (byc []) :: FNS b) :: H)) := by
 refine ACall.body (n := 40) tok Tryz.func47 rfl rfl rfl ?_
 refine AW.seq (AW.region ?_)
 refine AOL.p (P_assign (v := .val _) rfl) rfl ?_
 refine AOL.nil (thenN ?_)
 refine AW.seq (AW.region ?_)
 refine AOL.p (P_buildZ (l0 := [.val (.pointer none), .val (.slice none 0 0), .val .nilFunc, .val .nilFunc, .val .nilFunc, .val .nilFunc, .val .nilFunc, .val .nilFunc, .val .nilFunc, .val .nilFunc, .val .nilFunc, .val .nilFunc, .val .nilFunc, .val .nilFunc, .val .nilFunc, .val .nilFunc, .val .nilFunc, .val .nilFunc, .val .nilFunc, .val .nilFunc, .val .nilFunc]) (l := [_, _, _, _, _, _, _, _, _, _, _, _, _, _, _, _, _, _, _, _, _]) tok rfl rfl (by kernel_rfl) rfl) rfl ?_
 refine AOL.e (E_box (v := .agg _) (cs := [_, _, _, _, _, _, _, _, _, _, _, _, _, _, _, _, _, _, _, _, _]) rfl rfl rfl) rfl ?_
 rintro _ _ ⟨b3, rfl, rfl⟩
 refine AOL.e (E_alloc (l := [.val (.pointer none)]) (by kernel_rfl)) rfl ?_
 rintro _ _ ⟨b1, rfl, rfl⟩
 refine AOL.e (E_store (k := 0) (v := .val _) (cs' := [_]) (H2 := _ :: _ :: _) tok rfl rfl rfl rfl rfl rfl rfl rfl rfl) rfl ?_
 rintro _ _ ⟨rfl, rfl⟩
 refine AOL.ghost (GS.freeze (t := 1) 0 rfl rfl) ?_
 refine AOL.ghost (GS.cellRow 0 1 5 1 rfl rfl rfl rfl) ?_
 refine AOL.nil (thenN ?_)
 refine AW.seq ?_
 refine AW.draw mixed (fun _ => True) trivial (by kernel_rfl) ?_
 refine Canon.pure _ _ 0 _ _ rfl (by kernel_rfl) (by kernel_rfl) rfl (.run rfl (P_load_ptr (c := .val _) tok rfl rfl rfl)) ?_
 refine Canon.pure _ _ 1 _ _ rfl (by kernel_rfl) (by kernel_rfl) rfl (.run rfl (P_makeFunc (l := []) (l' := [.ptr _]) rfl rfl)) ?_
 refine Canon.pure _ _ 2 _ _ rfl (by kernel_rfl) (by kernel_rfl) rfl (.run rfl (P_load_ptr (c := .val _) tok rfl rfl rfl)) ?_
 refine Canon.pure _ _ 3 _ _ rfl (by kernel_rfl) (by kernel_rfl) rfl (.run rfl (P_makeFunc (l := [.val _]) (l' := []) rfl rfl)) ?_
 refine Canon.pure _ _ 4 _ _ rfl (by kernel_rfl) (by kernel_rfl) rfl (.run rfl (P_makeFunc (l := []) (l' := [.ptr _]) rfl rfl)) ?_
 refine Canon.pure _ _ 5 _ _ rfl (by kernel_rfl) (by kernel_rfl) rfl (.run rfl (P_load_ptr (c := .val _) tok rfl rfl rfl)) ?_
 refine Canon.pure _ _ 6 _ _ rfl (by kernel_rfl) (by kernel_rfl) rfl (.run rfl (P_makeFunc (l := [.val _]) (l' := []) rfl rfl)) ?_
 refine Canon.pure _ _ 7 _ _ rfl (by kernel_rfl) (by kernel_rfl) rfl (.run rfl (P_load_ptr (c := .val _) tok rfl rfl rfl)) ?_
 refine Canon.pure _ _ 8 _ _ rfl (by kernel_rfl) (by kernel_rfl) rfl (.run rfl (P_makeFunc (l := [.val _]) (l' := []) rfl rfl)) ?_
 refine Canon.pure _ _ 9 _ _ rfl (by kernel_rfl) (by kernel_rfl) rfl (.run rfl (P_load_ptr (c := .val _) tok rfl rfl rfl)) ?_
 refine Canon.pure _ _ 10 _ _ rfl (by kernel_rfl) (by kernel_rfl) rfl (.run rfl (P_callf (by kernel_rfl) rfl rfl (w_call b3 _))) ?_
 refine Canon.pure _ _ 11 _ _ rfl (by kernel_rfl) (by kernel_rfl) rfl (.run rfl (P_load_ptr (c := .val _) tok rfl rfl rfl)) ?_
 refine Canon.pure _ _ 12 _ _ rfl (by kernel_rfl) (by kernel_rfl) rfl (.run rfl (P_callf (by kernel_rfl) rfl rfl (w_call b3 _))) ?_
 refine Canon.pure _ _ 13 _ _ rfl (by kernel_rfl) (by kernel_rfl) rfl (.run rfl (P_load_ptr (c := .val _) tok rfl rfl rfl)) ?_
 refine Canon.pure _ _ 14 _ _ rfl (by kernel_rfl) (by kernel_rfl) rfl (.run rfl (P_callf (by kernel_rfl) rfl rfl (w_call b3 _))) ?_
 refine Canon.pure _ _ 15 _ _ rfl (by kernel_rfl) (by kernel_rfl) rfl (.run rfl (P_load_ptr (c := .val _) tok rfl rfl rfl)) ?_
 refine Canon.pure _ _ 16 _ _ rfl (by kernel_rfl) (by kernel_rfl) rfl (.run rfl (P_callf (by kernel_rfl) rfl rfl (w_call b3 _))) ?_
 refine Canon.pure _ _ 17 _ _ rfl (by kernel_rfl) (by kernel_rfl) rfl (.run rfl (P_load_ptr (c := .val _) tok rfl rfl rfl)) ?_
 refine Canon.pure _ _ 18 _ _ rfl (by kernel_rfl) (by kernel_rfl) rfl (.run rfl (P_callf (by kernel_rfl) rfl rfl (w_call b3 _))) ?_
 refine Canon.pure _ _ 19 _ _ rfl (by kernel_rfl) (by kernel_rfl) rfl (.run rfl (P_load_ptr (c := .val _) tok rfl rfl rfl)) ?_
 refine Canon.pure _ _ 20 _ _ rfl (by kernel_rfl) (by kernel_rfl) rfl (.run rfl (P_callf (by kernel_rfl) rfl rfl (w_call b3 _))) ?_
 refine Canon.pure _ _ 21 _ _ rfl (by kernel_rfl) (by kernel_rfl) rfl (.run rfl (P_load_ptr (c := .val _) tok rfl rfl rfl)) ?_
 refine Canon.pure _ _ 22 _ _ rfl (by kernel_rfl) (by kernel_rfl) rfl (.run rfl (P_callf (by kernel_rfl) rfl rfl (w_call b3 _))) ?_
 refine Canon.pure _ _ 23 _ _ rfl (by kernel_rfl) (by kernel_rfl) rfl (.run rfl (P_load_ptr (c := .val _) tok rfl rfl rfl)) ?_
 refine Canon.pure _ _ 24 _ _ rfl (by kernel_rfl) (by kernel_rfl) rfl (.run rfl (P_makeFunc (l := [.val _]) (l' := []) rfl rfl)) ?_
 refine Canon.pure _ _ 25 _ _ rfl (by kernel_rfl) (by kernel_rfl) rfl (.run rfl (P_makeFunc (l := []) (l' := [.ptr _]) rfl rfl)) ?_
 refine Canon.pure _ _ 26 _ _ rfl (by kernel_rfl) (by kernel_rfl) rfl (.run rfl (P_makeFunc (l := []) (l' := [.ptr _]) rfl rfl)) ?_
 refine Canon.pure _ _ 27 _ _ rfl (by kernel_rfl) (by kernel_rfl) rfl (.run rfl (P_load_ptr (c := .val _) tok rfl rfl rfl)) ?_
 refine Canon.pure _ _ 28 _ _ rfl (by kernel_rfl) (by kernel_rfl) rfl (.run rfl (P_makeFunc (l := [.val _]) (l' := []) rfl rfl)) ?_
 refine Canon.pure _ _ 29 _ _ rfl (by kernel_rfl) (by kernel_rfl) rfl (.run rfl (P_load_ptr (c := .val _) tok rfl rfl rfl)) ?_
 refine Canon.pure _ _ 30 _ _ rfl (by kernel_rfl) (by kernel_rfl) rfl (.run rfl (P_makeFunc (l := [.val _]) (l' := []) rfl rfl)) ?_
 refine Canon.pure _ _ 31 _ _ rfl (by kernel_rfl) (by kernel_rfl) rfl (.run rfl (P_makeFunc (l := []) (l' := [.ptr _]) rfl rfl)) ?_
 refine Canon.pure _ _ 32 _ _ rfl (by kernel_rfl) (by kernel_rfl) rfl (.run rfl (P_buildArr (l := [.fn (.func 68) [] [.ptr [.val (.pointer (some ⟨b3, 0, none⟩))]], .fn (.func 69) [.val (.pointer (some ⟨b3, 0, none⟩))] [], .fn (.func 70) [] [.ptr [.val (.pointer (some ⟨b3, 0, none⟩))]], .fn (.func 72) [.val (.pointer (some ⟨b3, 0, none⟩))] [], .val .nilFunc, .fn (.func 73) [.val (.pointer (some ⟨b3, 0, none⟩))] [], .fn (.func 122) [] [.ptr [.val (.pointer (some ⟨b3, 0, none⟩))], .ptr [.str w_seq]], .fn (.func 122) [] [.ptr [.val (.pointer (some ⟨b3, 0, none⟩))], .ptr [.str w_alt]], .fn (.func 122) [] [.ptr [.val (.pointer (some ⟨b3, 0, none⟩))], .ptr [.str w_all]], .fn (.func 122) [] [.ptr [.val (.pointer (some ⟨b3, 0, none⟩))], .ptr [.str w_plus]], .fn (.func 122) [] [.ptr [.val (.pointer (some ⟨b3, 0, none⟩))], .ptr [.str w_lacks]], .fn (.func 122) [] [.ptr [.val (.pointer (some ⟨b3, 0, none⟩))], .ptr [.str w_within]], .fn (.func 122) [] [.ptr [.val (.pointer (some ⟨b3, 0, none⟩))], .ptr [.str w_twhere]], .fn (.func 75) [.val (.pointer (some ⟨b3, 0, none⟩))] [], .fn (.func 76) [] [.ptr [.val (.pointer (some ⟨b3, 0, none⟩))]], .fn (.func 77) [] [.ptr [.val (.pointer (some ⟨b3, 0, none⟩))]], .fn (.func 78) [.val (.pointer (some ⟨b3, 0, none⟩))] [], .fn (.func 79) [.val (.pointer (some ⟨b3, 0, none⟩))] [], .fn (.func 80) [] [.ptr [.val (.pointer (some ⟨b3, 0, none⟩))]]]) tok rfl rfl rfl (by kernel_rfl))) ?_
 refine Canon.pure _ _ 33 _ _ rfl (by kernel_rfl) (by kernel_rfl) rfl (.run rfl (P_nilCheck rfl)) ?_
 refine Canon.pure _ _ 34 _ _ rfl (by kernel_rfl) (by kernel_rfl) rfl (.run rfl (P_fieldAddr_val tok rfl rfl rfl rfl rfl rfl)) ?_
 refine Canon.eff _ _ 35 _ _ rfl (by kernel_rfl) rfl rfl (E_store (k := 1) (v := .agg _) (cs' := (.val (.pointer none) :: .row (.slice none 0 0) 1 [] :: [.fn (.func 68) [] [.ptr [.val (.pointer (some ⟨b3, 0, none⟩))]], .fn (.func 69) [.val (.pointer (some ⟨b3, 0, none⟩))] [], .fn (.func 70) [] [.ptr [.val (.pointer (some ⟨b3, 0, none⟩))]], .fn (.func 72) [.val (.pointer (some ⟨b3, 0, none⟩))] [], .val .nilFunc, .fn (.func 73) [.val (.pointer (some ⟨b3, 0, none⟩))] [], .fn (.func 122) [] [.ptr [.val (.pointer (some ⟨b3, 0, none⟩))], .ptr [.str w_seq]], .fn (.func 122) [] [.ptr [.val (.pointer (some ⟨b3, 0, none⟩))], .ptr [.str w_alt]], .fn (.func 122) [] [.ptr [.val (.pointer (some ⟨b3, 0, none⟩))], .ptr [.str w_all]], .fn (.func 122) [] [.ptr [.val (.pointer (some ⟨b3, 0, none⟩))], .ptr [.str w_plus]], .fn (.func 122) [] [.ptr [.val (.pointer (some ⟨b3, 0, none⟩))], .ptr [.str w_lacks]], .fn (.func 122) [] [.ptr [.val (.pointer (some ⟨b3, 0, none⟩))], .ptr [.str w_within]], .fn (.func 122) [] [.ptr [.val (.pointer (some ⟨b3, 0, none⟩))], .ptr [.str w_twhere]], .fn (.func 75) [.val (.pointer (some ⟨b3, 0, none⟩))] [], .fn (.func 76) [] [.ptr [.val (.pointer (some ⟨b3, 0, none⟩))]], .fn (.func 77) [] [.ptr [.val (.pointer (some ⟨b3, 0, none⟩))]], .fn (.func 78) [.val (.pointer (some ⟨b3, 0, none⟩))] [], .fn (.func 79) [.val (.pointer (some ⟨b3, 0, none⟩))] [], .fn (.func 80) [] [.ptr [.val (.pointer (some ⟨b3, 0, none⟩))]]])) (H2 := _ :: _ :: _) tok rfl rfl rfl rfl rfl rfl (rfl) (by kernel_rfl) rfl) (fun _ _ _ => trivial) ?_
 rintro _ _ ⟨rfl, rfl⟩
 refine Canon.done _ _ (by kernel_rfl) ?_
 refine thenN ?_
 refine AW.seq (AW.region ?_)
 refine AOL.p (P_load_ptr (c := .val _) tok rfl rfl rfl) rfl ?_
 refine AOL.p (P_assign (v := .val _) rfl) rfl ?_
 refine AOL.nil (thenN ?_)
 refine AW.ret ?_
 refine ⟨.inr rfl, [.val _], .cons (.tmp _ _ rfl) <| .nil, _, .refl _, ?_⟩
 exact ⟨b3, rfl, rfl⟩

end Go.Proofs.YtabkeeedkhgodaaGreatDoor
