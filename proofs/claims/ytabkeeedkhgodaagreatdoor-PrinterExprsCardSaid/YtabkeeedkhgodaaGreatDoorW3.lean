/-
  Walks: hexadecimal digits, keywords, positions. No condition.
-/
import Derived.Test.YtabkeeedkhgodaaGreatDoorW2
import Derived.KernelRfl
namespace Go.Proofs.YtabkeeedkhgodaaGreatDoor
open Go Go.Aw
set_option linter.unusedVariables false
set_option linter.unusedSimpArgs false

theorem wrap8_le (x : Int) : 0 ≤ IntKind.u8.wrap x ∧ IntKind.u8.wrap x ≤ 255 := by rw [IntKind.wrap_u8]; omega
theorem wrap64_8 (x : Int) : IntKind.i64.wrap (IntKind.u8.wrap x) = IntKind.u8.wrap x := by
  have := wrap8_le x
  exact IntWalk.i64_in _ (by omega)
theorem dv_le (c : UInt8) : 0 ≤ dvS c ∧ dvS c ≤ 255 := wrap8_le _
theorem ne_len {s : Str} {b : Bool} (h : ((s == []) || b) = false) : 0 < s.length := by
  cases s with
  | nil => simp at h
  | cons a r => simp
theorem numGo_step {s : Str} {k : Nat} {n : Int} (h : k < s.length) (hc : decide (1099511627776 < 10 * n + dvS (bt s k)) = false) : numGo (s.drop k) n = numGo (s.drop (k + 1)) (10 * n + dvS (bt s k)) := by
  rw [drop_bt h, numGo, if_neg (by simp [hc])]
theorem numGo_stop {s : Str} {k : Nat} {n : Int} (h : k < s.length) (hc : decide (1099511627776 < 10 * n + dvS (bt s k)) = true) : numGo (s.drop k) n = (0, 2) := by
  rw [drop_bt h, numGo, if_pos hc]
def keyA (s : Str) : Bool := (s == [97, 108, 108]) || (s == [97, 108, 116]) || (s == [97, 110, 100]) || (s == [98, 111, 111, 108]) || (s == [98, 121]) || (s == [99, 111, 117, 110, 116]) || (s == [102, 97, 108, 115, 101]) || (s == [102, 105, 114, 115, 116]) || (s == [105, 102]) || (s == [105, 110, 116]) || (s == [108, 97, 99, 107, 115]) || (s == [108, 97, 115, 116]) || (s == [109, 97, 116, 99, 104]) || (s == [109, 97, 120])
def keyB (s : Str) : Bool := (s == [109, 105, 110]) || (s == [110, 111, 116]) || (s == [111, 114]) || (s == [112, 108, 117, 115]) || (s == [113, 117, 101, 114, 121]) || (s == [114, 101, 116, 117, 114, 110]) || (s == [115, 101, 113]) || (s == [115, 116, 114, 105, 110, 103]) || (s == [115, 117, 109]) || (s == [116, 105, 109, 101]) || (s == [116, 114, 117, 101]) || (s == [116, 121, 112, 101]) || (s == [119, 104, 101, 114, 101]) || (s == [119, 105, 116, 104, 105, 110])
theorem key_AB (s : Str) : keyR s = (keyA s || keyB s) := by simp only [keyR, keyA, keyB, Bool.or_assoc]

set_option maxRecDepth 20000 in
set_option maxHeartbeats 400000 in
theorem c23 (s : Str) : APure Tryz.prog 171 [.str s] (.bool (keyR s)) := by
 refine APure.body (n := 34) tok Tryz.func171 rfl rfl rfl fun H => ?_
 refine AW.seq (AW.region ?_)
 refine AOL.p (P_assign (v := .bool _) rfl) rfl ?_
 refine AOL.nil (thenN ?_)
 refine AW.seq ?_
 refine AW.seq (AW.region ?_)
 refine AOL.p (P_move (v := .str _) rfl) rfl ?_
 refine AOL.nil (thenN ?_)
 refine AW.block ?_
 refine AW.cut (fun (x : Bool) => (⟨[(3, .str s), (4, .bool x)], H, 34⟩ : St)) (fun (x : Bool) => x = keyA s) ?_ ?_
 ·
  refine AW.seq (AW.region ?_)
  refine AOL.p (P_eql_str rfl rfl) rfl ?_
  refine AOL.p (P_assign (v := .bool _) rfl) rfl ?_
  refine AOL.nil (thenN ?_)
  refine AW.cond (b := _) rfl (fun hc1 => ?_) (fun hc1 => ?_)
  ·
   refine AW.skip ?_
   refine thenN ?_
   refine ⟨_, ?_, GS.weaken ⟨rfl, rfl, trivial⟩ (.refl _)⟩
   simp [keyA, *]
  ·
   refine AW.seq (AW.region ?_)
   refine AOL.p (P_eql_str rfl rfl) rfl ?_
   refine AOL.p (P_assign (v := .bool _) rfl) rfl ?_
   refine AOL.nil (thenN ?_)
   refine AW.cond (b := _) rfl (fun hc2 => ?_) (fun hc2 => ?_)
   ·
    refine AW.skip ?_
    refine thenN ?_
    refine ⟨_, ?_, GS.weaken ⟨rfl, rfl, trivial⟩ (.refl _)⟩
    simp [keyA, *]
   ·
    refine AW.seq (AW.region ?_)
    refine AOL.p (P_eql_str rfl rfl) rfl ?_
    refine AOL.p (P_assign (v := .bool _) rfl) rfl ?_
    refine AOL.nil (thenN ?_)
    refine AW.cond (b := _) rfl (fun hc3 => ?_) (fun hc3 => ?_)
    ·
     refine AW.skip ?_
     refine thenN ?_
     refine ⟨_, ?_, GS.weaken ⟨rfl, rfl, trivial⟩ (.refl _)⟩
     simp [keyA, *]
    ·
     refine AW.seq (AW.region ?_)
     refine AOL.p (P_eql_str rfl rfl) rfl ?_
     refine AOL.p (P_assign (v := .bool _) rfl) rfl ?_
     refine AOL.nil (thenN ?_)
     refine AW.cond (b := _) rfl (fun hc4 => ?_) (fun hc4 => ?_)
     ·
      refine AW.skip ?_
      refine thenN ?_
      refine ⟨_, ?_, GS.weaken ⟨rfl, rfl, trivial⟩ (.refl _)⟩
      simp [keyA, *]
     ·
      refine AW.seq (AW.region ?_)
      refine AOL.p (P_eql_str rfl rfl) rfl ?_
      refine AOL.p (P_assign (v := .bool _) rfl) rfl ?_
      refine AOL.nil (thenN ?_)
      refine AW.cond (b := _) rfl (fun hc5 => ?_) (fun hc5 => ?_)
      ·
       refine AW.skip ?_
       refine thenN ?_
       refine ⟨_, ?_, GS.weaken ⟨rfl, rfl, trivial⟩ (.refl _)⟩
       simp [keyA, *]
      ·
       refine AW.seq (AW.region ?_)
       refine AOL.p (P_eql_str rfl rfl) rfl ?_
       refine AOL.p (P_assign (v := .bool _) rfl) rfl ?_
       refine AOL.nil (thenN ?_)
       refine AW.cond (b := _) rfl (fun hc6 => ?_) (fun hc6 => ?_)
       ·
        refine AW.skip ?_
        refine thenN ?_
        refine ⟨_, ?_, GS.weaken ⟨rfl, rfl, trivial⟩ (.refl _)⟩
        simp [keyA, *]
       ·
        refine AW.seq (AW.region ?_)
        refine AOL.p (P_eql_str rfl rfl) rfl ?_
        refine AOL.p (P_assign (v := .bool _) rfl) rfl ?_
        refine AOL.nil (thenN ?_)
        refine AW.cond (b := _) rfl (fun hc7 => ?_) (fun hc7 => ?_)
        ·
         refine AW.skip ?_
         refine thenN ?_
         refine ⟨_, ?_, GS.weaken ⟨rfl, rfl, trivial⟩ (.refl _)⟩
         simp [keyA, *]
        ·
         refine AW.seq (AW.region ?_)
         refine AOL.p (P_eql_str rfl rfl) rfl ?_
         refine AOL.p (P_assign (v := .bool _) rfl) rfl ?_
         refine AOL.nil (thenN ?_)
         refine AW.cond (b := _) rfl (fun hc8 => ?_) (fun hc8 => ?_)
         ·
          refine AW.skip ?_
          refine thenN ?_
          refine ⟨_, ?_, GS.weaken ⟨rfl, rfl, trivial⟩ (.refl _)⟩
          simp [keyA, *]
         ·
          refine AW.seq (AW.region ?_)
          refine AOL.p (P_eql_str rfl rfl) rfl ?_
          refine AOL.p (P_assign (v := .bool _) rfl) rfl ?_
          refine AOL.nil (thenN ?_)
          refine AW.cond (b := _) rfl (fun hc9 => ?_) (fun hc9 => ?_)
          ·
           refine AW.skip ?_
           refine thenN ?_
           refine ⟨_, ?_, GS.weaken ⟨rfl, rfl, trivial⟩ (.refl _)⟩
           simp [keyA, *]
          ·
           refine AW.seq (AW.region ?_)
           refine AOL.p (P_eql_str rfl rfl) rfl ?_
           refine AOL.p (P_assign (v := .bool _) rfl) rfl ?_
           refine AOL.nil (thenN ?_)
           refine AW.cond (b := _) rfl (fun hc10 => ?_) (fun hc10 => ?_)
           ·
            refine AW.skip ?_
            refine thenN ?_
            refine ⟨_, ?_, GS.weaken ⟨rfl, rfl, trivial⟩ (.refl _)⟩
            simp [keyA, *]
           ·
            refine AW.seq (AW.region ?_)
            refine AOL.p (P_eql_str rfl rfl) rfl ?_
            refine AOL.p (P_assign (v := .bool _) rfl) rfl ?_
            refine AOL.nil (thenN ?_)
            refine AW.cond (b := _) rfl (fun hc11 => ?_) (fun hc11 => ?_)
            ·
             refine AW.skip ?_
             refine thenN ?_
             refine ⟨_, ?_, GS.weaken ⟨rfl, rfl, trivial⟩ (.refl _)⟩
             simp [keyA, *]
            ·
             refine AW.seq (AW.region ?_)
             refine AOL.p (P_eql_str rfl rfl) rfl ?_
             refine AOL.p (P_assign (v := .bool _) rfl) rfl ?_
             refine AOL.nil (thenN ?_)
             refine AW.cond (b := _) rfl (fun hc12 => ?_) (fun hc12 => ?_)
             ·
              refine AW.skip ?_
              refine thenN ?_
              refine ⟨_, ?_, GS.weaken ⟨rfl, rfl, trivial⟩ (.refl _)⟩
              simp [keyA, *]
             ·
              refine AW.seq (AW.region ?_)
              refine AOL.p (P_eql_str rfl rfl) rfl ?_
              refine AOL.p (P_assign (v := .bool _) rfl) rfl ?_
              refine AOL.nil (thenN ?_)
              refine AW.cond (b := _) rfl (fun hc13 => ?_) (fun hc13 => ?_)
              ·
               refine AW.skip ?_
               refine thenN ?_
               refine ⟨_, ?_, GS.weaken ⟨rfl, rfl, trivial⟩ (.refl _)⟩
               simp [keyA, *]
              ·
               refine AW.region ?_
               refine AOL.p (P_eql_str rfl rfl) rfl ?_
               refine AOL.p (P_assign (v := .bool _) rfl) rfl ?_
               refine AOL.nil (thenN ?_)
               refine ⟨_, ?_, GS.weaken ⟨rfl, rfl, trivial⟩ (.refl _)⟩
               simp [keyA, *]
 ·
  rintro x hA
  refine AW.cond (b := _) rfl (fun hc14 => ?_) (fun hc14 => ?_)
  ·
   refine AW.seq (AW.region ?_)
   refine AOL.p (P_assign (v := .bool _) rfl) rfl ?_
   refine AOL.nil (thenN ?_)
   refine AW.ret ?_
   refine blkR ?_
   refine thenR ?_
   refine ⟨.inr rfl, [.bool _], .cons (.tmp _ _ rfl) <| .nil, .refl _, ?_⟩
   subst hA
   try subst hB
   simp only [resOf, key_AB]
   simp [*]
  ·
   refine AW.cut (fun (y : Bool) => (⟨[(19, .bool y)], H, 34⟩ : St)) (fun (y : Bool) => y = keyB s) ?_ ?_
   ·
    refine AW.seq (AW.region ?_)
    refine AOL.p (P_eql_str rfl rfl) rfl ?_
    refine AOL.p (P_assign (v := .bool _) rfl) rfl ?_
    refine AOL.nil (thenN ?_)
    refine AW.cond (b := _) rfl (fun hc15 => ?_) (fun hc15 => ?_)
    ·
     refine AW.skip ?_
     refine thenN ?_
     refine ⟨_, ?_, GS.weaken ⟨rfl, trivial⟩ (.refl _)⟩
     simp [keyB, *]
    ·
     refine AW.seq (AW.region ?_)
     refine AOL.p (P_eql_str rfl rfl) rfl ?_
     refine AOL.p (P_assign (v := .bool _) rfl) rfl ?_
     refine AOL.nil (thenN ?_)
     refine AW.cond (b := _) rfl (fun hc16 => ?_) (fun hc16 => ?_)
     ·
      refine AW.skip ?_
      refine thenN ?_
      refine ⟨_, ?_, GS.weaken ⟨rfl, trivial⟩ (.refl _)⟩
      simp [keyB, *]
     ·
      refine AW.seq (AW.region ?_)
      refine AOL.p (P_eql_str rfl rfl) rfl ?_
      refine AOL.p (P_assign (v := .bool _) rfl) rfl ?_
      refine AOL.nil (thenN ?_)
      refine AW.cond (b := _) rfl (fun hc17 => ?_) (fun hc17 => ?_)
      ·
       refine AW.skip ?_
       refine thenN ?_
       refine ⟨_, ?_, GS.weaken ⟨rfl, trivial⟩ (.refl _)⟩
       simp [keyB, *]
      ·
       refine AW.seq (AW.region ?_)
       refine AOL.p (P_eql_str rfl rfl) rfl ?_
       refine AOL.p (P_assign (v := .bool _) rfl) rfl ?_
       refine AOL.nil (thenN ?_)
       refine AW.cond (b := _) rfl (fun hc18 => ?_) (fun hc18 => ?_)
       ·
        refine AW.skip ?_
        refine thenN ?_
        refine ⟨_, ?_, GS.weaken ⟨rfl, trivial⟩ (.refl _)⟩
        simp [keyB, *]
       ·
        refine AW.seq (AW.region ?_)
        refine AOL.p (P_eql_str rfl rfl) rfl ?_
        refine AOL.p (P_assign (v := .bool _) rfl) rfl ?_
        refine AOL.nil (thenN ?_)
        refine AW.cond (b := _) rfl (fun hc19 => ?_) (fun hc19 => ?_)
        ·
         refine AW.skip ?_
         refine thenN ?_
         refine ⟨_, ?_, GS.weaken ⟨rfl, trivial⟩ (.refl _)⟩
         simp [keyB, *]
        ·
         refine AW.seq (AW.region ?_)
         refine AOL.p (P_eql_str rfl rfl) rfl ?_
         refine AOL.p (P_assign (v := .bool _) rfl) rfl ?_
         refine AOL.nil (thenN ?_)
         refine AW.cond (b := _) rfl (fun hc20 => ?_) (fun hc20 => ?_)
         ·
          refine AW.skip ?_
          refine thenN ?_
          refine ⟨_, ?_, GS.weaken ⟨rfl, trivial⟩ (.refl _)⟩
          simp [keyB, *]
         ·
          refine AW.seq (AW.region ?_)
          refine AOL.p (P_eql_str rfl rfl) rfl ?_
          refine AOL.p (P_assign (v := .bool _) rfl) rfl ?_
          refine AOL.nil (thenN ?_)
          refine AW.cond (b := _) rfl (fun hc21 => ?_) (fun hc21 => ?_)
          ·
           refine AW.skip ?_
           refine thenN ?_
           refine ⟨_, ?_, GS.weaken ⟨rfl, trivial⟩ (.refl _)⟩
           simp [keyB, *]
          ·
           refine AW.seq (AW.region ?_)
           refine AOL.p (P_eql_str rfl rfl) rfl ?_
           refine AOL.p (P_assign (v := .bool _) rfl) rfl ?_
           refine AOL.nil (thenN ?_)
           refine AW.cond (b := _) rfl (fun hc22 => ?_) (fun hc22 => ?_)
           ·
            refine AW.skip ?_
            refine thenN ?_
            refine ⟨_, ?_, GS.weaken ⟨rfl, trivial⟩ (.refl _)⟩
            simp [keyB, *]
           ·
            refine AW.seq (AW.region ?_)
            refine AOL.p (P_eql_str rfl rfl) rfl ?_
            refine AOL.p (P_assign (v := .bool _) rfl) rfl ?_
            refine AOL.nil (thenN ?_)
            refine AW.cond (b := _) rfl (fun hc23 => ?_) (fun hc23 => ?_)
            ·
             refine AW.skip ?_
             refine thenN ?_
             refine ⟨_, ?_, GS.weaken ⟨rfl, trivial⟩ (.refl _)⟩
             simp [keyB, *]
            ·
             refine AW.seq (AW.region ?_)
             refine AOL.p (P_eql_str rfl rfl) rfl ?_
             refine AOL.p (P_assign (v := .bool _) rfl) rfl ?_
             refine AOL.nil (thenN ?_)
             refine AW.cond (b := _) rfl (fun hc24 => ?_) (fun hc24 => ?_)
             ·
              refine AW.skip ?_
              refine thenN ?_
              refine ⟨_, ?_, GS.weaken ⟨rfl, trivial⟩ (.refl _)⟩
              simp [keyB, *]
             ·
              refine AW.seq (AW.region ?_)
              refine AOL.p (P_eql_str rfl rfl) rfl ?_
              refine AOL.p (P_assign (v := .bool _) rfl) rfl ?_
              refine AOL.nil (thenN ?_)
              refine AW.cond (b := _) rfl (fun hc25 => ?_) (fun hc25 => ?_)
              ·
               refine AW.skip ?_
               refine thenN ?_
               refine ⟨_, ?_, GS.weaken ⟨rfl, trivial⟩ (.refl _)⟩
               simp [keyB, *]
              ·
               refine AW.seq (AW.region ?_)
               refine AOL.p (P_eql_str rfl rfl) rfl ?_
               refine AOL.p (P_assign (v := .bool _) rfl) rfl ?_
               refine AOL.nil (thenN ?_)
               refine AW.cond (b := _) rfl (fun hc26 => ?_) (fun hc26 => ?_)
               ·
                refine AW.skip ?_
                refine thenN ?_
                refine ⟨_, ?_, GS.weaken ⟨rfl, trivial⟩ (.refl _)⟩
                simp [keyB, *]
               ·
                refine AW.seq (AW.region ?_)
                refine AOL.p (P_eql_str rfl rfl) rfl ?_
                refine AOL.p (P_assign (v := .bool _) rfl) rfl ?_
                refine AOL.nil (thenN ?_)
                refine AW.cond (b := _) rfl (fun hc27 => ?_) (fun hc27 => ?_)
                ·
                 refine AW.skip ?_
                 refine thenN ?_
                 refine ⟨_, ?_, GS.weaken ⟨rfl, trivial⟩ (.refl _)⟩
                 simp [keyB, *]
                ·
                 refine AW.region ?_
                 refine AOL.p (P_eql_str rfl rfl) rfl ?_
                 refine AOL.p (P_assign (v := .bool _) rfl) rfl ?_
                 refine AOL.nil (thenN ?_)
                 refine ⟨_, ?_, GS.weaken ⟨rfl, trivial⟩ (.refl _)⟩
                 simp [keyB, *]
   ·
    rintro y hB
    refine AW.cond (b := _) rfl (fun hc28 => ?_) (fun hc28 => ?_)
    ·
     refine AW.seq (AW.region ?_)
     refine AOL.p (P_assign (v := .bool _) rfl) rfl ?_
     refine AOL.nil (thenN ?_)
     refine AW.ret ?_
     refine blkR ?_
     refine thenR ?_
     refine ⟨.inr rfl, [.bool _], .cons (.tmp _ _ rfl) <| .nil, .refl _, ?_⟩
     subst hA
     try subst hB
     simp only [resOf, key_AB]
     simp [*]
    ·
     refine AW.skip ?_
     refine blkN ?_
     refine thenN ?_
     refine AW.seq (AW.region ?_)
     refine AOL.p (P_assign (v := .bool _) rfl) rfl ?_
     refine AOL.nil (thenN ?_)
     refine AW.ret ?_
     refine ⟨.inr rfl, [.bool _], .cons (.tmp _ _ rfl) <| .nil, .refl _, ?_⟩
     subst hA
     try subst hB
     simp only [resOf, key_AB]
     simp [*]
set_option maxRecDepth 20000 in
set_option maxHeartbeats 400000 in
theorem c22 (s : Str) (hl : s.length ≤ 1048576) : APure Tryz.prog 102 [.str s] (.bool (keyS s)) := by
 refine APure.body (n := 16) tok Tryz.func102 rfl rfl rfl fun H => ?_
 refine AW.seq (AW.region ?_)
 refine AOL.p (P_assign (v := .bool _) rfl) rfl ?_
 refine AOL.nil (thenN ?_)
 refine AW.seq (AW.region ?_)
 refine AOL.p (P_move (v := .str _) rfl) rfl ?_
 refine AOL.p (P_neq_str rfl rfl) rfl ?_
 refine AOL.p (P_move (v := .bool _) rfl) rfl ?_
 refine AOL.g (y := .str _) _ [] rfl (EntL.all trivial) (fun hG => P_move (v := .str _) rfl) rfl ?_
 refine AOL.g (y := .bool _) _ [(6, _)] rfl (EntL.all ⟨Ent.self _ _, trivial⟩) (fun hG => P_callf (by kernel_rfl) rfl rfl (k29 _ _ (by omega))) rfl ?_
 refine AOL.g (y := .bool _) _ [(7, _)] rfl (EntL.all ⟨Ent.self _ _, trivial⟩) (fun hG => P_not rfl) rfl ?_
 refine AOL.p (P_pick_and rfl rfl rfl) rfl ?_
 refine AOL.p (P_move (v := .bool _) rfl) rfl ?_
 refine AOL.g (y := .str _) _ [] rfl (EntL.all trivial) (fun hG => P_move (v := .str _) rfl) rfl ?_
 refine AOL.g (y := .str _) _ [(11, _)] rfl (EntL.all ⟨Ent.self _ _, trivial⟩) (fun hG => P_add_str rfl rfl rfl ((by simp [maxLen]; omega))) rfl ?_
 refine AOL.g (y := .str _) _ [(12, _)] rfl (EntL.all ⟨Ent.self _ _, trivial⟩) (fun hG => P_add_str rfl rfl rfl ((by simp [maxLen]; omega))) rfl ?_
 refine AOL.g (y := .bool _) _ [(13, _)] rfl (EntL.all ⟨Ent.self _ _, trivial⟩) (fun hG => P_callf (by kernel_rfl) rfl rfl (k29 _ _ (by simp [keywords]))) rfl ?_
 refine AOL.p (P_pick_and rfl rfl rfl) rfl ?_
 refine AOL.p (P_assign (v := .bool _) rfl) rfl ?_
 refine AOL.nil (thenN ?_)
 refine AW.ret ?_
 refine ⟨.inr rfl, [.bool _], .cons (.tmp _ _ rfl) <| .nil, .refl _, ?_⟩
 rfl

end Go.Proofs.YtabkeeedkhgodaaGreatDoor
