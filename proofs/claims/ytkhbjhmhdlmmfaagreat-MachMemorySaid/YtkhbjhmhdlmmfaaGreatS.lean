/- Walks: right: the kinds of instructions that the laws of the plain machine hold are well formed. -/
import Derived.Test.YtkhbjhmhdlmmfaaGreatQ
namespace Go.Proofs.YtkhbjhmhdlmmfaaGreat
open Go.RowKit

set_option maxRecDepth 100000 in
theorem isReg_ok (r : Int) (wr : Bool) (w : World) (h0 : decide (r ≥ 0) = true) (h1 : decide (r ≤ 10) = true) (h2 : (r == 10) = false ∨ wr = false) :
    Calls Tryz.prog 52 #[.int .i64 r, .bool wr] w fun e w' => e = .returned (.bool true) ∧ w = w' := by
  rcases h2 with h2 | rfl
  · cases wr
    · go_enter Tryz.func52, Tryz.ntmps52
      go_wp2
      go_ret
      exact ⟨rfl, rfl⟩
    · go_enter Tryz.func52, Tryz.ntmps52
      go_wp2
      go_ret
      exact ⟨rfl, rfl⟩
  · go_enter Tryz.func52, Tryz.ntmps52
    go_wp2
    go_ret
    exact ⟨rfl, rfl⟩


theorem second_1 (w : World) : Calls Tryz.prog 73 #[.int .i64 1] w fun e w' => e = .returned (.bool true) ∧ w = w' := by
  go_enter Tryz.func73, Tryz.ntmps73
  go_wp2
  go_ret
  exact ⟨rfl, rfl⟩
theorem writesDst_1 (w : World) : Calls Tryz.prog 53 #[.int .i64 1] w fun e w' => e = .returned (.bool true) ∧ w = w' := by
  go_enter Tryz.func53, Tryz.ntmps53
  go_wp2
  go_ret
  exact ⟨rfl, rfl⟩
theorem writesSrc_1 (imm : Int) (w : World) : Calls Tryz.prog 54 #[.int .i64 1, .int .i64 imm] w fun e w' => e = .returned (.bool false) ∧ w = w' := by
  go_enter Tryz.func54, Tryz.ntmps54
  go_wp2
  go_ret
  exact ⟨rfl, rfl⟩


theorem second_2 (w : World) : Calls Tryz.prog 73 #[.int .i64 2] w fun e w' => e = .returned (.bool true) ∧ w = w' := by
  go_enter Tryz.func73, Tryz.ntmps73
  go_wp2
  go_ret
  exact ⟨rfl, rfl⟩
theorem writesDst_2 (w : World) : Calls Tryz.prog 53 #[.int .i64 2] w fun e w' => e = .returned (.bool true) ∧ w = w' := by
  go_enter Tryz.func53, Tryz.ntmps53
  go_wp2
  go_ret
  exact ⟨rfl, rfl⟩
theorem writesSrc_2 (imm : Int) (w : World) : Calls Tryz.prog 54 #[.int .i64 2, .int .i64 imm] w fun e w' => e = .returned (.bool false) ∧ w = w' := by
  go_enter Tryz.func54, Tryz.ntmps54
  go_wp2
  go_ret
  exact ⟨rfl, rfl⟩


theorem second_15 (w : World) : Calls Tryz.prog 73 #[.int .i64 15] w fun e w' => e = .returned (.bool true) ∧ w = w' := by
  go_enter Tryz.func73, Tryz.ntmps73
  go_wp2
  go_ret
  exact ⟨rfl, rfl⟩
theorem writesDst_15 (w : World) : Calls Tryz.prog 53 #[.int .i64 15] w fun e w' => e = .returned (.bool true) ∧ w = w' := by
  go_enter Tryz.func53, Tryz.ntmps53
  go_wp2
  go_ret
  exact ⟨rfl, rfl⟩
theorem writesSrc_15 (imm : Int) (w : World) : Calls Tryz.prog 54 #[.int .i64 15, .int .i64 imm] w fun e w' => e = .returned (.bool false) ∧ w = w' := by
  go_enter Tryz.func54, Tryz.ntmps54
  go_wp2
  go_ret
  exact ⟨rfl, rfl⟩


theorem second_20 (w : World) : Calls Tryz.prog 73 #[.int .i64 20] w fun e w' => e = .returned (.bool false) ∧ w = w' := by
  go_enter Tryz.func73, Tryz.ntmps73
  go_wp2
  go_ret
  exact ⟨rfl, rfl⟩
theorem writesDst_20 (w : World) : Calls Tryz.prog 53 #[.int .i64 20] w fun e w' => e = .returned (.bool true) ∧ w = w' := by
  go_enter Tryz.func53, Tryz.ntmps53
  go_wp2
  go_ret
  exact ⟨rfl, rfl⟩
theorem writesSrc_20 (imm : Int) (w : World) : Calls Tryz.prog 54 #[.int .i64 20, .int .i64 imm] w fun e w' => e = .returned (.bool false) ∧ w = w' := by
  go_enter Tryz.func54, Tryz.ntmps54
  go_wp2
  go_ret
  exact ⟨rfl, rfl⟩


theorem second_22 (w : World) : Calls Tryz.prog 73 #[.int .i64 22] w fun e w' => e = .returned (.bool false) ∧ w = w' := by
  go_enter Tryz.func73, Tryz.ntmps73
  go_wp2
  go_ret
  exact ⟨rfl, rfl⟩
theorem writesDst_22 (w : World) : Calls Tryz.prog 53 #[.int .i64 22] w fun e w' => e = .returned (.bool true) ∧ w = w' := by
  go_enter Tryz.func53, Tryz.ntmps53
  go_wp2
  go_ret
  exact ⟨rfl, rfl⟩
theorem writesSrc_22 (imm : Int) (w : World) : Calls Tryz.prog 54 #[.int .i64 22, .int .i64 imm] w fun e w' => e = .returned (.bool false) ∧ w = w' := by
  go_enter Tryz.func54, Tryz.ntmps54
  go_wp2
  go_ret
  exact ⟨rfl, rfl⟩


theorem second_23 (w : World) : Calls Tryz.prog 73 #[.int .i64 23] w fun e w' => e = .returned (.bool false) ∧ w = w' := by
  go_enter Tryz.func73, Tryz.ntmps73
  go_wp2
  go_ret
  exact ⟨rfl, rfl⟩
theorem writesDst_23 (w : World) : Calls Tryz.prog 53 #[.int .i64 23] w fun e w' => e = .returned (.bool true) ∧ w = w' := by
  go_enter Tryz.func53, Tryz.ntmps53
  go_wp2
  go_ret
  exact ⟨rfl, rfl⟩
theorem writesSrc_23 (imm : Int) (w : World) : Calls Tryz.prog 54 #[.int .i64 23, .int .i64 imm] w fun e w' => e = .returned (.bool false) ∧ w = w' := by
  go_enter Tryz.func54, Tryz.ntmps54
  go_wp2
  go_ret
  exact ⟨rfl, rfl⟩


theorem second_24 (w : World) : Calls Tryz.prog 73 #[.int .i64 24] w fun e w' => e = .returned (.bool true) ∧ w = w' := by
  go_enter Tryz.func73, Tryz.ntmps73
  go_wp2
  go_ret
  exact ⟨rfl, rfl⟩
theorem writesDst_24 (w : World) : Calls Tryz.prog 53 #[.int .i64 24] w fun e w' => e = .returned (.bool false) ∧ w = w' := by
  go_enter Tryz.func53, Tryz.ntmps53
  go_wp2
  go_ret
  exact ⟨rfl, rfl⟩
theorem writesSrc_24 (imm : Int) (w : World) : Calls Tryz.prog 54 #[.int .i64 24, .int .i64 imm] w fun e w' => e = .returned (.bool false) ∧ w = w' := by
  go_enter Tryz.func54, Tryz.ntmps54
  go_wp2
  go_ret
  exact ⟨rfl, rfl⟩


theorem second_38 (w : World) : Calls Tryz.prog 73 #[.int .i64 38] w fun e w' => e = .returned (.bool false) ∧ w = w' := by
  go_enter Tryz.func73, Tryz.ntmps73
  go_wp2
  go_ret
  exact ⟨rfl, rfl⟩
theorem writesDst_38 (w : World) : Calls Tryz.prog 53 #[.int .i64 38] w fun e w' => e = .returned (.bool false) ∧ w = w' := by
  go_enter Tryz.func53, Tryz.ntmps53
  go_wp2
  go_ret
  exact ⟨rfl, rfl⟩
theorem writesSrc_38 (imm : Int) (w : World) : Calls Tryz.prog 54 #[.int .i64 38, .int .i64 imm] w fun e w' => e = .returned (.bool false) ∧ w = w' := by
  go_enter Tryz.func54, Tryz.ntmps54
  go_wp2
  go_ret
  exact ⟨rfl, rfl⟩


theorem second_39 (w : World) : Calls Tryz.prog 73 #[.int .i64 39] w fun e w' => e = .returned (.bool false) ∧ w = w' := by
  go_enter Tryz.func73, Tryz.ntmps73
  go_wp2
  go_ret
  exact ⟨rfl, rfl⟩
theorem writesDst_39 (w : World) : Calls Tryz.prog 53 #[.int .i64 39] w fun e w' => e = .returned (.bool false) ∧ w = w' := by
  go_enter Tryz.func53, Tryz.ntmps53
  go_wp2
  go_ret
  exact ⟨rfl, rfl⟩
theorem writesSrc_39 (imm : Int) (w : World) : Calls Tryz.prog 54 #[.int .i64 39, .int .i64 imm] w fun e w' => e = .returned (.bool false) ∧ w = w' := by
  go_enter Tryz.func54, Tryz.ntmps54
  go_wp2
  go_ret
  exact ⟨rfl, rfl⟩


set_option maxRecDepth 100000 in
set_option maxHeartbeats 4000000 in
theorem formed_wide (d imm : Int) (w : World) : Calls Tryz.prog 50 #[.agg #[.int .i64 20, .bool false, .bool false, .int .i64 0, .int .i64 d, .int .i64 0, .int .i64 0, .int .i64 imm]] w fun e w' => e = .returned (.bool true) ∧ w.alloc (.cells #[.int .i64 20, .bool false, .bool false, .int .i64 0, .int .i64 d, .int .i64 0, .int .i64 0, .int .i64 imm] 25) = w' := by
  go_enter Tryz.func50, Tryz.ntmps50
  go_wp2_with (go_at_call 73; refine (second_20 _).mono ?_; rintro e w1 ⟨rfl, rfl⟩)
  go_ret
  exact ⟨rfl, rfl⟩

set_option maxRecDepth 100000 in
set_option maxHeartbeats 4000000 in
theorem uses_wide (d imm : Int) (w : World) : Calls Tryz.prog 51 #[.agg #[.int .i64 20, .bool false, .bool false, .int .i64 0, .int .i64 d, .int .i64 0, .int .i64 0, .int .i64 imm]] w fun e w' => e = .returned (.tuple #[.bool true, .bool false, .bool false, .bool true]) ∧ w.alloc (.cells #[.int .i64 20, .bool false, .bool false, .int .i64 0, .int .i64 d, .int .i64 0, .int .i64 0, .int .i64 imm] 25) = w' := by
  go_enter Tryz.func51, Tryz.ntmps51
  go_wp2_with (go_at_call 73; refine (second_20 _).mono ?_; rintro e w1 ⟨rfl, rfl⟩)
  refine bodyPost_ret (v := .tuple #[.bool true, .bool false, .bool false, .bool true]) (by simp [results, Tryz.results51, go_sem]) rfl ⟨rfl, rfl⟩

set_option maxRecDepth 100000 in
set_option maxHeartbeats 4000000 in
theorem immFits_wide (d imm : Int) (w : World) : Calls Tryz.prog 55 #[.agg #[.int .i64 20, .bool false, .bool false, .int .i64 0, .int .i64 d, .int .i64 0, .int .i64 0, .int .i64 imm]] w fun e w' => e = .returned (.bool true) ∧ w.alloc (.cells #[.int .i64 20, .bool false, .bool false, .int .i64 0, .int .i64 d, .int .i64 0, .int .i64 0, .int .i64 imm] 25) = w' := by
  go_enter Tryz.func55, Tryz.ntmps55
  go_wp2
  go_ret
  exact ⟨rfl, rfl⟩

set_option maxRecDepth 100000 in
set_option maxHeartbeats 4000000 in
theorem right_wide (d imm : Int) (hd0 : decide (d ≥ 0) = true) (hd1 : decide (d ≤ 10) = true) (hd2 : (d == 10) = false) (w : World) : Calls Tryz.prog 39 #[.agg #[.int .i64 20, .bool false, .bool false, .int .i64 0, .int .i64 d, .int .i64 0, .int .i64 0, .int .i64 imm]] w fun e w' => e = .returned (.int .i64 0) ∧ Fr (fun _ => False) w w' := by
  go_enter Tryz.func39, Tryz.ntmps39
  go_wp2_with (first | (go_at_call 50; refine (formed_wide _ _ _).mono ?_; rintro e w1 ⟨rfl, rfl⟩) | (go_at_call 51; refine (uses_wide _ _ _).mono ?_; rintro e w1 ⟨rfl, rfl⟩) | fail)
  go_region_held3 (fun w' => w'.cell? ⟨w.heap.size, 0, none⟩ = some (.int .i64 20) ∧ w'.cell? ⟨w.heap.size, 1, none⟩ = some (.bool false) ∧ w'.cell? ⟨w.heap.size, 2, none⟩ = some (.bool false) ∧ w'.cell? ⟨w.heap.size, 3, none⟩ = some (.int .i64 0) ∧ w'.cell? ⟨w.heap.size, 4, none⟩ = some (.int .i64 d) ∧ w'.cell? ⟨w.heap.size, 5, none⟩ = some (.int .i64 0) ∧ w'.cell? ⟨w.heap.size, 6, none⟩ = some (.int .i64 0) ∧ w'.cell? ⟨w.heap.size, 7, none⟩ = some (.int .i64 imm)) (simp [go_sem, *]) (first | (go_at_call 53; refine (writesDst_20 _).mono ?_; rintro e w1 ⟨rfl, rfl⟩) | (go_at_call 52; refine (isReg_ok _ _ _ hd0 hd1 (.inl hd2)).mono ?_; rintro e w1 ⟨rfl, rfl⟩) | fail)
  go_wp2
  go_quiet (fail)
  go_wp2_with (go_at_call 55; refine (immFits_wide _ _ _).mono ?_; rintro e w1 ⟨rfl, rfl⟩)
  go_ret
  refine ⟨rfl, ?_⟩
  repeat (first | with_reducible exact Fr.refl _ _ | with_reducible refine Fr.drew ?_ | with_reducible refine Fr.drewN ?_ _ | with_reducible refine Fr.alloc ?_ _)


set_option maxRecDepth 100000 in
set_option maxHeartbeats 4000000 in
theorem formed_movr (d s : Int) (w : World) : Calls Tryz.prog 50 #[.agg #[.int .i64 15, .bool false, .bool true, .int .i64 0, .int .i64 d, .int .i64 s, .int .i64 0, .int .i64 0]] w fun e w' => e = .returned (.bool true) ∧ w.alloc (.cells #[.int .i64 15, .bool false, .bool true, .int .i64 0, .int .i64 d, .int .i64 s, .int .i64 0, .int .i64 0] 25) = w' := by
  go_enter Tryz.func50, Tryz.ntmps50
  go_wp2_with (go_at_call 73; refine (second_15 _).mono ?_; rintro e w1 ⟨rfl, rfl⟩)
  go_ret
  exact ⟨rfl, rfl⟩

set_option maxRecDepth 100000 in
set_option maxHeartbeats 4000000 in
theorem uses_movr (d s : Int) (w : World) : Calls Tryz.prog 51 #[.agg #[.int .i64 15, .bool false, .bool true, .int .i64 0, .int .i64 d, .int .i64 s, .int .i64 0, .int .i64 0]] w fun e w' => e = .returned (.tuple #[.bool true, .bool true, .bool false, .bool false]) ∧ w.alloc (.cells #[.int .i64 15, .bool false, .bool true, .int .i64 0, .int .i64 d, .int .i64 s, .int .i64 0, .int .i64 0] 25) = w' := by
  go_enter Tryz.func51, Tryz.ntmps51
  go_wp2_with (go_at_call 73; refine (second_15 _).mono ?_; rintro e w1 ⟨rfl, rfl⟩)
  refine bodyPost_ret (v := .tuple #[.bool true, .bool true, .bool false, .bool false]) (by simp [results, Tryz.results51, go_sem]) rfl ⟨rfl, rfl⟩

set_option maxRecDepth 100000 in
set_option maxHeartbeats 4000000 in
theorem right_movr (d s : Int) (hd0 : decide (d ≥ 0) = true) (hd1 : decide (d ≤ 10) = true) (hd2 : (d == 10) = false) (hs0 : decide (s ≥ 0) = true) (hs1 : decide (s ≤ 10) = true) (w : World) : Calls Tryz.prog 39 #[.agg #[.int .i64 15, .bool false, .bool true, .int .i64 0, .int .i64 d, .int .i64 s, .int .i64 0, .int .i64 0]] w fun e w' => e = .returned (.int .i64 0) ∧ Fr (fun _ => False) w w' := by
  go_enter Tryz.func39, Tryz.ntmps39
  go_wp2_with (first | (go_at_call 50; refine (formed_movr _ _ _).mono ?_; rintro e w1 ⟨rfl, rfl⟩) | (go_at_call 51; refine (uses_movr _ _ _).mono ?_; rintro e w1 ⟨rfl, rfl⟩) | fail)
  go_region_held3 (fun w' => w'.cell? ⟨w.heap.size, 0, none⟩ = some (.int .i64 15) ∧ w'.cell? ⟨w.heap.size, 1, none⟩ = some (.bool false) ∧ w'.cell? ⟨w.heap.size, 2, none⟩ = some (.bool true) ∧ w'.cell? ⟨w.heap.size, 3, none⟩ = some (.int .i64 0) ∧ w'.cell? ⟨w.heap.size, 4, none⟩ = some (.int .i64 d) ∧ w'.cell? ⟨w.heap.size, 5, none⟩ = some (.int .i64 s) ∧ w'.cell? ⟨w.heap.size, 6, none⟩ = some (.int .i64 0) ∧ w'.cell? ⟨w.heap.size, 7, none⟩ = some (.int .i64 0)) (simp [go_sem, *]) (first | (go_at_call 53; refine (writesDst_15 _).mono ?_; rintro e w1 ⟨rfl, rfl⟩) | (go_at_call 52; refine (isReg_ok _ _ _ hd0 hd1 (.inl hd2)).mono ?_; rintro e w1 ⟨rfl, rfl⟩) | fail)
  go_wp2
  go_region_held3 (fun w' => w'.cell? ⟨w.heap.size, 0, none⟩ = some (.int .i64 15) ∧ w'.cell? ⟨w.heap.size, 1, none⟩ = some (.bool false) ∧ w'.cell? ⟨w.heap.size, 2, none⟩ = some (.bool true) ∧ w'.cell? ⟨w.heap.size, 3, none⟩ = some (.int .i64 0) ∧ w'.cell? ⟨w.heap.size, 4, none⟩ = some (.int .i64 d) ∧ w'.cell? ⟨w.heap.size, 5, none⟩ = some (.int .i64 s) ∧ w'.cell? ⟨w.heap.size, 6, none⟩ = some (.int .i64 0) ∧ w'.cell? ⟨w.heap.size, 7, none⟩ = some (.int .i64 0)) (simp [go_sem, *]) (first | (go_at_call 54; refine (writesSrc_15 _ _).mono ?_; rintro e w1 ⟨rfl, rfl⟩) | (go_at_call 52; refine (isReg_ok _ _ _ hs0 hs1 (.inr rfl)).mono ?_; rintro e w1 ⟨rfl, rfl⟩) | fail)
  go_wp2
  go_ret
  refine ⟨rfl, ?_⟩
  repeat (first | with_reducible exact Fr.refl _ _ | with_reducible refine Fr.drew ?_ | with_reducible refine Fr.drewN ?_ _ | with_reducible refine Fr.alloc ?_ _)


set_option maxRecDepth 100000 in
set_option maxHeartbeats 4000000 in
theorem formed_movi (d imm : Int) (w : World) : Calls Tryz.prog 50 #[.agg #[.int .i64 15, .bool false, .bool false, .int .i64 0, .int .i64 d, .int .i64 0, .int .i64 0, .int .i64 imm]] w fun e w' => e = .returned (.bool true) ∧ w.alloc (.cells #[.int .i64 15, .bool false, .bool false, .int .i64 0, .int .i64 d, .int .i64 0, .int .i64 0, .int .i64 imm] 25) = w' := by
  go_enter Tryz.func50, Tryz.ntmps50
  go_wp2_with (go_at_call 73; refine (second_15 _).mono ?_; rintro e w1 ⟨rfl, rfl⟩)
  go_ret
  exact ⟨rfl, rfl⟩

set_option maxRecDepth 100000 in
set_option maxHeartbeats 4000000 in
theorem uses_movi (d imm : Int) (w : World) : Calls Tryz.prog 51 #[.agg #[.int .i64 15, .bool false, .bool false, .int .i64 0, .int .i64 d, .int .i64 0, .int .i64 0, .int .i64 imm]] w fun e w' => e = .returned (.tuple #[.bool true, .bool false, .bool false, .bool true]) ∧ w.alloc (.cells #[.int .i64 15, .bool false, .bool false, .int .i64 0, .int .i64 d, .int .i64 0, .int .i64 0, .int .i64 imm] 25) = w' := by
  go_enter Tryz.func51, Tryz.ntmps51
  go_wp2_with (go_at_call 73; refine (second_15 _).mono ?_; rintro e w1 ⟨rfl, rfl⟩)
  refine bodyPost_ret (v := .tuple #[.bool true, .bool false, .bool false, .bool true]) (by simp [results, Tryz.results51, go_sem]) rfl ⟨rfl, rfl⟩

set_option maxRecDepth 100000 in
set_option maxHeartbeats 4000000 in
theorem immFits_movi (d imm : Int) (hi0 : decide (imm < -2147483648) = false) (hi1 : decide (imm > 2147483647) = false) (w : World) : Calls Tryz.prog 55 #[.agg #[.int .i64 15, .bool false, .bool false, .int .i64 0, .int .i64 d, .int .i64 0, .int .i64 0, .int .i64 imm]] w fun e w' => e = .returned (.bool true) ∧ w.alloc (.cells #[.int .i64 15, .bool false, .bool false, .int .i64 0, .int .i64 d, .int .i64 0, .int .i64 0, .int .i64 imm] 25) = w' := by
  go_enter Tryz.func55, Tryz.ntmps55
  go_wp2
  go_ret
  exact ⟨rfl, rfl⟩

set_option maxRecDepth 100000 in
set_option maxHeartbeats 4000000 in
theorem right_movi (d imm : Int) (hd0 : decide (d ≥ 0) = true) (hd1 : decide (d ≤ 10) = true) (hd2 : (d == 10) = false) (hi0 : decide (imm < -2147483648) = false) (hi1 : decide (imm > 2147483647) = false) (w : World) : Calls Tryz.prog 39 #[.agg #[.int .i64 15, .bool false, .bool false, .int .i64 0, .int .i64 d, .int .i64 0, .int .i64 0, .int .i64 imm]] w fun e w' => e = .returned (.int .i64 0) ∧ Fr (fun _ => False) w w' := by
  go_enter Tryz.func39, Tryz.ntmps39
  go_wp2_with (first | (go_at_call 50; refine (formed_movi _ _ _).mono ?_; rintro e w1 ⟨rfl, rfl⟩) | (go_at_call 51; refine (uses_movi _ _ _).mono ?_; rintro e w1 ⟨rfl, rfl⟩) | fail)
  go_region_held3 (fun w' => w'.cell? ⟨w.heap.size, 0, none⟩ = some (.int .i64 15) ∧ w'.cell? ⟨w.heap.size, 1, none⟩ = some (.bool false) ∧ w'.cell? ⟨w.heap.size, 2, none⟩ = some (.bool false) ∧ w'.cell? ⟨w.heap.size, 3, none⟩ = some (.int .i64 0) ∧ w'.cell? ⟨w.heap.size, 4, none⟩ = some (.int .i64 d) ∧ w'.cell? ⟨w.heap.size, 5, none⟩ = some (.int .i64 0) ∧ w'.cell? ⟨w.heap.size, 6, none⟩ = some (.int .i64 0) ∧ w'.cell? ⟨w.heap.size, 7, none⟩ = some (.int .i64 imm)) (simp [go_sem, *]) (first | (go_at_call 53; refine (writesDst_15 _).mono ?_; rintro e w1 ⟨rfl, rfl⟩) | (go_at_call 52; refine (isReg_ok _ _ _ hd0 hd1 (.inl hd2)).mono ?_; rintro e w1 ⟨rfl, rfl⟩) | fail)
  go_wp2
  go_quiet (fail)
  go_wp2_with (go_at_call 55; refine (immFits_movi _ _ hi0 hi1 _).mono ?_; rintro e w1 ⟨rfl, rfl⟩)
  go_ret
  refine ⟨rfl, ?_⟩
  repeat (first | with_reducible exact Fr.refl _ _ | with_reducible refine Fr.drew ?_ | with_reducible refine Fr.drewN ?_ _ | with_reducible refine Fr.alloc ?_ _)


set_option maxRecDepth 100000 in
set_option maxHeartbeats 4000000 in
theorem formed_addi (d imm : Int) (w : World) : Calls Tryz.prog 50 #[.agg #[.int .i64 1, .bool false, .bool false, .int .i64 0, .int .i64 d, .int .i64 0, .int .i64 0, .int .i64 imm]] w fun e w' => e = .returned (.bool true) ∧ w.alloc (.cells #[.int .i64 1, .bool false, .bool false, .int .i64 0, .int .i64 d, .int .i64 0, .int .i64 0, .int .i64 imm] 25) = w' := by
  go_enter Tryz.func50, Tryz.ntmps50
  go_wp2_with (go_at_call 73; refine (second_1 _).mono ?_; rintro e w1 ⟨rfl, rfl⟩)
  go_ret
  exact ⟨rfl, rfl⟩

set_option maxRecDepth 100000 in
set_option maxHeartbeats 4000000 in
theorem uses_addi (d imm : Int) (w : World) : Calls Tryz.prog 51 #[.agg #[.int .i64 1, .bool false, .bool false, .int .i64 0, .int .i64 d, .int .i64 0, .int .i64 0, .int .i64 imm]] w fun e w' => e = .returned (.tuple #[.bool true, .bool false, .bool false, .bool true]) ∧ w.alloc (.cells #[.int .i64 1, .bool false, .bool false, .int .i64 0, .int .i64 d, .int .i64 0, .int .i64 0, .int .i64 imm] 25) = w' := by
  go_enter Tryz.func51, Tryz.ntmps51
  go_wp2_with (go_at_call 73; refine (second_1 _).mono ?_; rintro e w1 ⟨rfl, rfl⟩)
  refine bodyPost_ret (v := .tuple #[.bool true, .bool false, .bool false, .bool true]) (by simp [results, Tryz.results51, go_sem]) rfl ⟨rfl, rfl⟩

set_option maxRecDepth 100000 in
set_option maxHeartbeats 4000000 in
theorem immFits_addi (d imm : Int) (hi0 : decide (imm < -2147483648) = false) (hi1 : decide (imm > 2147483647) = false) (w : World) : Calls Tryz.prog 55 #[.agg #[.int .i64 1, .bool false, .bool false, .int .i64 0, .int .i64 d, .int .i64 0, .int .i64 0, .int .i64 imm]] w fun e w' => e = .returned (.bool true) ∧ w.alloc (.cells #[.int .i64 1, .bool false, .bool false, .int .i64 0, .int .i64 d, .int .i64 0, .int .i64 0, .int .i64 imm] 25) = w' := by
  go_enter Tryz.func55, Tryz.ntmps55
  go_wp2
  go_ret
  exact ⟨rfl, rfl⟩

set_option maxRecDepth 100000 in
set_option maxHeartbeats 4000000 in
theorem right_addi (d imm : Int) (hd0 : decide (d ≥ 0) = true) (hd1 : decide (d ≤ 10) = true) (hd2 : (d == 10) = false) (hi0 : decide (imm < -2147483648) = false) (hi1 : decide (imm > 2147483647) = false) (w : World) : Calls Tryz.prog 39 #[.agg #[.int .i64 1, .bool false, .bool false, .int .i64 0, .int .i64 d, .int .i64 0, .int .i64 0, .int .i64 imm]] w fun e w' => e = .returned (.int .i64 0) ∧ Fr (fun _ => False) w w' := by
  go_enter Tryz.func39, Tryz.ntmps39
  go_wp2_with (first | (go_at_call 50; refine (formed_addi _ _ _).mono ?_; rintro e w1 ⟨rfl, rfl⟩) | (go_at_call 51; refine (uses_addi _ _ _).mono ?_; rintro e w1 ⟨rfl, rfl⟩) | fail)
  go_region_held3 (fun w' => w'.cell? ⟨w.heap.size, 0, none⟩ = some (.int .i64 1) ∧ w'.cell? ⟨w.heap.size, 1, none⟩ = some (.bool false) ∧ w'.cell? ⟨w.heap.size, 2, none⟩ = some (.bool false) ∧ w'.cell? ⟨w.heap.size, 3, none⟩ = some (.int .i64 0) ∧ w'.cell? ⟨w.heap.size, 4, none⟩ = some (.int .i64 d) ∧ w'.cell? ⟨w.heap.size, 5, none⟩ = some (.int .i64 0) ∧ w'.cell? ⟨w.heap.size, 6, none⟩ = some (.int .i64 0) ∧ w'.cell? ⟨w.heap.size, 7, none⟩ = some (.int .i64 imm)) (simp [go_sem, *]) (first | (go_at_call 53; refine (writesDst_1 _).mono ?_; rintro e w1 ⟨rfl, rfl⟩) | (go_at_call 52; refine (isReg_ok _ _ _ hd0 hd1 (.inl hd2)).mono ?_; rintro e w1 ⟨rfl, rfl⟩) | fail)
  go_wp2
  go_quiet (fail)
  go_wp2_with (go_at_call 55; refine (immFits_addi _ _ hi0 hi1 _).mono ?_; rintro e w1 ⟨rfl, rfl⟩)
  go_ret
  refine ⟨rfl, ?_⟩
  repeat (first | with_reducible exact Fr.refl _ _ | with_reducible refine Fr.drew ?_ | with_reducible refine Fr.drewN ?_ _ | with_reducible refine Fr.alloc ?_ _)


set_option maxRecDepth 100000 in
set_option maxHeartbeats 4000000 in
theorem formed_subr (d s : Int) (w : World) : Calls Tryz.prog 50 #[.agg #[.int .i64 2, .bool false, .bool true, .int .i64 0, .int .i64 d, .int .i64 s, .int .i64 0, .int .i64 0]] w fun e w' => e = .returned (.bool true) ∧ w.alloc (.cells #[.int .i64 2, .bool false, .bool true, .int .i64 0, .int .i64 d, .int .i64 s, .int .i64 0, .int .i64 0] 25) = w' := by
  go_enter Tryz.func50, Tryz.ntmps50
  go_wp2_with (go_at_call 73; refine (second_2 _).mono ?_; rintro e w1 ⟨rfl, rfl⟩)
  go_ret
  exact ⟨rfl, rfl⟩

set_option maxRecDepth 100000 in
set_option maxHeartbeats 4000000 in
theorem uses_subr (d s : Int) (w : World) : Calls Tryz.prog 51 #[.agg #[.int .i64 2, .bool false, .bool true, .int .i64 0, .int .i64 d, .int .i64 s, .int .i64 0, .int .i64 0]] w fun e w' => e = .returned (.tuple #[.bool true, .bool true, .bool false, .bool false]) ∧ w.alloc (.cells #[.int .i64 2, .bool false, .bool true, .int .i64 0, .int .i64 d, .int .i64 s, .int .i64 0, .int .i64 0] 25) = w' := by
  go_enter Tryz.func51, Tryz.ntmps51
  go_wp2_with (go_at_call 73; refine (second_2 _).mono ?_; rintro e w1 ⟨rfl, rfl⟩)
  refine bodyPost_ret (v := .tuple #[.bool true, .bool true, .bool false, .bool false]) (by simp [results, Tryz.results51, go_sem]) rfl ⟨rfl, rfl⟩

set_option maxRecDepth 100000 in
set_option maxHeartbeats 4000000 in
theorem right_subr (d s : Int) (hd0 : decide (d ≥ 0) = true) (hd1 : decide (d ≤ 10) = true) (hd2 : (d == 10) = false) (hs0 : decide (s ≥ 0) = true) (hs1 : decide (s ≤ 10) = true) (w : World) : Calls Tryz.prog 39 #[.agg #[.int .i64 2, .bool false, .bool true, .int .i64 0, .int .i64 d, .int .i64 s, .int .i64 0, .int .i64 0]] w fun e w' => e = .returned (.int .i64 0) ∧ Fr (fun _ => False) w w' := by
  go_enter Tryz.func39, Tryz.ntmps39
  go_wp2_with (first | (go_at_call 50; refine (formed_subr _ _ _).mono ?_; rintro e w1 ⟨rfl, rfl⟩) | (go_at_call 51; refine (uses_subr _ _ _).mono ?_; rintro e w1 ⟨rfl, rfl⟩) | fail)
  go_region_held3 (fun w' => w'.cell? ⟨w.heap.size, 0, none⟩ = some (.int .i64 2) ∧ w'.cell? ⟨w.heap.size, 1, none⟩ = some (.bool false) ∧ w'.cell? ⟨w.heap.size, 2, none⟩ = some (.bool true) ∧ w'.cell? ⟨w.heap.size, 3, none⟩ = some (.int .i64 0) ∧ w'.cell? ⟨w.heap.size, 4, none⟩ = some (.int .i64 d) ∧ w'.cell? ⟨w.heap.size, 5, none⟩ = some (.int .i64 s) ∧ w'.cell? ⟨w.heap.size, 6, none⟩ = some (.int .i64 0) ∧ w'.cell? ⟨w.heap.size, 7, none⟩ = some (.int .i64 0)) (simp [go_sem, *]) (first | (go_at_call 53; refine (writesDst_2 _).mono ?_; rintro e w1 ⟨rfl, rfl⟩) | (go_at_call 52; refine (isReg_ok _ _ _ hd0 hd1 (.inl hd2)).mono ?_; rintro e w1 ⟨rfl, rfl⟩) | fail)
  go_wp2
  go_region_held3 (fun w' => w'.cell? ⟨w.heap.size, 0, none⟩ = some (.int .i64 2) ∧ w'.cell? ⟨w.heap.size, 1, none⟩ = some (.bool false) ∧ w'.cell? ⟨w.heap.size, 2, none⟩ = some (.bool true) ∧ w'.cell? ⟨w.heap.size, 3, none⟩ = some (.int .i64 0) ∧ w'.cell? ⟨w.heap.size, 4, none⟩ = some (.int .i64 d) ∧ w'.cell? ⟨w.heap.size, 5, none⟩ = some (.int .i64 s) ∧ w'.cell? ⟨w.heap.size, 6, none⟩ = some (.int .i64 0) ∧ w'.cell? ⟨w.heap.size, 7, none⟩ = some (.int .i64 0)) (simp [go_sem, *]) (first | (go_at_call 54; refine (writesSrc_2 _ _).mono ?_; rintro e w1 ⟨rfl, rfl⟩) | (go_at_call 52; refine (isReg_ok _ _ _ hs0 hs1 (.inr rfl)).mono ?_; rintro e w1 ⟨rfl, rfl⟩) | fail)
  go_wp2
  go_ret
  refine ⟨rfl, ?_⟩
  repeat (first | with_reducible exact Fr.refl _ _ | with_reducible refine Fr.drew ?_ | with_reducible refine Fr.drewN ?_ _ | with_reducible refine Fr.alloc ?_ _)


set_option maxRecDepth 100000 in
set_option maxHeartbeats 4000000 in
theorem formed_exit (w : World) : Calls Tryz.prog 50 #[.agg #[.int .i64 39, .bool false, .bool false, .int .i64 0, .int .i64 0, .int .i64 0, .int .i64 0, .int .i64 0]] w fun e w' => e = .returned (.bool true) ∧ w.alloc (.cells #[.int .i64 39, .bool false, .bool false, .int .i64 0, .int .i64 0, .int .i64 0, .int .i64 0, .int .i64 0] 25) = w' := by
  go_enter Tryz.func50, Tryz.ntmps50
  go_wp2_with (go_at_call 73; refine (second_39 _).mono ?_; rintro e w1 ⟨rfl, rfl⟩)
  go_ret
  exact ⟨rfl, rfl⟩

set_option maxRecDepth 100000 in
set_option maxHeartbeats 4000000 in
theorem uses_exit (w : World) : Calls Tryz.prog 51 #[.agg #[.int .i64 39, .bool false, .bool false, .int .i64 0, .int .i64 0, .int .i64 0, .int .i64 0, .int .i64 0]] w fun e w' => e = .returned (.tuple #[.bool false, .bool false, .bool false, .bool false]) ∧ w.alloc (.cells #[.int .i64 39, .bool false, .bool false, .int .i64 0, .int .i64 0, .int .i64 0, .int .i64 0, .int .i64 0] 25) = w' := by
  go_enter Tryz.func51, Tryz.ntmps51
  go_wp2_with (go_at_call 73; refine (second_39 _).mono ?_; rintro e w1 ⟨rfl, rfl⟩)
  refine bodyPost_ret (v := .tuple #[.bool false, .bool false, .bool false, .bool false]) (by simp [results, Tryz.results51, go_sem]) rfl ⟨rfl, rfl⟩

set_option maxRecDepth 100000 in
set_option maxHeartbeats 4000000 in
theorem right_exit (w : World) : Calls Tryz.prog 39 #[.agg #[.int .i64 39, .bool false, .bool false, .int .i64 0, .int .i64 0, .int .i64 0, .int .i64 0, .int .i64 0]] w fun e w' => e = .returned (.int .i64 0) ∧ Fr (fun _ => False) w w' := by
  go_enter Tryz.func39, Tryz.ntmps39
  go_wp2_with (first | (go_at_call 50; refine (formed_exit _).mono ?_; rintro e w1 ⟨rfl, rfl⟩) | (go_at_call 51; refine (uses_exit _).mono ?_; rintro e w1 ⟨rfl, rfl⟩) | fail)
  go_quiet (fail)
  go_wp2
  go_quiet (fail)
  go_wp2
  go_ret
  refine ⟨rfl, ?_⟩
  repeat (first | with_reducible exact Fr.refl _ _ | with_reducible refine Fr.drew ?_ | with_reducible refine Fr.drewN ?_ _ | with_reducible refine Fr.alloc ?_ _)


set_option maxRecDepth 100000 in
set_option maxHeartbeats 4000000 in
theorem formed_call (imm : Int) (w : World) : Calls Tryz.prog 50 #[.agg #[.int .i64 38, .bool false, .bool false, .int .i64 0, .int .i64 0, .int .i64 0, .int .i64 0, .int .i64 imm]] w fun e w' => e = .returned (.bool true) ∧ w.alloc (.cells #[.int .i64 38, .bool false, .bool false, .int .i64 0, .int .i64 0, .int .i64 0, .int .i64 0, .int .i64 imm] 25) = w' := by
  go_enter Tryz.func50, Tryz.ntmps50
  go_wp2_with (go_at_call 73; refine (second_38 _).mono ?_; rintro e w1 ⟨rfl, rfl⟩)
  go_ret
  exact ⟨rfl, rfl⟩

set_option maxRecDepth 100000 in
set_option maxHeartbeats 4000000 in
theorem uses_call (imm : Int) (w : World) : Calls Tryz.prog 51 #[.agg #[.int .i64 38, .bool false, .bool false, .int .i64 0, .int .i64 0, .int .i64 0, .int .i64 0, .int .i64 imm]] w fun e w' => e = .returned (.tuple #[.bool false, .bool false, .bool false, .bool true]) ∧ w.alloc (.cells #[.int .i64 38, .bool false, .bool false, .int .i64 0, .int .i64 0, .int .i64 0, .int .i64 0, .int .i64 imm] 25) = w' := by
  go_enter Tryz.func51, Tryz.ntmps51
  go_wp2_with (go_at_call 73; refine (second_38 _).mono ?_; rintro e w1 ⟨rfl, rfl⟩)
  refine bodyPost_ret (v := .tuple #[.bool false, .bool false, .bool false, .bool true]) (by simp [results, Tryz.results51, go_sem]) rfl ⟨rfl, rfl⟩

set_option maxRecDepth 100000 in
set_option maxHeartbeats 4000000 in
theorem immFits_call (imm : Int) (hi0 : decide (imm < -2147483648) = false) (hi1 : decide (imm > 2147483647) = false) (w : World) : Calls Tryz.prog 55 #[.agg #[.int .i64 38, .bool false, .bool false, .int .i64 0, .int .i64 0, .int .i64 0, .int .i64 0, .int .i64 imm]] w fun e w' => e = .returned (.bool true) ∧ w.alloc (.cells #[.int .i64 38, .bool false, .bool false, .int .i64 0, .int .i64 0, .int .i64 0, .int .i64 0, .int .i64 imm] 25) = w' := by
  go_enter Tryz.func55, Tryz.ntmps55
  go_wp2
  go_ret
  exact ⟨rfl, rfl⟩

set_option maxRecDepth 100000 in
set_option maxHeartbeats 4000000 in
theorem right_call (imm : Int) (hi0 : decide (imm < -2147483648) = false) (hi1 : decide (imm > 2147483647) = false) (w : World) : Calls Tryz.prog 39 #[.agg #[.int .i64 38, .bool false, .bool false, .int .i64 0, .int .i64 0, .int .i64 0, .int .i64 0, .int .i64 imm]] w fun e w' => e = .returned (.int .i64 0) ∧ Fr (fun _ => False) w w' := by
  go_enter Tryz.func39, Tryz.ntmps39
  go_wp2_with (first | (go_at_call 50; refine (formed_call _ _).mono ?_; rintro e w1 ⟨rfl, rfl⟩) | (go_at_call 51; refine (uses_call _ _).mono ?_; rintro e w1 ⟨rfl, rfl⟩) | fail)
  go_quiet (fail)
  go_wp2
  go_quiet (fail)
  go_wp2_with (go_at_call 55; refine (immFits_call _ hi0 hi1 _).mono ?_; rintro e w1 ⟨rfl, rfl⟩)
  go_ret
  refine ⟨rfl, ?_⟩
  repeat (first | with_reducible exact Fr.refl _ _ | with_reducible refine Fr.drew ?_ | with_reducible refine Fr.drewN ?_ _ | with_reducible refine Fr.alloc ?_ _)


set_option maxRecDepth 100000 in
set_option maxHeartbeats 4000000 in
theorem formed_stor1 (d s off : Int) (w : World) : Calls Tryz.prog 50 #[.agg #[.int .i64 24, .bool false, .bool true, .int .i64 1, .int .i64 d, .int .i64 s, .int .i64 off, .int .i64 0]] w fun e w' => e = .returned (.bool true) ∧ w.alloc (.cells #[.int .i64 24, .bool false, .bool true, .int .i64 1, .int .i64 d, .int .i64 s, .int .i64 off, .int .i64 0] 25) = w' := by
  go_enter Tryz.func50, Tryz.ntmps50
  go_wp2_with (go_at_call 73; refine (second_24 _).mono ?_; rintro e w1 ⟨rfl, rfl⟩)
  go_ret
  exact ⟨rfl, rfl⟩

set_option maxRecDepth 100000 in
set_option maxHeartbeats 4000000 in
theorem uses_stor1 (d s off : Int) (w : World) : Calls Tryz.prog 51 #[.agg #[.int .i64 24, .bool false, .bool true, .int .i64 1, .int .i64 d, .int .i64 s, .int .i64 off, .int .i64 0]] w fun e w' => e = .returned (.tuple #[.bool true, .bool true, .bool true, .bool false]) ∧ w.alloc (.cells #[.int .i64 24, .bool false, .bool true, .int .i64 1, .int .i64 d, .int .i64 s, .int .i64 off, .int .i64 0] 25) = w' := by
  go_enter Tryz.func51, Tryz.ntmps51
  go_wp2_with (go_at_call 73; refine (second_24 _).mono ?_; rintro e w1 ⟨rfl, rfl⟩)
  refine bodyPost_ret (v := .tuple #[.bool true, .bool true, .bool true, .bool false]) (by simp [results, Tryz.results51, go_sem]) rfl ⟨rfl, rfl⟩

set_option maxRecDepth 100000 in
set_option maxHeartbeats 4000000 in
theorem right_stor1 (d s off : Int) (hd0 : decide (d ≥ 0) = true) (hd1 : decide (d ≤ 10) = true) (hs0 : decide (s ≥ 0) = true) (hs1 : decide (s ≤ 10) = true) (ho0 : decide (off < -32768) = false) (ho1 : decide (off ≥ 32768) = false) (w : World) : Calls Tryz.prog 39 #[.agg #[.int .i64 24, .bool false, .bool true, .int .i64 1, .int .i64 d, .int .i64 s, .int .i64 off, .int .i64 0]] w fun e w' => e = .returned (.int .i64 0) ∧ Fr (fun _ => False) w w' := by
  go_enter Tryz.func39, Tryz.ntmps39
  go_wp2_with (first | (go_at_call 50; refine (formed_stor1 _ _ _ _).mono ?_; rintro e w1 ⟨rfl, rfl⟩) | (go_at_call 51; refine (uses_stor1 _ _ _ _).mono ?_; rintro e w1 ⟨rfl, rfl⟩) | fail)
  go_region_held3 (fun w' => w'.cell? ⟨w.heap.size, 0, none⟩ = some (.int .i64 24) ∧ w'.cell? ⟨w.heap.size, 1, none⟩ = some (.bool false) ∧ w'.cell? ⟨w.heap.size, 2, none⟩ = some (.bool true) ∧ w'.cell? ⟨w.heap.size, 3, none⟩ = some (.int .i64 1) ∧ w'.cell? ⟨w.heap.size, 4, none⟩ = some (.int .i64 d) ∧ w'.cell? ⟨w.heap.size, 5, none⟩ = some (.int .i64 s) ∧ w'.cell? ⟨w.heap.size, 6, none⟩ = some (.int .i64 off) ∧ w'.cell? ⟨w.heap.size, 7, none⟩ = some (.int .i64 0)) (simp [go_sem, *]) (first | (go_at_call 53; refine (writesDst_24 _).mono ?_; rintro e w1 ⟨rfl, rfl⟩) | (go_at_call 52; refine (isReg_ok _ _ _ hd0 hd1 (.inr rfl)).mono ?_; rintro e w1 ⟨rfl, rfl⟩) | fail)
  go_wp2
  go_region_held3 (fun w' => w'.cell? ⟨w.heap.size, 0, none⟩ = some (.int .i64 24) ∧ w'.cell? ⟨w.heap.size, 1, none⟩ = some (.bool false) ∧ w'.cell? ⟨w.heap.size, 2, none⟩ = some (.bool true) ∧ w'.cell? ⟨w.heap.size, 3, none⟩ = some (.int .i64 1) ∧ w'.cell? ⟨w.heap.size, 4, none⟩ = some (.int .i64 d) ∧ w'.cell? ⟨w.heap.size, 5, none⟩ = some (.int .i64 s) ∧ w'.cell? ⟨w.heap.size, 6, none⟩ = some (.int .i64 off) ∧ w'.cell? ⟨w.heap.size, 7, none⟩ = some (.int .i64 0)) (simp [go_sem, *]) (first | (go_at_call 54; refine (writesSrc_24 _ _).mono ?_; rintro e w1 ⟨rfl, rfl⟩) | (go_at_call 52; refine (isReg_ok _ _ _ hs0 hs1 (.inr rfl)).mono ?_; rintro e w1 ⟨rfl, rfl⟩) | fail)
  go_wp2
  go_ret
  refine ⟨rfl, ?_⟩
  repeat (first | with_reducible exact Fr.refl _ _ | with_reducible refine Fr.drew ?_ | with_reducible refine Fr.drewN ?_ _ | with_reducible refine Fr.alloc ?_ _)


set_option maxRecDepth 100000 in
set_option maxHeartbeats 4000000 in
theorem formed_stoi1 (d off imm : Int) (w : World) : Calls Tryz.prog 50 #[.agg #[.int .i64 24, .bool false, .bool false, .int .i64 1, .int .i64 d, .int .i64 0, .int .i64 off, .int .i64 imm]] w fun e w' => e = .returned (.bool true) ∧ w.alloc (.cells #[.int .i64 24, .bool false, .bool false, .int .i64 1, .int .i64 d, .int .i64 0, .int .i64 off, .int .i64 imm] 25) = w' := by
  go_enter Tryz.func50, Tryz.ntmps50
  go_wp2_with (go_at_call 73; refine (second_24 _).mono ?_; rintro e w1 ⟨rfl, rfl⟩)
  go_ret
  exact ⟨rfl, rfl⟩

set_option maxRecDepth 100000 in
set_option maxHeartbeats 4000000 in
theorem uses_stoi1 (d off imm : Int) (w : World) : Calls Tryz.prog 51 #[.agg #[.int .i64 24, .bool false, .bool false, .int .i64 1, .int .i64 d, .int .i64 0, .int .i64 off, .int .i64 imm]] w fun e w' => e = .returned (.tuple #[.bool true, .bool false, .bool true, .bool true]) ∧ w.alloc (.cells #[.int .i64 24, .bool false, .bool false, .int .i64 1, .int .i64 d, .int .i64 0, .int .i64 off, .int .i64 imm] 25) = w' := by
  go_enter Tryz.func51, Tryz.ntmps51
  go_wp2_with (go_at_call 73; refine (second_24 _).mono ?_; rintro e w1 ⟨rfl, rfl⟩)
  refine bodyPost_ret (v := .tuple #[.bool true, .bool false, .bool true, .bool true]) (by simp [results, Tryz.results51, go_sem]) rfl ⟨rfl, rfl⟩

set_option maxRecDepth 100000 in
set_option maxHeartbeats 4000000 in
theorem immFits_stoi1 (d off imm : Int) (hi0 : decide (imm < -2147483648) = false) (hi1 : decide (imm > 2147483647) = false) (w : World) : Calls Tryz.prog 55 #[.agg #[.int .i64 24, .bool false, .bool false, .int .i64 1, .int .i64 d, .int .i64 0, .int .i64 off, .int .i64 imm]] w fun e w' => e = .returned (.bool true) ∧ w.alloc (.cells #[.int .i64 24, .bool false, .bool false, .int .i64 1, .int .i64 d, .int .i64 0, .int .i64 off, .int .i64 imm] 25) = w' := by
  go_enter Tryz.func55, Tryz.ntmps55
  go_wp2
  go_ret
  exact ⟨rfl, rfl⟩

set_option maxRecDepth 100000 in
set_option maxHeartbeats 4000000 in
theorem right_stoi1 (d off imm : Int) (hd0 : decide (d ≥ 0) = true) (hd1 : decide (d ≤ 10) = true) (ho0 : decide (off < -32768) = false) (ho1 : decide (off ≥ 32768) = false) (hi0 : decide (imm < -2147483648) = false) (hi1 : decide (imm > 2147483647) = false) (w : World) : Calls Tryz.prog 39 #[.agg #[.int .i64 24, .bool false, .bool false, .int .i64 1, .int .i64 d, .int .i64 0, .int .i64 off, .int .i64 imm]] w fun e w' => e = .returned (.int .i64 0) ∧ Fr (fun _ => False) w w' := by
  go_enter Tryz.func39, Tryz.ntmps39
  go_wp2_with (first | (go_at_call 50; refine (formed_stoi1 _ _ _ _).mono ?_; rintro e w1 ⟨rfl, rfl⟩) | (go_at_call 51; refine (uses_stoi1 _ _ _ _).mono ?_; rintro e w1 ⟨rfl, rfl⟩) | fail)
  go_region_held3 (fun w' => w'.cell? ⟨w.heap.size, 0, none⟩ = some (.int .i64 24) ∧ w'.cell? ⟨w.heap.size, 1, none⟩ = some (.bool false) ∧ w'.cell? ⟨w.heap.size, 2, none⟩ = some (.bool false) ∧ w'.cell? ⟨w.heap.size, 3, none⟩ = some (.int .i64 1) ∧ w'.cell? ⟨w.heap.size, 4, none⟩ = some (.int .i64 d) ∧ w'.cell? ⟨w.heap.size, 5, none⟩ = some (.int .i64 0) ∧ w'.cell? ⟨w.heap.size, 6, none⟩ = some (.int .i64 off) ∧ w'.cell? ⟨w.heap.size, 7, none⟩ = some (.int .i64 imm)) (simp [go_sem, *]) (first | (go_at_call 53; refine (writesDst_24 _).mono ?_; rintro e w1 ⟨rfl, rfl⟩) | (go_at_call 52; refine (isReg_ok _ _ _ hd0 hd1 (.inr rfl)).mono ?_; rintro e w1 ⟨rfl, rfl⟩) | fail)
  go_wp2
  go_quiet (fail)
  go_wp2_with (go_at_call 55; refine (immFits_stoi1 _ _ _ hi0 hi1 _).mono ?_; rintro e w1 ⟨rfl, rfl⟩)
  go_ret
  refine ⟨rfl, ?_⟩
  repeat (first | with_reducible exact Fr.refl _ _ | with_reducible refine Fr.drew ?_ | with_reducible refine Fr.drewN ?_ _ | with_reducible refine Fr.alloc ?_ _)


set_option maxRecDepth 100000 in
set_option maxHeartbeats 4000000 in
theorem formed_load1 (d s off : Int) (w : World) : Calls Tryz.prog 50 #[.agg #[.int .i64 22, .bool false, .bool false, .int .i64 1, .int .i64 d, .int .i64 s, .int .i64 off, .int .i64 0]] w fun e w' => e = .returned (.bool true) ∧ w.alloc (.cells #[.int .i64 22, .bool false, .bool false, .int .i64 1, .int .i64 d, .int .i64 s, .int .i64 off, .int .i64 0] 25) = w' := by
  go_enter Tryz.func50, Tryz.ntmps50
  go_wp2_with (go_at_call 73; refine (second_22 _).mono ?_; rintro e w1 ⟨rfl, rfl⟩)
  go_ret
  exact ⟨rfl, rfl⟩

set_option maxRecDepth 100000 in
set_option maxHeartbeats 4000000 in
theorem uses_load1 (d s off : Int) (w : World) : Calls Tryz.prog 51 #[.agg #[.int .i64 22, .bool false, .bool false, .int .i64 1, .int .i64 d, .int .i64 s, .int .i64 off, .int .i64 0]] w fun e w' => e = .returned (.tuple #[.bool true, .bool true, .bool true, .bool false]) ∧ w.alloc (.cells #[.int .i64 22, .bool false, .bool false, .int .i64 1, .int .i64 d, .int .i64 s, .int .i64 off, .int .i64 0] 25) = w' := by
  go_enter Tryz.func51, Tryz.ntmps51
  go_wp2_with (go_at_call 73; refine (second_22 _).mono ?_; rintro e w1 ⟨rfl, rfl⟩)
  refine bodyPost_ret (v := .tuple #[.bool true, .bool true, .bool true, .bool false]) (by simp [results, Tryz.results51, go_sem]) rfl ⟨rfl, rfl⟩

set_option maxRecDepth 100000 in
set_option maxHeartbeats 4000000 in
theorem right_load1 (d s off : Int) (hd0 : decide (d ≥ 0) = true) (hd1 : decide (d ≤ 10) = true) (hd2 : (d == 10) = false) (hs0 : decide (s ≥ 0) = true) (hs1 : decide (s ≤ 10) = true) (ho0 : decide (off < -32768) = false) (ho1 : decide (off ≥ 32768) = false) (w : World) : Calls Tryz.prog 39 #[.agg #[.int .i64 22, .bool false, .bool false, .int .i64 1, .int .i64 d, .int .i64 s, .int .i64 off, .int .i64 0]] w fun e w' => e = .returned (.int .i64 0) ∧ Fr (fun _ => False) w w' := by
  go_enter Tryz.func39, Tryz.ntmps39
  go_wp2_with (first | (go_at_call 50; refine (formed_load1 _ _ _ _).mono ?_; rintro e w1 ⟨rfl, rfl⟩) | (go_at_call 51; refine (uses_load1 _ _ _ _).mono ?_; rintro e w1 ⟨rfl, rfl⟩) | fail)
  go_region_held3 (fun w' => w'.cell? ⟨w.heap.size, 0, none⟩ = some (.int .i64 22) ∧ w'.cell? ⟨w.heap.size, 1, none⟩ = some (.bool false) ∧ w'.cell? ⟨w.heap.size, 2, none⟩ = some (.bool false) ∧ w'.cell? ⟨w.heap.size, 3, none⟩ = some (.int .i64 1) ∧ w'.cell? ⟨w.heap.size, 4, none⟩ = some (.int .i64 d) ∧ w'.cell? ⟨w.heap.size, 5, none⟩ = some (.int .i64 s) ∧ w'.cell? ⟨w.heap.size, 6, none⟩ = some (.int .i64 off) ∧ w'.cell? ⟨w.heap.size, 7, none⟩ = some (.int .i64 0)) (simp [go_sem, *]) (first | (go_at_call 53; refine (writesDst_22 _).mono ?_; rintro e w1 ⟨rfl, rfl⟩) | (go_at_call 52; refine (isReg_ok _ _ _ hd0 hd1 (.inl hd2)).mono ?_; rintro e w1 ⟨rfl, rfl⟩) | fail)
  go_wp2
  go_region_held3 (fun w' => w'.cell? ⟨w.heap.size, 0, none⟩ = some (.int .i64 22) ∧ w'.cell? ⟨w.heap.size, 1, none⟩ = some (.bool false) ∧ w'.cell? ⟨w.heap.size, 2, none⟩ = some (.bool false) ∧ w'.cell? ⟨w.heap.size, 3, none⟩ = some (.int .i64 1) ∧ w'.cell? ⟨w.heap.size, 4, none⟩ = some (.int .i64 d) ∧ w'.cell? ⟨w.heap.size, 5, none⟩ = some (.int .i64 s) ∧ w'.cell? ⟨w.heap.size, 6, none⟩ = some (.int .i64 off) ∧ w'.cell? ⟨w.heap.size, 7, none⟩ = some (.int .i64 0)) (simp [go_sem, *]) (first | (go_at_call 54; refine (writesSrc_22 _ _).mono ?_; rintro e w1 ⟨rfl, rfl⟩) | (go_at_call 52; refine (isReg_ok _ _ _ hs0 hs1 (.inr rfl)).mono ?_; rintro e w1 ⟨rfl, rfl⟩) | fail)
  go_wp2
  go_ret
  refine ⟨rfl, ?_⟩
  repeat (first | with_reducible exact Fr.refl _ _ | with_reducible refine Fr.drew ?_ | with_reducible refine Fr.drewN ?_ _ | with_reducible refine Fr.alloc ?_ _)


set_option maxRecDepth 100000 in
set_option maxHeartbeats 4000000 in
theorem formed_lods1 (d s off : Int) (w : World) : Calls Tryz.prog 50 #[.agg #[.int .i64 23, .bool false, .bool false, .int .i64 1, .int .i64 d, .int .i64 s, .int .i64 off, .int .i64 0]] w fun e w' => e = .returned (.bool true) ∧ w.alloc (.cells #[.int .i64 23, .bool false, .bool false, .int .i64 1, .int .i64 d, .int .i64 s, .int .i64 off, .int .i64 0] 25) = w' := by
  go_enter Tryz.func50, Tryz.ntmps50
  go_wp2_with (go_at_call 73; refine (second_23 _).mono ?_; rintro e w1 ⟨rfl, rfl⟩)
  go_ret
  exact ⟨rfl, rfl⟩

set_option maxRecDepth 100000 in
set_option maxHeartbeats 4000000 in
theorem uses_lods1 (d s off : Int) (w : World) : Calls Tryz.prog 51 #[.agg #[.int .i64 23, .bool false, .bool false, .int .i64 1, .int .i64 d, .int .i64 s, .int .i64 off, .int .i64 0]] w fun e w' => e = .returned (.tuple #[.bool true, .bool true, .bool true, .bool false]) ∧ w.alloc (.cells #[.int .i64 23, .bool false, .bool false, .int .i64 1, .int .i64 d, .int .i64 s, .int .i64 off, .int .i64 0] 25) = w' := by
  go_enter Tryz.func51, Tryz.ntmps51
  go_wp2_with (go_at_call 73; refine (second_23 _).mono ?_; rintro e w1 ⟨rfl, rfl⟩)
  refine bodyPost_ret (v := .tuple #[.bool true, .bool true, .bool true, .bool false]) (by simp [results, Tryz.results51, go_sem]) rfl ⟨rfl, rfl⟩

set_option maxRecDepth 100000 in
set_option maxHeartbeats 4000000 in
theorem right_lods1 (d s off : Int) (hd0 : decide (d ≥ 0) = true) (hd1 : decide (d ≤ 10) = true) (hd2 : (d == 10) = false) (hs0 : decide (s ≥ 0) = true) (hs1 : decide (s ≤ 10) = true) (ho0 : decide (off < -32768) = false) (ho1 : decide (off ≥ 32768) = false) (w : World) : Calls Tryz.prog 39 #[.agg #[.int .i64 23, .bool false, .bool false, .int .i64 1, .int .i64 d, .int .i64 s, .int .i64 off, .int .i64 0]] w fun e w' => e = .returned (.int .i64 0) ∧ Fr (fun _ => False) w w' := by
  go_enter Tryz.func39, Tryz.ntmps39
  go_wp2_with (first | (go_at_call 50; refine (formed_lods1 _ _ _ _).mono ?_; rintro e w1 ⟨rfl, rfl⟩) | (go_at_call 51; refine (uses_lods1 _ _ _ _).mono ?_; rintro e w1 ⟨rfl, rfl⟩) | fail)
  go_region_held3 (fun w' => w'.cell? ⟨w.heap.size, 0, none⟩ = some (.int .i64 23) ∧ w'.cell? ⟨w.heap.size, 1, none⟩ = some (.bool false) ∧ w'.cell? ⟨w.heap.size, 2, none⟩ = some (.bool false) ∧ w'.cell? ⟨w.heap.size, 3, none⟩ = some (.int .i64 1) ∧ w'.cell? ⟨w.heap.size, 4, none⟩ = some (.int .i64 d) ∧ w'.cell? ⟨w.heap.size, 5, none⟩ = some (.int .i64 s) ∧ w'.cell? ⟨w.heap.size, 6, none⟩ = some (.int .i64 off) ∧ w'.cell? ⟨w.heap.size, 7, none⟩ = some (.int .i64 0)) (simp [go_sem, *]) (first | (go_at_call 53; refine (writesDst_23 _).mono ?_; rintro e w1 ⟨rfl, rfl⟩) | (go_at_call 52; refine (isReg_ok _ _ _ hd0 hd1 (.inl hd2)).mono ?_; rintro e w1 ⟨rfl, rfl⟩) | fail)
  go_wp2
  go_region_held3 (fun w' => w'.cell? ⟨w.heap.size, 0, none⟩ = some (.int .i64 23) ∧ w'.cell? ⟨w.heap.size, 1, none⟩ = some (.bool false) ∧ w'.cell? ⟨w.heap.size, 2, none⟩ = some (.bool false) ∧ w'.cell? ⟨w.heap.size, 3, none⟩ = some (.int .i64 1) ∧ w'.cell? ⟨w.heap.size, 4, none⟩ = some (.int .i64 d) ∧ w'.cell? ⟨w.heap.size, 5, none⟩ = some (.int .i64 s) ∧ w'.cell? ⟨w.heap.size, 6, none⟩ = some (.int .i64 off) ∧ w'.cell? ⟨w.heap.size, 7, none⟩ = some (.int .i64 0)) (simp [go_sem, *]) (first | (go_at_call 54; refine (writesSrc_23 _ _).mono ?_; rintro e w1 ⟨rfl, rfl⟩) | (go_at_call 52; refine (isReg_ok _ _ _ hs0 hs1 (.inr rfl)).mono ?_; rintro e w1 ⟨rfl, rfl⟩) | fail)
  go_wp2
  go_ret
  refine ⟨rfl, ?_⟩
  repeat (first | with_reducible exact Fr.refl _ _ | with_reducible refine Fr.drew ?_ | with_reducible refine Fr.drewN ?_ _ | with_reducible refine Fr.alloc ?_ _)


set_option maxRecDepth 100000 in
set_option maxHeartbeats 4000000 in
theorem formed_stor2 (d s off : Int) (w : World) : Calls Tryz.prog 50 #[.agg #[.int .i64 24, .bool false, .bool true, .int .i64 2, .int .i64 d, .int .i64 s, .int .i64 off, .int .i64 0]] w fun e w' => e = .returned (.bool true) ∧ w.alloc (.cells #[.int .i64 24, .bool false, .bool true, .int .i64 2, .int .i64 d, .int .i64 s, .int .i64 off, .int .i64 0] 25) = w' := by
  go_enter Tryz.func50, Tryz.ntmps50
  go_wp2_with (go_at_call 73; refine (second_24 _).mono ?_; rintro e w1 ⟨rfl, rfl⟩)
  go_ret
  exact ⟨rfl, rfl⟩

set_option maxRecDepth 100000 in
set_option maxHeartbeats 4000000 in
theorem uses_stor2 (d s off : Int) (w : World) : Calls Tryz.prog 51 #[.agg #[.int .i64 24, .bool false, .bool true, .int .i64 2, .int .i64 d, .int .i64 s, .int .i64 off, .int .i64 0]] w fun e w' => e = .returned (.tuple #[.bool true, .bool true, .bool true, .bool false]) ∧ w.alloc (.cells #[.int .i64 24, .bool false, .bool true, .int .i64 2, .int .i64 d, .int .i64 s, .int .i64 off, .int .i64 0] 25) = w' := by
  go_enter Tryz.func51, Tryz.ntmps51
  go_wp2_with (go_at_call 73; refine (second_24 _).mono ?_; rintro e w1 ⟨rfl, rfl⟩)
  refine bodyPost_ret (v := .tuple #[.bool true, .bool true, .bool true, .bool false]) (by simp [results, Tryz.results51, go_sem]) rfl ⟨rfl, rfl⟩

set_option maxRecDepth 100000 in
set_option maxHeartbeats 4000000 in
theorem right_stor2 (d s off : Int) (hd0 : decide (d ≥ 0) = true) (hd1 : decide (d ≤ 10) = true) (hs0 : decide (s ≥ 0) = true) (hs1 : decide (s ≤ 10) = true) (ho0 : decide (off < -32768) = false) (ho1 : decide (off ≥ 32768) = false) (w : World) : Calls Tryz.prog 39 #[.agg #[.int .i64 24, .bool false, .bool true, .int .i64 2, .int .i64 d, .int .i64 s, .int .i64 off, .int .i64 0]] w fun e w' => e = .returned (.int .i64 0) ∧ Fr (fun _ => False) w w' := by
  go_enter Tryz.func39, Tryz.ntmps39
  go_wp2_with (first | (go_at_call 50; refine (formed_stor2 _ _ _ _).mono ?_; rintro e w1 ⟨rfl, rfl⟩) | (go_at_call 51; refine (uses_stor2 _ _ _ _).mono ?_; rintro e w1 ⟨rfl, rfl⟩) | fail)
  go_region_held3 (fun w' => w'.cell? ⟨w.heap.size, 0, none⟩ = some (.int .i64 24) ∧ w'.cell? ⟨w.heap.size, 1, none⟩ = some (.bool false) ∧ w'.cell? ⟨w.heap.size, 2, none⟩ = some (.bool true) ∧ w'.cell? ⟨w.heap.size, 3, none⟩ = some (.int .i64 2) ∧ w'.cell? ⟨w.heap.size, 4, none⟩ = some (.int .i64 d) ∧ w'.cell? ⟨w.heap.size, 5, none⟩ = some (.int .i64 s) ∧ w'.cell? ⟨w.heap.size, 6, none⟩ = some (.int .i64 off) ∧ w'.cell? ⟨w.heap.size, 7, none⟩ = some (.int .i64 0)) (simp [go_sem, *]) (first | (go_at_call 53; refine (writesDst_24 _).mono ?_; rintro e w1 ⟨rfl, rfl⟩) | (go_at_call 52; refine (isReg_ok _ _ _ hd0 hd1 (.inr rfl)).mono ?_; rintro e w1 ⟨rfl, rfl⟩) | fail)
  go_wp2
  go_region_held3 (fun w' => w'.cell? ⟨w.heap.size, 0, none⟩ = some (.int .i64 24) ∧ w'.cell? ⟨w.heap.size, 1, none⟩ = some (.bool false) ∧ w'.cell? ⟨w.heap.size, 2, none⟩ = some (.bool true) ∧ w'.cell? ⟨w.heap.size, 3, none⟩ = some (.int .i64 2) ∧ w'.cell? ⟨w.heap.size, 4, none⟩ = some (.int .i64 d) ∧ w'.cell? ⟨w.heap.size, 5, none⟩ = some (.int .i64 s) ∧ w'.cell? ⟨w.heap.size, 6, none⟩ = some (.int .i64 off) ∧ w'.cell? ⟨w.heap.size, 7, none⟩ = some (.int .i64 0)) (simp [go_sem, *]) (first | (go_at_call 54; refine (writesSrc_24 _ _).mono ?_; rintro e w1 ⟨rfl, rfl⟩) | (go_at_call 52; refine (isReg_ok _ _ _ hs0 hs1 (.inr rfl)).mono ?_; rintro e w1 ⟨rfl, rfl⟩) | fail)
  go_wp2
  go_ret
  refine ⟨rfl, ?_⟩
  repeat (first | with_reducible exact Fr.refl _ _ | with_reducible refine Fr.drew ?_ | with_reducible refine Fr.drewN ?_ _ | with_reducible refine Fr.alloc ?_ _)


set_option maxRecDepth 100000 in
set_option maxHeartbeats 4000000 in
theorem formed_stoi2 (d off imm : Int) (w : World) : Calls Tryz.prog 50 #[.agg #[.int .i64 24, .bool false, .bool false, .int .i64 2, .int .i64 d, .int .i64 0, .int .i64 off, .int .i64 imm]] w fun e w' => e = .returned (.bool true) ∧ w.alloc (.cells #[.int .i64 24, .bool false, .bool false, .int .i64 2, .int .i64 d, .int .i64 0, .int .i64 off, .int .i64 imm] 25) = w' := by
  go_enter Tryz.func50, Tryz.ntmps50
  go_wp2_with (go_at_call 73; refine (second_24 _).mono ?_; rintro e w1 ⟨rfl, rfl⟩)
  go_ret
  exact ⟨rfl, rfl⟩

set_option maxRecDepth 100000 in
set_option maxHeartbeats 4000000 in
theorem uses_stoi2 (d off imm : Int) (w : World) : Calls Tryz.prog 51 #[.agg #[.int .i64 24, .bool false, .bool false, .int .i64 2, .int .i64 d, .int .i64 0, .int .i64 off, .int .i64 imm]] w fun e w' => e = .returned (.tuple #[.bool true, .bool false, .bool true, .bool true]) ∧ w.alloc (.cells #[.int .i64 24, .bool false, .bool false, .int .i64 2, .int .i64 d, .int .i64 0, .int .i64 off, .int .i64 imm] 25) = w' := by
  go_enter Tryz.func51, Tryz.ntmps51
  go_wp2_with (go_at_call 73; refine (second_24 _).mono ?_; rintro e w1 ⟨rfl, rfl⟩)
  refine bodyPost_ret (v := .tuple #[.bool true, .bool false, .bool true, .bool true]) (by simp [results, Tryz.results51, go_sem]) rfl ⟨rfl, rfl⟩

set_option maxRecDepth 100000 in
set_option maxHeartbeats 4000000 in
theorem immFits_stoi2 (d off imm : Int) (hi0 : decide (imm < -2147483648) = false) (hi1 : decide (imm > 2147483647) = false) (w : World) : Calls Tryz.prog 55 #[.agg #[.int .i64 24, .bool false, .bool false, .int .i64 2, .int .i64 d, .int .i64 0, .int .i64 off, .int .i64 imm]] w fun e w' => e = .returned (.bool true) ∧ w.alloc (.cells #[.int .i64 24, .bool false, .bool false, .int .i64 2, .int .i64 d, .int .i64 0, .int .i64 off, .int .i64 imm] 25) = w' := by
  go_enter Tryz.func55, Tryz.ntmps55
  go_wp2
  go_ret
  exact ⟨rfl, rfl⟩

set_option maxRecDepth 100000 in
set_option maxHeartbeats 4000000 in
theorem right_stoi2 (d off imm : Int) (hd0 : decide (d ≥ 0) = true) (hd1 : decide (d ≤ 10) = true) (ho0 : decide (off < -32768) = false) (ho1 : decide (off ≥ 32768) = false) (hi0 : decide (imm < -2147483648) = false) (hi1 : decide (imm > 2147483647) = false) (w : World) : Calls Tryz.prog 39 #[.agg #[.int .i64 24, .bool false, .bool false, .int .i64 2, .int .i64 d, .int .i64 0, .int .i64 off, .int .i64 imm]] w fun e w' => e = .returned (.int .i64 0) ∧ Fr (fun _ => False) w w' := by
  go_enter Tryz.func39, Tryz.ntmps39
  go_wp2_with (first | (go_at_call 50; refine (formed_stoi2 _ _ _ _).mono ?_; rintro e w1 ⟨rfl, rfl⟩) | (go_at_call 51; refine (uses_stoi2 _ _ _ _).mono ?_; rintro e w1 ⟨rfl, rfl⟩) | fail)
  go_region_held3 (fun w' => w'.cell? ⟨w.heap.size, 0, none⟩ = some (.int .i64 24) ∧ w'.cell? ⟨w.heap.size, 1, none⟩ = some (.bool false) ∧ w'.cell? ⟨w.heap.size, 2, none⟩ = some (.bool false) ∧ w'.cell? ⟨w.heap.size, 3, none⟩ = some (.int .i64 2) ∧ w'.cell? ⟨w.heap.size, 4, none⟩ = some (.int .i64 d) ∧ w'.cell? ⟨w.heap.size, 5, none⟩ = some (.int .i64 0) ∧ w'.cell? ⟨w.heap.size, 6, none⟩ = some (.int .i64 off) ∧ w'.cell? ⟨w.heap.size, 7, none⟩ = some (.int .i64 imm)) (simp [go_sem, *]) (first | (go_at_call 53; refine (writesDst_24 _).mono ?_; rintro e w1 ⟨rfl, rfl⟩) | (go_at_call 52; refine (isReg_ok _ _ _ hd0 hd1 (.inr rfl)).mono ?_; rintro e w1 ⟨rfl, rfl⟩) | fail)
  go_wp2
  go_quiet (fail)
  go_wp2_with (go_at_call 55; refine (immFits_stoi2 _ _ _ hi0 hi1 _).mono ?_; rintro e w1 ⟨rfl, rfl⟩)
  go_ret
  refine ⟨rfl, ?_⟩
  repeat (first | with_reducible exact Fr.refl _ _ | with_reducible refine Fr.drew ?_ | with_reducible refine Fr.drewN ?_ _ | with_reducible refine Fr.alloc ?_ _)


set_option maxRecDepth 100000 in
set_option maxHeartbeats 4000000 in
theorem formed_load2 (d s off : Int) (w : World) : Calls Tryz.prog 50 #[.agg #[.int .i64 22, .bool false, .bool false, .int .i64 2, .int .i64 d, .int .i64 s, .int .i64 off, .int .i64 0]] w fun e w' => e = .returned (.bool true) ∧ w.alloc (.cells #[.int .i64 22, .bool false, .bool false, .int .i64 2, .int .i64 d, .int .i64 s, .int .i64 off, .int .i64 0] 25) = w' := by
  go_enter Tryz.func50, Tryz.ntmps50
  go_wp2_with (go_at_call 73; refine (second_22 _).mono ?_; rintro e w1 ⟨rfl, rfl⟩)
  go_ret
  exact ⟨rfl, rfl⟩

set_option maxRecDepth 100000 in
set_option maxHeartbeats 4000000 in
theorem uses_load2 (d s off : Int) (w : World) : Calls Tryz.prog 51 #[.agg #[.int .i64 22, .bool false, .bool false, .int .i64 2, .int .i64 d, .int .i64 s, .int .i64 off, .int .i64 0]] w fun e w' => e = .returned (.tuple #[.bool true, .bool true, .bool true, .bool false]) ∧ w.alloc (.cells #[.int .i64 22, .bool false, .bool false, .int .i64 2, .int .i64 d, .int .i64 s, .int .i64 off, .int .i64 0] 25) = w' := by
  go_enter Tryz.func51, Tryz.ntmps51
  go_wp2_with (go_at_call 73; refine (second_22 _).mono ?_; rintro e w1 ⟨rfl, rfl⟩)
  refine bodyPost_ret (v := .tuple #[.bool true, .bool true, .bool true, .bool false]) (by simp [results, Tryz.results51, go_sem]) rfl ⟨rfl, rfl⟩

set_option maxRecDepth 100000 in
set_option maxHeartbeats 4000000 in
theorem right_load2 (d s off : Int) (hd0 : decide (d ≥ 0) = true) (hd1 : decide (d ≤ 10) = true) (hd2 : (d == 10) = false) (hs0 : decide (s ≥ 0) = true) (hs1 : decide (s ≤ 10) = true) (ho0 : decide (off < -32768) = false) (ho1 : decide (off ≥ 32768) = false) (w : World) : Calls Tryz.prog 39 #[.agg #[.int .i64 22, .bool false, .bool false, .int .i64 2, .int .i64 d, .int .i64 s, .int .i64 off, .int .i64 0]] w fun e w' => e = .returned (.int .i64 0) ∧ Fr (fun _ => False) w w' := by
  go_enter Tryz.func39, Tryz.ntmps39
  go_wp2_with (first | (go_at_call 50; refine (formed_load2 _ _ _ _).mono ?_; rintro e w1 ⟨rfl, rfl⟩) | (go_at_call 51; refine (uses_load2 _ _ _ _).mono ?_; rintro e w1 ⟨rfl, rfl⟩) | fail)
  go_region_held3 (fun w' => w'.cell? ⟨w.heap.size, 0, none⟩ = some (.int .i64 22) ∧ w'.cell? ⟨w.heap.size, 1, none⟩ = some (.bool false) ∧ w'.cell? ⟨w.heap.size, 2, none⟩ = some (.bool false) ∧ w'.cell? ⟨w.heap.size, 3, none⟩ = some (.int .i64 2) ∧ w'.cell? ⟨w.heap.size, 4, none⟩ = some (.int .i64 d) ∧ w'.cell? ⟨w.heap.size, 5, none⟩ = some (.int .i64 s) ∧ w'.cell? ⟨w.heap.size, 6, none⟩ = some (.int .i64 off) ∧ w'.cell? ⟨w.heap.size, 7, none⟩ = some (.int .i64 0)) (simp [go_sem, *]) (first | (go_at_call 53; refine (writesDst_22 _).mono ?_; rintro e w1 ⟨rfl, rfl⟩) | (go_at_call 52; refine (isReg_ok _ _ _ hd0 hd1 (.inl hd2)).mono ?_; rintro e w1 ⟨rfl, rfl⟩) | fail)
  go_wp2
  go_region_held3 (fun w' => w'.cell? ⟨w.heap.size, 0, none⟩ = some (.int .i64 22) ∧ w'.cell? ⟨w.heap.size, 1, none⟩ = some (.bool false) ∧ w'.cell? ⟨w.heap.size, 2, none⟩ = some (.bool false) ∧ w'.cell? ⟨w.heap.size, 3, none⟩ = some (.int .i64 2) ∧ w'.cell? ⟨w.heap.size, 4, none⟩ = some (.int .i64 d) ∧ w'.cell? ⟨w.heap.size, 5, none⟩ = some (.int .i64 s) ∧ w'.cell? ⟨w.heap.size, 6, none⟩ = some (.int .i64 off) ∧ w'.cell? ⟨w.heap.size, 7, none⟩ = some (.int .i64 0)) (simp [go_sem, *]) (first | (go_at_call 54; refine (writesSrc_22 _ _).mono ?_; rintro e w1 ⟨rfl, rfl⟩) | (go_at_call 52; refine (isReg_ok _ _ _ hs0 hs1 (.inr rfl)).mono ?_; rintro e w1 ⟨rfl, rfl⟩) | fail)
  go_wp2
  go_ret
  refine ⟨rfl, ?_⟩
  repeat (first | with_reducible exact Fr.refl _ _ | with_reducible refine Fr.drew ?_ | with_reducible refine Fr.drewN ?_ _ | with_reducible refine Fr.alloc ?_ _)


set_option maxRecDepth 100000 in
set_option maxHeartbeats 4000000 in
theorem formed_lods2 (d s off : Int) (w : World) : Calls Tryz.prog 50 #[.agg #[.int .i64 23, .bool false, .bool false, .int .i64 2, .int .i64 d, .int .i64 s, .int .i64 off, .int .i64 0]] w fun e w' => e = .returned (.bool true) ∧ w.alloc (.cells #[.int .i64 23, .bool false, .bool false, .int .i64 2, .int .i64 d, .int .i64 s, .int .i64 off, .int .i64 0] 25) = w' := by
  go_enter Tryz.func50, Tryz.ntmps50
  go_wp2_with (go_at_call 73; refine (second_23 _).mono ?_; rintro e w1 ⟨rfl, rfl⟩)
  go_ret
  exact ⟨rfl, rfl⟩

set_option maxRecDepth 100000 in
set_option maxHeartbeats 4000000 in
theorem uses_lods2 (d s off : Int) (w : World) : Calls Tryz.prog 51 #[.agg #[.int .i64 23, .bool false, .bool false, .int .i64 2, .int .i64 d, .int .i64 s, .int .i64 off, .int .i64 0]] w fun e w' => e = .returned (.tuple #[.bool true, .bool true, .bool true, .bool false]) ∧ w.alloc (.cells #[.int .i64 23, .bool false, .bool false, .int .i64 2, .int .i64 d, .int .i64 s, .int .i64 off, .int .i64 0] 25) = w' := by
  go_enter Tryz.func51, Tryz.ntmps51
  go_wp2_with (go_at_call 73; refine (second_23 _).mono ?_; rintro e w1 ⟨rfl, rfl⟩)
  refine bodyPost_ret (v := .tuple #[.bool true, .bool true, .bool true, .bool false]) (by simp [results, Tryz.results51, go_sem]) rfl ⟨rfl, rfl⟩

set_option maxRecDepth 100000 in
set_option maxHeartbeats 4000000 in
theorem right_lods2 (d s off : Int) (hd0 : decide (d ≥ 0) = true) (hd1 : decide (d ≤ 10) = true) (hd2 : (d == 10) = false) (hs0 : decide (s ≥ 0) = true) (hs1 : decide (s ≤ 10) = true) (ho0 : decide (off < -32768) = false) (ho1 : decide (off ≥ 32768) = false) (w : World) : Calls Tryz.prog 39 #[.agg #[.int .i64 23, .bool false, .bool false, .int .i64 2, .int .i64 d, .int .i64 s, .int .i64 off, .int .i64 0]] w fun e w' => e = .returned (.int .i64 0) ∧ Fr (fun _ => False) w w' := by
  go_enter Tryz.func39, Tryz.ntmps39
  go_wp2_with (first | (go_at_call 50; refine (formed_lods2 _ _ _ _).mono ?_; rintro e w1 ⟨rfl, rfl⟩) | (go_at_call 51; refine (uses_lods2 _ _ _ _).mono ?_; rintro e w1 ⟨rfl, rfl⟩) | fail)
  go_region_held3 (fun w' => w'.cell? ⟨w.heap.size, 0, none⟩ = some (.int .i64 23) ∧ w'.cell? ⟨w.heap.size, 1, none⟩ = some (.bool false) ∧ w'.cell? ⟨w.heap.size, 2, none⟩ = some (.bool false) ∧ w'.cell? ⟨w.heap.size, 3, none⟩ = some (.int .i64 2) ∧ w'.cell? ⟨w.heap.size, 4, none⟩ = some (.int .i64 d) ∧ w'.cell? ⟨w.heap.size, 5, none⟩ = some (.int .i64 s) ∧ w'.cell? ⟨w.heap.size, 6, none⟩ = some (.int .i64 off) ∧ w'.cell? ⟨w.heap.size, 7, none⟩ = some (.int .i64 0)) (simp [go_sem, *]) (first | (go_at_call 53; refine (writesDst_23 _).mono ?_; rintro e w1 ⟨rfl, rfl⟩) | (go_at_call 52; refine (isReg_ok _ _ _ hd0 hd1 (.inl hd2)).mono ?_; rintro e w1 ⟨rfl, rfl⟩) | fail)
  go_wp2
  go_region_held3 (fun w' => w'.cell? ⟨w.heap.size, 0, none⟩ = some (.int .i64 23) ∧ w'.cell? ⟨w.heap.size, 1, none⟩ = some (.bool false) ∧ w'.cell? ⟨w.heap.size, 2, none⟩ = some (.bool false) ∧ w'.cell? ⟨w.heap.size, 3, none⟩ = some (.int .i64 2) ∧ w'.cell? ⟨w.heap.size, 4, none⟩ = some (.int .i64 d) ∧ w'.cell? ⟨w.heap.size, 5, none⟩ = some (.int .i64 s) ∧ w'.cell? ⟨w.heap.size, 6, none⟩ = some (.int .i64 off) ∧ w'.cell? ⟨w.heap.size, 7, none⟩ = some (.int .i64 0)) (simp [go_sem, *]) (first | (go_at_call 54; refine (writesSrc_23 _ _).mono ?_; rintro e w1 ⟨rfl, rfl⟩) | (go_at_call 52; refine (isReg_ok _ _ _ hs0 hs1 (.inr rfl)).mono ?_; rintro e w1 ⟨rfl, rfl⟩) | fail)
  go_wp2
  go_ret
  refine ⟨rfl, ?_⟩
  repeat (first | with_reducible exact Fr.refl _ _ | with_reducible refine Fr.drew ?_ | with_reducible refine Fr.drewN ?_ _ | with_reducible refine Fr.alloc ?_ _)


set_option maxRecDepth 100000 in
set_option maxHeartbeats 4000000 in
theorem formed_stor4 (d s off : Int) (w : World) : Calls Tryz.prog 50 #[.agg #[.int .i64 24, .bool false, .bool true, .int .i64 4, .int .i64 d, .int .i64 s, .int .i64 off, .int .i64 0]] w fun e w' => e = .returned (.bool true) ∧ w.alloc (.cells #[.int .i64 24, .bool false, .bool true, .int .i64 4, .int .i64 d, .int .i64 s, .int .i64 off, .int .i64 0] 25) = w' := by
  go_enter Tryz.func50, Tryz.ntmps50
  go_wp2_with (go_at_call 73; refine (second_24 _).mono ?_; rintro e w1 ⟨rfl, rfl⟩)
  go_ret
  exact ⟨rfl, rfl⟩

set_option maxRecDepth 100000 in
set_option maxHeartbeats 4000000 in
theorem uses_stor4 (d s off : Int) (w : World) : Calls Tryz.prog 51 #[.agg #[.int .i64 24, .bool false, .bool true, .int .i64 4, .int .i64 d, .int .i64 s, .int .i64 off, .int .i64 0]] w fun e w' => e = .returned (.tuple #[.bool true, .bool true, .bool true, .bool false]) ∧ w.alloc (.cells #[.int .i64 24, .bool false, .bool true, .int .i64 4, .int .i64 d, .int .i64 s, .int .i64 off, .int .i64 0] 25) = w' := by
  go_enter Tryz.func51, Tryz.ntmps51
  go_wp2_with (go_at_call 73; refine (second_24 _).mono ?_; rintro e w1 ⟨rfl, rfl⟩)
  refine bodyPost_ret (v := .tuple #[.bool true, .bool true, .bool true, .bool false]) (by simp [results, Tryz.results51, go_sem]) rfl ⟨rfl, rfl⟩

set_option maxRecDepth 100000 in
set_option maxHeartbeats 4000000 in
theorem right_stor4 (d s off : Int) (hd0 : decide (d ≥ 0) = true) (hd1 : decide (d ≤ 10) = true) (hs0 : decide (s ≥ 0) = true) (hs1 : decide (s ≤ 10) = true) (ho0 : decide (off < -32768) = false) (ho1 : decide (off ≥ 32768) = false) (w : World) : Calls Tryz.prog 39 #[.agg #[.int .i64 24, .bool false, .bool true, .int .i64 4, .int .i64 d, .int .i64 s, .int .i64 off, .int .i64 0]] w fun e w' => e = .returned (.int .i64 0) ∧ Fr (fun _ => False) w w' := by
  go_enter Tryz.func39, Tryz.ntmps39
  go_wp2_with (first | (go_at_call 50; refine (formed_stor4 _ _ _ _).mono ?_; rintro e w1 ⟨rfl, rfl⟩) | (go_at_call 51; refine (uses_stor4 _ _ _ _).mono ?_; rintro e w1 ⟨rfl, rfl⟩) | fail)
  go_region_held3 (fun w' => w'.cell? ⟨w.heap.size, 0, none⟩ = some (.int .i64 24) ∧ w'.cell? ⟨w.heap.size, 1, none⟩ = some (.bool false) ∧ w'.cell? ⟨w.heap.size, 2, none⟩ = some (.bool true) ∧ w'.cell? ⟨w.heap.size, 3, none⟩ = some (.int .i64 4) ∧ w'.cell? ⟨w.heap.size, 4, none⟩ = some (.int .i64 d) ∧ w'.cell? ⟨w.heap.size, 5, none⟩ = some (.int .i64 s) ∧ w'.cell? ⟨w.heap.size, 6, none⟩ = some (.int .i64 off) ∧ w'.cell? ⟨w.heap.size, 7, none⟩ = some (.int .i64 0)) (simp [go_sem, *]) (first | (go_at_call 53; refine (writesDst_24 _).mono ?_; rintro e w1 ⟨rfl, rfl⟩) | (go_at_call 52; refine (isReg_ok _ _ _ hd0 hd1 (.inr rfl)).mono ?_; rintro e w1 ⟨rfl, rfl⟩) | fail)
  go_wp2
  go_region_held3 (fun w' => w'.cell? ⟨w.heap.size, 0, none⟩ = some (.int .i64 24) ∧ w'.cell? ⟨w.heap.size, 1, none⟩ = some (.bool false) ∧ w'.cell? ⟨w.heap.size, 2, none⟩ = some (.bool true) ∧ w'.cell? ⟨w.heap.size, 3, none⟩ = some (.int .i64 4) ∧ w'.cell? ⟨w.heap.size, 4, none⟩ = some (.int .i64 d) ∧ w'.cell? ⟨w.heap.size, 5, none⟩ = some (.int .i64 s) ∧ w'.cell? ⟨w.heap.size, 6, none⟩ = some (.int .i64 off) ∧ w'.cell? ⟨w.heap.size, 7, none⟩ = some (.int .i64 0)) (simp [go_sem, *]) (first | (go_at_call 54; refine (writesSrc_24 _ _).mono ?_; rintro e w1 ⟨rfl, rfl⟩) | (go_at_call 52; refine (isReg_ok _ _ _ hs0 hs1 (.inr rfl)).mono ?_; rintro e w1 ⟨rfl, rfl⟩) | fail)
  go_wp2
  go_ret
  refine ⟨rfl, ?_⟩
  repeat (first | with_reducible exact Fr.refl _ _ | with_reducible refine Fr.drew ?_ | with_reducible refine Fr.drewN ?_ _ | with_reducible refine Fr.alloc ?_ _)


set_option maxRecDepth 100000 in
set_option maxHeartbeats 4000000 in
theorem formed_stoi4 (d off imm : Int) (w : World) : Calls Tryz.prog 50 #[.agg #[.int .i64 24, .bool false, .bool false, .int .i64 4, .int .i64 d, .int .i64 0, .int .i64 off, .int .i64 imm]] w fun e w' => e = .returned (.bool true) ∧ w.alloc (.cells #[.int .i64 24, .bool false, .bool false, .int .i64 4, .int .i64 d, .int .i64 0, .int .i64 off, .int .i64 imm] 25) = w' := by
  go_enter Tryz.func50, Tryz.ntmps50
  go_wp2_with (go_at_call 73; refine (second_24 _).mono ?_; rintro e w1 ⟨rfl, rfl⟩)
  go_ret
  exact ⟨rfl, rfl⟩

set_option maxRecDepth 100000 in
set_option maxHeartbeats 4000000 in
theorem uses_stoi4 (d off imm : Int) (w : World) : Calls Tryz.prog 51 #[.agg #[.int .i64 24, .bool false, .bool false, .int .i64 4, .int .i64 d, .int .i64 0, .int .i64 off, .int .i64 imm]] w fun e w' => e = .returned (.tuple #[.bool true, .bool false, .bool true, .bool true]) ∧ w.alloc (.cells #[.int .i64 24, .bool false, .bool false, .int .i64 4, .int .i64 d, .int .i64 0, .int .i64 off, .int .i64 imm] 25) = w' := by
  go_enter Tryz.func51, Tryz.ntmps51
  go_wp2_with (go_at_call 73; refine (second_24 _).mono ?_; rintro e w1 ⟨rfl, rfl⟩)
  refine bodyPost_ret (v := .tuple #[.bool true, .bool false, .bool true, .bool true]) (by simp [results, Tryz.results51, go_sem]) rfl ⟨rfl, rfl⟩

set_option maxRecDepth 100000 in
set_option maxHeartbeats 4000000 in
theorem immFits_stoi4 (d off imm : Int) (hi0 : decide (imm < -2147483648) = false) (hi1 : decide (imm > 2147483647) = false) (w : World) : Calls Tryz.prog 55 #[.agg #[.int .i64 24, .bool false, .bool false, .int .i64 4, .int .i64 d, .int .i64 0, .int .i64 off, .int .i64 imm]] w fun e w' => e = .returned (.bool true) ∧ w.alloc (.cells #[.int .i64 24, .bool false, .bool false, .int .i64 4, .int .i64 d, .int .i64 0, .int .i64 off, .int .i64 imm] 25) = w' := by
  go_enter Tryz.func55, Tryz.ntmps55
  go_wp2
  go_ret
  exact ⟨rfl, rfl⟩

set_option maxRecDepth 100000 in
set_option maxHeartbeats 4000000 in
theorem right_stoi4 (d off imm : Int) (hd0 : decide (d ≥ 0) = true) (hd1 : decide (d ≤ 10) = true) (ho0 : decide (off < -32768) = false) (ho1 : decide (off ≥ 32768) = false) (hi0 : decide (imm < -2147483648) = false) (hi1 : decide (imm > 2147483647) = false) (w : World) : Calls Tryz.prog 39 #[.agg #[.int .i64 24, .bool false, .bool false, .int .i64 4, .int .i64 d, .int .i64 0, .int .i64 off, .int .i64 imm]] w fun e w' => e = .returned (.int .i64 0) ∧ Fr (fun _ => False) w w' := by
  go_enter Tryz.func39, Tryz.ntmps39
  go_wp2_with (first | (go_at_call 50; refine (formed_stoi4 _ _ _ _).mono ?_; rintro e w1 ⟨rfl, rfl⟩) | (go_at_call 51; refine (uses_stoi4 _ _ _ _).mono ?_; rintro e w1 ⟨rfl, rfl⟩) | fail)
  go_region_held3 (fun w' => w'.cell? ⟨w.heap.size, 0, none⟩ = some (.int .i64 24) ∧ w'.cell? ⟨w.heap.size, 1, none⟩ = some (.bool false) ∧ w'.cell? ⟨w.heap.size, 2, none⟩ = some (.bool false) ∧ w'.cell? ⟨w.heap.size, 3, none⟩ = some (.int .i64 4) ∧ w'.cell? ⟨w.heap.size, 4, none⟩ = some (.int .i64 d) ∧ w'.cell? ⟨w.heap.size, 5, none⟩ = some (.int .i64 0) ∧ w'.cell? ⟨w.heap.size, 6, none⟩ = some (.int .i64 off) ∧ w'.cell? ⟨w.heap.size, 7, none⟩ = some (.int .i64 imm)) (simp [go_sem, *]) (first | (go_at_call 53; refine (writesDst_24 _).mono ?_; rintro e w1 ⟨rfl, rfl⟩) | (go_at_call 52; refine (isReg_ok _ _ _ hd0 hd1 (.inr rfl)).mono ?_; rintro e w1 ⟨rfl, rfl⟩) | fail)
  go_wp2
  go_quiet (fail)
  go_wp2_with (go_at_call 55; refine (immFits_stoi4 _ _ _ hi0 hi1 _).mono ?_; rintro e w1 ⟨rfl, rfl⟩)
  go_ret
  refine ⟨rfl, ?_⟩
  repeat (first | with_reducible exact Fr.refl _ _ | with_reducible refine Fr.drew ?_ | with_reducible refine Fr.drewN ?_ _ | with_reducible refine Fr.alloc ?_ _)


set_option maxRecDepth 100000 in
set_option maxHeartbeats 4000000 in
theorem formed_load4 (d s off : Int) (w : World) : Calls Tryz.prog 50 #[.agg #[.int .i64 22, .bool false, .bool false, .int .i64 4, .int .i64 d, .int .i64 s, .int .i64 off, .int .i64 0]] w fun e w' => e = .returned (.bool true) ∧ w.alloc (.cells #[.int .i64 22, .bool false, .bool false, .int .i64 4, .int .i64 d, .int .i64 s, .int .i64 off, .int .i64 0] 25) = w' := by
  go_enter Tryz.func50, Tryz.ntmps50
  go_wp2_with (go_at_call 73; refine (second_22 _).mono ?_; rintro e w1 ⟨rfl, rfl⟩)
  go_ret
  exact ⟨rfl, rfl⟩

set_option maxRecDepth 100000 in
set_option maxHeartbeats 4000000 in
theorem uses_load4 (d s off : Int) (w : World) : Calls Tryz.prog 51 #[.agg #[.int .i64 22, .bool false, .bool false, .int .i64 4, .int .i64 d, .int .i64 s, .int .i64 off, .int .i64 0]] w fun e w' => e = .returned (.tuple #[.bool true, .bool true, .bool true, .bool false]) ∧ w.alloc (.cells #[.int .i64 22, .bool false, .bool false, .int .i64 4, .int .i64 d, .int .i64 s, .int .i64 off, .int .i64 0] 25) = w' := by
  go_enter Tryz.func51, Tryz.ntmps51
  go_wp2_with (go_at_call 73; refine (second_22 _).mono ?_; rintro e w1 ⟨rfl, rfl⟩)
  refine bodyPost_ret (v := .tuple #[.bool true, .bool true, .bool true, .bool false]) (by simp [results, Tryz.results51, go_sem]) rfl ⟨rfl, rfl⟩

set_option maxRecDepth 100000 in
set_option maxHeartbeats 4000000 in
theorem right_load4 (d s off : Int) (hd0 : decide (d ≥ 0) = true) (hd1 : decide (d ≤ 10) = true) (hd2 : (d == 10) = false) (hs0 : decide (s ≥ 0) = true) (hs1 : decide (s ≤ 10) = true) (ho0 : decide (off < -32768) = false) (ho1 : decide (off ≥ 32768) = false) (w : World) : Calls Tryz.prog 39 #[.agg #[.int .i64 22, .bool false, .bool false, .int .i64 4, .int .i64 d, .int .i64 s, .int .i64 off, .int .i64 0]] w fun e w' => e = .returned (.int .i64 0) ∧ Fr (fun _ => False) w w' := by
  go_enter Tryz.func39, Tryz.ntmps39
  go_wp2_with (first | (go_at_call 50; refine (formed_load4 _ _ _ _).mono ?_; rintro e w1 ⟨rfl, rfl⟩) | (go_at_call 51; refine (uses_load4 _ _ _ _).mono ?_; rintro e w1 ⟨rfl, rfl⟩) | fail)
  go_region_held3 (fun w' => w'.cell? ⟨w.heap.size, 0, none⟩ = some (.int .i64 22) ∧ w'.cell? ⟨w.heap.size, 1, none⟩ = some (.bool false) ∧ w'.cell? ⟨w.heap.size, 2, none⟩ = some (.bool false) ∧ w'.cell? ⟨w.heap.size, 3, none⟩ = some (.int .i64 4) ∧ w'.cell? ⟨w.heap.size, 4, none⟩ = some (.int .i64 d) ∧ w'.cell? ⟨w.heap.size, 5, none⟩ = some (.int .i64 s) ∧ w'.cell? ⟨w.heap.size, 6, none⟩ = some (.int .i64 off) ∧ w'.cell? ⟨w.heap.size, 7, none⟩ = some (.int .i64 0)) (simp [go_sem, *]) (first | (go_at_call 53; refine (writesDst_22 _).mono ?_; rintro e w1 ⟨rfl, rfl⟩) | (go_at_call 52; refine (isReg_ok _ _ _ hd0 hd1 (.inl hd2)).mono ?_; rintro e w1 ⟨rfl, rfl⟩) | fail)
  go_wp2
  go_region_held3 (fun w' => w'.cell? ⟨w.heap.size, 0, none⟩ = some (.int .i64 22) ∧ w'.cell? ⟨w.heap.size, 1, none⟩ = some (.bool false) ∧ w'.cell? ⟨w.heap.size, 2, none⟩ = some (.bool false) ∧ w'.cell? ⟨w.heap.size, 3, none⟩ = some (.int .i64 4) ∧ w'.cell? ⟨w.heap.size, 4, none⟩ = some (.int .i64 d) ∧ w'.cell? ⟨w.heap.size, 5, none⟩ = some (.int .i64 s) ∧ w'.cell? ⟨w.heap.size, 6, none⟩ = some (.int .i64 off) ∧ w'.cell? ⟨w.heap.size, 7, none⟩ = some (.int .i64 0)) (simp [go_sem, *]) (first | (go_at_call 54; refine (writesSrc_22 _ _).mono ?_; rintro e w1 ⟨rfl, rfl⟩) | (go_at_call 52; refine (isReg_ok _ _ _ hs0 hs1 (.inr rfl)).mono ?_; rintro e w1 ⟨rfl, rfl⟩) | fail)
  go_wp2
  go_ret
  refine ⟨rfl, ?_⟩
  repeat (first | with_reducible exact Fr.refl _ _ | with_reducible refine Fr.drew ?_ | with_reducible refine Fr.drewN ?_ _ | with_reducible refine Fr.alloc ?_ _)


set_option maxRecDepth 100000 in
set_option maxHeartbeats 4000000 in
theorem formed_lods4 (d s off : Int) (w : World) : Calls Tryz.prog 50 #[.agg #[.int .i64 23, .bool false, .bool false, .int .i64 4, .int .i64 d, .int .i64 s, .int .i64 off, .int .i64 0]] w fun e w' => e = .returned (.bool true) ∧ w.alloc (.cells #[.int .i64 23, .bool false, .bool false, .int .i64 4, .int .i64 d, .int .i64 s, .int .i64 off, .int .i64 0] 25) = w' := by
  go_enter Tryz.func50, Tryz.ntmps50
  go_wp2_with (go_at_call 73; refine (second_23 _).mono ?_; rintro e w1 ⟨rfl, rfl⟩)
  go_ret
  exact ⟨rfl, rfl⟩

set_option maxRecDepth 100000 in
set_option maxHeartbeats 4000000 in
theorem uses_lods4 (d s off : Int) (w : World) : Calls Tryz.prog 51 #[.agg #[.int .i64 23, .bool false, .bool false, .int .i64 4, .int .i64 d, .int .i64 s, .int .i64 off, .int .i64 0]] w fun e w' => e = .returned (.tuple #[.bool true, .bool true, .bool true, .bool false]) ∧ w.alloc (.cells #[.int .i64 23, .bool false, .bool false, .int .i64 4, .int .i64 d, .int .i64 s, .int .i64 off, .int .i64 0] 25) = w' := by
  go_enter Tryz.func51, Tryz.ntmps51
  go_wp2_with (go_at_call 73; refine (second_23 _).mono ?_; rintro e w1 ⟨rfl, rfl⟩)
  refine bodyPost_ret (v := .tuple #[.bool true, .bool true, .bool true, .bool false]) (by simp [results, Tryz.results51, go_sem]) rfl ⟨rfl, rfl⟩

set_option maxRecDepth 100000 in
set_option maxHeartbeats 4000000 in
theorem right_lods4 (d s off : Int) (hd0 : decide (d ≥ 0) = true) (hd1 : decide (d ≤ 10) = true) (hd2 : (d == 10) = false) (hs0 : decide (s ≥ 0) = true) (hs1 : decide (s ≤ 10) = true) (ho0 : decide (off < -32768) = false) (ho1 : decide (off ≥ 32768) = false) (w : World) : Calls Tryz.prog 39 #[.agg #[.int .i64 23, .bool false, .bool false, .int .i64 4, .int .i64 d, .int .i64 s, .int .i64 off, .int .i64 0]] w fun e w' => e = .returned (.int .i64 0) ∧ Fr (fun _ => False) w w' := by
  go_enter Tryz.func39, Tryz.ntmps39
  go_wp2_with (first | (go_at_call 50; refine (formed_lods4 _ _ _ _).mono ?_; rintro e w1 ⟨rfl, rfl⟩) | (go_at_call 51; refine (uses_lods4 _ _ _ _).mono ?_; rintro e w1 ⟨rfl, rfl⟩) | fail)
  go_region_held3 (fun w' => w'.cell? ⟨w.heap.size, 0, none⟩ = some (.int .i64 23) ∧ w'.cell? ⟨w.heap.size, 1, none⟩ = some (.bool false) ∧ w'.cell? ⟨w.heap.size, 2, none⟩ = some (.bool false) ∧ w'.cell? ⟨w.heap.size, 3, none⟩ = some (.int .i64 4) ∧ w'.cell? ⟨w.heap.size, 4, none⟩ = some (.int .i64 d) ∧ w'.cell? ⟨w.heap.size, 5, none⟩ = some (.int .i64 s) ∧ w'.cell? ⟨w.heap.size, 6, none⟩ = some (.int .i64 off) ∧ w'.cell? ⟨w.heap.size, 7, none⟩ = some (.int .i64 0)) (simp [go_sem, *]) (first | (go_at_call 53; refine (writesDst_23 _).mono ?_; rintro e w1 ⟨rfl, rfl⟩) | (go_at_call 52; refine (isReg_ok _ _ _ hd0 hd1 (.inl hd2)).mono ?_; rintro e w1 ⟨rfl, rfl⟩) | fail)
  go_wp2
  go_region_held3 (fun w' => w'.cell? ⟨w.heap.size, 0, none⟩ = some (.int .i64 23) ∧ w'.cell? ⟨w.heap.size, 1, none⟩ = some (.bool false) ∧ w'.cell? ⟨w.heap.size, 2, none⟩ = some (.bool false) ∧ w'.cell? ⟨w.heap.size, 3, none⟩ = some (.int .i64 4) ∧ w'.cell? ⟨w.heap.size, 4, none⟩ = some (.int .i64 d) ∧ w'.cell? ⟨w.heap.size, 5, none⟩ = some (.int .i64 s) ∧ w'.cell? ⟨w.heap.size, 6, none⟩ = some (.int .i64 off) ∧ w'.cell? ⟨w.heap.size, 7, none⟩ = some (.int .i64 0)) (simp [go_sem, *]) (first | (go_at_call 54; refine (writesSrc_23 _ _).mono ?_; rintro e w1 ⟨rfl, rfl⟩) | (go_at_call 52; refine (isReg_ok _ _ _ hs0 hs1 (.inr rfl)).mono ?_; rintro e w1 ⟨rfl, rfl⟩) | fail)
  go_wp2
  go_ret
  refine ⟨rfl, ?_⟩
  repeat (first | with_reducible exact Fr.refl _ _ | with_reducible refine Fr.drew ?_ | with_reducible refine Fr.drewN ?_ _ | with_reducible refine Fr.alloc ?_ _)


set_option maxRecDepth 100000 in
set_option maxHeartbeats 4000000 in
theorem formed_stor8 (d s off : Int) (w : World) : Calls Tryz.prog 50 #[.agg #[.int .i64 24, .bool false, .bool true, .int .i64 8, .int .i64 d, .int .i64 s, .int .i64 off, .int .i64 0]] w fun e w' => e = .returned (.bool true) ∧ w.alloc (.cells #[.int .i64 24, .bool false, .bool true, .int .i64 8, .int .i64 d, .int .i64 s, .int .i64 off, .int .i64 0] 25) = w' := by
  go_enter Tryz.func50, Tryz.ntmps50
  go_wp2_with (go_at_call 73; refine (second_24 _).mono ?_; rintro e w1 ⟨rfl, rfl⟩)
  go_ret
  exact ⟨rfl, rfl⟩

set_option maxRecDepth 100000 in
set_option maxHeartbeats 4000000 in
theorem uses_stor8 (d s off : Int) (w : World) : Calls Tryz.prog 51 #[.agg #[.int .i64 24, .bool false, .bool true, .int .i64 8, .int .i64 d, .int .i64 s, .int .i64 off, .int .i64 0]] w fun e w' => e = .returned (.tuple #[.bool true, .bool true, .bool true, .bool false]) ∧ w.alloc (.cells #[.int .i64 24, .bool false, .bool true, .int .i64 8, .int .i64 d, .int .i64 s, .int .i64 off, .int .i64 0] 25) = w' := by
  go_enter Tryz.func51, Tryz.ntmps51
  go_wp2_with (go_at_call 73; refine (second_24 _).mono ?_; rintro e w1 ⟨rfl, rfl⟩)
  refine bodyPost_ret (v := .tuple #[.bool true, .bool true, .bool true, .bool false]) (by simp [results, Tryz.results51, go_sem]) rfl ⟨rfl, rfl⟩

set_option maxRecDepth 100000 in
set_option maxHeartbeats 4000000 in
theorem right_stor8 (d s off : Int) (hd0 : decide (d ≥ 0) = true) (hd1 : decide (d ≤ 10) = true) (hs0 : decide (s ≥ 0) = true) (hs1 : decide (s ≤ 10) = true) (ho0 : decide (off < -32768) = false) (ho1 : decide (off ≥ 32768) = false) (w : World) : Calls Tryz.prog 39 #[.agg #[.int .i64 24, .bool false, .bool true, .int .i64 8, .int .i64 d, .int .i64 s, .int .i64 off, .int .i64 0]] w fun e w' => e = .returned (.int .i64 0) ∧ Fr (fun _ => False) w w' := by
  go_enter Tryz.func39, Tryz.ntmps39
  go_wp2_with (first | (go_at_call 50; refine (formed_stor8 _ _ _ _).mono ?_; rintro e w1 ⟨rfl, rfl⟩) | (go_at_call 51; refine (uses_stor8 _ _ _ _).mono ?_; rintro e w1 ⟨rfl, rfl⟩) | fail)
  go_region_held3 (fun w' => w'.cell? ⟨w.heap.size, 0, none⟩ = some (.int .i64 24) ∧ w'.cell? ⟨w.heap.size, 1, none⟩ = some (.bool false) ∧ w'.cell? ⟨w.heap.size, 2, none⟩ = some (.bool true) ∧ w'.cell? ⟨w.heap.size, 3, none⟩ = some (.int .i64 8) ∧ w'.cell? ⟨w.heap.size, 4, none⟩ = some (.int .i64 d) ∧ w'.cell? ⟨w.heap.size, 5, none⟩ = some (.int .i64 s) ∧ w'.cell? ⟨w.heap.size, 6, none⟩ = some (.int .i64 off) ∧ w'.cell? ⟨w.heap.size, 7, none⟩ = some (.int .i64 0)) (simp [go_sem, *]) (first | (go_at_call 53; refine (writesDst_24 _).mono ?_; rintro e w1 ⟨rfl, rfl⟩) | (go_at_call 52; refine (isReg_ok _ _ _ hd0 hd1 (.inr rfl)).mono ?_; rintro e w1 ⟨rfl, rfl⟩) | fail)
  go_wp2
  go_region_held3 (fun w' => w'.cell? ⟨w.heap.size, 0, none⟩ = some (.int .i64 24) ∧ w'.cell? ⟨w.heap.size, 1, none⟩ = some (.bool false) ∧ w'.cell? ⟨w.heap.size, 2, none⟩ = some (.bool true) ∧ w'.cell? ⟨w.heap.size, 3, none⟩ = some (.int .i64 8) ∧ w'.cell? ⟨w.heap.size, 4, none⟩ = some (.int .i64 d) ∧ w'.cell? ⟨w.heap.size, 5, none⟩ = some (.int .i64 s) ∧ w'.cell? ⟨w.heap.size, 6, none⟩ = some (.int .i64 off) ∧ w'.cell? ⟨w.heap.size, 7, none⟩ = some (.int .i64 0)) (simp [go_sem, *]) (first | (go_at_call 54; refine (writesSrc_24 _ _).mono ?_; rintro e w1 ⟨rfl, rfl⟩) | (go_at_call 52; refine (isReg_ok _ _ _ hs0 hs1 (.inr rfl)).mono ?_; rintro e w1 ⟨rfl, rfl⟩) | fail)
  go_wp2
  go_ret
  refine ⟨rfl, ?_⟩
  repeat (first | with_reducible exact Fr.refl _ _ | with_reducible refine Fr.drew ?_ | with_reducible refine Fr.drewN ?_ _ | with_reducible refine Fr.alloc ?_ _)


set_option maxRecDepth 100000 in
set_option maxHeartbeats 4000000 in
theorem formed_stoi8 (d off imm : Int) (w : World) : Calls Tryz.prog 50 #[.agg #[.int .i64 24, .bool false, .bool false, .int .i64 8, .int .i64 d, .int .i64 0, .int .i64 off, .int .i64 imm]] w fun e w' => e = .returned (.bool true) ∧ w.alloc (.cells #[.int .i64 24, .bool false, .bool false, .int .i64 8, .int .i64 d, .int .i64 0, .int .i64 off, .int .i64 imm] 25) = w' := by
  go_enter Tryz.func50, Tryz.ntmps50
  go_wp2_with (go_at_call 73; refine (second_24 _).mono ?_; rintro e w1 ⟨rfl, rfl⟩)
  go_ret
  exact ⟨rfl, rfl⟩

set_option maxRecDepth 100000 in
set_option maxHeartbeats 4000000 in
theorem uses_stoi8 (d off imm : Int) (w : World) : Calls Tryz.prog 51 #[.agg #[.int .i64 24, .bool false, .bool false, .int .i64 8, .int .i64 d, .int .i64 0, .int .i64 off, .int .i64 imm]] w fun e w' => e = .returned (.tuple #[.bool true, .bool false, .bool true, .bool true]) ∧ w.alloc (.cells #[.int .i64 24, .bool false, .bool false, .int .i64 8, .int .i64 d, .int .i64 0, .int .i64 off, .int .i64 imm] 25) = w' := by
  go_enter Tryz.func51, Tryz.ntmps51
  go_wp2_with (go_at_call 73; refine (second_24 _).mono ?_; rintro e w1 ⟨rfl, rfl⟩)
  refine bodyPost_ret (v := .tuple #[.bool true, .bool false, .bool true, .bool true]) (by simp [results, Tryz.results51, go_sem]) rfl ⟨rfl, rfl⟩

set_option maxRecDepth 100000 in
set_option maxHeartbeats 4000000 in
theorem immFits_stoi8 (d off imm : Int) (hi0 : decide (imm < -2147483648) = false) (hi1 : decide (imm > 2147483647) = false) (w : World) : Calls Tryz.prog 55 #[.agg #[.int .i64 24, .bool false, .bool false, .int .i64 8, .int .i64 d, .int .i64 0, .int .i64 off, .int .i64 imm]] w fun e w' => e = .returned (.bool true) ∧ w.alloc (.cells #[.int .i64 24, .bool false, .bool false, .int .i64 8, .int .i64 d, .int .i64 0, .int .i64 off, .int .i64 imm] 25) = w' := by
  go_enter Tryz.func55, Tryz.ntmps55
  go_wp2
  go_ret
  exact ⟨rfl, rfl⟩

set_option maxRecDepth 100000 in
set_option maxHeartbeats 4000000 in
theorem right_stoi8 (d off imm : Int) (hd0 : decide (d ≥ 0) = true) (hd1 : decide (d ≤ 10) = true) (ho0 : decide (off < -32768) = false) (ho1 : decide (off ≥ 32768) = false) (hi0 : decide (imm < -2147483648) = false) (hi1 : decide (imm > 2147483647) = false) (w : World) : Calls Tryz.prog 39 #[.agg #[.int .i64 24, .bool false, .bool false, .int .i64 8, .int .i64 d, .int .i64 0, .int .i64 off, .int .i64 imm]] w fun e w' => e = .returned (.int .i64 0) ∧ Fr (fun _ => False) w w' := by
  go_enter Tryz.func39, Tryz.ntmps39
  go_wp2_with (first | (go_at_call 50; refine (formed_stoi8 _ _ _ _).mono ?_; rintro e w1 ⟨rfl, rfl⟩) | (go_at_call 51; refine (uses_stoi8 _ _ _ _).mono ?_; rintro e w1 ⟨rfl, rfl⟩) | fail)
  go_region_held3 (fun w' => w'.cell? ⟨w.heap.size, 0, none⟩ = some (.int .i64 24) ∧ w'.cell? ⟨w.heap.size, 1, none⟩ = some (.bool false) ∧ w'.cell? ⟨w.heap.size, 2, none⟩ = some (.bool false) ∧ w'.cell? ⟨w.heap.size, 3, none⟩ = some (.int .i64 8) ∧ w'.cell? ⟨w.heap.size, 4, none⟩ = some (.int .i64 d) ∧ w'.cell? ⟨w.heap.size, 5, none⟩ = some (.int .i64 0) ∧ w'.cell? ⟨w.heap.size, 6, none⟩ = some (.int .i64 off) ∧ w'.cell? ⟨w.heap.size, 7, none⟩ = some (.int .i64 imm)) (simp [go_sem, *]) (first | (go_at_call 53; refine (writesDst_24 _).mono ?_; rintro e w1 ⟨rfl, rfl⟩) | (go_at_call 52; refine (isReg_ok _ _ _ hd0 hd1 (.inr rfl)).mono ?_; rintro e w1 ⟨rfl, rfl⟩) | fail)
  go_wp2
  go_quiet (fail)
  go_wp2_with (go_at_call 55; refine (immFits_stoi8 _ _ _ hi0 hi1 _).mono ?_; rintro e w1 ⟨rfl, rfl⟩)
  go_ret
  refine ⟨rfl, ?_⟩
  repeat (first | with_reducible exact Fr.refl _ _ | with_reducible refine Fr.drew ?_ | with_reducible refine Fr.drewN ?_ _ | with_reducible refine Fr.alloc ?_ _)


set_option maxRecDepth 100000 in
set_option maxHeartbeats 4000000 in
theorem formed_load8 (d s off : Int) (w : World) : Calls Tryz.prog 50 #[.agg #[.int .i64 22, .bool false, .bool false, .int .i64 8, .int .i64 d, .int .i64 s, .int .i64 off, .int .i64 0]] w fun e w' => e = .returned (.bool true) ∧ w.alloc (.cells #[.int .i64 22, .bool false, .bool false, .int .i64 8, .int .i64 d, .int .i64 s, .int .i64 off, .int .i64 0] 25) = w' := by
  go_enter Tryz.func50, Tryz.ntmps50
  go_wp2_with (go_at_call 73; refine (second_22 _).mono ?_; rintro e w1 ⟨rfl, rfl⟩)
  go_ret
  exact ⟨rfl, rfl⟩

set_option maxRecDepth 100000 in
set_option maxHeartbeats 4000000 in
theorem uses_load8 (d s off : Int) (w : World) : Calls Tryz.prog 51 #[.agg #[.int .i64 22, .bool false, .bool false, .int .i64 8, .int .i64 d, .int .i64 s, .int .i64 off, .int .i64 0]] w fun e w' => e = .returned (.tuple #[.bool true, .bool true, .bool true, .bool false]) ∧ w.alloc (.cells #[.int .i64 22, .bool false, .bool false, .int .i64 8, .int .i64 d, .int .i64 s, .int .i64 off, .int .i64 0] 25) = w' := by
  go_enter Tryz.func51, Tryz.ntmps51
  go_wp2_with (go_at_call 73; refine (second_22 _).mono ?_; rintro e w1 ⟨rfl, rfl⟩)
  refine bodyPost_ret (v := .tuple #[.bool true, .bool true, .bool true, .bool false]) (by simp [results, Tryz.results51, go_sem]) rfl ⟨rfl, rfl⟩

set_option maxRecDepth 100000 in
set_option maxHeartbeats 4000000 in
theorem right_load8 (d s off : Int) (hd0 : decide (d ≥ 0) = true) (hd1 : decide (d ≤ 10) = true) (hd2 : (d == 10) = false) (hs0 : decide (s ≥ 0) = true) (hs1 : decide (s ≤ 10) = true) (ho0 : decide (off < -32768) = false) (ho1 : decide (off ≥ 32768) = false) (w : World) : Calls Tryz.prog 39 #[.agg #[.int .i64 22, .bool false, .bool false, .int .i64 8, .int .i64 d, .int .i64 s, .int .i64 off, .int .i64 0]] w fun e w' => e = .returned (.int .i64 0) ∧ Fr (fun _ => False) w w' := by
  go_enter Tryz.func39, Tryz.ntmps39
  go_wp2_with (first | (go_at_call 50; refine (formed_load8 _ _ _ _).mono ?_; rintro e w1 ⟨rfl, rfl⟩) | (go_at_call 51; refine (uses_load8 _ _ _ _).mono ?_; rintro e w1 ⟨rfl, rfl⟩) | fail)
  go_region_held3 (fun w' => w'.cell? ⟨w.heap.size, 0, none⟩ = some (.int .i64 22) ∧ w'.cell? ⟨w.heap.size, 1, none⟩ = some (.bool false) ∧ w'.cell? ⟨w.heap.size, 2, none⟩ = some (.bool false) ∧ w'.cell? ⟨w.heap.size, 3, none⟩ = some (.int .i64 8) ∧ w'.cell? ⟨w.heap.size, 4, none⟩ = some (.int .i64 d) ∧ w'.cell? ⟨w.heap.size, 5, none⟩ = some (.int .i64 s) ∧ w'.cell? ⟨w.heap.size, 6, none⟩ = some (.int .i64 off) ∧ w'.cell? ⟨w.heap.size, 7, none⟩ = some (.int .i64 0)) (simp [go_sem, *]) (first | (go_at_call 53; refine (writesDst_22 _).mono ?_; rintro e w1 ⟨rfl, rfl⟩) | (go_at_call 52; refine (isReg_ok _ _ _ hd0 hd1 (.inl hd2)).mono ?_; rintro e w1 ⟨rfl, rfl⟩) | fail)
  go_wp2
  go_region_held3 (fun w' => w'.cell? ⟨w.heap.size, 0, none⟩ = some (.int .i64 22) ∧ w'.cell? ⟨w.heap.size, 1, none⟩ = some (.bool false) ∧ w'.cell? ⟨w.heap.size, 2, none⟩ = some (.bool false) ∧ w'.cell? ⟨w.heap.size, 3, none⟩ = some (.int .i64 8) ∧ w'.cell? ⟨w.heap.size, 4, none⟩ = some (.int .i64 d) ∧ w'.cell? ⟨w.heap.size, 5, none⟩ = some (.int .i64 s) ∧ w'.cell? ⟨w.heap.size, 6, none⟩ = some (.int .i64 off) ∧ w'.cell? ⟨w.heap.size, 7, none⟩ = some (.int .i64 0)) (simp [go_sem, *]) (first | (go_at_call 54; refine (writesSrc_22 _ _).mono ?_; rintro e w1 ⟨rfl, rfl⟩) | (go_at_call 52; refine (isReg_ok _ _ _ hs0 hs1 (.inr rfl)).mono ?_; rintro e w1 ⟨rfl, rfl⟩) | fail)
  go_wp2
  go_ret
  refine ⟨rfl, ?_⟩
  repeat (first | with_reducible exact Fr.refl _ _ | with_reducible refine Fr.drew ?_ | with_reducible refine Fr.drewN ?_ _ | with_reducible refine Fr.alloc ?_ _)


end Go.Proofs.YtkhbjhmhdlmmfaaGreat
