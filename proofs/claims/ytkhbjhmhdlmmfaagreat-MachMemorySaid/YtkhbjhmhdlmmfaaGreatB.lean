/- Walks: constant, leave. -/
import Derived.Test.YtkhbjhmhdlmmfaaGreatA
namespace Go.Proofs.YtkhbjhmhdlmmfaaGreat
open Go.RowKit

set_option maxHeartbeats 400000 in
theorem constant_wide (b : Nat) (L : Lay) (m : Mac) (w : World) (hR : RepF w b (mcell L m)) (d : Nat) (hd : (d : Int) < 11) (nar reg : Bool) (sz src off imm : Int) :
    Calls Tryz.prog 42 #[.pointer (some ⟨b, 0, none⟩), .agg #[.int .i64 20, .bool nar, .bool reg, .int .i64 sz, .int .i64 d, .int .i64 src, .int .i64 off, .int .i64 imm]] w fun e w' =>
      e = .returned (.tuple #[.int .i64 0, .int .i64 0]) ∧ RepF w' b (mcell L (m.setReg d (.num imm))) ∧ Fr (· = b) w w' := by
  have H := Lib.hid hR
  have hb := hR.lt
  have hf := hR.frozen
  obtain ⟨h0, h1, h2, h3⟩ := hR.reg d (by omega)
  have hs := H.out.setReg d (by omega) (.num imm)
  simp only [Val.num] at hs
  have Hs := Lib.hid hs
  clear hR hs
  go_enter Tryz.func42, Tryz.ntmps42
  go_wp2_with fail
  go_region_with (go_at_call 30; refine (number_any _ _).mono ?_; rintro e w' ⟨rfl, rfl⟩)
  go_wp2
  all_goals
    refine bodyPost_ret (v := .tuple #[.int .i64 0, .int .i64 0]) (by simp [results, Tryz.results42, go_sem]) rfl ⟨rfl, ?_, ?_⟩
    · repeat (first | with_reducible refine RepF.drew ?_ | with_reducible refine RepF.alloc ?_ _)
      exact Hs.out
    · repeat (first | with_reducible exact Fr.refl _ _ | with_reducible refine Fr.drew ?_ | with_reducible refine Fr.alloc ?_ _ | with_reducible refine Fr.setCell ?_ _ _ (.inl rfl))

theorem upd_done (L : Lay) (m : Mac) (x : Bool) : ∀ i, i < 471 → upd (mcell L m) 470 (.bool x) i = mcell L { m with done := x } i := by
  intro i hi
  unfold upd
  by_cases e : i = 470
  · subst e; simp [mcell]
  · rw [if_neg e]
    unfold mcell
    by_cases h0 : i < 416
    · simp only [if_pos h0]; rfl
    · by_cases h1 : i = 416
      · simp [h1]
      · by_cases h2 : i < 420
        · simp [h0, h1, h2]
        · by_cases h3 : i < 467
          · simp [h0, h1, h2, h3]
          · have : i = 467 ∨ i = 468 ∨ i = 469 := by omega
            rcases this with rfl | rfl | rfl <;> simp

set_option maxHeartbeats 400000 in
theorem leave_num (b : Nat) (L : Lay) (m : Mac) (w : World) (hR : RepF w b (mcell L m)) (cs : Array Value) (h : (m.reg 0).k = 1) :
    Calls Tryz.prog 49 #[.pointer (some ⟨b, 0, none⟩), .agg cs] w fun e w' =>
      e = .returned (.tuple #[.int .i64 0, .int .i64 0]) ∧ RepF w' b (mcell L { m with done := true }) ∧ Fr (· = b) w w' := by
  have H := Lib.hid hR
  have hb := hR.lt
  have hf := hR.frozen
  obtain ⟨h0, h1, h2, h3⟩ := hR.reg 0 (by omega)
  have hdn := hR.cell 470 (by omega)
  have e1 : mcell L m 470 = .bool m.done := by simp [mcell]
  rw [e1] at hdn
  rw [h] at h0
  clear hR h e1
  go_enter Tryz.func49, Tryz.ntmps49
  go_wp2_with (go_at_call 57; refine (numeric_any _ _ _ _ _).mono ?_; rintro e w1 ⟨rfl, rfl⟩)
  have hq := (H.out.setCell 470 (.bool true)).congr (upd_done L m true)
  refine bodyPost_ret (v := .tuple #[.int .i64 0, .int .i64 0]) (by simp [results, Tryz.results49, go_sem]) rfl ⟨rfl, ?_, ?_⟩
  · repeat (first | with_reducible refine RepF.drew ?_ | with_reducible refine RepF.alloc ?_ _)
    exact hq
  · repeat (first | with_reducible exact Fr.refl _ _ | with_reducible refine Fr.drew ?_ | with_reducible refine Fr.alloc ?_ _ | with_reducible refine Fr.setCell ?_ _ _ (.inl rfl))

end Go.Proofs.YtkhbjhmhdlmmfaaGreat
