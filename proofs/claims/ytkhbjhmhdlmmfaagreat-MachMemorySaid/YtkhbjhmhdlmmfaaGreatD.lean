/- Walks: sum of pointers, and the rest of arithmetic. -/
import Derived.Test.YtkhbjhmhdlmmfaaGreatC
namespace Go.Proofs.YtkhbjhmhdlmmfaaGreat
open Go.RowKit

set_option maxHeartbeats 1000000 in
theorem sum_add (k t r x n : Int) (w : World) (h2 : 2 ≤ k) (h1 : -2097152 ≤ n) (h3 : n ≤ 2097152) (h4 : -1048576 ≤ x + n) (h5 : x + n ≤ 1048576) :
    Calls Tryz.prog 59 #[.int .i64 1, .agg #[.int .i64 k, .int .i64 t, .int .i64 r, .int .i64 x], .agg #[.int .i64 1, .int .i64 0, .int .i64 0, .int .i64 n]] w fun e w' =>
      e = .returned (.tuple #[.agg #[.int .i64 k, .int .i64 t, .int .i64 r, .int .i64 (x + n)], .int .i64 0]) ∧ Fr (fun _ => False) w w' := by
  go_enter Tryz.func59, Tryz.ntmps59
  go_wp2_with (first
    | (go_at_call 62; refine (pointer_any _ _ _ _ _).mono ?_; rintro e w1 ⟨rfl, rfl⟩)
    | (go_at_call 57; refine (numeric_any _ _ _ _ _).mono ?_; rintro e w2 ⟨rfl, rfl⟩)
    | (go_at_call 79; refine (moved_ok _ _ _ _ _ _ h1 h3 h4 h5).mono ?_; rintro e w3 ⟨rfl, rfl⟩))
  refine bodyPost_ret (v := .tuple #[.agg #[.int .i64 k, .int .i64 t, .int .i64 r, .int .i64 (x + n)], .int .i64 0]) (by simp [results, Tryz.results59, go_sem]) rfl ⟨rfl, ?_⟩
  repeat (first | with_reducible exact Fr.refl _ _ | with_reducible refine Fr.drew ?_ | with_reducible refine Fr.alloc ?_ _)

set_option maxHeartbeats 1000000 in
theorem sum_sub (k t r x t' r' x' : Int) (w : World) (h2 : 2 ≤ k) (h3 : k ≤ 4) (h4 : -1048576 ≤ x) (h5 : x ≤ 1048576) (h6 : -1048576 ≤ x') (h7 : x' ≤ 1048576) :
    Calls Tryz.prog 59 #[.int .i64 2, .agg #[.int .i64 k, .int .i64 t, .int .i64 r, .int .i64 x], .agg #[.int .i64 k, .int .i64 t', .int .i64 r', .int .i64 x']] w fun e w' =>
      e = .returned (.tuple #[.agg #[.int .i64 1, .int .i64 0, .int .i64 0, .int .i64 (x - x')], .int .i64 0]) ∧ Fr (fun _ => False) w w' := by
  have hk : (k == 1) = false := by rw [beq_eq_false_iff_ne]; omega
  go_enter Tryz.func59, Tryz.ntmps59
  go_wp2_with (first
    | (go_at_call 62; refine (pointer_any _ _ _ _ _).mono ?_; rintro e w1 ⟨rfl, rfl⟩)
    | (go_at_call 57; refine (numeric_any _ _ _ _ _).mono ?_; rintro e w2 ⟨rfl, rfl⟩)
    | (go_at_call 69; refine (alike_yes _ _ _ _ _ _ _ _ h2 h3).mono ?_; rintro e w2 ⟨rfl, rfl⟩)
    | (go_at_call 30; refine (number_any _ _).mono ?_; rintro e w2 ⟨rfl, rfl⟩))
  refine bodyPost_ret (v := .tuple #[.agg #[.int .i64 1, .int .i64 0, .int .i64 0, .int .i64 (x - x')], .int .i64 0]) (by simp [results, Tryz.results59, go_sem]) rfl ⟨rfl, ?_⟩
  repeat (first | with_reducible exact Fr.refl _ _ | with_reducible refine Fr.drew ?_ | with_reducible refine Fr.alloc ?_ _)

set_option maxHeartbeats 1000000 in
theorem arith_mov_imm (b : Nat) (L : Lay) (m : Mac) (w : World) (hR : RepF w b (mcell L m)) (d : Nat) (hd : (d : Int) < 11) (sz src off imm : Int) :
    Calls Tryz.prog 40 #[.pointer (some ⟨b, 0, none⟩), .agg #[.int .i64 15, .bool false, .bool false, .int .i64 sz, .int .i64 d, .int .i64 src, .int .i64 off, .int .i64 imm]] w fun e w' =>
      e = .returned (.tuple #[.int .i64 0, .int .i64 0]) ∧ RepF w' b (mcell L (m.setReg d (.num imm))) ∧ Fr (· = b) w w' := by
  have H := Lib.hid hR
  have hb := hR.lt
  have hf := hR.frozen
  obtain ⟨h0, h1, h2, h3⟩ := hR.reg d (by omega)
  have hb1 : b < w.heap.size + 1 := by omega
  have hb2 : b < w.heap.size + 1 + 1 := by omega
  have hb3 : b < w.heap.size + 1 + 1 + 1 := by omega
  have hb4 : b < w.heap.size + 1 + 1 + 1 + 1 := by omega
  have hb5 : b < w.heap.size + 1 + 1 + 1 + 1 + 1 := by omega
  have hb6 : b < w.heap.size + 1 + 1 + 1 + 1 + 1 + 1 := by omega
  have hb7 : b < w.heap.size + 1 + 1 + 1 + 1 + 1 + 1 + 1 := by omega
  have hb8 : b < w.heap.size + 1 + 1 + 1 + 1 + 1 + 1 + 1 + 1 := by omega
  have hs1 := H.out.setReg d (by omega) (.num imm)
  have HS := Lib.hid hs1
  clear hR hs1
  go_enter Tryz.func40, Tryz.ntmps40
  go_wp2_with fail
  go_region_held3 (fun w' => w'.cell? ⟨b, 423 + d * 4, none⟩ = some (.int .i64 (m.reg d).k) ∧ w'.cell? ⟨b, 423 + d * 4 + 1, none⟩ = some (.int .i64 (m.reg d).t) ∧ w'.cell? ⟨b, 423 + d * 4 + 2, none⟩ = some (.int .i64 (m.reg d).r) ∧ w'.cell? ⟨b, 423 + d * 4 + 3, none⟩ = some (.int .i64 (m.reg d).x) ∧ w'.cell? ⟨w.heap.size, 0, none⟩ = some (.int .i64 15) ∧ w'.cell? ⟨w.heap.size, 1, none⟩ = some (.bool false) ∧ w'.cell? ⟨w.heap.size, 2, none⟩ = some (.bool false) ∧ w'.cell? ⟨w.heap.size, 3, none⟩ = some (.int .i64 sz) ∧ w'.cell? ⟨w.heap.size, 4, none⟩ = some (.int .i64 d) ∧ w'.cell? ⟨w.heap.size, 5, none⟩ = some (.int .i64 src) ∧ w'.cell? ⟨w.heap.size, 6, none⟩ = some (.int .i64 off) ∧ w'.cell? ⟨w.heap.size, 7, none⟩ = some (.int .i64 imm)) (simp [go_sem, *])
    (first | (go_at_call 56; refine (second_imm b _ _ _ _ _ _ _ _).mono ?_; rintro e w' ⟨rfl, rfl⟩) | fail)
  all_goals
    go_wp2_with fail
    go_region
    all_goals
      go_wp2
      refine bodyPost_ret (v := .tuple #[.int .i64 0, .int .i64 0]) (by simp [results, Tryz.results40, go_sem]) rfl ⟨rfl, ?_, ?_⟩
      · repeat (first | with_reducible refine RepF.drew ?_ | with_reducible refine RepF.alloc ?_ _)
        exact HS.out
      · repeat (first | with_reducible exact Fr.refl _ _ | with_reducible refine Fr.drew ?_ | with_reducible refine Fr.alloc ?_ _ | with_reducible refine Fr.setCell ?_ _ _ (.inl rfl))

set_option maxHeartbeats 1000000 in
theorem arith_add_imm (b : Nat) (L : Lay) (m : Mac) (w : World) (hR : RepF w b (mcell L m)) (d : Nat) (hd : (d : Int) < 11) (k t r x : Int) (hk : m.reg d = ⟨k, t, r, x⟩) (hk2 : 2 ≤ k) (sz src off imm : Int)
    (g1 : -2097152 ≤ imm) (g2 : imm ≤ 2097152) (g3 : -1048576 ≤ x + imm) (g4 : x + imm ≤ 1048576) :
    Calls Tryz.prog 40 #[.pointer (some ⟨b, 0, none⟩), .agg #[.int .i64 1, .bool false, .bool false, .int .i64 sz, .int .i64 d, .int .i64 src, .int .i64 off, .int .i64 imm]] w fun e w' =>
      e = .returned (.tuple #[.int .i64 0, .int .i64 0]) ∧ RepF w' b (mcell L (m.setReg d ⟨k, t, r, x + imm⟩)) ∧ Fr (· = b) w w' := by
  have H := Lib.hid hR
  have hb := hR.lt
  have hf := hR.frozen
  obtain ⟨h0, h1, h2, h3⟩ := hR.reg d (by omega)
  have hb1 : b < w.heap.size + 1 := by omega
  have hb2 : b < w.heap.size + 1 + 1 := by omega
  have hb3 : b < w.heap.size + 1 + 1 + 1 := by omega
  have hb4 : b < w.heap.size + 1 + 1 + 1 + 1 := by omega
  have hb5 : b < w.heap.size + 1 + 1 + 1 + 1 + 1 := by omega
  have hb6 : b < w.heap.size + 1 + 1 + 1 + 1 + 1 + 1 := by omega
  have hb7 : b < w.heap.size + 1 + 1 + 1 + 1 + 1 + 1 + 1 := by omega
  have hb8 : b < w.heap.size + 1 + 1 + 1 + 1 + 1 + 1 + 1 + 1 := by omega
  rw [hk] at h0 h1 h2 h3
  have hk1 : (k == 1) = false := by rw [beq_eq_false_iff_ne]; omega
  have hk0 : (k == 0) = false := by rw [beq_eq_false_iff_ne]; omega
  clear hR hk
  go_enter Tryz.func40, Tryz.ntmps40
  go_wp2_with fail
  go_region_held3 (fun w' => w'.cell? ⟨b, 423 + d * 4, none⟩ = some (.int .i64 k) ∧ w'.cell? ⟨b, 423 + d * 4 + 1, none⟩ = some (.int .i64 t) ∧ w'.cell? ⟨b, 423 + d * 4 + 2, none⟩ = some (.int .i64 r) ∧ w'.cell? ⟨b, 423 + d * 4 + 3, none⟩ = some (.int .i64 x) ∧ w'.cell? ⟨w.heap.size, 0, none⟩ = some (.int .i64 1) ∧ w'.cell? ⟨w.heap.size, 1, none⟩ = some (.bool false) ∧ w'.cell? ⟨w.heap.size, 2, none⟩ = some (.bool false) ∧ w'.cell? ⟨w.heap.size, 3, none⟩ = some (.int .i64 sz) ∧ w'.cell? ⟨w.heap.size, 4, none⟩ = some (.int .i64 d) ∧ w'.cell? ⟨w.heap.size, 5, none⟩ = some (.int .i64 src) ∧ w'.cell? ⟨w.heap.size, 6, none⟩ = some (.int .i64 off) ∧ w'.cell? ⟨w.heap.size, 7, none⟩ = some (.int .i64 imm)) (simp [go_sem, *])
    (first | (go_at_call 56; refine (second_imm b _ _ _ _ _ _ _ _).mono ?_; rintro e w' ⟨rfl, rfl⟩) | fail)
  all_goals
    go_wp2_with (first
      | (go_at_call 57; refine (numeric_any _ _ _ _ _).mono ?_; rintro e w1 ⟨rfl, rfl⟩)
      | (go_at_call 59; refine (sum_add _ _ _ _ _ _ hk2 g1 g2 g3 g4).mono ?_; rintro e w1 ⟨rfl, hb1⟩; (have Hb1 := Lib.hid hb1); obtain ⟨hc, hfz⟩ := fcell hb1; (have hz := hb1.size); (try simp [go_sem] at hz); (have hbz : b < w1.heap.size := by omega); (have hwz : w.heap.size < w1.heap.size := by omega); clear hb1))
  all_goals
    go_region
    all_goals
      go_wp2_with fail
      have HW := RepF.fr (b := b) (f := mcell L m) (by repeat (first | with_reducible exact H.out | with_reducible refine RepF.drew ?_ | with_reducible refine RepF.alloc ?_ _)) Hb1.out (fun h => h)
      have HS := HW.setReg d (by omega) ⟨k, t, r, x + imm⟩
      refine bodyPost_ret (v := .tuple #[.int .i64 0, .int .i64 0]) (by simp [results, Tryz.results40, go_sem]) rfl ⟨rfl, ?_, ?_⟩
      · repeat (first | with_reducible refine RepF.drew ?_ | with_reducible refine RepF.alloc ?_ _)
        exact HS
      · repeat (first | with_reducible refine Fr.drew ?_ | with_reducible refine Fr.alloc ?_ _ | with_reducible refine Fr.setCell ?_ _ _ (.inl rfl))
        refine Fr.ends ?_ Hb1.out
        repeat (first | with_reducible exact Fr.refl _ _ | with_reducible refine Fr.drew ?_ | with_reducible refine Fr.alloc ?_ _)

end Go.Proofs.YtkhbjhmhdlmmfaaGreat
