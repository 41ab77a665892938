/- Walks: the difference of two pointers. -/
import Derived.Test.YtkhbjhmhdlmmfaaGreatD
namespace Go.Proofs.YtkhbjhmhdlmmfaaGreat
open Go.RowKit

set_option maxHeartbeats 1000000 in
theorem arith_sub_reg (b : Nat) (L : Lay) (m : Mac) (w : World) (hR : RepF w b (mcell L m)) (d s : Nat) (hd : (d : Int) < 11) (hs : (s : Int) < 11) (k t r x : Int) (t' r' x' : Int) (hk : m.reg d = ⟨k, t, r, x⟩) (hk' : m.reg s = ⟨k, t', r', x'⟩) (hk2 : 2 ≤ k) (hk4 : k ≤ 4) (sz off imm : Int)
    (g1 : -1048576 ≤ x) (g2 : x ≤ 1048576) (g3 : -1048576 ≤ x') (g4 : x' ≤ 1048576) :
    Calls Tryz.prog 40 #[.pointer (some ⟨b, 0, none⟩), .agg #[.int .i64 2, .bool false, .bool true, .int .i64 sz, .int .i64 d, .int .i64 s, .int .i64 off, .int .i64 imm]] w fun e w' =>
      e = .returned (.tuple #[.int .i64 0, .int .i64 0]) ∧ RepF w' b (mcell L (m.setReg d ⟨1, 0, 0, x - x'⟩)) ∧ Fr (· = b) w w' := by
  have H := Lib.hid hR
  have hb := hR.lt
  have hf := hR.frozen
  obtain ⟨h0, h1, h2, h3⟩ := hR.reg d (by omega)
  have hb1 : b < w.heap.size + 1 := by omega
  have hb2 : b < w.heap.size + 1 + 1 := by omega
  have hb3 : b < w.heap.size + 1 + 1 + 1 := by omega
  have hb4 : b < w.heap.size + 1 + 1 + 1 + 1 := by omega
  have hb5 : b < w.heap.size + 1 + 1 + 1 + 1 + 1 := by omega
  have hb6 : b < w.heap.size + 1 + 1 + 1 + 1 + 1 + 1 := by omega
  have hb7 : b < w.heap.size + 1 + 1 + 1 + 1 + 1 + 1 + 1 := by omega
  have hb8 : b < w.heap.size + 1 + 1 + 1 + 1 + 1 + 1 + 1 + 1 := by omega
  rw [hk] at h0 h1 h2 h3
  have hk1 : (k == 1) = false := by rw [beq_eq_false_iff_ne]; omega
  have hk0 : (k == 0) = false := by rw [beq_eq_false_iff_ne]; omega
  have HK := Lib.hid hk'
  clear hR hk hk'
  go_enter Tryz.func40, Tryz.ntmps40
  go_wp2_with fail
  go_region_held3 (fun w' => w'.cell? ⟨b, 423 + d * 4, none⟩ = some (.int .i64 k) ∧ w'.cell? ⟨b, 423 + d * 4 + 1, none⟩ = some (.int .i64 t) ∧ w'.cell? ⟨b, 423 + d * 4 + 2, none⟩ = some (.int .i64 r) ∧ w'.cell? ⟨b, 423 + d * 4 + 3, none⟩ = some (.int .i64 x) ∧ w'.cell? ⟨w.heap.size, 0, none⟩ = some (.int .i64 2) ∧ w'.cell? ⟨w.heap.size, 1, none⟩ = some (.bool false) ∧ w'.cell? ⟨w.heap.size, 2, none⟩ = some (.bool true) ∧ w'.cell? ⟨w.heap.size, 3, none⟩ = some (.int .i64 sz) ∧ w'.cell? ⟨w.heap.size, 4, none⟩ = some (.int .i64 d) ∧ w'.cell? ⟨w.heap.size, 5, none⟩ = some (.int .i64 s) ∧ w'.cell? ⟨w.heap.size, 6, none⟩ = some (.int .i64 off) ∧ w'.cell? ⟨w.heap.size, 7, none⟩ = some (.int .i64 imm)) (simp [go_sem, *])
    (first | (go_at_call 56; refine (second_reg b L m _ _ _ _ _ _ s hs _ ?_).mono ?_; (repeat (first | with_reducible exact H.out | with_reducible refine RepF.drew ?_ | with_reducible refine RepF.alloc ?_ _)); rw [HK.out]; rintro e w' ⟨rfl, rfl⟩) | fail)
  all_goals
    go_wp2_with (first
      | (go_at_call 57; refine (numeric_any _ _ _ _ _).mono ?_; rintro e w1 ⟨rfl, rfl⟩)
      | (go_at_call 59; refine (sum_sub _ _ _ _ _ _ _ _ hk2 hk4 g1 g2 g3 g4).mono ?_; rintro e w1 ⟨rfl, hb1⟩; (have Hb1 := Lib.hid hb1); obtain ⟨hc, hfz⟩ := fcell hb1; (have hz := hb1.size); (try simp [go_sem] at hz); (have hbz : b < w1.heap.size := by omega); (have hwz : w.heap.size < w1.heap.size := by omega); clear hb1))
  all_goals
    go_region
    all_goals
      go_wp2_with fail
      have HW := RepF.fr (b := b) (f := mcell L m) (by repeat (first | with_reducible exact H.out | with_reducible refine RepF.drew ?_ | with_reducible refine RepF.alloc ?_ _)) Hb1.out (fun h => h)
      have HS := HW.setReg d (by omega) ⟨1, 0, 0, x - x'⟩
      refine bodyPost_ret (v := .tuple #[.int .i64 0, .int .i64 0]) (by simp [results, Tryz.results40, go_sem]) rfl ⟨rfl, ?_, ?_⟩
      · repeat (first | with_reducible refine RepF.drew ?_ | with_reducible refine RepF.alloc ?_ _)
        exact HS
      · repeat (first | with_reducible refine Fr.drew ?_ | with_reducible refine Fr.alloc ?_ _ | with_reducible refine Fr.setCell ?_ _ _ (.inl rfl))
        refine Fr.ends ?_ Hb1.out
        repeat (first | with_reducible exact Fr.refl _ _ | with_reducible refine Fr.drew ?_ | with_reducible refine Fr.alloc ?_ _)

end Go.Proofs.YtkhbjhmhdlmmfaaGreat
