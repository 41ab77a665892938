/- Walks: loads of the stack. -/
import Derived.Test.YtkhbjhmhdlmmfaaGreatI
namespace Go.Proofs.YtkhbjhmhdlmmfaaGreat
open Go.RowKit

/-- no pointer is loaded whole: it is no OpLoad of an aligned slot that holds one -/
def Plain (m : Mac) (op : Int) (n a : Nat) : Prop := (op == 22) = false ∨ (op == 22) = true ∧ (((n : Int) == 8) = false ∨ ((n : Int) == 8) = true ∧ (((a : Int) % 8 == 0) = false ∨ ((a : Int) % 8 == 0) = true ∧ (m.ptr (a / 8)).k = 0))

set_option maxRecDepth 100000 in
set_option maxHeartbeats 1000000 in
theorem getm_stack (b : Nat) (L : Lay) (m : Mac) (w : World) (hR : RepF w b (mcell L m)) (t r x : Int) (a n : Nat) (h : a + n ≤ 256) (h1 : 1 ≤ n) (h8 : n ≤ 8) (sg : Bool) :
    Calls Tryz.prog 65 #[.pointer (some ⟨b, 0, none⟩), .agg #[.int .i64 2, .int .i64 t, .int .i64 r, .int .i64 x], .int .i64 a, .int .i64 n, .bool sg] w fun e w' =>
      e = .returned (.int .i64 (getF sg (fun j => m.byte (a + j)) n)) ∧
      ((w.alloc (.cells #[.int .i64 2, .int .i64 t, .int .i64 r, .int .i64 x] 64)).alloc (.cells #[.int .i64 2, .int .i64 t, .int .i64 r, .int .i64 x] 64)).alloc (.cells (rdArr n (fun j => m.byte (a + j)) n) 5) = w' := by
  have H := Lib.hid hR
  have H1 := Lib.hid h1
  have H8 := Lib.hid h8
  clear hR h1 h8
  go_enter Tryz.func65, Tryz.ntmps65
  go_wp2_with (first
    | (go_at_call 84; refine (read_stack b L m _ ?_ _ _ _ a n h).mono ?_; (repeat (first | with_reducible exact H.out | with_reducible refine RepF.drew ?_ | with_reducible refine RepF.alloc ?_ _)); rintro e w1 ⟨rfl, rfl⟩)
    | (go_at_call 11; refine (get_any _ _ _ _ _ (fun j => m.byte (a + j)) _ H1.out H8.out ?_).mono ?_; (intro j hj; simp [go_sem]; rw [rdArr_get n _ n j hj, if_pos hj]); rintro e w1 ⟨rfl, rfl⟩))
  go_ret
  exact ⟨rfl, rfl⟩

set_option maxRecDepth 100000 in
set_option maxHeartbeats 4000000 in
theorem load_stack_trap (b : Nat) (L : Lay) (m : Mac) (w : World) (hR : RepF w b (mcell L m)) (op : Int) (d s : Nat) (hs : (s : Int) < 11) (nar reg : Bool) (off imm : Int)
    (t r x : Int) (hk : m.reg s = ⟨2, t, r, x⟩) (a n : Nat) (hxo : x + off = (a : Int)) (g1 : a + n ≤ 256) (g3 : ((n : Int) == 0) = false) (hC : Plain m op n a) (hE : (rdE m a n != 0) = true) :
    Calls Tryz.prog 43 #[.pointer (some ⟨b, 0, none⟩), .agg #[.int .i64 op, .bool nar, .bool reg, .int .i64 n, .int .i64 d, .int .i64 s, .int .i64 off, .int .i64 imm]] w fun e w' =>
      e = .returned (.tuple #[.int .i64 0, .int .i64 (rdE m a n)]) ∧ Fr (fun _ => False) w w' := by
  have H := Lib.hid hR
  have hb := hR.lt
  obtain ⟨h0, h1, h2, h3⟩ := hR.reg s (by omega)
  rw [hk] at h0 h1 h2 h3
  have hn1 : n ≠ 0 := by rintro rfl; simp at g3
  have HP := Lib.hid (hR.ptrAt (a / 8) (by omega))
  have ga : (a : Int) ≤ 256 := by omega
  have g5' : decide ((a : Int) + (n : Int) ≤ 256) = true := by simp; omega
  have G1 := Lib.hid g1
  have hE0 : (rdE m a n == 0) = false := by simpa using hE
  have hb1 : b < w.heap.size + 1 := by omega
  have hb2 : b < w.heap.size + 1 + 1 := by omega
  have hb3 : b < w.heap.size + 1 + 1 + 1 := by omega
  have hb4 : b < w.heap.size + 1 + 1 + 1 + 1 := by omega
  have hb5 : b < w.heap.size + 1 + 1 + 1 + 1 + 1 := by omega
  have hb6 : b < w.heap.size + 1 + 1 + 1 + 1 + 1 + 1 := by omega
  have hb7 : b < w.heap.size + 1 + 1 + 1 + 1 + 1 + 1 + 1 := by omega
  have hb8 : b < w.heap.size + 1 + 1 + 1 + 1 + 1 + 1 + 1 + 1 := by omega
  have hb9 : b < w.heap.size + 1 + 1 + 1 + 1 + 1 + 1 + 1 + 1 + 1 := by omega
  have hb10 : b < w.heap.size + 1 + 1 + 1 + 1 + 1 + 1 + 1 + 1 + 1 + 1 := by omega
  have gm : 1 ≤ n := by omega
  have Gm := Lib.hid gm
  clear hR hk g1 hn1 gm
  unfold Plain at hC
  rcases hC with c1 | ⟨c1, c2 | ⟨c2, c3 | ⟨c3, c4⟩⟩⟩
  · go_enter Tryz.func43, Tryz.ntmps43
    go_wp2_with fail
    go_region
    go_wp2_with (go_at_call 62; refine (pointer_any _ _ _ _ _).mono ?_; rintro e w1 ⟨rfl, rfl⟩)
    go_region_held3 (fun w' => w'.cell? ⟨w.heap.size + 1, 0, none⟩ = some (.int .i64 2) ∧ w'.cell? ⟨w.heap.size + 1, 1, none⟩ = some (.int .i64 t) ∧ w'.cell? ⟨w.heap.size + 1, 2, none⟩ = some (.int .i64 r) ∧ w'.cell? ⟨w.heap.size + 1, 3, none⟩ = some (.int .i64 x) ∧ w'.cell? ⟨w.heap.size, 0, none⟩ = some (.int .i64 op) ∧ w'.cell? ⟨w.heap.size, 1, none⟩ = some (.bool nar) ∧ w'.cell? ⟨w.heap.size, 2, none⟩ = some (.bool reg) ∧ w'.cell? ⟨w.heap.size, 3, none⟩ = some (.int .i64 n) ∧ w'.cell? ⟨w.heap.size, 4, none⟩ = some (.int .i64 d) ∧ w'.cell? ⟨w.heap.size, 5, none⟩ = some (.int .i64 s) ∧ w'.cell? ⟨w.heap.size, 6, none⟩ = some (.int .i64 off) ∧ w'.cell? ⟨w.heap.size, 7, none⟩ = some (.int .i64 imm)) (simp [go_sem, *])
      (first | (go_at_call 63; refine (within_stack _ _ _ _ _ _ _ (by omega) (by omega) (by omega) (by have := G1.out; omega)).mono ?_; rintro e w1 ⟨rfl, rfl⟩) | fail)
    go_wp2_with (go_at_call 62; refine (pointer_any _ _ _ _ _).mono ?_; rintro e w1 ⟨rfl, rfl⟩)
    go_region_held3 (fun w' => w'.cell? ⟨w.heap.size + 1, 0, none⟩ = some (.int .i64 2) ∧ w'.cell? ⟨w.heap.size + 1, 1, none⟩ = some (.int .i64 t) ∧ w'.cell? ⟨w.heap.size + 1, 2, none⟩ = some (.int .i64 r) ∧ w'.cell? ⟨w.heap.size + 1, 3, none⟩ = some (.int .i64 x) ∧ w'.cell? ⟨w.heap.size, 0, none⟩ = some (.int .i64 op) ∧ w'.cell? ⟨w.heap.size, 1, none⟩ = some (.bool nar) ∧ w'.cell? ⟨w.heap.size, 2, none⟩ = some (.bool reg) ∧ w'.cell? ⟨w.heap.size, 3, none⟩ = some (.int .i64 n) ∧ w'.cell? ⟨w.heap.size, 4, none⟩ = some (.int .i64 d) ∧ w'.cell? ⟨w.heap.size, 5, none⟩ = some (.int .i64 s) ∧ w'.cell? ⟨w.heap.size, 6, none⟩ = some (.int .i64 off) ∧ w'.cell? ⟨w.heap.size, 7, none⟩ = some (.int .i64 imm)) (simp [go_sem, *])
      (first | (go_at_call 64; refine (readable_stack b L m _ ?_ _ _ _ a n G1.out g3).mono ?_; (repeat (first | with_reducible exact H.out | with_reducible refine RepF.drew ?_ | with_reducible refine RepF.alloc ?_ _)); rintro e w1 ⟨rfl, rfl⟩) | fail)
    go_wp2
    refine bodyPost_ret (v := .tuple #[.int .i64 0, .int .i64 (rdE m a n)]) (by simp [results, Tryz.results43, go_sem]) rfl ⟨rfl, ?_⟩
    repeat (first | with_reducible exact Fr.refl _ _ | with_reducible refine Fr.drew ?_ | with_reducible refine Fr.alloc ?_ _)
  · go_enter Tryz.func43, Tryz.ntmps43
    go_wp2_with fail
    go_region
    go_wp2_with (go_at_call 62; refine (pointer_any _ _ _ _ _).mono ?_; rintro e w1 ⟨rfl, rfl⟩)
    go_region_held3 (fun w' => w'.cell? ⟨w.heap.size + 1, 0, none⟩ = some (.int .i64 2) ∧ w'.cell? ⟨w.heap.size + 1, 1, none⟩ = some (.int .i64 t) ∧ w'.cell? ⟨w.heap.size + 1, 2, none⟩ = some (.int .i64 r) ∧ w'.cell? ⟨w.heap.size + 1, 3, none⟩ = some (.int .i64 x) ∧ w'.cell? ⟨w.heap.size, 0, none⟩ = some (.int .i64 op) ∧ w'.cell? ⟨w.heap.size, 1, none⟩ = some (.bool nar) ∧ w'.cell? ⟨w.heap.size, 2, none⟩ = some (.bool reg) ∧ w'.cell? ⟨w.heap.size, 3, none⟩ = some (.int .i64 n) ∧ w'.cell? ⟨w.heap.size, 4, none⟩ = some (.int .i64 d) ∧ w'.cell? ⟨w.heap.size, 5, none⟩ = some (.int .i64 s) ∧ w'.cell? ⟨w.heap.size, 6, none⟩ = some (.int .i64 off) ∧ w'.cell? ⟨w.heap.size, 7, none⟩ = some (.int .i64 imm)) (simp [go_sem, *])
      (first | (go_at_call 63; refine (within_stack _ _ _ _ _ _ _ (by omega) (by omega) (by omega) (by have := G1.out; omega)).mono ?_; rintro e w1 ⟨rfl, rfl⟩) | fail)
    go_wp2_with (go_at_call 62; refine (pointer_any _ _ _ _ _).mono ?_; rintro e w1 ⟨rfl, rfl⟩)
    go_region_held3 (fun w' => w'.cell? ⟨w.heap.size + 1, 0, none⟩ = some (.int .i64 2) ∧ w'.cell? ⟨w.heap.size + 1, 1, none⟩ = some (.int .i64 t) ∧ w'.cell? ⟨w.heap.size + 1, 2, none⟩ = some (.int .i64 r) ∧ w'.cell? ⟨w.heap.size + 1, 3, none⟩ = some (.int .i64 x) ∧ w'.cell? ⟨w.heap.size, 0, none⟩ = some (.int .i64 op) ∧ w'.cell? ⟨w.heap.size, 1, none⟩ = some (.bool nar) ∧ w'.cell? ⟨w.heap.size, 2, none⟩ = some (.bool reg) ∧ w'.cell? ⟨w.heap.size, 3, none⟩ = some (.int .i64 n) ∧ w'.cell? ⟨w.heap.size, 4, none⟩ = some (.int .i64 d) ∧ w'.cell? ⟨w.heap.size, 5, none⟩ = some (.int .i64 s) ∧ w'.cell? ⟨w.heap.size, 6, none⟩ = some (.int .i64 off) ∧ w'.cell? ⟨w.heap.size, 7, none⟩ = some (.int .i64 imm)) (simp [go_sem, *])
      (first | (go_at_call 64; refine (readable_stack b L m _ ?_ _ _ _ a n G1.out g3).mono ?_; (repeat (first | with_reducible exact H.out | with_reducible refine RepF.drew ?_ | with_reducible refine RepF.alloc ?_ _)); rintro e w1 ⟨rfl, rfl⟩) | fail)
    go_wp2
    refine bodyPost_ret (v := .tuple #[.int .i64 0, .int .i64 (rdE m a n)]) (by simp [results, Tryz.results43, go_sem]) rfl ⟨rfl, ?_⟩
    repeat (first | with_reducible exact Fr.refl _ _ | with_reducible refine Fr.drew ?_ | with_reducible refine Fr.alloc ?_ _)
  · go_enter Tryz.func43, Tryz.ntmps43
    go_wp2_with fail
    go_region
    go_wp2_with (go_at_call 62; refine (pointer_any _ _ _ _ _).mono ?_; rintro e w1 ⟨rfl, rfl⟩)
    go_region_held3 (fun w' => w'.cell? ⟨w.heap.size + 1, 0, none⟩ = some (.int .i64 2) ∧ w'.cell? ⟨w.heap.size + 1, 1, none⟩ = some (.int .i64 t) ∧ w'.cell? ⟨w.heap.size + 1, 2, none⟩ = some (.int .i64 r) ∧ w'.cell? ⟨w.heap.size + 1, 3, none⟩ = some (.int .i64 x) ∧ w'.cell? ⟨w.heap.size, 0, none⟩ = some (.int .i64 op) ∧ w'.cell? ⟨w.heap.size, 1, none⟩ = some (.bool nar) ∧ w'.cell? ⟨w.heap.size, 2, none⟩ = some (.bool reg) ∧ w'.cell? ⟨w.heap.size, 3, none⟩ = some (.int .i64 n) ∧ w'.cell? ⟨w.heap.size, 4, none⟩ = some (.int .i64 d) ∧ w'.cell? ⟨w.heap.size, 5, none⟩ = some (.int .i64 s) ∧ w'.cell? ⟨w.heap.size, 6, none⟩ = some (.int .i64 off) ∧ w'.cell? ⟨w.heap.size, 7, none⟩ = some (.int .i64 imm)) (simp [go_sem, *])
      (first | (go_at_call 63; refine (within_stack _ _ _ _ _ _ _ (by omega) (by omega) (by omega) (by have := G1.out; omega)).mono ?_; rintro e w1 ⟨rfl, rfl⟩) | fail)
    go_wp2_with (go_at_call 62; refine (pointer_any _ _ _ _ _).mono ?_; rintro e w1 ⟨rfl, rfl⟩)
    go_region_held3 (fun w' => w'.cell? ⟨w.heap.size + 1, 0, none⟩ = some (.int .i64 2) ∧ w'.cell? ⟨w.heap.size + 1, 1, none⟩ = some (.int .i64 t) ∧ w'.cell? ⟨w.heap.size + 1, 2, none⟩ = some (.int .i64 r) ∧ w'.cell? ⟨w.heap.size + 1, 3, none⟩ = some (.int .i64 x) ∧ w'.cell? ⟨w.heap.size, 0, none⟩ = some (.int .i64 op) ∧ w'.cell? ⟨w.heap.size, 1, none⟩ = some (.bool nar) ∧ w'.cell? ⟨w.heap.size, 2, none⟩ = some (.bool reg) ∧ w'.cell? ⟨w.heap.size, 3, none⟩ = some (.int .i64 n) ∧ w'.cell? ⟨w.heap.size, 4, none⟩ = some (.int .i64 d) ∧ w'.cell? ⟨w.heap.size, 5, none⟩ = some (.int .i64 s) ∧ w'.cell? ⟨w.heap.size, 6, none⟩ = some (.int .i64 off) ∧ w'.cell? ⟨w.heap.size, 7, none⟩ = some (.int .i64 imm)) (simp [go_sem, *])
      (first | (go_at_call 64; refine (readable_stack b L m _ ?_ _ _ _ a n G1.out g3).mono ?_; (repeat (first | with_reducible exact H.out | with_reducible refine RepF.drew ?_ | with_reducible refine RepF.alloc ?_ _)); rintro e w1 ⟨rfl, rfl⟩) | fail)
    go_wp2
    refine bodyPost_ret (v := .tuple #[.int .i64 0, .int .i64 (rdE m a n)]) (by simp [results, Tryz.results43, go_sem]) rfl ⟨rfl, ?_⟩
    repeat (first | with_reducible exact Fr.refl _ _ | with_reducible refine Fr.drew ?_ | with_reducible refine Fr.alloc ?_ _)
  · obtain ⟨p0, p1, p2, p3⟩ := HP.out
    rw [c4] at p0
    have gq : (a : Int) / 8 < 32 := by have h5 := G1.out; have h6 := Gm.out; omega
    go_enter Tryz.func43, Tryz.ntmps43
    go_wp2_with fail
    go_region
    go_wp2_with (go_at_call 62; refine (pointer_any _ _ _ _ _).mono ?_; rintro e w1 ⟨rfl, rfl⟩)
    go_region_held3 (fun w' => w'.cell? ⟨w.heap.size + 1, 0, none⟩ = some (.int .i64 2) ∧ w'.cell? ⟨w.heap.size + 1, 1, none⟩ = some (.int .i64 t) ∧ w'.cell? ⟨w.heap.size + 1, 2, none⟩ = some (.int .i64 r) ∧ w'.cell? ⟨w.heap.size + 1, 3, none⟩ = some (.int .i64 x) ∧ w'.cell? ⟨w.heap.size, 0, none⟩ = some (.int .i64 op) ∧ w'.cell? ⟨w.heap.size, 1, none⟩ = some (.bool nar) ∧ w'.cell? ⟨w.heap.size, 2, none⟩ = some (.bool reg) ∧ w'.cell? ⟨w.heap.size, 3, none⟩ = some (.int .i64 n) ∧ w'.cell? ⟨w.heap.size, 4, none⟩ = some (.int .i64 d) ∧ w'.cell? ⟨w.heap.size, 5, none⟩ = some (.int .i64 s) ∧ w'.cell? ⟨w.heap.size, 6, none⟩ = some (.int .i64 off) ∧ w'.cell? ⟨w.heap.size, 7, none⟩ = some (.int .i64 imm)) (simp [go_sem, *])
      (first | (go_at_call 63; refine (within_stack _ _ _ _ _ _ _ (by omega) (by omega) (by omega) (by have := G1.out; omega)).mono ?_; rintro e w1 ⟨rfl, rfl⟩) | fail)
    go_wp2_with (go_at_call 62; refine (pointer_any _ _ _ _ _).mono ?_; rintro e w1 ⟨rfl, rfl⟩)
    go_region_held3 (fun w' => w'.cell? ⟨w.heap.size + 1, 0, none⟩ = some (.int .i64 2) ∧ w'.cell? ⟨w.heap.size + 1, 1, none⟩ = some (.int .i64 t) ∧ w'.cell? ⟨w.heap.size + 1, 2, none⟩ = some (.int .i64 r) ∧ w'.cell? ⟨w.heap.size + 1, 3, none⟩ = some (.int .i64 x) ∧ w'.cell? ⟨w.heap.size, 0, none⟩ = some (.int .i64 op) ∧ w'.cell? ⟨w.heap.size, 1, none⟩ = some (.bool nar) ∧ w'.cell? ⟨w.heap.size, 2, none⟩ = some (.bool reg) ∧ w'.cell? ⟨w.heap.size, 3, none⟩ = some (.int .i64 n) ∧ w'.cell? ⟨w.heap.size, 4, none⟩ = some (.int .i64 d) ∧ w'.cell? ⟨w.heap.size, 5, none⟩ = some (.int .i64 s) ∧ w'.cell? ⟨w.heap.size, 6, none⟩ = some (.int .i64 off) ∧ w'.cell? ⟨w.heap.size, 7, none⟩ = some (.int .i64 imm)) (simp [go_sem, *])
      (first | (go_at_call 64; refine (readable_stack b L m _ ?_ _ _ _ a n G1.out g3).mono ?_; (repeat (first | with_reducible exact H.out | with_reducible refine RepF.drew ?_ | with_reducible refine RepF.alloc ?_ _)); rintro e w1 ⟨rfl, rfl⟩) | fail)
    go_wp2
    refine bodyPost_ret (v := .tuple #[.int .i64 0, .int .i64 (rdE m a n)]) (by simp [results, Tryz.results43, go_sem]) rfl ⟨rfl, ?_⟩
    repeat (first | with_reducible exact Fr.refl _ _ | with_reducible refine Fr.drew ?_ | with_reducible refine Fr.alloc ?_ _)

set_option maxRecDepth 100000 in
set_option maxHeartbeats 8000000 in
theorem load_stack_ok (b : Nat) (L : Lay) (m : Mac) (w : World) (hR : RepF w b (mcell L m)) (op : Int) (d s : Nat) (hd : (d : Int) < 11) (hs : (s : Int) < 11) (nar reg : Bool) (off imm : Int)
    (t r x : Int) (hk : m.reg s = ⟨2, t, r, x⟩) (a n : Nat) (hxo : x + off = (a : Int)) (g2 : a + n ≤ 256) (g1 : 1 ≤ n) (g8 : n ≤ 8) (hC : Plain m op n a) (hE : rdE m a n = 0) :
    Calls Tryz.prog 43 #[.pointer (some ⟨b, 0, none⟩), .agg #[.int .i64 op, .bool nar, .bool reg, .int .i64 n, .int .i64 d, .int .i64 s, .int .i64 off, .int .i64 imm]] w fun e w' =>
      e = .returned (.tuple #[.int .i64 0, .int .i64 0]) ∧ RepF w' b (mcell L (m.setReg d (.num (getF (op == 23) (fun j => m.byte (a + j)) n)))) ∧ Fr (· = b) w w' := by
  have H := Lib.hid hR
  have hb := hR.lt
  have hf := hR.frozen
  have g3 : ((n : Int) == 0) = false := by rw [beq_eq_false_iff_ne]; omega
  obtain ⟨h0, h1, h2, h3⟩ := hR.reg s (by omega)
  rw [hk] at h0 h1 h2 h3
  obtain ⟨q0, q1, q2, q3⟩ := hR.reg d (by omega)
  have HP := Lib.hid (hR.ptrAt (a / 8) (by omega))
  have ga : (a : Int) ≤ 256 := by omega
  have g5' : decide ((a : Int) + (n : Int) ≤ 256) = true := by simp; omega
  have G1 := Lib.hid g2
  have HS := Lib.hid (hR.setReg d (by omega) (.num (getF (op == 23) (fun j => m.byte (a + j)) n)))
  have Gm := Lib.hid g1
  have hb1 : b < w.heap.size + 1 := by omega
  have hb2 : b < w.heap.size + 1 + 1 := by omega
  have hb3 : b < w.heap.size + 1 + 1 + 1 := by omega
  have hb4 : b < w.heap.size + 1 + 1 + 1 + 1 := by omega
  have hb5 : b < w.heap.size + 1 + 1 + 1 + 1 + 1 := by omega
  have hb6 : b < w.heap.size + 1 + 1 + 1 + 1 + 1 + 1 := by omega
  have hb7 : b < w.heap.size + 1 + 1 + 1 + 1 + 1 + 1 + 1 := by omega
  have hb8 : b < w.heap.size + 1 + 1 + 1 + 1 + 1 + 1 + 1 + 1 := by omega
  have hb9 : b < w.heap.size + 1 + 1 + 1 + 1 + 1 + 1 + 1 + 1 + 1 := by omega
  have hb10 : b < w.heap.size + 1 + 1 + 1 + 1 + 1 + 1 + 1 + 1 + 1 + 1 := by omega
  clear hR hk g2
  unfold Plain at hC
  rcases hC with c1 | ⟨c1, c2 | ⟨c2, c3 | ⟨c3, c4⟩⟩⟩
  · go_enter Tryz.func43, Tryz.ntmps43
    go_wp2_with fail
    go_region
    go_wp2_with (go_at_call 62; refine (pointer_any _ _ _ _ _).mono ?_; rintro e w1 ⟨rfl, rfl⟩)
    go_region_held3 (fun w' => w'.cell? ⟨w.heap.size + 1, 0, none⟩ = some (.int .i64 2) ∧ w'.cell? ⟨w.heap.size + 1, 1, none⟩ = some (.int .i64 t) ∧ w'.cell? ⟨w.heap.size + 1, 2, none⟩ = some (.int .i64 r) ∧ w'.cell? ⟨w.heap.size + 1, 3, none⟩ = some (.int .i64 x) ∧ w'.cell? ⟨w.heap.size, 0, none⟩ = some (.int .i64 op) ∧ w'.cell? ⟨w.heap.size, 1, none⟩ = some (.bool nar) ∧ w'.cell? ⟨w.heap.size, 2, none⟩ = some (.bool reg) ∧ w'.cell? ⟨w.heap.size, 3, none⟩ = some (.int .i64 n) ∧ w'.cell? ⟨w.heap.size, 4, none⟩ = some (.int .i64 d) ∧ w'.cell? ⟨w.heap.size, 5, none⟩ = some (.int .i64 s) ∧ w'.cell? ⟨w.heap.size, 6, none⟩ = some (.int .i64 off) ∧ w'.cell? ⟨w.heap.size, 7, none⟩ = some (.int .i64 imm)) (simp [go_sem, *])
      (first | (go_at_call 63; refine (within_stack _ _ _ _ _ _ _ (by omega) (by omega) (by omega) (by have := G1.out; omega)).mono ?_; rintro e w1 ⟨rfl, rfl⟩) | fail)
    go_wp2_with (go_at_call 62; refine (pointer_any _ _ _ _ _).mono ?_; rintro e w1 ⟨rfl, rfl⟩)
    go_region_held3 (fun w' => w'.cell? ⟨w.heap.size + 1, 0, none⟩ = some (.int .i64 2) ∧ w'.cell? ⟨w.heap.size + 1, 1, none⟩ = some (.int .i64 t) ∧ w'.cell? ⟨w.heap.size + 1, 2, none⟩ = some (.int .i64 r) ∧ w'.cell? ⟨w.heap.size + 1, 3, none⟩ = some (.int .i64 x) ∧ w'.cell? ⟨w.heap.size, 0, none⟩ = some (.int .i64 op) ∧ w'.cell? ⟨w.heap.size, 1, none⟩ = some (.bool nar) ∧ w'.cell? ⟨w.heap.size, 2, none⟩ = some (.bool reg) ∧ w'.cell? ⟨w.heap.size, 3, none⟩ = some (.int .i64 n) ∧ w'.cell? ⟨w.heap.size, 4, none⟩ = some (.int .i64 d) ∧ w'.cell? ⟨w.heap.size, 5, none⟩ = some (.int .i64 s) ∧ w'.cell? ⟨w.heap.size, 6, none⟩ = some (.int .i64 off) ∧ w'.cell? ⟨w.heap.size, 7, none⟩ = some (.int .i64 imm)) (simp [go_sem, *])
      (first | (go_at_call 64; refine (readable_stack b L m _ ?_ _ _ _ a n G1.out g3).mono ?_; (repeat (first | with_reducible exact H.out | with_reducible refine RepF.drew ?_ | with_reducible refine RepF.alloc ?_ _)); rintro e w1 ⟨rfl, rfl⟩) | fail)
    go_wp2_with fail
    go_region_held3 (fun w' => w'.cell? ⟨w.heap.size + 1, 0, none⟩ = some (.int .i64 2) ∧ w'.cell? ⟨w.heap.size + 1, 1, none⟩ = some (.int .i64 t) ∧ w'.cell? ⟨w.heap.size + 1, 2, none⟩ = some (.int .i64 r) ∧ w'.cell? ⟨w.heap.size + 1, 3, none⟩ = some (.int .i64 x) ∧ w'.cell? ⟨w.heap.size, 0, none⟩ = some (.int .i64 op) ∧ w'.cell? ⟨w.heap.size, 1, none⟩ = some (.bool nar) ∧ w'.cell? ⟨w.heap.size, 2, none⟩ = some (.bool reg) ∧ w'.cell? ⟨w.heap.size, 3, none⟩ = some (.int .i64 n) ∧ w'.cell? ⟨w.heap.size, 4, none⟩ = some (.int .i64 d) ∧ w'.cell? ⟨w.heap.size, 5, none⟩ = some (.int .i64 s) ∧ w'.cell? ⟨w.heap.size, 6, none⟩ = some (.int .i64 off) ∧ w'.cell? ⟨w.heap.size, 7, none⟩ = some (.int .i64 imm)) (simp [go_sem, *])
      (first
        | (go_at_call 65; refine (getm_stack b L m _ ?_ _ _ _ a n G1.out g1 g8 _).mono ?_; (repeat (first | with_reducible exact H.out | with_reducible refine RepF.drew ?_ | with_reducible refine RepF.alloc ?_ _)); rintro e w1 ⟨rfl, rfl⟩)
        | (go_at_call 30; refine (number_any _ _).mono ?_; rintro e w1 ⟨rfl, rfl⟩)
        | fail)
    all_goals
      go_wp2
      refine bodyPost_ret (v := .tuple #[.int .i64 0, .int .i64 0]) (by simp [results, Tryz.results43, go_sem]) rfl ⟨rfl, ?_, ?_⟩
      · repeat (first | with_reducible refine RepF.drew ?_ | with_reducible refine RepF.alloc ?_ _)
        exact HS.out
      · repeat (first | with_reducible exact Fr.refl _ _ | with_reducible refine Fr.drew ?_ | with_reducible refine Fr.alloc ?_ _ | with_reducible refine Fr.setCell ?_ _ _ (.inl rfl))
  · go_enter Tryz.func43, Tryz.ntmps43
    go_wp2_with fail
    go_region
    go_wp2_with (go_at_call 62; refine (pointer_any _ _ _ _ _).mono ?_; rintro e w1 ⟨rfl, rfl⟩)
    go_region_held3 (fun w' => w'.cell? ⟨w.heap.size + 1, 0, none⟩ = some (.int .i64 2) ∧ w'.cell? ⟨w.heap.size + 1, 1, none⟩ = some (.int .i64 t) ∧ w'.cell? ⟨w.heap.size + 1, 2, none⟩ = some (.int .i64 r) ∧ w'.cell? ⟨w.heap.size + 1, 3, none⟩ = some (.int .i64 x) ∧ w'.cell? ⟨w.heap.size, 0, none⟩ = some (.int .i64 op) ∧ w'.cell? ⟨w.heap.size, 1, none⟩ = some (.bool nar) ∧ w'.cell? ⟨w.heap.size, 2, none⟩ = some (.bool reg) ∧ w'.cell? ⟨w.heap.size, 3, none⟩ = some (.int .i64 n) ∧ w'.cell? ⟨w.heap.size, 4, none⟩ = some (.int .i64 d) ∧ w'.cell? ⟨w.heap.size, 5, none⟩ = some (.int .i64 s) ∧ w'.cell? ⟨w.heap.size, 6, none⟩ = some (.int .i64 off) ∧ w'.cell? ⟨w.heap.size, 7, none⟩ = some (.int .i64 imm)) (simp [go_sem, *])
      (first | (go_at_call 63; refine (within_stack _ _ _ _ _ _ _ (by omega) (by omega) (by omega) (by have := G1.out; omega)).mono ?_; rintro e w1 ⟨rfl, rfl⟩) | fail)
    go_wp2_with (go_at_call 62; refine (pointer_any _ _ _ _ _).mono ?_; rintro e w1 ⟨rfl, rfl⟩)
    go_region_held3 (fun w' => w'.cell? ⟨w.heap.size + 1, 0, none⟩ = some (.int .i64 2) ∧ w'.cell? ⟨w.heap.size + 1, 1, none⟩ = some (.int .i64 t) ∧ w'.cell? ⟨w.heap.size + 1, 2, none⟩ = some (.int .i64 r) ∧ w'.cell? ⟨w.heap.size + 1, 3, none⟩ = some (.int .i64 x) ∧ w'.cell? ⟨w.heap.size, 0, none⟩ = some (.int .i64 op) ∧ w'.cell? ⟨w.heap.size, 1, none⟩ = some (.bool nar) ∧ w'.cell? ⟨w.heap.size, 2, none⟩ = some (.bool reg) ∧ w'.cell? ⟨w.heap.size, 3, none⟩ = some (.int .i64 n) ∧ w'.cell? ⟨w.heap.size, 4, none⟩ = some (.int .i64 d) ∧ w'.cell? ⟨w.heap.size, 5, none⟩ = some (.int .i64 s) ∧ w'.cell? ⟨w.heap.size, 6, none⟩ = some (.int .i64 off) ∧ w'.cell? ⟨w.heap.size, 7, none⟩ = some (.int .i64 imm)) (simp [go_sem, *])
      (first | (go_at_call 64; refine (readable_stack b L m _ ?_ _ _ _ a n G1.out g3).mono ?_; (repeat (first | with_reducible exact H.out | with_reducible refine RepF.drew ?_ | with_reducible refine RepF.alloc ?_ _)); rintro e w1 ⟨rfl, rfl⟩) | fail)
    go_wp2_with fail
    go_region_held3 (fun w' => w'.cell? ⟨w.heap.size + 1, 0, none⟩ = some (.int .i64 2) ∧ w'.cell? ⟨w.heap.size + 1, 1, none⟩ = some (.int .i64 t) ∧ w'.cell? ⟨w.heap.size + 1, 2, none⟩ = some (.int .i64 r) ∧ w'.cell? ⟨w.heap.size + 1, 3, none⟩ = some (.int .i64 x) ∧ w'.cell? ⟨w.heap.size, 0, none⟩ = some (.int .i64 op) ∧ w'.cell? ⟨w.heap.size, 1, none⟩ = some (.bool nar) ∧ w'.cell? ⟨w.heap.size, 2, none⟩ = some (.bool reg) ∧ w'.cell? ⟨w.heap.size, 3, none⟩ = some (.int .i64 n) ∧ w'.cell? ⟨w.heap.size, 4, none⟩ = some (.int .i64 d) ∧ w'.cell? ⟨w.heap.size, 5, none⟩ = some (.int .i64 s) ∧ w'.cell? ⟨w.heap.size, 6, none⟩ = some (.int .i64 off) ∧ w'.cell? ⟨w.heap.size, 7, none⟩ = some (.int .i64 imm)) (simp [go_sem, *])
      (first
        | (go_at_call 65; refine (getm_stack b L m _ ?_ _ _ _ a n G1.out g1 g8 _).mono ?_; (repeat (first | with_reducible exact H.out | with_reducible refine RepF.drew ?_ | with_reducible refine RepF.alloc ?_ _)); rintro e w1 ⟨rfl, rfl⟩)
        | (go_at_call 30; refine (number_any _ _).mono ?_; rintro e w1 ⟨rfl, rfl⟩)
        | fail)
    all_goals
      go_wp2
      refine bodyPost_ret (v := .tuple #[.int .i64 0, .int .i64 0]) (by simp [results, Tryz.results43, go_sem]) rfl ⟨rfl, ?_, ?_⟩
      · repeat (first | with_reducible refine RepF.drew ?_ | with_reducible refine RepF.alloc ?_ _)
        exact HS.out
      · repeat (first | with_reducible exact Fr.refl _ _ | with_reducible refine Fr.drew ?_ | with_reducible refine Fr.alloc ?_ _ | with_reducible refine Fr.setCell ?_ _ _ (.inl rfl))
  · go_enter Tryz.func43, Tryz.ntmps43
    go_wp2_with fail
    go_region
    go_wp2_with (go_at_call 62; refine (pointer_any _ _ _ _ _).mono ?_; rintro e w1 ⟨rfl, rfl⟩)
    go_region_held3 (fun w' => w'.cell? ⟨w.heap.size + 1, 0, none⟩ = some (.int .i64 2) ∧ w'.cell? ⟨w.heap.size + 1, 1, none⟩ = some (.int .i64 t) ∧ w'.cell? ⟨w.heap.size + 1, 2, none⟩ = some (.int .i64 r) ∧ w'.cell? ⟨w.heap.size + 1, 3, none⟩ = some (.int .i64 x) ∧ w'.cell? ⟨w.heap.size, 0, none⟩ = some (.int .i64 op) ∧ w'.cell? ⟨w.heap.size, 1, none⟩ = some (.bool nar) ∧ w'.cell? ⟨w.heap.size, 2, none⟩ = some (.bool reg) ∧ w'.cell? ⟨w.heap.size, 3, none⟩ = some (.int .i64 n) ∧ w'.cell? ⟨w.heap.size, 4, none⟩ = some (.int .i64 d) ∧ w'.cell? ⟨w.heap.size, 5, none⟩ = some (.int .i64 s) ∧ w'.cell? ⟨w.heap.size, 6, none⟩ = some (.int .i64 off) ∧ w'.cell? ⟨w.heap.size, 7, none⟩ = some (.int .i64 imm)) (simp [go_sem, *])
      (first | (go_at_call 63; refine (within_stack _ _ _ _ _ _ _ (by omega) (by omega) (by omega) (by have := G1.out; omega)).mono ?_; rintro e w1 ⟨rfl, rfl⟩) | fail)
    go_wp2_with (go_at_call 62; refine (pointer_any _ _ _ _ _).mono ?_; rintro e w1 ⟨rfl, rfl⟩)
    go_region_held3 (fun w' => w'.cell? ⟨w.heap.size + 1, 0, none⟩ = some (.int .i64 2) ∧ w'.cell? ⟨w.heap.size + 1, 1, none⟩ = some (.int .i64 t) ∧ w'.cell? ⟨w.heap.size + 1, 2, none⟩ = some (.int .i64 r) ∧ w'.cell? ⟨w.heap.size + 1, 3, none⟩ = some (.int .i64 x) ∧ w'.cell? ⟨w.heap.size, 0, none⟩ = some (.int .i64 op) ∧ w'.cell? ⟨w.heap.size, 1, none⟩ = some (.bool nar) ∧ w'.cell? ⟨w.heap.size, 2, none⟩ = some (.bool reg) ∧ w'.cell? ⟨w.heap.size, 3, none⟩ = some (.int .i64 n) ∧ w'.cell? ⟨w.heap.size, 4, none⟩ = some (.int .i64 d) ∧ w'.cell? ⟨w.heap.size, 5, none⟩ = some (.int .i64 s) ∧ w'.cell? ⟨w.heap.size, 6, none⟩ = some (.int .i64 off) ∧ w'.cell? ⟨w.heap.size, 7, none⟩ = some (.int .i64 imm)) (simp [go_sem, *])
      (first | (go_at_call 64; refine (readable_stack b L m _ ?_ _ _ _ a n G1.out g3).mono ?_; (repeat (first | with_reducible exact H.out | with_reducible refine RepF.drew ?_ | with_reducible refine RepF.alloc ?_ _)); rintro e w1 ⟨rfl, rfl⟩) | fail)
    go_wp2_with fail
    go_region_held3 (fun w' => w'.cell? ⟨w.heap.size + 1, 0, none⟩ = some (.int .i64 2) ∧ w'.cell? ⟨w.heap.size + 1, 1, none⟩ = some (.int .i64 t) ∧ w'.cell? ⟨w.heap.size + 1, 2, none⟩ = some (.int .i64 r) ∧ w'.cell? ⟨w.heap.size + 1, 3, none⟩ = some (.int .i64 x) ∧ w'.cell? ⟨w.heap.size, 0, none⟩ = some (.int .i64 op) ∧ w'.cell? ⟨w.heap.size, 1, none⟩ = some (.bool nar) ∧ w'.cell? ⟨w.heap.size, 2, none⟩ = some (.bool reg) ∧ w'.cell? ⟨w.heap.size, 3, none⟩ = some (.int .i64 n) ∧ w'.cell? ⟨w.heap.size, 4, none⟩ = some (.int .i64 d) ∧ w'.cell? ⟨w.heap.size, 5, none⟩ = some (.int .i64 s) ∧ w'.cell? ⟨w.heap.size, 6, none⟩ = some (.int .i64 off) ∧ w'.cell? ⟨w.heap.size, 7, none⟩ = some (.int .i64 imm)) (simp [go_sem, *])
      (first
        | (go_at_call 65; refine (getm_stack b L m _ ?_ _ _ _ a n G1.out g1 g8 _).mono ?_; (repeat (first | with_reducible exact H.out | with_reducible refine RepF.drew ?_ | with_reducible refine RepF.alloc ?_ _)); rintro e w1 ⟨rfl, rfl⟩)
        | (go_at_call 30; refine (number_any _ _).mono ?_; rintro e w1 ⟨rfl, rfl⟩)
        | fail)
    all_goals
      go_wp2
      refine bodyPost_ret (v := .tuple #[.int .i64 0, .int .i64 0]) (by simp [results, Tryz.results43, go_sem]) rfl ⟨rfl, ?_, ?_⟩
      · repeat (first | with_reducible refine RepF.drew ?_ | with_reducible refine RepF.alloc ?_ _)
        exact HS.out
      · repeat (first | with_reducible exact Fr.refl _ _ | with_reducible refine Fr.drew ?_ | with_reducible refine Fr.alloc ?_ _ | with_reducible refine Fr.setCell ?_ _ _ (.inl rfl))
  · obtain ⟨p0, p1, p2, p3⟩ := HP.out
    rw [c4] at p0
    have gq : (a : Int) / 8 < 32 := by have h5 := G1.out; have h6 := Gm.out; omega
    go_enter Tryz.func43, Tryz.ntmps43
    go_wp2_with fail
    go_region
    go_wp2_with (go_at_call 62; refine (pointer_any _ _ _ _ _).mono ?_; rintro e w1 ⟨rfl, rfl⟩)
    go_region_held3 (fun w' => w'.cell? ⟨w.heap.size + 1, 0, none⟩ = some (.int .i64 2) ∧ w'.cell? ⟨w.heap.size + 1, 1, none⟩ = some (.int .i64 t) ∧ w'.cell? ⟨w.heap.size + 1, 2, none⟩ = some (.int .i64 r) ∧ w'.cell? ⟨w.heap.size + 1, 3, none⟩ = some (.int .i64 x) ∧ w'.cell? ⟨w.heap.size, 0, none⟩ = some (.int .i64 op) ∧ w'.cell? ⟨w.heap.size, 1, none⟩ = some (.bool nar) ∧ w'.cell? ⟨w.heap.size, 2, none⟩ = some (.bool reg) ∧ w'.cell? ⟨w.heap.size, 3, none⟩ = some (.int .i64 n) ∧ w'.cell? ⟨w.heap.size, 4, none⟩ = some (.int .i64 d) ∧ w'.cell? ⟨w.heap.size, 5, none⟩ = some (.int .i64 s) ∧ w'.cell? ⟨w.heap.size, 6, none⟩ = some (.int .i64 off) ∧ w'.cell? ⟨w.heap.size, 7, none⟩ = some (.int .i64 imm)) (simp [go_sem, *])
      (first | (go_at_call 63; refine (within_stack _ _ _ _ _ _ _ (by omega) (by omega) (by omega) (by have := G1.out; omega)).mono ?_; rintro e w1 ⟨rfl, rfl⟩) | fail)
    go_wp2_with (go_at_call 62; refine (pointer_any _ _ _ _ _).mono ?_; rintro e w1 ⟨rfl, rfl⟩)
    go_region_held3 (fun w' => w'.cell? ⟨w.heap.size + 1, 0, none⟩ = some (.int .i64 2) ∧ w'.cell? ⟨w.heap.size + 1, 1, none⟩ = some (.int .i64 t) ∧ w'.cell? ⟨w.heap.size + 1, 2, none⟩ = some (.int .i64 r) ∧ w'.cell? ⟨w.heap.size + 1, 3, none⟩ = some (.int .i64 x) ∧ w'.cell? ⟨w.heap.size, 0, none⟩ = some (.int .i64 op) ∧ w'.cell? ⟨w.heap.size, 1, none⟩ = some (.bool nar) ∧ w'.cell? ⟨w.heap.size, 2, none⟩ = some (.bool reg) ∧ w'.cell? ⟨w.heap.size, 3, none⟩ = some (.int .i64 n) ∧ w'.cell? ⟨w.heap.size, 4, none⟩ = some (.int .i64 d) ∧ w'.cell? ⟨w.heap.size, 5, none⟩ = some (.int .i64 s) ∧ w'.cell? ⟨w.heap.size, 6, none⟩ = some (.int .i64 off) ∧ w'.cell? ⟨w.heap.size, 7, none⟩ = some (.int .i64 imm)) (simp [go_sem, *])
      (first | (go_at_call 64; refine (readable_stack b L m _ ?_ _ _ _ a n G1.out g3).mono ?_; (repeat (first | with_reducible exact H.out | with_reducible refine RepF.drew ?_ | with_reducible refine RepF.alloc ?_ _)); rintro e w1 ⟨rfl, rfl⟩) | fail)
    go_wp2_with fail
    go_region_held3 (fun w' => w'.cell? ⟨w.heap.size + 1, 0, none⟩ = some (.int .i64 2) ∧ w'.cell? ⟨w.heap.size + 1, 1, none⟩ = some (.int .i64 t) ∧ w'.cell? ⟨w.heap.size + 1, 2, none⟩ = some (.int .i64 r) ∧ w'.cell? ⟨w.heap.size + 1, 3, none⟩ = some (.int .i64 x) ∧ w'.cell? ⟨w.heap.size, 0, none⟩ = some (.int .i64 op) ∧ w'.cell? ⟨w.heap.size, 1, none⟩ = some (.bool nar) ∧ w'.cell? ⟨w.heap.size, 2, none⟩ = some (.bool reg) ∧ w'.cell? ⟨w.heap.size, 3, none⟩ = some (.int .i64 n) ∧ w'.cell? ⟨w.heap.size, 4, none⟩ = some (.int .i64 d) ∧ w'.cell? ⟨w.heap.size, 5, none⟩ = some (.int .i64 s) ∧ w'.cell? ⟨w.heap.size, 6, none⟩ = some (.int .i64 off) ∧ w'.cell? ⟨w.heap.size, 7, none⟩ = some (.int .i64 imm)) (simp [go_sem, *])
      (first
        | (go_at_call 65; refine (getm_stack b L m _ ?_ _ _ _ a n G1.out g1 g8 _).mono ?_; (repeat (first | with_reducible exact H.out | with_reducible refine RepF.drew ?_ | with_reducible refine RepF.alloc ?_ _)); rintro e w1 ⟨rfl, rfl⟩)
        | (go_at_call 30; refine (number_any _ _).mono ?_; rintro e w1 ⟨rfl, rfl⟩)
        | fail)
    all_goals
      go_wp2
      refine bodyPost_ret (v := .tuple #[.int .i64 0, .int .i64 0]) (by simp [results, Tryz.results43, go_sem]) rfl ⟨rfl, ?_, ?_⟩
      · repeat (first | with_reducible refine RepF.drew ?_ | with_reducible refine RepF.alloc ?_ _)
        exact HS.out
      · repeat (first | with_reducible exact Fr.refl _ _ | with_reducible refine Fr.drew ?_ | with_reducible refine Fr.alloc ?_ _ | with_reducible refine Fr.setCell ?_ _ _ (.inl rfl))

end Go.Proofs.YtkhbjhmhdlmmfaaGreat
