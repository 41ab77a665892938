/- Walks: the small helpers of package mach. -/
import Derived.Test.YtkhbjhmhdlmmfaaGreatM
import Derived.Deep.RegionHeld3
import Derived.Deep.QuietTactic
import Derived.BigQuiet
namespace Go.Proofs.YtkhbjhmhdlmmfaaGreat
open Go.RowKit

theorem numeric_any (k t r x : Int) (w : World) :
    Calls Tryz.prog 57 #[.agg #[.int .i64 k, .int .i64 t, .int .i64 r, .int .i64 x]] w fun e w' => e = .returned (.bool (k == 1)) ∧ w.alloc (.cells #[.int .i64 k, .int .i64 t, .int .i64 r, .int .i64 x] 64) = w' := by
  go_enter Tryz.func57, Tryz.ntmps57
  go_wp2
  go_ret
  exact ⟨rfl, rfl⟩

theorem pointer_any (k t r x : Int) (w : World) :
    Calls Tryz.prog 62 #[.agg #[.int .i64 k, .int .i64 t, .int .i64 r, .int .i64 x]] w fun e w' => e = .returned (.bool (decide (2 ≤ k))) ∧ w.alloc (.cells #[.int .i64 k, .int .i64 t, .int .i64 r, .int .i64 x] 64) = w' := by
  go_enter Tryz.func62, Tryz.ntmps62
  go_wp2
  go_ret
  exact ⟨rfl, rfl⟩

theorem number_any (x : Int) (w : World) :
    Calls Tryz.prog 30 #[.int .i64 x] w fun e w' => e = .returned (.agg #[.int .i64 1, .int .i64 0, .int .i64 0, .int .i64 x]) ∧ w.alloc (.cells #[.int .i64 1, .int .i64 0, .int .i64 0, .int .i64 x] 64) = w' := by
  go_enter Tryz.func30, Tryz.ntmps30
  go_wp2
  exact bodyPost_ret (v := .agg #[.int .i64 1, .int .i64 0, .int .i64 0, .int .i64 x]) (by simp [results, Tryz.results30, go_sem]) rfl ⟨rfl, rfl⟩

set_option maxHeartbeats 400000 in
theorem second_reg (b : Nat) (L : Lay) (m : Mac) (op sz dst off imm : Int) (nar : Bool) (s : Nat) (hs : (s : Int) < 11) (w : World) (hR : RepF w b (mcell L m)) :
    Calls Tryz.prog 56 #[.pointer (some ⟨b, 0, none⟩), .agg #[.int .i64 op, .bool nar, .bool true, .int .i64 sz, .int .i64 dst, .int .i64 s, .int .i64 off, .int .i64 imm]] w fun e w' =>
      e = .returned (.agg #[.int .i64 (m.reg s).k, .int .i64 (m.reg s).t, .int .i64 (m.reg s).r, .int .i64 (m.reg s).x]) ∧
      ((w.alloc (.cells #[.int .i64 op, .bool nar, .bool true, .int .i64 sz, .int .i64 dst, .int .i64 s, .int .i64 off, .int .i64 imm] 25)).alloc (.cells #[.int .i64 (m.reg s).k, .int .i64 (m.reg s).t, .int .i64 (m.reg s).r, .int .i64 (m.reg s).x] 64)).drew = w' := by
  have hb := hR.lt
  obtain ⟨h0, h1, h2, h3⟩ := hR.reg s (by omega)
  clear hR
  go_enter Tryz.func56, Tryz.ntmps56
  go_wp2
  go_region
  go_wp2
  exact bodyPost_ret (v := .agg #[.int .i64 (m.reg s).k, .int .i64 (m.reg s).t, .int .i64 (m.reg s).r, .int .i64 (m.reg s).x]) (by simp [results, Tryz.results56, go_sem]) rfl ⟨rfl, rfl⟩

set_option maxHeartbeats 400000 in
theorem second_imm (b : Nat) (op sz dst src off imm : Int) (nar : Bool) (w : World) :
    Calls Tryz.prog 56 #[.pointer (some ⟨b, 0, none⟩), .agg #[.int .i64 op, .bool nar, .bool false, .int .i64 sz, .int .i64 dst, .int .i64 src, .int .i64 off, .int .i64 imm]] w fun e w' =>
      e = .returned (.agg #[.int .i64 1, .int .i64 0, .int .i64 0, .int .i64 imm]) ∧
      (((w.alloc (.cells #[.int .i64 op, .bool nar, .bool false, .int .i64 sz, .int .i64 dst, .int .i64 src, .int .i64 off, .int .i64 imm] 25)).alloc (.cells #[.int .i64 1, .int .i64 0, .int .i64 0, .int .i64 imm] 64)).alloc (.cells #[.int .i64 1, .int .i64 0, .int .i64 0, .int .i64 imm] 64)) = w' := by
  go_enter Tryz.func56, Tryz.ntmps56
  go_wp2_with (go_at_call 30; refine (number_any _ _).mono ?_; rintro e w' ⟨rfl, rfl⟩)
  exact bodyPost_ret (v := .agg #[.int .i64 1, .int .i64 0, .int .i64 0, .int .i64 imm]) (by simp [results, Tryz.results56, go_sem]) rfl ⟨rfl, rfl⟩

set_option maxHeartbeats 400000 in
theorem moved_ok (k t r x by_ : Int) (w : World) (h1 : -2097152 ≤ by_) (h2 : by_ ≤ 2097152) (h3 : -1048576 ≤ x + by_) (h4 : x + by_ ≤ 1048576) :
    Calls Tryz.prog 79 #[.agg #[.int .i64 k, .int .i64 t, .int .i64 r, .int .i64 x], .int .i64 by_] w fun e w' =>
      e = .returned (.tuple #[.agg #[.int .i64 k, .int .i64 t, .int .i64 r, .int .i64 (x + by_)], .int .i64 0]) ∧ (w.alloc (.cells #[.int .i64 k, .int .i64 t, .int .i64 r, .int .i64 (x + by_)] 64)).alloc (.cells #[.int .i64 k, .int .i64 t, .int .i64 r, .int .i64 (x + by_)] 64) = w' := by
  go_enter Tryz.func79, Tryz.ntmps79
  go_wp2
  exact bodyPost_ret (v := .tuple #[.agg #[.int .i64 k, .int .i64 t, .int .i64 r, .int .i64 (x + by_)], .int .i64 0]) (by simp [results, Tryz.results79, go_sem]) rfl ⟨rfl, rfl⟩

set_option maxHeartbeats 400000 in
theorem length_stack (p : Value) (t r x : Int) (w : World) :
    Calls Tryz.prog 83 #[p, .agg #[.int .i64 2, .int .i64 t, .int .i64 r, .int .i64 x]] w fun e w' => e = .returned (.int .i64 256) ∧ w.alloc (.cells #[.int .i64 2, .int .i64 t, .int .i64 r, .int .i64 x] 64) = w' := by
  go_enter Tryz.func83, Tryz.ntmps83
  go_wp2
  go_ret
  exact ⟨rfl, rfl⟩

set_option maxHeartbeats 400000 in
theorem length_ctx (b : Nat) (a : Option Addr) (n c : Nat) (t r x : Int) (w : World) (hb : b < w.heap.size) (hc : w.cell? ⟨b, 416, none⟩ = some (.slice a n c)) :
    Calls Tryz.prog 83 #[.pointer (some ⟨b, 0, none⟩), .agg #[.int .i64 3, .int .i64 t, .int .i64 r, .int .i64 x]] w fun e w' => e = .returned (.int .i64 n) ∧ w.alloc (.cells #[.int .i64 3, .int .i64 t, .int .i64 r, .int .i64 x] 64) = w' := by
  go_enter Tryz.func83, Tryz.ntmps83
  go_wp2
  go_ret
  exact ⟨rfl, rfl⟩

/-- where a pointer's offset lies ahead of its region -/
theorem within_neg (p : Value) (k t r x a n : Int) (w : World) (h : a < 0) :
    Calls Tryz.prog 63 #[p, .agg #[.int .i64 k, .int .i64 t, .int .i64 r, .int .i64 x], .int .i64 a, .int .i64 n] w fun e w' => e = .returned (.bool false) ∧ w.alloc (.cells #[.int .i64 k, .int .i64 t, .int .i64 r, .int .i64 x] 64) = w' := by
  go_enter Tryz.func63, Tryz.ntmps63
  go_wp2
  go_ret
  exact ⟨rfl, rfl⟩

set_option maxHeartbeats 400000 in
theorem within_stack (p : Value) (t r x a n : Int) (w : World) (h : 0 ≤ a) (h1 : a ≤ 1000000) (h2 : 0 ≤ n) (h3 : n ≤ 1000000) :
    Calls Tryz.prog 63 #[p, .agg #[.int .i64 2, .int .i64 t, .int .i64 r, .int .i64 x], .int .i64 a, .int .i64 n] w fun e w' => e = .returned (.bool (decide (a + n ≤ 256))) ∧
      (w.alloc (.cells #[.int .i64 2, .int .i64 t, .int .i64 r, .int .i64 x] 64)).alloc (.cells #[.int .i64 2, .int .i64 t, .int .i64 r, .int .i64 x] 64) = w' := by
  go_enter Tryz.func63, Tryz.ntmps63
  go_wp2_with (go_at_call 83; refine (length_stack _ _ _ _ _).mono ?_; rintro e w' ⟨rfl, rfl⟩)
  go_ret
  exact ⟨rfl, rfl⟩

set_option maxHeartbeats 400000 in
theorem within_ctx (b : Nat) (ad : Option Addr) (len c : Nat) (t r x a n : Int) (w : World) (hb : b < w.heap.size) (hc : w.cell? ⟨b, 416, none⟩ = some (.slice ad len c)) (h : 0 ≤ a) (h1 : a ≤ 1000000) (h2 : 0 ≤ n) (h3 : n ≤ 1000000) :
    Calls Tryz.prog 63 #[.pointer (some ⟨b, 0, none⟩), .agg #[.int .i64 3, .int .i64 t, .int .i64 r, .int .i64 x], .int .i64 a, .int .i64 n] w fun e w' => e = .returned (.bool (decide (a + n ≤ (len : Int)))) ∧
      (w.alloc (.cells #[.int .i64 3, .int .i64 t, .int .i64 r, .int .i64 x] 64)).alloc (.cells #[.int .i64 3, .int .i64 t, .int .i64 r, .int .i64 x] 64) = w' := by
  go_enter Tryz.func63, Tryz.ntmps63
  go_wp2_with (go_at_call 83; refine (length_ctx _ _ _ _ _ _ _ _ (by simp; omega) (by simpa [go_sem, hb] using hc)).mono ?_; rintro e w' ⟨rfl, rfl⟩)
  go_ret
  exact ⟨rfl, rfl⟩

set_option maxHeartbeats 400000 in
theorem alike_yes (k t r x t' r' x' : Int) (w : World) (h2 : 2 ≤ k) (h4 : k ≤ 4) :
    Calls Tryz.prog 69 #[.agg #[.int .i64 k, .int .i64 t, .int .i64 r, .int .i64 x], .agg #[.int .i64 k, .int .i64 t', .int .i64 r', .int .i64 x']] w fun e w' => e = .returned (.bool true) ∧ (w.alloc (.cells #[.int .i64 k, .int .i64 t, .int .i64 r, .int .i64 x] 64)).alloc (.cells #[.int .i64 k, .int .i64 t', .int .i64 r', .int .i64 x'] 64) = w' := by
  go_enter Tryz.func69, Tryz.ntmps69
  go_wp2
  go_ret
  exact ⟨rfl, rfl⟩

set_option maxHeartbeats 400000 in
theorem doer_arith (p : Value) (op : Int) (h : op ≤ 15) (w : World) :
    Calls Tryz.prog 38 #[p, .int .i64 op] w fun e w' => e = .returned (.func (.func 40) #[p] #[]) ∧ w = w' := by
  go_enter Tryz.func38, Tryz.ntmps38
  go_wp2
  go_ret
  exact ⟨rfl, rfl⟩
set_option maxHeartbeats 400000 in
theorem doer_wide (p : Value) (w : World) :
    Calls Tryz.prog 38 #[p, .int .i64 20] w fun e w' => e = .returned (.func (.func 42) #[p] #[]) ∧ w = w' := by
  go_enter Tryz.func38, Tryz.ntmps38
  go_wp2
  go_ret
  exact ⟨rfl, rfl⟩
set_option maxHeartbeats 400000 in
theorem doer_load (p : Value) (op : Int) (h1 : 22 ≤ op) (h : op ≤ 23) (w : World) :
    Calls Tryz.prog 38 #[p, .int .i64 op] w fun e w' => e = .returned (.func (.func 43) #[p] #[]) ∧ w = w' := by
  go_enter Tryz.func38, Tryz.ntmps38
  go_wp2
  go_ret
  exact ⟨rfl, rfl⟩
set_option maxHeartbeats 400000 in
theorem doer_store (p : Value) (w : World) :
    Calls Tryz.prog 38 #[p, .int .i64 24] w fun e w' => e = .returned (.func (.func 44) #[p] #[]) ∧ w = w' := by
  go_enter Tryz.func38, Tryz.ntmps38
  go_wp2
  go_ret
  exact ⟨rfl, rfl⟩
set_option maxHeartbeats 400000 in
theorem doer_call (p : Value) (w : World) :
    Calls Tryz.prog 38 #[p, .int .i64 38] w fun e w' => e = .returned (.func (.func 48) #[p] #[]) ∧ w = w' := by
  go_enter Tryz.func38, Tryz.ntmps38
  go_wp2
  go_ret
  exact ⟨rfl, rfl⟩
set_option maxHeartbeats 400000 in
theorem doer_exit (p : Value) (w : World) :
    Calls Tryz.prog 38 #[p, .int .i64 39] w fun e w' => e = .returned (.func (.func 49) #[p] #[]) ∧ w = w' := by
  go_enter Tryz.func38, Tryz.ntmps38
  go_wp2
  go_ret
  exact ⟨rfl, rfl⟩

end Go.Proofs.YtkhbjhmhdlmmfaaGreat
