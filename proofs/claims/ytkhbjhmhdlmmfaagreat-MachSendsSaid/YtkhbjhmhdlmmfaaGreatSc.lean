/- Walks: what a helper asks for: numbers. -/
import Derived.Test.YtkhbjhmhdlmmfaaGreatSb
import Derived.Test.YtkhbjhmhdlmmfaaGreatI
import Derived.Deep.DeepCutAuto
namespace Go.Proofs.YtkhbjhmhdlmmfaaGreat
open Go.RowKit

theorem args_cells {w : World} {g : Nat} {l : List Int} (h : w.heap[g]? = some (.cells (l.map fun x => Value.int .i64 x).toArray 3 (0, 0))) (k : Nat) (x : Int) (hk : l[k]? = some x) : w.cell? ⟨g, k, none⟩ = some (.int .i64 x) := by
  simp [World.cell?, h, hk]

set_option maxRecDepth 100000 in
set_option maxHeartbeats 4000000 in
theorem asked_emit (b g : Nat) (L : Lay) (m : Mac) (v : Int) (w : World) (hR : RepF w b (mcell L m)) (h1 : m.reg 1 = .num v) (hg : w.heap[g]? = some (.cells ((argsOf 5).map fun x => Value.int .i64 x).toArray 3 (0, 0))) :
    Calls Tryz.prog 71 #[.pointer (some ⟨b, 0, none⟩), .slice (some ⟨g, 0, none⟩) 5 5] w fun e w' => e = .returned (.tuple #[.agg #[.int .i64 0, .int .i64 0, .int .i64 0, .int .i64 0, .int .i64 0, .int .i64 0], .bool true]) ∧ Fr (fun _ => False) w w' := by
  have hb := hR.lt
  have g0 := args_cells hg 0 1 rfl
  have g1 := args_cells hg 1 0 rfl
  have g2 := args_cells hg 2 0 rfl
  have g3 := args_cells hg 3 0 rfl
  have g4 := args_cells hg 4 0 rfl
  have hgl : g < w.heap.size := (Array.getElem?_eq_some_iff.1 hg).1
  obtain ⟨r10, r11, r12, r13⟩ := hR.reg 1 (by omega)
  rw [h1] at r10 r11 r12 r13
  obtain ⟨r20, r21, r22, r23⟩ := hR.reg 2 (by omega)
  obtain ⟨r30, r31, r32, r33⟩ := hR.reg 3 (by omega)
  obtain ⟨r40, r41, r42, r43⟩ := hR.reg 4 (by omega)
  obtain ⟨r50, r51, r52, r53⟩ := hR.reg 5 (by omega)
  simp only [Nat.reduceMul, Nat.reduceAdd, Val.num] at r10 r11 r12 r13 r20 r21 r22 r23 r30 r31 r32 r33 r40 r41 r42 r43 r50 r51 r52 r53
  clear hg hR h1
  have hb1 : b < w.heap.size + 1 := by omega
  have hgb1 : g < w.heap.size + 1 := by omega
  have hb2 : b < w.heap.size + 1 + 1 := by omega
  have hgb2 : g < w.heap.size + 1 + 1 := by omega
  have hb3 : b < w.heap.size + 1 + 1 + 1 := by omega
  have hgb3 : g < w.heap.size + 1 + 1 + 1 := by omega
  have hb4 : b < w.heap.size + 1 + 1 + 1 + 1 := by omega
  have hgb4 : g < w.heap.size + 1 + 1 + 1 + 1 := by omega
  have hb5 : b < w.heap.size + 1 + 1 + 1 + 1 + 1 := by omega
  have hgb5 : g < w.heap.size + 1 + 1 + 1 + 1 + 1 := by omega
  have hb6 : b < w.heap.size + 1 + 1 + 1 + 1 + 1 + 1 := by omega
  have hgb6 : g < w.heap.size + 1 + 1 + 1 + 1 + 1 + 1 := by omega
  have hb7 : b < w.heap.size + 1 + 1 + 1 + 1 + 1 + 1 + 1 := by omega
  have hgb7 : g < w.heap.size + 1 + 1 + 1 + 1 + 1 + 1 + 1 := by omega
  have hb8 : b < w.heap.size + 1 + 1 + 1 + 1 + 1 + 1 + 1 + 1 := by omega
  have hgb8 : g < w.heap.size + 1 + 1 + 1 + 1 + 1 + 1 + 1 + 1 := by omega
  go_enter Tryz.func71, Tryz.ntmps71
  go_wp2
  refine wp_loop_rounds 6 ?_
  rw [rounds_succ]
  go_wp2_with (go_at_call 57; refine (numeric_any _ _ _ _ _).mono ?_; rintro e w1 ⟨rfl, rfl⟩)
  rw [rounds_succ]
  go_wp2
  rw [rounds_succ]
  go_wp2
  rw [rounds_succ]
  go_wp2
  rw [rounds_succ]
  go_wp2
  rw [rounds_succ]
  go_wp2
  refine wp_loop_rounds 6 ?_
  rw [rounds_succ]
  go_wp2
  rw [rounds_succ]
  go_wp2
  rw [rounds_succ]
  go_wp2
  rw [rounds_succ]
  go_wp2
  rw [rounds_succ]
  go_wp2
  rw [rounds_succ]
  go_wp2
  refine bodyPost_ret (v := .tuple #[.agg #[.int .i64 0, .int .i64 0, .int .i64 0, .int .i64 0, .int .i64 0, .int .i64 0], .bool true]) (by simp [results, Tryz.results71, go_sem]) rfl ⟨rfl, ?_⟩
  repeat (first | with_reducible exact Fr.refl _ _ | with_reducible refine Fr.drew ?_ | with_reducible refine Fr.alloc ?_ _)
end Go.Proofs.YtkhbjhmhdlmmfaaGreat
