/- The law on memory: what its walk needs. -/
import Derived.Test.YtkhbjhmhdlmmfaaGreatMc
import Derived.Test.YtkhbjhmhdlmmfaaGreatLo
import Derived.LoopN
import Derived.Deep.DeepCutAuto
namespace Go.Proofs.YtkhbjhmhdlmmfaaGreat
open Go.RowKit

theorem CodeRow.setOff {w : World} {g n : Nat} {c : Nat → Ins} (h : CodeRow w g n c) (k : Nat) (x : Int) (hk : k < n) : CodeRow (w.setCell ⟨g, k * 8 + 6, none⟩ (.int .i64 x)) g n (fun j => if j = k then { c k with off := x } else c j) := by
  obtain ⟨h1, h2⟩ := h
  refine ⟨heap_set_cells h1, fun j hj => ?_⟩
  obtain ⟨a0, a1, a2, a3, a4, a5, a6, a7⟩ := h2 j hj
  by_cases e : j = k
  · subst e
    simp only [if_true]
    exact ⟨(cell_set_ne (by omega)).trans a0, (cell_set_ne (by omega)).trans a1, (cell_set_ne (by omega)).trans a2, (cell_set_ne (by omega)).trans a3, (cell_set_ne (by omega)).trans a4, (cell_set_ne (by omega)).trans a5, cell_set_eq a6, (cell_set_ne (by omega)).trans a7⟩
  · simp only [if_neg e]
    exact ⟨(cell_set_ne (by omega)).trans a0, (cell_set_ne (by omega)).trans a1, (cell_set_ne (by omega)).trans a2, (cell_set_ne (by omega)).trans a3, (cell_set_ne (by omega)).trans a4, (cell_set_ne (by omega)).trans a5, (cell_set_ne (by omega)).trans a6, (cell_set_ne (by omega)).trans a7⟩
theorem CodeRow.setOp {w : World} {g n : Nat} {c : Nat → Ins} (h : CodeRow w g n c) (k : Nat) (x : Int) (hk : k < n) : CodeRow (w.setCell ⟨g, k * 8, none⟩ (.int .i64 x)) g n (fun j => if j = k then { c k with op := x } else c j) := by
  obtain ⟨h1, h2⟩ := h
  refine ⟨heap_set_cells h1, fun j hj => ?_⟩
  obtain ⟨a0, a1, a2, a3, a4, a5, a6, a7⟩ := h2 j hj
  by_cases e : j = k
  · subst e
    simp only [if_true]
    exact ⟨cell_set_eq a0, (cell_set_ne (by omega)).trans a1, (cell_set_ne (by omega)).trans a2, (cell_set_ne (by omega)).trans a3, (cell_set_ne (by omega)).trans a4, (cell_set_ne (by omega)).trans a5, (cell_set_ne (by omega)).trans a6, (cell_set_ne (by omega)).trans a7⟩
  · simp only [if_neg e]
    exact ⟨(cell_set_ne (by omega)).trans a0, (cell_set_ne (by omega)).trans a1, (cell_set_ne (by omega)).trans a2, (cell_set_ne (by omega)).trans a3, (cell_set_ne (by omega)).trans a4, (cell_set_ne (by omega)).trans a5, (cell_set_ne (by omega)).trans a6, (cell_set_ne (by omega)).trans a7⟩

/-- the law's text without its first n statements -/
noncomputable def tailM (n : Nat) : Code := dropSeq n (Tryz.f3.body.getD .skip)
noncomputable def headM (n : Nat) : Code := match tailM n with
  | .seq a _ => a
  | c => c

end Go.Proofs.YtkhbjhmhdlmmfaaGreat
