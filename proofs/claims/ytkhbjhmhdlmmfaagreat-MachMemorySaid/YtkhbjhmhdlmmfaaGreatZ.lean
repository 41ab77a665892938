/- Rows of instructions that a law makes, appends to and writes into: plain. -/
import Derived.Test.YtkhbjhmhdlmmfaaGreatY
namespace Go.Proofs.YtkhbjhmhdlmmfaaGreat
open Go.RowKit

theorem CodeAt.congr {w : World} {g n : Nat} {c d : Nat → Ins} (h : CodeAt w g n c) (hcd : ∀ k, k < n → c k = d k) : CodeAt w g n d := fun k hk => by rw [← hcd k hk]; exact h k hk
theorem CodeAt.less {w : World} {g n m : Nat} {c : Nat → Ins} (h : CodeAt w g n c) (hm : m ≤ n) : CodeAt w g m c := fun k hk => h k (by omega)

/-- a row of instructions in its own block -/
def CodeRow (w : World) (g n : Nat) (c : Nat → Ins) : Prop := (∃ cur, w.heap[g]? = some (.cells cur 25 (0, 0))) ∧ CodeAt w g n c
theorem CodeRow.fr {S : Nat → Prop} {w w' : World} {g n : Nat} {c : Nat → Ins} (h : CodeRow w g n c) (hf : Fr S w w') (hS : ¬ S g) : CodeRow w' g n c := by
  obtain ⟨⟨cur, h1⟩, h2⟩ := h
  exact ⟨⟨cur, heap_fr h1 hf hS⟩, h2.fr hf hS⟩
theorem CodeRow.lt {w : World} {g n : Nat} {c : Nat → Ins} (h : CodeRow w g n c) : g < w.heap.size := by
  obtain ⟨⟨cur, h1⟩, _⟩ := h
  exact (Array.getElem?_eq_some_iff.1 h1).1
theorem CodeRow.frozen {w : World} {g n : Nat} {c : Nat → Ins} (h : CodeRow w g n c) (o : Nat) : w.frozen? ⟨g, o, none⟩ = false := by
  obtain ⟨⟨cur, h1⟩, _⟩ := h
  simp [World.frozen?, h1]
theorem owns_row {w : World} {base : Nat} {v : Value} {n : Nat} {c : Nat → Ins} (h : w.ownsRow base 25 8 v n (codeL c n)) (hn : 1 ≤ n) :
    ∃ g cap, v = .slice (some ⟨g, 0, none⟩) n cap ∧ base ≤ g ∧ CodeRow w g n c := by
  obtain ⟨g, cap, rfl, hb, _, hC⟩ := owns_code h hn
  rcases h.2 with ⟨hv, _⟩ | ⟨g', cap', cur, hv, _, hg, _⟩
  · cases hv
  · cases hv
    exact ⟨g, cap, rfl, hb, ⟨cur, hg⟩, hC⟩
theorem cell_set_ne {w : World} {g o o' : Nat} {v : Value} (h : o ≠ o') : (w.setCell ⟨g, o, none⟩ v).cell? ⟨g, o', none⟩ = w.cell? ⟨g, o', none⟩ := by
  simp only [World.setCell, World.cell?, Array.getElem?_modify]
  cases hg : w.heap[g]? with
  | none => simp
  | some ob =>
    cases ob <;> simp [h]
theorem cell_set_eq {w : World} {g o : Nat} {v u : Value} (h : w.cell? ⟨g, o, none⟩ = some u) : (w.setCell ⟨g, o, none⟩ v).cell? ⟨g, o, none⟩ = some v := by
  simp only [World.setCell, World.cell?, Array.getElem?_modify] at h ⊢
  cases hg : w.heap[g]? with
  | none => simp [hg] at h
  | some ob =>
    rw [hg] at h
    cases ob with
    | cells cs e fz =>
      have hlt : o < cs.size := (Array.getElem?_eq_some_iff.1 h).1
      simp [hlt]
    | _ => simp at h
theorem heap_set_cells {w : World} {g o : Nat} {v : Value} (h : ∃ cur, w.heap[g]? = some (.cells cur 25 (0, 0))) : ∃ cur, (w.setCell ⟨g, o, none⟩ v).heap[g]? = some (.cells cur 25 (0, 0)) := by
  obtain ⟨cur, h⟩ := h
  exact ⟨cur.setIfInBounds o v, by simp [World.setCell, Array.getElem?_modify, h]⟩
theorem CodeRow.setIns {w : World} {g n : Nat} {c : Nat → Ins} (h : CodeRow w g n c) (k : Nat) (i : Ins) (hk : k < n) : CodeRow (setIns w g k i) g n (fun x => if x = k then i else c x) := by
  obtain ⟨h1, h2⟩ := h
  refine ⟨?_, fun x hx => ?_⟩
  · exact heap_set_cells (heap_set_cells (heap_set_cells (heap_set_cells (heap_set_cells (heap_set_cells (heap_set_cells (heap_set_cells h1)))))))
  · have far : ∀ o, (∀ j, j < 8 → o ≠ k * 8 + j) → (YtkhbjhmhdlmmfaaGreat.setIns w g k i).cell? ⟨g, o, none⟩ = w.cell? ⟨g, o, none⟩ := fun o ho => by
      unfold YtkhbjhmhdlmmfaaGreat.setIns
      have h0 : o ≠ k * 8 := ho 0 (by omega)
      rw [cell_set_ne (Ne.symm (ho 7 (by omega))), cell_set_ne (Ne.symm (ho 6 (by omega))), cell_set_ne (Ne.symm (ho 5 (by omega))), cell_set_ne (Ne.symm (ho 4 (by omega))), cell_set_ne (Ne.symm (ho 3 (by omega))), cell_set_ne (Ne.symm (ho 2 (by omega))), cell_set_ne (Ne.symm (ho 1 (by omega))), cell_set_ne (Ne.symm h0)]
    by_cases e : x = k
    · subst e
      simp only [if_true]
      obtain ⟨a0, a1, a2, a3, a4, a5, a6, a7⟩ := h2 x hk
      unfold YtkhbjhmhdlmmfaaGreat.setIns
      refine ⟨?_, ?_, ?_, ?_, ?_, ?_, ?_, ?_⟩
      · rw [cell_set_ne (by omega), cell_set_ne (by omega), cell_set_ne (by omega), cell_set_ne (by omega), cell_set_ne (by omega), cell_set_ne (by omega), cell_set_ne (by omega)]
        exact cell_set_eq a0
      · rw [cell_set_ne (by omega), cell_set_ne (by omega), cell_set_ne (by omega), cell_set_ne (by omega), cell_set_ne (by omega), cell_set_ne (by omega)]
        exact cell_set_eq ((cell_set_ne (by omega)).trans a1)
      · rw [cell_set_ne (by omega), cell_set_ne (by omega), cell_set_ne (by omega), cell_set_ne (by omega), cell_set_ne (by omega)]
        exact cell_set_eq ((cell_set_ne (by omega)).trans ((cell_set_ne (by omega)).trans a2))
      · rw [cell_set_ne (by omega), cell_set_ne (by omega), cell_set_ne (by omega), cell_set_ne (by omega)]
        exact cell_set_eq ((cell_set_ne (by omega)).trans ((cell_set_ne (by omega)).trans ((cell_set_ne (by omega)).trans a3)))
      · rw [cell_set_ne (by omega), cell_set_ne (by omega), cell_set_ne (by omega)]
        exact cell_set_eq ((cell_set_ne (by omega)).trans ((cell_set_ne (by omega)).trans ((cell_set_ne (by omega)).trans ((cell_set_ne (by omega)).trans a4))))
      · rw [cell_set_ne (by omega), cell_set_ne (by omega)]
        exact cell_set_eq ((cell_set_ne (by omega)).trans ((cell_set_ne (by omega)).trans ((cell_set_ne (by omega)).trans ((cell_set_ne (by omega)).trans ((cell_set_ne (by omega)).trans a5)))))
      · rw [cell_set_ne (by omega)]
        exact cell_set_eq ((cell_set_ne (by omega)).trans ((cell_set_ne (by omega)).trans ((cell_set_ne (by omega)).trans ((cell_set_ne (by omega)).trans ((cell_set_ne (by omega)).trans ((cell_set_ne (by omega)).trans a6))))))
      · exact cell_set_eq ((cell_set_ne (by omega)).trans ((cell_set_ne (by omega)).trans ((cell_set_ne (by omega)).trans ((cell_set_ne (by omega)).trans ((cell_set_ne (by omega)).trans ((cell_set_ne (by omega)).trans ((cell_set_ne (by omega)).trans a7)))))))
    · simp only [if_neg e]
      obtain ⟨a0, a1, a2, a3, a4, a5, a6, a7⟩ := h2 x hx
      refine ⟨(far _ ?_).trans a0, (far _ ?_).trans a1, (far _ ?_).trans a2, (far _ ?_).trans a3, (far _ ?_).trans a4, (far _ ?_).trans a5, (far _ ?_).trans a6, (far _ ?_).trans a7⟩ <;> (intro j hj; omega)
theorem setIns_fr (w : World) (g k : Nat) (i : Ins) : Fr (fun x => x = g) w (setIns w g k i) :=
  (((((((((Fr.refl (fun x => x = g) w).setCell _ _ (.inl rfl)).setCell _ _ (.inl rfl)).setCell _ _ (.inl rfl)).setCell _ _ (.inl rfl)).setCell _ _ (.inl rfl)).setCell _ _ (.inl rfl)).setCell _ _ (.inl rfl)).setCell _ _ (.inl rfl))
/-- a new row of instructions -/
theorem row_lit (w : World) (c : Nat → Ins) (n : Nat) (arr : Array Value) (h : codeL c n = arr.toList) : CodeRow (w.alloc (.cells arr 25)) w.heap.size n c := by
  refine ⟨⟨arr, heap_alloc_new w _⟩, fun k hk => ?_⟩
  have key : ∀ j, j < 8 → (w.alloc (.cells arr 25)).cell? ⟨w.heap.size, k * 8 + j, none⟩ = (c k).cells[j]? := fun j hj => by
    rw [← codeL_get c n k j hk hj, h, Array.getElem?_toList]
    unfold World.cell?
    rw [heap_alloc_new]
    simp
  exact ⟨key 0 (by omega), key 1 (by omega), key 2 (by omega), key 3 (by omega), key 4 (by omega), key 5 (by omega), key 6 (by omega), key 7 (by omega)⟩

end Go.Proofs.YtkhbjhmhdlmmfaaGreat
