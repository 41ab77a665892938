/- The machine's stack as plain data: writing bytes, and how that lies in the machine's block. No walk. -/
import Derived.Test.YtkhbjhmhdlmmfaaGreatG
namespace Go.Proofs.YtkhbjhmhdlmmfaaGreat
open Go.RowKit

/-- slot q without a pointer and without written bytes -/
def Mac.clear (m : Mac) (q : Nat) : Mac :=
  { m with ptr := fun i => if i = q then .zero else m.ptr i, byte := fun i => if i / 8 = q then 0 else m.byte i, wr := fun i => if i / 8 = q then false else m.wr i }
/-- a byte is written -/
def Mac.setByte (m : Mac) (p : Nat) (c : Int) : Mac :=
  { m with byte := fun i => if i = p then c else m.byte i, wr := fun i => if i = p then true else m.wr i }
def Mac.put (m : Mac) (p : Nat) (c : Int) : Mac := if (m.ptr (p / 8)).k = 0 then m.setByte p c else (m.clear (p / 8)).setByte p c
def Mac.puts (m : Mac) (a : Nat) (y : Nat → Int) : Nat → Mac
  | 0 => m
  | k + 1 => (m.puts a y k).put (a + k) (y k)
/-- a pointer into a slot -/
def Mac.setPtr (m : Mac) (q : Nat) (v : Val) : Mac :=
  { m with ptr := fun i => if i = q then v else m.ptr i, byte := fun i => if i / 8 = q then 0 else m.byte i, wr := fun i => if i / 8 = q then false else m.wr i }

theorem upd_slot (L : Lay) (m m' : Mac) (q : Nat) (f : Nat → Value) (hq : q < 32) (hin : ∀ j, j < 13 → f (q * 13 + j) = slotCell m' q j)
    (hout : ∀ i, i < 471 → (i < q * 13 ∨ q * 13 + 13 ≤ i) → f i = mcell L m i) (hm : ∀ q' j, q' ≠ q → slotCell m' q' j = slotCell m q' j)
    (hr : m'.reg = m.reg) (hp : m'.pc = m.pc) (hs : m'.steps = m.steps) (hd : m'.done = m.done) : ∀ i, i < 471 → f i = mcell L m' i := by
  intro i hi
  by_cases h : q * 13 ≤ i ∧ i < q * 13 + 13
  · obtain ⟨j, hj, rfl⟩ : ∃ j, j < 13 ∧ i = q * 13 + j := ⟨i - q * 13, by omega, by omega⟩
    rw [hin j hj, mcell_slot q j hq hj]
  · rw [hout i hi (by omega)]
    unfold mcell
    rw [hr, hp, hs, hd]
    by_cases h0 : i < 416
    · rw [if_pos h0, if_pos h0, hm _ _ (by omega)]
    · rw [if_neg h0, if_neg h0]

theorem mask_other (wr wr' : Nat → Bool) (q : Nat) (h : ∀ j, j < 8 → wr' (8 * q + j) = wr (8 * q + j)) : maskOf wr' q = maskOf wr q := by
  unfold maskOf
  have h0 := h 0 (by omega)
  rw [Nat.add_zero] at h0
  rw [h0, h 1 (by omega), h 2 (by omega), h 3 (by omega), h 4 (by omega), h 5 (by omega), h 6 (by omega), h 7 (by omega)]
theorem mask_none (wr : Nat → Bool) (q : Nat) (h : ∀ j, j < 8 → wr (8 * q + j) = false) : maskOf wr q = 0 := by
  unfold maskOf
  have h0 := h 0 (by omega)
  rw [Nat.add_zero] at h0
  rw [h0, h 1 (by omega), h 2 (by omega), h 3 (by omega), h 4 (by omega), h 5 (by omega), h 6 (by omega), h 7 (by omega)]
  rfl

theorem or_closed : ∀ (b0 b1 b2 b3 b4 b5 b6 b7 : Bool) (r : Fin 8),
    bits BinOp.or IntKind.i64 (b2i b0 1 + b2i b1 2 + b2i b2 4 + b2i b3 8 + b2i b4 16 + b2i b5 32 + b2i b6 64 + b2i b7 128) (2 ^ r.val) =
      b2i (b0 || decide (r.val = 0)) 1 + b2i (b1 || decide (r.val = 1)) 2 + b2i (b2 || decide (r.val = 2)) 4 + b2i (b3 || decide (r.val = 3)) 8 + b2i (b4 || decide (r.val = 4)) 16 + b2i (b5 || decide (r.val = 5)) 32 + b2i (b6 || decide (r.val = 6)) 64 + b2i (b7 || decide (r.val = 7)) 128 := by
  decide +kernel

theorem or_mask (wr : Nat → Bool) (p : Nat) : bits BinOp.or IntKind.i64 (maskOf wr (p / 8)) (2 ^ (p % 8)) = maskOf (fun i => if i = p then true else wr i) (p / 8) := by
  have h := or_closed (wr (8 * (p / 8))) (wr (8 * (p / 8) + 1)) (wr (8 * (p / 8) + 2)) (wr (8 * (p / 8) + 3)) (wr (8 * (p / 8) + 4)) (wr (8 * (p / 8) + 5)) (wr (8 * (p / 8) + 6)) (wr (8 * (p / 8) + 7)) ⟨p % 8, by omega⟩
  have key : ∀ j, j < 8 → (wr (8 * (p / 8) + j) || decide (p % 8 = j)) = (if 8 * (p / 8) + j = p then true else wr (8 * (p / 8) + j)) := by
    intro j hj
    by_cases e : p % 8 = j
    · rw [if_pos (by omega)]; simp [e]
    · rw [if_neg (by omega)]; simp [e]
  unfold maskOf
  rw [h]
  have k0 := key 0 (by omega)
  rw [Nat.add_zero] at k0
  rw [k0, key 1 (by omega), key 2 (by omega), key 3 (by omega), key 4 (by omega), key 5 (by omega), key 6 (by omega), key 7 (by omega)]

theorem slotCell_setByte_other (m : Mac) (p : Nat) (c : Int) (q j : Nat) (h : q ≠ p / 8) : slotCell (m.setByte p c) q j = slotCell m q j := by
  unfold slotCell Mac.setByte
  by_cases h4 : j < 4
  · simp [h4]
  · by_cases h12 : j < 12
    · rw [if_neg h4, if_pos h12, if_neg h4, if_pos h12]
      dsimp only
      rw [if_neg (by omega)]
    · rw [if_neg h4, if_neg h12, if_neg h4, if_neg h12]
      rw [mask_other m.wr _ q (fun i hi => by dsimp only; rw [if_neg (by omega)])]
theorem slotCell_clear_other (m : Mac) (q' q j : Nat) (h : q ≠ q') : slotCell (m.clear q') q j = slotCell m q j := by
  unfold slotCell Mac.clear
  by_cases h4 : j < 4
  · simp [h4, h]
  · by_cases h12 : j < 12
    · rw [if_neg h4, if_pos h12, if_neg h4, if_pos h12]
      dsimp only
      rw [if_neg (by omega)]
    · rw [if_neg h4, if_neg h12, if_neg h4, if_neg h12]
      rw [mask_other m.wr _ q (fun i hi => by dsimp only; rw [if_neg (by omega)])]
theorem slotCell_setPtr_other (m : Mac) (q' : Nat) (v : Val) (q j : Nat) (h : q ≠ q') : slotCell (m.setPtr q' v) q j = slotCell m q j := by
  unfold slotCell Mac.setPtr
  by_cases h4 : j < 4
  · simp [h4, h]
  · by_cases h12 : j < 12
    · rw [if_neg h4, if_pos h12, if_neg h4, if_pos h12]
      dsimp only
      rw [if_neg (by omega)]
    · rw [if_neg h4, if_neg h12, if_neg h4, if_neg h12]
      rw [mask_other m.wr _ q (fun i hi => by dsimp only; rw [if_neg (by omega)])]

/-- a byte and its bit stored -/
theorem RepF.setByte {w : World} {b : Nat} {L : Lay} {m : Mac} (h : RepF w b (mcell L m)) (p : Nat) (hp : p < 256) (c : Int) :
    RepF ((w.setCell ⟨b, p / 8 * 13 + 4 + p % 8, none⟩ (.int .u8 c)).setCell ⟨b, p / 8 * 13 + 12, none⟩ (.int .i64 (bits BinOp.or IntKind.i64 (maskOf m.wr (p / 8)) (2 ^ (p % 8))))) b (mcell L (m.setByte p c)) := by
  refine ((h.setCell _ _).setCell _ _).congr (upd_slot L m (m.setByte p c) (p / 8) _ (by omega) ?_ ?_ (fun q' j hq => slotCell_setByte_other m p c q' j hq) rfl rfl rfl rfl)
  · intro j hj
    unfold upd
    by_cases e : j = 12
    · subst e
      rw [if_pos rfl, or_mask]; rfl
    · rw [if_neg (by omega)]
      by_cases e2 : j = 4 + p % 8
      · rw [if_pos (by omega)]
        unfold slotCell
        rw [if_neg (by omega), if_pos (by omega)]
        unfold Mac.setByte
        dsimp only
        rw [if_pos (by omega)]
      · rw [if_neg (by omega), mcell_slot _ j (by omega) hj]
        unfold slotCell
        by_cases h4 : j < 4
        · rw [if_pos h4, if_pos h4]; rfl
        · rw [if_neg h4, if_neg h4, if_pos (by omega), if_pos (by omega)]
          unfold Mac.setByte
          dsimp only
          rw [if_neg (by omega)]
  · intro i hi hq
    unfold upd
    rw [if_neg (by omega), if_neg (by omega)]

def slotVals (v : Val) : List Value := [.int .i64 v.k, .int .i64 v.t, .int .i64 v.r, .int .i64 v.x, .int .u8 0, .int .u8 0, .int .u8 0, .int .u8 0, .int .u8 0, .int .u8 0, .int .u8 0, .int .u8 0, .int .i64 0]

theorem slotCell_setPtr (m : Mac) (q : Nat) (v : Val) (j : Nat) (hj : j < 13) : some (slotCell (m.setPtr q v) q j) = (slotVals v)[j]? := by
  have hmask : maskOf (m.setPtr q v).wr q = 0 := mask_none _ q (fun i hi => by show (if (8 * q + i) / 8 = q then false else _) = false; rw [if_pos (by omega)])
  have : j = 0 ∨ j = 1 ∨ j = 2 ∨ j = 3 ∨ j = 4 ∨ j = 5 ∨ j = 6 ∨ j = 7 ∨ j = 8 ∨ j = 9 ∨ j = 10 ∨ j = 11 ∨ j = 12 := by omega
  have hb : ∀ i, i < 8 → (m.setPtr q v).byte (8 * q + i) = 0 := fun i hi => by show (if (8 * q + i) / 8 = q then (0 : Int) else _) = 0; rw [if_pos (by omega)]
  have hp : (m.setPtr q v).ptr q = v := by show (if q = q then v else _) = v; rw [if_pos rfl]
  unfold slotCell
  rcases this with rfl | rfl | rfl | rfl | rfl | rfl | rfl | rfl | rfl | rfl | rfl | rfl | rfl <;> simp [hp, hmask, slotVals, Val.cell, hb] <;> (have h0 := hb 0 (by omega); simpa using h0)

theorem clear_eq_setPtr (m : Mac) (q : Nat) : m.clear q = m.setPtr q .zero := rfl

/-- thirteen cells from o on -/
def set13 (w : World) (b o : Nat) (v : Val) : World :=
  ((((((((((((w.setCell ⟨b, o, none⟩ (.int .i64 v.k)).setCell ⟨b, o + 1, none⟩ (.int .i64 v.t)).setCell ⟨b, o + 2, none⟩ (.int .i64 v.r)).setCell ⟨b, o + 3, none⟩ (.int .i64 v.x)).setCell ⟨b, o + 4, none⟩ (.int .u8 0)).setCell ⟨b, o + 5, none⟩ (.int .u8 0)).setCell ⟨b, o + 6, none⟩ (.int .u8 0)).setCell ⟨b, o + 7, none⟩ (.int .u8 0)).setCell ⟨b, o + 8, none⟩ (.int .u8 0)).setCell ⟨b, o + 9, none⟩ (.int .u8 0)).setCell ⟨b, o + 10, none⟩ (.int .u8 0)).setCell ⟨b, o + 11, none⟩ (.int .u8 0)).setCell ⟨b, o + 12, none⟩ (.int .i64 0)

theorem RepF.setPtr {w : World} {b : Nat} {L : Lay} {m : Mac} (h : RepF w b (mcell L m)) (q : Nat) (hq : q < 32) (v : Val) : RepF (set13 w b (q * 13) v) b (mcell L (m.setPtr q v)) := by
  unfold set13
  refine ((((((((((((((h.setCell _ _).setCell _ _).setCell _ _).setCell _ _).setCell _ _).setCell _ _).setCell _ _).setCell _ _).setCell _ _).setCell _ _).setCell _ _).setCell _ _).setCell _ _)).congr (upd_slot L m (m.setPtr q v) q _ hq ?_ ?_ (fun q' j hq => slotCell_setPtr_other m q v q' j hq) rfl rfl rfl rfl)
  · intro j hj
    apply Option.some.inj
    rw [slotCell_setPtr m q v j hj]
    have : j = 0 ∨ j = 1 ∨ j = 2 ∨ j = 3 ∨ j = 4 ∨ j = 5 ∨ j = 6 ∨ j = 7 ∨ j = 8 ∨ j = 9 ∨ j = 10 ∨ j = 11 ∨ j = 12 := by omega
    rcases this with rfl | rfl | rfl | rfl | rfl | rfl | rfl | rfl | rfl | rfl | rfl | rfl | rfl <;> simp [upd, slotVals]
  · intro i hi hr
    unfold upd
    rw [if_neg (by omega), if_neg (by omega), if_neg (by omega), if_neg (by omega), if_neg (by omega), if_neg (by omega), if_neg (by omega), if_neg (by omega), if_neg (by omega), if_neg (by omega), if_neg (by omega), if_neg (by omega), if_neg (by omega)]

end Go.Proofs.YtkhbjhmhdlmmfaaGreat
