/- The plain machine as plain data, and how it lies in one block of memory: words and small laws, no walk. -/
import Derived.Test.YtkhbjhmhdlmmfaaGreatRows
import Derived.WalkKit
import Derived.WalkSpells
import Derived.WalkLawsBesides
import Derived.Lib.Hide
namespace Go.Proofs.YtkhbjhmhdlmmfaaGreat
open Go.RowKit

/-- api.Value -/
structure Val where
  k : Int
  t : Int
  r : Int
  x : Int

def Val.zero : Val := ⟨0, 0, 0, 0⟩
def Val.num (x : Int) : Val := ⟨1, 0, 0, x⟩
def Val.cell (v : Val) : Nat → Value
  | 0 => .int .i64 v.k
  | 1 => .int .i64 v.t
  | 2 => .int .i64 v.r
  | _ => .int .i64 v.x
def Val.agg (v : Val) : Value := .agg #[.int .i64 v.k, .int .i64 v.t, .int .i64 v.r, .int .i64 v.x]

/-- api.Ins -/
structure Ins where
  op : Int
  nar : Bool
  reg : Bool
  size : Int
  dst : Int
  src : Int
  off : Int
  imm : Int

def Ins.cells (i : Ins) : List Value := [.int .i64 i.op, .bool i.nar, .bool i.reg, .int .i64 i.size, .int .i64 i.dst, .int .i64 i.src, .int .i64 i.off, .int .i64 i.imm]
def Ins.agg (i : Ins) : Value := .agg #[.int .i64 i.op, .bool i.nar, .bool i.reg, .int .i64 i.size, .int .i64 i.dst, .int .i64 i.src, .int .i64 i.off, .int .i64 i.imm]

/-- the changing part of the machine that lies in its own block -/
structure Mac where
  byte : Nat → Int
  wr : Nat → Bool
  ptr : Nat → Val
  reg : Nat → Val
  pc : Nat
  steps : Nat
  done : Bool

/-- the slices and the map that the machine's block holds -/
structure Lay where
  ctx : Value
  code : Value
  units : Value
  beg : Nat
  sent : Value

def b2i (b : Bool) (n : Int) : Int := if b then n else 0
def maskOf (wr : Nat → Bool) (i : Nat) : Int :=
  b2i (wr (8 * i)) 1 + b2i (wr (8 * i + 1)) 2 + b2i (wr (8 * i + 2)) 4 + b2i (wr (8 * i + 3)) 8 + b2i (wr (8 * i + 4)) 16 + b2i (wr (8 * i + 5)) 32 + b2i (wr (8 * i + 6)) 64 + b2i (wr (8 * i + 7)) 128

def slotCell (m : Mac) (i j : Nat) : Value :=
  if j < 4 then (m.ptr i).cell j else if j < 12 then .int .u8 (m.byte (8 * i + (j - 4))) else .int .i64 (maskOf m.wr i)

def mcell (L : Lay) (m : Mac) (i : Nat) : Value :=
  if i < 416 then slotCell m (i / 13) (i % 13)
  else if i = 416 then L.ctx
  else if i < 420 then .slice none 0 0
  else if i = 420 then L.code
  else if i = 421 then L.units
  else if i = 422 then .map (some L.beg)
  else if i < 467 then (m.reg ((i - 423) / 4)).cell ((i - 423) % 4)
  else if i = 467 then L.sent
  else if i = 468 then .int .i64 m.pc
  else if i = 469 then .int .i64 m.steps
  else .bool m.done

/-- block b is a row of 471 cells of a machine, as f tells them -/
def RepF (w : World) (b : Nat) (f : Nat → Value) : Prop :=
  ∃ arr : Array Value, w.heap[b]? = some (.cells arr 73 (0, 0)) ∧ arr.size = 471 ∧ ∀ i, i < 471 → arr[i]? = some (f i)

def upd (f : Nat → Value) (i : Nat) (v : Value) : Nat → Value := fun j => if j = i then v else f j

theorem RepF.lt {w : World} {b : Nat} {f : Nat → Value} (h : RepF w b f) : b < w.heap.size := by
  obtain ⟨arr, h1, _⟩ := h
  exact (Array.getElem?_eq_some_iff.1 h1).1

theorem RepF.cell {w : World} {b : Nat} {f : Nat → Value} (h : RepF w b f) (i : Nat) (hi : i < 471) : w.cell? ⟨b, i, none⟩ = some (f i) := by
  obtain ⟨arr, h1, h2, h3⟩ := h
  simp [World.cell?, h1, h3 i hi]

theorem RepF.frozen {w : World} {b : Nat} {f : Nat → Value} (h : RepF w b f) (i : Nat) : w.frozen? ⟨b, i, none⟩ = false := by
  obtain ⟨arr, h1, h2, h3⟩ := h
  simp [World.frozen?, h1]

theorem RepF.congr {w : World} {b : Nat} {f g : Nat → Value} (h : RepF w b f) (hg : ∀ i, i < 471 → f i = g i) : RepF w b g := by
  obtain ⟨arr, h1, h2, h3⟩ := h
  exact ⟨arr, h1, h2, fun i hi => by rw [h3 i hi, hg i hi]⟩

theorem RepF.of_heap {w w' : World} {b : Nat} {f : Nat → Value} (h : RepF w b f) (hh : w'.heap[b]? = w.heap[b]?) : RepF w' b f := by
  obtain ⟨arr, h1, h2, h3⟩ := h
  exact ⟨arr, by rw [hh, h1], h2, h3⟩

theorem RepF.alloc {w : World} {b : Nat} {f : Nat → Value} (h : RepF w b f) (o : Obj) : RepF (w.alloc o) b f :=
  h.of_heap (Below.heap_alloc w o b h.lt)

theorem RepF.drew {w : World} {b : Nat} {f : Nat → Value} (h : RepF w b f) : RepF w.drew b f := h

theorem RepF.below {w w' : World} {b B : Nat} {f : Nat → Value} (h : RepF w b f) (hb : Below B w w') (hB : b < B) : RepF w' b f :=
  h.of_heap (hb.block b hB)

theorem RepF.setCell {w : World} {b : Nat} {f : Nat → Value} (h : RepF w b f) (i : Nat) (v : Value) : RepF (w.setCell ⟨b, i, none⟩ v) b (upd f i v) := by
  obtain ⟨arr, h1, h2, h3⟩ := h
  refine ⟨arr.setIfInBounds i v, ?_, by simpa using h2, fun j hj => ?_⟩
  · simp [World.setCell, Array.getElem?_modify, h1]
  · unfold upd
    by_cases e : j = i
    · subst e
      rw [if_pos rfl, Array.getElem?_setIfInBounds_self]
      rw [if_pos (by omega)]
    · rw [if_neg e, Array.getElem?_setIfInBounds_ne (by omega)]
      exact h3 j hj

theorem RepF.setCell_other {w : World} {b : Nat} {f : Nat → Value} (h : RepF w b f) (a : Addr) (ha : b ≠ a.block) (v : Value) : RepF (w.setCell a v) b f :=
  h.of_heap (Below.heap_setCell w a v b ha)

/-- what may turn: the blocks of S; every other block of w stays, none goes -/
structure Fr (S : Nat → Prop) (w w' : World) : Prop where
  os : w'.os = w.os
  tape : w'.tape = w.tape
  output : w'.output = w.output
  size : w.heap.size ≤ w'.heap.size
  block : ∀ k, k < w.heap.size → ¬ S k → w'.heap[k]? = w.heap[k]?

theorem Fr.refl (S : Nat → Prop) (w : World) : Fr S w w := ⟨rfl, rfl, rfl, Nat.le_refl _, fun _ _ _ => rfl⟩
theorem Fr.trans {S : Nat → Prop} {a b c : World} (h : Fr S a b) (k : Fr S b c) : Fr S a c :=
  ⟨k.os.trans h.os, k.tape.trans h.tape, k.output.trans h.output, Nat.le_trans h.size k.size, fun i hi hn => (k.block i (Nat.lt_of_lt_of_le hi h.size) hn).trans (h.block i hi hn)⟩
theorem Fr.mono {S T : Nat → Prop} {a b : World} (h : Fr S a b) (hS : ∀ k, k < a.heap.size → S k → T k) : Fr T a b :=
  ⟨h.os, h.tape, h.output, h.size, fun i hi hn => h.block i hi (fun hs => hn (hS i hi hs))⟩
theorem Fr.drew {S : Nat → Prop} {a w : World} (h : Fr S a w) : Fr S a w.drew := ⟨h.os, h.tape, h.output, h.size, h.block⟩
theorem Fr.alloc {S : Nat → Prop} {a w : World} (h : Fr S a w) (o : Obj) : Fr S a (w.alloc o) :=
  h.trans ⟨rfl, rfl, rfl, by simp, fun k hk _ => Below.heap_alloc _ _ _ hk⟩
theorem Fr.setCell {S : Nat → Prop} {a w : World} (h : Fr S a w) (p : Addr) (u : Value) (hp : S p.block ∨ a.heap.size ≤ p.block) : Fr S a (w.setCell p u) :=
  ⟨h.os, h.tape, h.output, by simpa [World.setCell] using h.size, fun k hk hn => by
    rw [Below.heap_setCell w p u k (by rintro rfl; rcases hp with hp | hp; exact hn hp; omega)]
    exact h.block k hk hn⟩
theorem Fr.below {S : Nat → Prop} {a b c : World} (h : Fr S a b) (k : Below b.heap.size b c) : Fr S a c :=
  h.trans ⟨k.os, k.tape, k.output, k.size, fun i hi _ => k.block i hi⟩
/-- where all that may turn lies from B on, below B all is as it was -/
theorem Fr.toBelow {S : Nat → Prop} {a b : World} (h : Fr S a b) (B : Nat) (hB : B ≤ a.heap.size) (hS : ∀ k, k < B → ¬ S k) : Below B a b :=
  ⟨h.os, h.tape, h.output, h.size, fun k hk => h.block k (by omega) (hS k hk)⟩
theorem Fr.of_below {S : Nat → Prop} {a b : World} (k : Below a.heap.size a b) : Fr S a b :=
  ⟨k.os, k.tape, k.output, k.size, fun i hi _ => k.block i hi⟩
theorem Fr.grown {S : Nat → Prop} {a w w' : World} {row : Option Nat} (h : Fr S a w) (hg : w.grownBy w' row) (hr : ∀ k, row = some k → S k ∨ a.heap.size ≤ k) : Fr S a w' :=
  ⟨hg.os.trans h.os, hg.tape.trans h.tape, hg.output.trans h.output, Nat.le_trans h.size hg.size, fun k hk hn => by
    rw [hg.block k (Nat.lt_of_lt_of_le hk h.size) (fun e => by rcases hr k e.symm with h1 | h1; exact hn h1; omega)]
    exact h.block k hk hn⟩

theorem Fr.toB {a b : World} (h : Fr (fun _ => False) a b) : Below a.heap.size a b := h.toBelow _ (Nat.le_refl _) (fun _ _ h => h)
theorem RepF.fr {S : Nat → Prop} {w w' : World} {b : Nat} {f : Nat → Value} (h : RepF w b f) (hf : Fr S w w') (hS : ¬ S b) : RepF w' b f :=
  h.of_heap (hf.block b h.lt hS)
theorem fcell {W w1 : World} (hb : Fr (fun _ => False) W w1) : (∀ b o, b < W.heap.size → w1.cell? ⟨b, o, none⟩ = W.cell? ⟨b, o, none⟩) ∧ (∀ b o, b < W.heap.size → w1.frozen? ⟨b, o, none⟩ = W.frozen? ⟨b, o, none⟩) :=
  ⟨fun b o h => hb.toB.cell (p := ⟨b, o, none⟩) h, fun b o h => hb.toB.frozen (p := ⟨b, o, none⟩) h⟩
theorem Fr.ends {S : Nat → Prop} {a w w1 : World} (h : Fr S a w) (k : Fr (fun _ => False) w w1) : Fr S a w1 := h.below k.toB
theorem bcell {W w1 : World} (hb : Below W.heap.size W w1) : (∀ b o, b < W.heap.size → w1.cell? ⟨b, o, none⟩ = W.cell? ⟨b, o, none⟩) ∧ (∀ b o, b < W.heap.size → w1.frozen? ⟨b, o, none⟩ = W.frozen? ⟨b, o, none⟩) :=
  ⟨fun b o h => hb.cell (p := ⟨b, o, none⟩) h, fun b o h => hb.frozen (p := ⟨b, o, none⟩) h⟩

-- the machine's cells by name
section
variable {L : Lay} {m : Mac}
theorem mcell_reg (s j : Nat) (hs : s < 11) (hj : j < 4) : mcell L m (423 + s * 4 + j) = (m.reg s).cell j := by
  unfold mcell
  rw [if_neg (by omega), if_neg (by omega), if_neg (by omega), if_neg (by omega), if_neg (by omega), if_neg (by omega), if_pos (by omega)]
  rw [show (423 + s * 4 + j - 423) / 4 = s by omega, show (423 + s * 4 + j - 423) % 4 = j by omega]
theorem mcell_slot (q j : Nat) (hq : q < 32) (hj : j < 13) : mcell L m (q * 13 + j) = slotCell m q j := by
  unfold mcell
  rw [if_pos (by omega)]
  rw [show (q * 13 + j) / 13 = q by omega, show (q * 13 + j) % 13 = j by omega]
end

/-- the cells of a register -/
theorem RepF.reg {w : World} {b : Nat} {L : Lay} {m : Mac} (h : RepF w b (mcell L m)) (s : Nat) (hs : s < 11) :
    w.cell? ⟨b, 423 + s * 4, none⟩ = some (.int .i64 (m.reg s).k) ∧ w.cell? ⟨b, 423 + s * 4 + 1, none⟩ = some (.int .i64 (m.reg s).t) ∧
    w.cell? ⟨b, 423 + s * 4 + 2, none⟩ = some (.int .i64 (m.reg s).r) ∧ w.cell? ⟨b, 423 + s * 4 + 3, none⟩ = some (.int .i64 (m.reg s).x) := by
  refine ⟨?_, ?_, ?_, ?_⟩
  · rw [h.cell _ (by omega), ← Nat.add_zero (423 + s * 4), mcell_reg s 0 hs (by omega)]; rfl
  · rw [h.cell _ (by omega), mcell_reg s 1 hs (by omega)]; rfl
  · rw [h.cell _ (by omega), mcell_reg s 2 hs (by omega)]; rfl
  · rw [h.cell _ (by omega), mcell_reg s 3 hs (by omega)]; rfl

def Mac.setReg (m : Mac) (d : Nat) (v : Val) : Mac := { m with reg := fun i => if i = d then v else m.reg i }

theorem upd_reg (L : Lay) (m : Mac) (d : Nat) (hd : d < 11) (v : Val) :
    ∀ i, i < 471 → upd (upd (upd (upd (mcell L m) (423 + d * 4) (v.cell 0)) (423 + d * 4 + 1) (v.cell 1)) (423 + d * 4 + 2) (v.cell 2)) (423 + d * 4 + 3) (v.cell 3) i = mcell L (m.setReg d v) i := by
  intro i hi
  by_cases hr : 423 ≤ i ∧ i < 467
  · obtain ⟨s, j, hs, hj, rfl⟩ : ∃ s j, s < 11 ∧ j < 4 ∧ i = 423 + s * 4 + j := ⟨(i - 423) / 4, (i - 423) % 4, by omega, by omega, by omega⟩
    rw [mcell_reg s j hs hj]
    by_cases e : s = d
    · subst e
      have : j = 0 ∨ j = 1 ∨ j = 2 ∨ j = 3 := by omega
      rcases this with rfl | rfl | rfl | rfl <;> simp [upd, Mac.setReg]
    · have h0 : 423 + s * 4 + j ≠ 423 + d * 4 := by omega
      have h1 : 423 + s * 4 + j ≠ 423 + d * 4 + 1 := by omega
      have h2 : 423 + s * 4 + j ≠ 423 + d * 4 + 2 := by omega
      have h3 : 423 + s * 4 + j ≠ 423 + d * 4 + 3 := by omega
      simp only [upd, if_neg h0, if_neg h1, if_neg h2, if_neg h3, Mac.setReg, if_neg e]
      exact mcell_reg s j hs hj
  · have h0 : i ≠ 423 + d * 4 := by omega
    have h1 : i ≠ 423 + d * 4 + 1 := by omega
    have h2 : i ≠ 423 + d * 4 + 2 := by omega
    have h3 : i ≠ 423 + d * 4 + 3 := by omega
    simp only [upd, if_neg h0, if_neg h1, if_neg h2, if_neg h3]
    unfold mcell
    by_cases hlt : i < 416
    · simp only [if_pos hlt]; rfl
    · have : ¬ i < 467 ∨ i < 423 := by omega
      rcases this with h | h
      · simp only [if_neg hlt, if_neg h, Mac.setReg]
      · by_cases h4 : i = 416
        · simp [h4]
        · by_cases h5 : i < 420
          · simp [hlt, h4, h5]
          · have : i = 420 ∨ i = 421 ∨ i = 422 := by omega
            rcases this with rfl | rfl | rfl <;> simp

theorem RepF.setReg {w : World} {b : Nat} {L : Lay} {m : Mac} (h : RepF w b (mcell L m)) (d : Nat) (hd : d < 11) (v : Val) :
    RepF ((((w.setCell ⟨b, 423 + d * 4, none⟩ (.int .i64 v.k)).setCell ⟨b, 423 + d * 4 + 1, none⟩ (.int .i64 v.t)).setCell ⟨b, 423 + d * 4 + 2, none⟩ (.int .i64 v.r)).setCell ⟨b, 423 + d * 4 + 3, none⟩ (.int .i64 v.x)) b (mcell L (m.setReg d v)) :=
  ((((h.setCell _ _).setCell _ _).setCell _ _).setCell _ _).congr (upd_reg L m d hd v)

end Go.Proofs.YtkhbjhmhdlmmfaaGreat
