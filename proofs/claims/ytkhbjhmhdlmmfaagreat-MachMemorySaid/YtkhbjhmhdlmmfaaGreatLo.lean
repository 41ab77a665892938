/- The law on pointers: what its walk needs: masks, rows, appends. -/
import Derived.Test.YtkhbjhmhdlmmfaaGreatYb
import Derived.Deep.DeepCutAuto
namespace Go.Proofs.YtkhbjhmhdlmmfaaGreat
open Go.RowKit

theorem i64_mask (n : Int) (i : Nat) (hi : i ≤ 62) : bits .and .i64 n (2 ^ i - 1) = n % 2 ^ i := by
  have hp : (2 : Int) ^ i = ((2 ^ i : Nat) : Int) := by simp
  have hle : 2 ^ i ≤ 2 ^ 62 := Nat.pow_le_pow_right (by decide) hi
  have hpos : 0 < 2 ^ i := Nat.pow_pos (by decide)
  have h1 : (BitVec.ofInt 64 (2 ^ i - 1)).toNat = 2 ^ i - 1 := by
    rw [BitVec.toNat_ofInt, hp]
    have : ((2 ^ i : Nat) : Int) - 1 = ((2 ^ i - 1 : Nat) : Int) := by omega
    rw [this]
    omega
  have key : (BitVec.ofInt 64 n &&& BitVec.ofInt 64 (2 ^ i - 1)).toNat = (n % ((2 ^ 64 : Nat) : Int)).toNat % 2 ^ i := by
    rw [BitVec.toNat_and, BitVec.toNat_ofInt, h1, Nat.and_two_pow_sub_one_eq_mod]
  show IntKind.i64.wrap ((BitVec.ofInt 64 n &&& BitVec.ofInt 64 (2 ^ i - 1)).toNat : Nat) = n % 2 ^ i
  rw [key, hp]
  have h64 : (2 ^ 64 : Nat) = 2 ^ i * 2 ^ (64 - i) := by rw [← Nat.pow_add]; congr 1; omega
  have e1 : (((n % ((2 ^ 64 : Nat) : Int)).toNat % 2 ^ i : Nat) : Int) = n % ((2 ^ i : Nat) : Int) := by
    rw [Int.natCast_emod, Int.toNat_of_nonneg (Int.emod_nonneg _ (by decide)), h64, Int.natCast_mul]
    exact Int.emod_emod_of_dvd n ⟨_, rfl⟩
  rw [e1]
  have hb := Int.emod_lt_of_pos n (show (0 : Int) < ((2 ^ i : Nat) : Int) by omega)
  have hb0 := Int.emod_nonneg n (show ((2 ^ i : Nat) : Int) ≠ 0 by omega)
  rw [IntKind.wrap_i64]
  omega
theorem mask_nat (n : Int) (i : Nat) (hi : i ≤ 62) : ∃ k : Nat, k < 2 ^ i ∧ bits .and .i64 n (2 ^ i - 1) = (k : Int) := by
  have h := i64_mask n i hi
  have hp : (2 : Int) ^ i = ((2 ^ i : Nat) : Int) := by simp
  have hpos : 0 < 2 ^ i := Nat.pow_pos (by decide)
  have hb := Int.emod_lt_of_pos n (show (0 : Int) < ((2 ^ i : Nat) : Int) by omega)
  have hb0 := Int.emod_nonneg n (show ((2 ^ i : Nat) : Int) ≠ 0 by omega)
  exact ⟨(n % 2 ^ i).toNat, by rw [hp]; omega, by rw [h, hp]; omega⟩

theorem ix0 (w : World) : (Instr.index 41 (.agg #[.int .i64 1, .int .i64 10, .int .i64 4]) (.int .i64 0)).run Tryz.prog w = .ok (.int .i64 1) w := by kernel_rfl
theorem ix1 (w : World) : (Instr.index 41 (.agg #[.int .i64 1, .int .i64 10, .int .i64 4]) (.int .i64 1)).run Tryz.prog w = .ok (.int .i64 10) w := by kernel_rfl
theorem ix2 (w : World) : (Instr.index 41 (.agg #[.int .i64 1, .int .i64 10, .int .i64 4]) (.int .i64 2)).run Tryz.prog w = .ok (.int .i64 4) w := by kernel_rfl

theorem row_news {w : World} {arr : Array Value} {c : Nat → Ins} {n : Nat} (h : codeL c n = arr.toList) : ∀ j u, (codeL c n)[j]? = some u → (w.alloc (.cells arr 25)).cell? ((⟨w.heap.size, 0, none⟩ : Addr).add j) = some u := codeAt_news (row_lit w c n arr h).2

theorem CodeRow.congr {w : World} {g n : Nat} {c d : Nat → Ins} (h : CodeRow w g n c) (hcd : ∀ k, k < n → c k = d k) : CodeRow w g n d := ⟨h.1, h.2.congr hcd⟩
/-- what an append to an owned row of instructions leaves -/
theorem append_done {w w1 w2 : World} {base m n k : Nat} {v v' : Value} {c d : Nat → Ins} {o : Obj} (hF1 : Fr (fun _ => False) w w1) (hb : w.heap.size ≤ base) (ho1 : w1.ownsRow base 25 8 v n (codeL c n)) (ho2 : w2.ownsRow base 25 8 v' (n + k) (codeL c n ++ codeL d k)) (hg : (w1.alloc o).grownBy w2 v.ownBlock)
    (hn : 1 ≤ n) (hm : n + k = m) (e : Nat → Ins) (he : ∀ x, x < m → joinC c d n x = e x) :
    ∃ g cap, v' = .slice (some ⟨g, 0, none⟩) m cap ∧ base ≤ g ∧ CodeRow w2 g m e ∧ Fr (fun _ => False) w w2 ∧ Fr (fun x => base ≤ x) w1 w2 := by
  subst hm
  rw [codeL_join] at ho2
  obtain ⟨g, cap, rfl, h1, h2⟩ := owns_row ho2 (by omega)
  have hr := fun q hq => (ho1.lt q hq).1
  exact ⟨g, cap, rfl, h1, h2.congr he, (hF1.alloc _).grown hg (fun q hq => .inr (Nat.le_trans hb (hr q hq))), ((Fr.refl (fun x => base ≤ x) w1).alloc _).grown hg (fun q hq => .inl (hr q hq))⟩

theorem rowAt_one (w : World) : RowAt (w.alloc (.cells #[.int .u8 1] 5)) (.slice (some ⟨w.heap.size, 0, none⟩) 1 1) 1 (bytesL (fun _ => 1) 1) := by
  refine .inr ⟨_, _, rfl, one_cell ?_⟩
  unfold World.cell?
  rw [heap_alloc_new]
  simp
theorem rowAt_nil (w : World) (f : Nat → Int) : RowAt w (.slice none 0 0) 0 (bytesL f 0) := .inl ⟨rfl, rfl, rfl⟩

theorem rowAt_made (w : World) (n : Nat) : RowAt (w.alloc (.cells (putArr n 0 0) 5)) (.slice (some ⟨w.heap.size, 0, none⟩) n n) n (bytesL (fun _ => 0) n) := by
  refine .inr ⟨_, _, rfl, fun j u hu => ?_⟩
  have hj : j < n := by simpa [bytesL] using (List.getElem?_eq_some_iff.1 hu).1
  rw [bytesL_get _ n j hj] at hu
  cases hu
  rw [Addr.add_lit, Nat.zero_add]
  unfold World.cell?
  rw [heap_alloc_new]
  have := putArr_get n 0 0 j hj
  simp at this
  simp [this]
theorem make_bytes (n : Nat) (hn : (n : Int) ≤ 1000000) (w : World) : (Instr.makeSlice 22 (.int .i64 n) (.int .i64 n)).run Tryz.prog w = .ok (.slice (some ⟨w.heap.size, 0, none⟩) n n) (w.alloc (.cells (putArr n 0 0) 5)) := by
  obtain ⟨i0, hi, hz0, hz1, hz2⟩ := info_parts Tryz.info5
  have hm := run_make (P := Tryz.prog) w 22 5 i0 _ Tryz.underlying22 hi hz0 .i64 .i64 n n (by omega) (by omega) (by rw [hz2]; omega) (by omega)
  rw [hz1, Nat.mul_one, Int.toNat_natCast, putArr_made n 0] at hm
  exact hm

def row3 (off dd : Int) (r : Nat) : Nat → Ins := codeOf [⟨15, false, true, 0, 4, 10, 0, 0⟩, ⟨1, false, false, 0, 4, 0, 0, -dd⟩, ⟨24, false, true, 8, 10, r, off, 0⟩]


theorem setIns_size (w : World) (g k : Nat) (i : Ins) : (setIns w g k i).heap.size = w.heap.size := by simp [setIns, World.setCell]
theorem rowAt_new (w : World) (n : Nat) {k : Nat} (h : w.heap.size = k) : RowAt (w.alloc (.cells (putArr n 0 0) 5)) (.slice (some ⟨k, 0, none⟩) n n) n (bytesL (fun _ => 0) n) := by
  subst h; exact rowAt_made w n
def dropSeq : Nat → Code → Code
  | 0, c => c
  | n + 1, .seq _ b => dropSeq n b
  | _, c => c
/-- the law's text without its first n statements -/
noncomputable def tailP (n : Nat) : Code := dropSeq n (Tryz.f5.body.getD .skip)
noncomputable def headP (n : Nat) : Code := match tailP n with
  | .seq a _ => a
  | c => c
def PostP (w : World) (e : Ending) (w' : World) : Prop := e = .returned (.bool true) ∧ Fr (fun _ => False) w w'

end Go.Proofs.YtkhbjhmhdlmmfaaGreat
