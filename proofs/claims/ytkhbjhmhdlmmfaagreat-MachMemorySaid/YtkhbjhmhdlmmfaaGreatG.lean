/- Walks: Get, and what memory's methods do. -/
import Derived.Test.YtkhbjhmhdlmmfaaGreatF
import Derived.Test.YtkhbjhmhdlmmfaaGreatA
namespace Go.Proofs.YtkhbjhmhdlmmfaaGreat
open Go.RowKit

/-- the bytes x 0 .. x (k-1), put together as the loop of Get does it -/
def accF (x : Nat → Int) : Nat → Int
  | 0 => 0
  | k + 1 => bits BinOp.or IntKind.u64 (accF x k) (IntKind.u64.wrap (IntKind.u64.wrap (x k) * 2 ^ (8 * k)))

def getF (sg : Bool) (x : Nat → Int) (n : Nat) : Int :=
  if sg then wrap64 (IntKind.u64.wrap (accF x n * 2 ^ (64 - 8 * n))) / 2 ^ (64 - 8 * n) else wrap64 (accF x n)

set_option maxRecDepth 100000 in
set_option maxHeartbeats 400000 in
theorem get_uns (b off n c : Nat) (x : Nat → Int) (w : World) (h1 : 1 ≤ n) (h8 : n ≤ 8) (hx : ∀ j, j < n → w.cell? ⟨b, off + j, none⟩ = some (.int .u8 (x j))) :
    Calls Tryz.prog 11 #[.slice (some ⟨b, off, none⟩) n c, .bool false] w fun e w' => e = .returned (.int .i64 (getF false x n)) ∧ w = w' := by
  go_enter Tryz.func11, Tryz.ntmps11
  go_wp2
  go_loop [5, 6, 7, 19] (fun v _ _ i => ∃ k : Nat, k ≤ n ∧ i = .int .i64 k ∧ v = .int .u64 (accF x k)) (fun _ _ _ i => n - (intOf i).toNat)
  case atStart => exact ⟨0, by omega, rfl, rfl⟩
  case round =>
    obtain ⟨k, hk, rfl, rfl⟩ := hrel
    have Hx := Lib.hid hx
    clear hx
    by_cases hlt : k < n
    · have hcell := Hx.out k hlt
      go_wp2
      exact ⟨⟨k + 1, by omega, by go_num, rfl⟩, by simp [intOf]; omega⟩
    · have : k = n := by omega
      subst this
      go_wp2
      go_ret
      exact ⟨rfl, rfl⟩

set_option maxRecDepth 100000 in
set_option maxHeartbeats 400000 in
theorem get_sig (b off n c : Nat) (x : Nat → Int) (w : World) (h1 : 1 ≤ n) (h8 : n ≤ 8) (hx : ∀ j, j < n → w.cell? ⟨b, off + j, none⟩ = some (.int .u8 (x j))) :
    Calls Tryz.prog 11 #[.slice (some ⟨b, off, none⟩) n c, .bool true] w fun e w' => e = .returned (.int .i64 (getF true x n)) ∧ w = w' := by
  go_enter Tryz.func11, Tryz.ntmps11
  go_wp2
  go_loop [5, 6, 7, 19] (fun v _ _ i => ∃ k : Nat, k ≤ n ∧ i = .int .i64 k ∧ v = .int .u64 (accF x k)) (fun _ _ _ i => n - (intOf i).toNat)
  case atStart => exact ⟨0, by omega, rfl, rfl⟩
  case round =>
    obtain ⟨k, hk, rfl, rfl⟩ := hrel
    have Hx := Lib.hid hx
    clear hx
    by_cases hlt : k < n
    · have hcell := Hx.out k hlt
      go_wp2
      exact ⟨⟨k + 1, by omega, by go_num, rfl⟩, by simp [intOf]; omega⟩
    · have : k = n := by omega
      subst this
      go_wp2
      go_ret
      exact ⟨rfl, rfl⟩

theorem get_any (sg : Bool) (b off n c : Nat) (x : Nat → Int) (w : World) (h1 : 1 ≤ n) (h8 : n ≤ 8) (hx : ∀ j, j < n → w.cell? ⟨b, off + j, none⟩ = some (.int .u8 (x j))) :
    Calls Tryz.prog 11 #[.slice (some ⟨b, off, none⟩) n c, .bool sg] w fun e w' => e = .returned (.int .i64 (getF sg x n)) ∧ w = w' := by
  cases sg
  · exact get_uns b off n c x w h1 h8 hx
  · exact get_sig b off n c x w h1 h8 hx

def rdArr (n : Nat) (x : Nat → Int) (k : Nat) : Array Value := ((List.range n).map fun i => .int .u8 (if i < k then x i else 0)).toArray
theorem rdArr_get (n : Nat) (x : Nat → Int) (k i : Nat) (h : i < n) : (rdArr n x k)[i]? = some (.int .u8 (if i < k then x i else 0)) := by
  simp [rdArr, h]
theorem rdArr_set (n : Nat) (x : Nat → Int) (k : Nat) : (rdArr n x k).setIfInBounds k (.int .u8 (x k)) = rdArr n x (k + 1) := by
  apply Array.ext_getElem?
  intro i
  by_cases e : i = k
  · subst e
    rw [Array.getElem?_setIfInBounds_self]
    by_cases hi : i < n
    · rw [rdArr_get n x (i + 1) i hi, if_pos (by simpa [rdArr] using hi), if_pos (by omega)]
    · simp [rdArr, hi]
  · rw [Array.getElem?_setIfInBounds_ne (by omega)]
    by_cases hi : i < n
    · rw [rdArr_get n x k i hi, rdArr_get n x (k + 1) i hi]
      by_cases h : i < k
      · rw [if_pos h, if_pos (by omega)]
      · rw [if_neg h, if_neg (by omega)]
    · simp [rdArr, hi]
theorem rdArr_made (n : Nat) (x : Nat → Int) : madeCells (Value.int .u8 0).cells n = rdArr n x 0 := by
  apply Array.ext_getElem?
  intro i
  by_cases hi : i < n
  · rw [rdArr_get n x 0 i hi]; simp [madeCells, Value.cells, hi, Nat.mod_one]
  · simp [rdArr, madeCells, Value.cells, hi]

/-- a byte of the stack -/
theorem RepF.byte {w : World} {b : Nat} {L : Lay} {m : Mac} (h : RepF w b (mcell L m)) (q r : Nat) (hq : q < 32) (hr : r < 8) :
    w.cell? ⟨b, q * 13 + 4 + r, none⟩ = some (.int .u8 (m.byte (8 * q + r))) := by
  rw [h.cell _ (by omega), Nat.add_assoc, mcell_slot q (4 + r) hq (by omega)]
  unfold slotCell
  rw [if_neg (by omega), if_pos (by omega), show 4 + r - 4 = r by omega]

theorem RepF.byteAt {w : World} {b : Nat} {L : Lay} {m : Mac} (h : RepF w b (mcell L m)) (p : Nat) (hp : p < 256) :
    w.cell? ⟨b, p / 8 * 13 + 4 + p % 8, none⟩ = some (.int .u8 (m.byte p)) := by
  rw [h.byte (p / 8) (p % 8) (by omega) (by omega), Nat.div_add_mod]
theorem RepF.maskAt {w : World} {b : Nat} {L : Lay} {m : Mac} (h : RepF w b (mcell L m)) (q : Nat) (hq : q < 32) :
    w.cell? ⟨b, q * 13 + 12, none⟩ = some (.int .i64 (maskOf m.wr q)) := by
  rw [h.cell _ (by omega), mcell_slot q 12 hq (by omega)]; rfl
theorem RepF.ptrAt {w : World} {b : Nat} {L : Lay} {m : Mac} (h : RepF w b (mcell L m)) (q : Nat) (hq : q < 32) :
    w.cell? ⟨b, q * 13, none⟩ = some (.int .i64 (m.ptr q).k) ∧ w.cell? ⟨b, q * 13 + 1, none⟩ = some (.int .i64 (m.ptr q).t) ∧ w.cell? ⟨b, q * 13 + 2, none⟩ = some (.int .i64 (m.ptr q).r) ∧ w.cell? ⟨b, q * 13 + 3, none⟩ = some (.int .i64 (m.ptr q).x) := by
  refine ⟨?_, ?_, ?_, ?_⟩
  · have := mcell_slot (L := L) (m := m) q 0 hq (by omega)
    rw [Nat.add_zero] at this
    rw [h.cell _ (by omega), this]; rfl
  · rw [h.cell _ (by omega), mcell_slot q 1 hq (by omega)]; rfl
  · rw [h.cell _ (by omega), mcell_slot q 2 hq (by omega)]; rfl
  · rw [h.cell _ (by omega), mcell_slot q 3 hq (by omega)]; rfl

set_option maxRecDepth 100000 in
set_option maxHeartbeats 400000 in
theorem read_stack (b : Nat) (L : Lay) (m : Mac) (w : World) (hR : RepF w b (mcell L m)) (t r x : Int) (a n : Nat) (h : a + n ≤ 256) :
    Calls Tryz.prog 84 #[.pointer (some ⟨b, 0, none⟩), .agg #[.int .i64 2, .int .i64 t, .int .i64 r, .int .i64 x], .int .i64 a, .int .i64 n] w fun e w' =>
      e = .returned (.slice (some ⟨w.heap.size + 1, 0, none⟩) n n) ∧ (w.alloc (.cells #[.int .i64 2, .int .i64 t, .int .i64 r, .int .i64 x] 64)).alloc (.cells (rdArr n (fun j => m.byte (a + j)) n) 5) = w' := by
  obtain ⟨i0, hi, hz0, hz1, hz2⟩ := info_parts Tryz.info5
  have hm := fun w => run_make (P := Tryz.prog) w 22 5 i0 _ Tryz.underlying22 hi hz0 .i64 .i64 n n (by omega) (by omega) (by rw [hz2]; omega) (by omega)
  simp only [hz1, Nat.mul_one, Int.toNat_natCast, rdArr_made n (fun j => m.byte (a + j))] at hm
  have H := Lib.hid hR
  have hb := hR.lt
  clear hi hz0 hz1 hz2 hR
  go_enter Tryz.func84, Tryz.ntmps84
  go_wp2
  go_loopw [10, 24] (fun _ i wr => ∃ k : Nat, k ≤ n ∧ i = .int .i64 k ∧ wr = (w.alloc (.cells #[.int .i64 2, .int .i64 t, .int .i64 r, .int .i64 x] 64)).alloc (.cells (rdArr n (fun j => m.byte (a + j)) k) 5)) (fun _ i _ => n - (intOf i).toNat)
  case atStart => exact ⟨0, by omega, rfl, rfl⟩
  case round =>
    obtain ⟨k, hk, rfl, rfl⟩ := hrel
    by_cases hlt : k < n
    · have hget := rdArr_get n (fun j => m.byte (a + j)) k k hlt
      have HS := Lib.hid (rdArr_set n (fun j => m.byte (a + j)) k)
      have hcell := H.out.byteAt (a + k) (by omega)
      go_wp2
      refine ⟨⟨k + 1, by omega, by go_num, ?_⟩, by simp [intOf]; omega⟩
      rw [← HS.out]
    · have : k = n := by omega
      subst this
      go_wp2
      go_ret
      exact ⟨rfl, rfl⟩

def rdM (m : Mac) (a k : Nat) : Int := if (List.range k).all (fun i => m.wr (a + i)) then 0 else 82
/-- what reading n bytes of the stack from a on has against it -/
def rdE (m : Mac) (a n : Nat) : Int :=
  if (List.range n).any (fun i => (m.ptr ((a + i) / 8)).k != 0) then 80 else rdM m a n

theorem rdM_wr (m : Mac) (a k : Nat) (h : m.wr (a + k) = true) : rdM m a (k + 1) = rdM m a k := by
  unfold rdM
  rw [List.range_succ, List.all_append]
  simp [h]
theorem rdM_un (m : Mac) (a k : Nat) (h : m.wr (a + k) = false) : rdM m a (k + 1) = 82 := by
  unfold rdM
  rw [List.range_succ, List.all_append]
  simp [h]
theorem rdE_ptr (m : Mac) (a n k : Nat) (hk : k < n) (h : (m.ptr ((a + k) / 8)).k ≠ 0) : rdE m a n = 80 := by
  unfold rdE
  rw [if_pos]
  simp only [List.any_eq_true, List.mem_range]
  exact ⟨k, hk, by simpa using h⟩
theorem rdE_free (m : Mac) (a n : Nat) (h : ∀ i, i < n → (m.ptr ((a + i) / 8)).k = 0) : rdE m a n = rdM m a n := by
  unfold rdE
  rw [if_neg]
  simp only [List.any_eq_true, List.mem_range]
  rintro ⟨i, hi, hq⟩
  simp [h i hi] at hq

theorem bit_closed : ∀ (b0 b1 b2 b3 b4 b5 b6 b7 : Bool) (r : Fin 8),
    (bits BinOp.and IntKind.i64 ((b2i b0 1 + b2i b1 2 + b2i b2 4 + b2i b3 8 + b2i b4 16 + b2i b5 32 + b2i b6 64 + b2i b7 128) / 2 ^ r.val) 1 == 0) = !(match r with | 0 => b0 | 1 => b1 | 2 => b2 | 3 => b3 | 4 => b4 | 5 => b5 | 6 => b6 | 7 => b7) := by
  decide +kernel

theorem bit_mask (wr : Nat → Bool) (q r : Nat) (hr : r < 8) : (bits BinOp.and IntKind.i64 (maskOf wr q / 2 ^ r) 1 == 0) = !wr (8 * q + r) := by
  have h := bit_closed (wr (8 * q)) (wr (8 * q + 1)) (wr (8 * q + 2)) (wr (8 * q + 3)) (wr (8 * q + 4)) (wr (8 * q + 5)) (wr (8 * q + 6)) (wr (8 * q + 7)) ⟨r, hr⟩
  unfold maskOf
  rw [h]
  have : r = 0 ∨ r = 1 ∨ r = 2 ∨ r = 3 ∨ r = 4 ∨ r = 5 ∨ r = 6 ∨ r = 7 := by omega
  rcases this with rfl | rfl | rfl | rfl | rfl | rfl | rfl | rfl <;> rfl
theorem bit_mask_at (wr : Nat → Bool) (p : Nat) : (bits BinOp.and IntKind.i64 (maskOf wr (p / 8) / 2 ^ (p % 8)) 1 == 0) = !wr p := by
  rw [bit_mask wr (p / 8) (p % 8) (by omega), Nat.div_add_mod]

set_option maxRecDepth 100000 in
set_option maxHeartbeats 400000 in
theorem readable_stack (b : Nat) (L : Lay) (m : Mac) (w : World) (hR : RepF w b (mcell L m)) (t r x : Int) (a n : Nat) (h : a + n ≤ 256) (hn : ((n : Int) == 0) = false) :
    Calls Tryz.prog 64 #[.pointer (some ⟨b, 0, none⟩), .agg #[.int .i64 2, .int .i64 t, .int .i64 r, .int .i64 x], .int .i64 a, .int .i64 n] w fun e w' =>
      e = .returned (.int .i64 (rdE m a n)) ∧ w.alloc (.cells #[.int .i64 2, .int .i64 t, .int .i64 r, .int .i64 x] 64) = w' := by
  have H := Lib.hid hR
  have hb := hR.lt
  clear hR
  go_enter Tryz.func64, Tryz.ntmps64
  go_wp2
  go_loop [9, 10, 11] (fun e i _ => ∃ k : Nat, k ≤ n ∧ i = .int .i64 ((a + k : Nat) : Int) ∧ (∀ i, i < k → (m.ptr ((a + i) / 8)).k = 0) ∧ e = .int .i64 (rdM m a k)) (fun _ i _ => a + n - (intOf i).toNat)
  case atStart => exact ⟨0, by omega, rfl, by omega, rfl⟩
  case round =>
    obtain ⟨k, hk, rfl, hnp, rfl⟩ := hrel
    have Hnp := Lib.hid hnp
    clear hnp
    by_cases hlt : k < n
    · have Hp := Lib.hid (H.out.ptrAt ((a + k) / 8) (by omega))
      have Hm := Lib.hid (H.out.maskAt ((a + k) / 8) (by omega))
      obtain ⟨h0, _⟩ := Hp.out
      have hmk := Hm.out
      by_cases hz : (m.ptr ((a + k) / 8)).k = 0
      · have Hz := Lib.hid hz
        rw [hz] at h0
        clear hz
        by_cases hwr : m.wr (a + k) = true
        · have hbit := bit_mask_at m.wr (a + k)
          rw [hwr] at hbit
          have HM := Lib.hid (rdM_wr m a k hwr)
          clear hwr
          go_wp2
          refine ⟨⟨k + 1, by omega, by go_num, fun i hi => ?_, by rw [HM.out]⟩, by simp [intOf]; omega⟩
          rcases Nat.lt_succ_iff_lt_or_eq.1 hi with hi | rfl
          · exact Hnp.out i hi
          · exact Hz.out
        · have hwr' : m.wr (a + k) = false := by simpa using hwr
          have hbit := bit_mask_at m.wr (a + k)
          rw [hwr'] at hbit
          have HM := Lib.hid (rdM_un m a k hwr')
          clear hwr hwr'
          go_wp2
          refine ⟨⟨k + 1, by omega, by go_num, fun i hi => ?_, by rw [HM.out]⟩, by simp [intOf]; omega⟩
          rcases Nat.lt_succ_iff_lt_or_eq.1 hi with hi | rfl
          · exact Hnp.out i hi
          · exact Hz.out
      · have hz' : ((m.ptr ((a + k) / 8)).k != 0) = true := by simpa using hz
        have HE := Lib.hid (rdE_ptr m a n k hlt hz)
        clear hz
        go_wp2
        go_ret
        exact ⟨by rw [HE.out]; rfl, rfl⟩
    · have : k = n := by omega
      subst this
      have HE := Lib.hid (rdE_free m a k Hnp.out)
      go_wp2
      go_ret
      exact ⟨by rw [HE.out]; rfl, rfl⟩

end Go.Proofs.YtkhbjhmhdlmmfaaGreat
