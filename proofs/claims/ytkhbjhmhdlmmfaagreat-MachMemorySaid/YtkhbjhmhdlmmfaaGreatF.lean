/- Walks: Put, Get, Clone. -/
import Derived.Test.YtkhbjhmhdlmmfaaGreatM
import Derived.Deep.RegionHeld3
namespace Go.Proofs.YtkhbjhmhdlmmfaaGreat
open Go.RowKit

theorem Tryz.info5 : (Tryz.prog.info? 5).map (fun i => (i.zero, i.size, i.bytes)) = some (some (.int .u8 0), 1, 1) := by kernel_rfl

def byteOf (v : Int) (i : Nat) : Int := v / 2 ^ (8 * i) % 256
def putArr (n : Nat) (v : Int) (k : Nat) : Array Value := ((List.range n).map fun i => .int .u8 (if i < k then byteOf v i else 0)).toArray

theorem putArr_get (n : Nat) (v : Int) (k i : Nat) (h : i < n) : (putArr n v k)[i]? = some (.int .u8 (if i < k then byteOf v i else 0)) := by
  simp [putArr, h]
theorem putArr_set (n : Nat) (v : Int) (k : Nat) : (putArr n v k).setIfInBounds k (.int .u8 (byteOf v k)) = putArr n v (k + 1) := by
  apply Array.ext_getElem?
  intro i
  by_cases e : i = k
  · subst e
    rw [Array.getElem?_setIfInBounds_self]
    by_cases hi : i < n
    · rw [putArr_get n v (i + 1) i hi, if_pos (by simpa [putArr] using hi), if_pos (by omega)]
    · simp [putArr, hi]
  · rw [Array.getElem?_setIfInBounds_ne (by omega)]
    by_cases hi : i < n
    · rw [putArr_get n v k i hi, putArr_get n v (k + 1) i hi]
      by_cases h : i < k
      · rw [if_pos h, if_pos (by omega)]
      · rw [if_neg h, if_neg (by omega)]
    · simp [putArr, hi]
theorem putArr_made (n : Nat) (v : Int) : madeCells (Value.int .u8 0).cells n = putArr n v 0 := by
  apply Array.ext_getElem?
  intro i
  by_cases hi : i < n
  · rw [putArr_get n v 0 i hi]; simp [madeCells, Value.cells, hi, Nat.mod_one]
  · simp [putArr, madeCells, Value.cells, hi]

set_option maxRecDepth 100000 in
set_option maxHeartbeats 400000 in
theorem put_any (n : Nat) (v : Int) (w : World) (h1 : (1 : Int) ≤ n) (h8 : (n : Int) ≤ 8) :
    Calls Tryz.prog 10 #[.int .i64 n, .int .i64 v] w fun e w' => e = .returned (.slice (some ⟨w.heap.size, 0, none⟩) n n) ∧ w.alloc (.cells (putArr n v n) 5) = w' := by
  obtain ⟨i0, hi, hz0, hz1, hz2⟩ := info_parts Tryz.info5
  have hm := run_make (P := Tryz.prog) w 22 5 i0 _ Tryz.underlying22 hi hz0 .i64 .i64 n n (by omega) (by omega) (by rw [hz2]; omega) (by omega)
  rw [hz1, Nat.mul_one, Int.toNat_natCast, putArr_made n v] at hm
  clear hi hz0 hz1 hz2
  go_enter Tryz.func10, Tryz.ntmps10
  go_wp2
  go_loopw [6, 17] (fun _ i wr => ∃ k : Nat, k ≤ n ∧ i = .int .i64 k ∧ wr = w.alloc (.cells (putArr n v k) 5)) (fun _ i _ => n - (intOf i).toNat)
  case atStart => exact ⟨0, by omega, rfl, rfl⟩
  case round =>
    obtain ⟨k, hk, rfl, rfl⟩ := hrel
    by_cases hlt : k < n
    · have hget := putArr_get n v k k hlt
      have hset := putArr_set n v k
      have HS := Lib.hid hset
      clear hset
      go_wp2
      refine ⟨⟨k + 1, by omega, by go_num, ?_⟩, by simp [intOf]; omega⟩
      rw [← HS.out]; rfl
    · have : k = n := by omega
      subst this
      go_wp2
      go_ret
      exact ⟨rfl, rfl⟩

theorem news_alloc {w : World} {a : Addr} {xs : List Value} (h : ∀ j u, xs[j]? = some u → w.cell? (a.add j) = some u) (o : Obj) : ∀ j u, xs[j]? = some u → (w.alloc o).cell? (a.add j) = some u :=
  fun j u hu => by rw [World.cell?_alloc_some _ _ _ (by simp [h j u hu])]; exact h j u hu

set_option maxRecDepth 100000 in
set_option maxHeartbeats 400000 in
theorem clone_bytes (a : Addr) (n c : Nat) (xs : List Value) (w : World) (hl : xs.length = n) (hn : n ≤ 140737488351232) (hx : ∀ j u, xs[j]? = some u → w.cell? (a.add j) = some u) (h1 : ∀ u ∈ xs, u.oneCell' = true) :
    Calls Tryz.prog 27 #[.slice (some a) n c] w fun e w' => ∃ v, e = .returned v ∧ w'.ownsRow w.heap.size 5 1 v n xs ∧ Below w.heap.size w w' := by
  obtain ⟨i0, hi, hz0, hz1, hz2⟩ := info_parts Tryz.info5
  have hown := World.ownsRow_made (e := 5) (size := 1) w #[] 0 (Nat.le_refl _) (by simp [maxLen]) rfl
  have Hown := Lib.hid hown
  have Hn := Lib.hid hn
  have Hx := Lib.hid (news_alloc hx (.cells #[] 5))
  have H1 := Lib.hid h1
  have Hl := Lib.hid (show xs.length = n * 1 by omega)
  clear hn hx h1 hl hown
  have he := fun w => Lib.run_eql_slice_nil (P := Tryz.prog) w 22 5 (some a) n c 0 0 Tryz.underlying22
  go_enter Tryz.func27, Tryz.ntmps27
  go_wp2_with (at_builtin; go_must (refine wpList_append_own _ rfl _ _ 22 rfl w.heap.size 5 i0 (.int .u8 0) 1 1 Tryz.underlying22 hi hz0 hz1 hz2 rfl (by decide) _ _ _ rfl Hown.out a n c xs rfl Hl.out Hx.out H1.out (by have := Hn.out; unfold maxLen; omega) (by have := Hn.out; omega) (by simp) ?_; intro v' w1 hown1 hgrow hnil; (have Ho1 := Lib.hid hown1); (have Hg1 := Lib.hid hgrow); clear hown1 hgrow hnil))
  go_ret
  have ho := Ho1.out
  rw [Nat.zero_add, List.nil_append] at ho
  exact ⟨v', rfl, ho, ((Below.refl _ _).alloc (Nat.le_refl _) _).grown Hg1.out (by simp) (fun k hk => by cases hk; exact Nat.le_refl _)⟩

theorem Tryz.info3 : (Tryz.prog.info? 3).map (fun i => (i.zero, i.size, i.bytes)) = some (some (.int .i64 0), 1, 8) := by kernel_rfl
theorem Tryz.info25 : (Tryz.prog.info? 25).map (fun i => (i.zero, i.size, i.bytes)) = some (some (.agg #[.int .i64 0, .bool false, .bool false, .int .i64 0, .int .i64 0, .int .i64 0, .int .i64 0, .int .i64 0]), 8, 56) := by kernel_rfl

set_option maxRecDepth 100000 in
set_option maxHeartbeats 400000 in
theorem clone_ints (a : Addr) (n c : Nat) (xs : List Value) (w : World) (hl : xs.length = n * 1) (hn : n * 8 ≤ 140737488351232) (hx : ∀ j u, xs[j]? = some u → w.cell? (a.add j) = some u) (h1 : ∀ u ∈ xs, u.oneCell' = true) :
    Calls Tryz.prog 31 #[.slice (some a) n c] w fun e w' => ∃ v, e = .returned v ∧ w'.ownsRow w.heap.size 3 1 v n xs ∧ Below w.heap.size w w' := by
  obtain ⟨i0, hi, hz0, hz1, hz2⟩ := info_parts Tryz.info3
  have hown := World.ownsRow_made (e := 3) (size := 1) w #[] 0 (Nat.le_refl _) (by simp [maxLen]) rfl
  have Hown := Lib.hid hown
  have Hn := Lib.hid hn
  have Hx := Lib.hid (news_alloc hx (.cells #[] 3))
  have H1 := Lib.hid h1
  have Hl := Lib.hid hl
  clear hn hx h1 hl hown
  have he := fun w => Lib.run_eql_slice_nil (P := Tryz.prog) w 29 3 (some a) n c 0 0 Tryz.underlying29
  go_enter Tryz.func31, Tryz.ntmps31
  go_wp2_with (at_builtin; go_must (refine wpList_append_own _ rfl _ _ 29 rfl w.heap.size 3 i0 (.int .i64 0) 1 8 Tryz.underlying29 hi hz0 hz1 hz2 rfl (by decide) _ _ _ rfl Hown.out a n c xs rfl Hl.out Hx.out H1.out (by have := Hn.out; unfold maxLen; omega) (by have := Hn.out; omega) (by simp) ?_; intro v' w1 hown1 hgrow hnil; (have Ho1 := Lib.hid hown1); (have Hg1 := Lib.hid hgrow); clear hown1 hgrow hnil))
  go_ret
  have ho := Ho1.out
  rw [Nat.zero_add, List.nil_append] at ho
  exact ⟨v', rfl, ho, ((Below.refl _ _).alloc (Nat.le_refl _) _).grown Hg1.out (by simp) (fun k hk => by cases hk; exact Nat.le_refl _)⟩

set_option maxRecDepth 100000 in
set_option maxHeartbeats 400000 in
theorem clone_code (a : Addr) (n c : Nat) (xs : List Value) (w : World) (hl : xs.length = n * 8) (hn : n * 56 ≤ 140737488351232) (hx : ∀ j u, xs[j]? = some u → w.cell? (a.add j) = some u) (h1 : ∀ u ∈ xs, u.oneCell' = true) :
    Calls Tryz.prog 25 #[.slice (some a) n c] w fun e w' => ∃ v, e = .returned v ∧ w'.ownsRow w.heap.size 25 8 v n xs ∧ Below w.heap.size w w' := by
  obtain ⟨i0, hi, hz0, hz1, hz2⟩ := info_parts Tryz.info25
  have hown := World.ownsRow_made (e := 25) (size := 8) w #[] 0 (Nat.le_refl _) (by simp [maxLen]) rfl
  have Hown := Lib.hid hown
  have Hn := Lib.hid hn
  have Hx := Lib.hid (news_alloc hx (.cells #[] 25))
  have H1 := Lib.hid h1
  have Hl := Lib.hid hl
  clear hn hx h1 hl hown
  have he := fun w => Lib.run_eql_slice_nil (P := Tryz.prog) w 27 25 (some a) n c 0 0 Tryz.underlying27
  go_enter Tryz.func25, Tryz.ntmps25
  go_wp2_with (at_builtin; go_must (refine wpList_append_own _ rfl _ _ 27 rfl w.heap.size 25 i0 (.agg #[.int .i64 0, .bool false, .bool false, .int .i64 0, .int .i64 0, .int .i64 0, .int .i64 0, .int .i64 0]) 8 56 Tryz.underlying27 hi hz0 hz1 hz2 rfl (by decide) _ _ _ rfl Hown.out a n c xs rfl Hl.out Hx.out H1.out (by have := Hn.out; unfold maxLen; omega) (by have := Hn.out; omega) (by simp) ?_; intro v' w1 hown1 hgrow hnil; (have Ho1 := Lib.hid hown1); (have Hg1 := Lib.hid hgrow); clear hown1 hgrow hnil))
  go_ret
  have ho := Ho1.out
  rw [Nat.zero_add, List.nil_append] at ho
  exact ⟨v', rfl, ho, ((Below.refl _ _).alloc (Nat.le_refl _) _).grown Hg1.out (by simp) (fun k hk => by cases hk; exact Nat.le_refl _)⟩

theorem clone_bytes_nil (w : World) : Calls Tryz.prog 27 #[.slice none 0 0] w fun e w' => e = .returned (.slice none 0 0) ∧ w = w' := by
  have he := fun w => Lib.run_eql_slice_nil (P := Tryz.prog) w 22 5 none 0 0 0 0 Tryz.underlying22
  go_enter Tryz.func27, Tryz.ntmps27
  go_wp2
  go_ret
  exact ⟨rfl, rfl⟩
theorem clone_ints_nil (w : World) : Calls Tryz.prog 31 #[.slice none 0 0] w fun e w' => e = .returned (.slice none 0 0) ∧ w = w' := by
  have he := fun w => Lib.run_eql_slice_nil (P := Tryz.prog) w 29 3 none 0 0 0 0 Tryz.underlying29
  go_enter Tryz.func31, Tryz.ntmps31
  go_wp2
  go_ret
  exact ⟨rfl, rfl⟩
theorem clone_tables_nil (w : World) : Calls Tryz.prog 29 #[.slice none 0 0] w fun e w' => e = .returned (.slice none 0 0) ∧ w = w' := by
  have he := fun w => Lib.run_eql_slice_nil (P := Tryz.prog) w 51 77 none 0 0 0 0 Tryz.underlying51
  go_enter Tryz.func29, Tryz.ntmps29
  go_wp2
  go_ret
  exact ⟨rfl, rfl⟩
theorem copies_nil (w : World) : Calls Tryz.prog 28 #[.slice none 0 0] w fun e w' => e = .returned (.slice none 0 0) ∧ w = w' := by
  go_enter Tryz.func28, Tryz.ntmps28
  go_wp2
  go_loop [3, 8] (fun v i => v = .slice none 0 0 ∧ i = .int .i64 0) (fun _ _ => 0)
  case atStart => exact ⟨rfl, rfl⟩
  case round =>
    obtain ⟨rfl, rfl⟩ := hrel
    go_wp2
    go_ret
    exact ⟨rfl, rfl⟩

set_option maxRecDepth 100000 in
set_option maxHeartbeats 400000 in
theorem copyBytes_some (a : Addr) (n c : Nat) (xs : List Value) (w : World) (hl : xs.length = n) (hn : n ≤ 140737488351232) (hx : ∀ j u, xs[j]? = some u → w.cell? (a.add j) = some u) (h1 : ∀ u ∈ xs, u.oneCell' = true) :
    Calls Tryz.prog 7 #[.slice (some a) n c] w fun e w' => ∃ v, e = .returned v ∧ w'.ownsRow w.heap.size 5 1 v n xs ∧ Below w.heap.size w w' := by
  obtain ⟨i0, hi, hz0, hz1, hz2⟩ := info_parts Tryz.info5
  have hown := World.ownsRow_nil w w.heap.size 5 1
  have Hown := Lib.hid hown
  have Hn := Lib.hid hn
  have Hx := Lib.hid hx
  have H1 := Lib.hid h1
  have Hl := Lib.hid (show xs.length = n * 1 by omega)
  clear hn hx h1 hl hown
  go_enter Tryz.func7, Tryz.ntmps7
  go_wp2_with (at_builtin; go_must (refine wpList_append_own _ rfl _ _ 22 rfl w.heap.size 5 i0 (.int .u8 0) 1 1 Tryz.underlying22 hi hz0 hz1 hz2 rfl (by decide) _ _ _ rfl Hown.out a n c xs rfl Hl.out Hx.out H1.out (by have := Hn.out; unfold maxLen; omega) (by have := Hn.out; omega) (by simp) ?_; intro v' w1 hown1 hgrow hnil; (have Ho1 := Lib.hid hown1); (have Hg1 := Lib.hid hgrow); clear hown1 hgrow hnil))
  go_ret
  have ho := Ho1.out
  rw [Nat.zero_add, List.nil_append] at ho
  exact ⟨v', rfl, ho, (Below.refl _ _).grown Hg1.out (by simp) (fun k hk => by cases hk)⟩

theorem copyBytes_nil (w : World) : Calls Tryz.prog 7 #[.slice none 0 0] w fun e w' => e = .returned (.slice none 0 0) ∧ w = w' := by
  go_enter Tryz.func7, Tryz.ntmps7
  go_wp2
  go_ret
  exact ⟨rfl, rfl⟩

end Go.Proofs.YtkhbjhmhdlmmfaaGreat
