/- Walks: the law on pointers. -/
import Derived.Test.YtkhbjhmhdlmmfaaGreatLu
import Derived.Deep.DeepCutAuto
namespace Go.Proofs.YtkhbjhmhdlmmfaaGreat
open Go.RowKit

set_option maxRecDepth 100000 in
set_option maxHeartbeats 40000000 in
theorem walkP (a0 : Int) (a1 : Int) (a2 : Int) (a3 : Int) (w : World) :
    Calls Tryz.prog 5 #[.int .i64 a0, .int .i64 a1, .int .i64 a2, .int .i64 a3] w (PostP w) := by
  obtain ⟨i, hi, hA⟩ := mask_nat a0 5 (by decide)
  obtain ⟨d0, hd0, hD⟩ := mask_nat a3 62 (by decide)
  obtain ⟨b0, hb0, hB⟩ := mask_nat a1 62 (by decide)
  obtain ⟨k2, hk2, hK⟩ := mask_nat a2 2 (by decide)
  obtain ⟨x6, hx6, hX6⟩ := mask_nat a3 6 (by decide)
  obtain ⟨x7, hx7, hX7⟩ := mask_nat a3 3 (by decide)
  simp only [Int.reducePow, Int.reduceSub, Nat.reducePow] at hA hD hB hK hX6 hX7 hi hd0 hb0 hk2 hx6 hx7
  have hDD : ((d0 : Nat) : Int).tmod 1000 = ((d0 % 1000 : Nat) : Int) := by rw [Int.tmod_eq_emod_of_nonneg (by omega)]; omega
  have hBB : ((b0 : Nat) : Int).tmod 3 = 0 ∨ ((b0 : Nat) : Int).tmod 3 = 1 ∨ ((b0 : Nat) : Int).tmod 3 = 2 := by rw [Int.tmod_eq_emod_of_nonneg (by omega)]; omega
  obtain ⟨dd, hdd⟩ : ∃ dd, d0 % 1000 = dd := ⟨_, rfl⟩
  have hd1 : dd ≤ 999 := by omega
  rw [hdd] at hDD
  have HBB := Lib.hid hBB
  clear hdd hd0 hb0 hBB
  go_enter Tryz.func5, Tryz.ntmps5
  go_upto_region 3 with fail
  go_cut [11] (fun v wx => ∃ r : Nat, v = .int .i64 r ∧ (r = 1 ∨ r = 10 ∨ r = 4) ∧ w = wx)
  case first =>
    rcases HBB.out with h3 | h3 | h3
    · have hix := ix0
      go_wp2_with fail
      go_meet
      exact ⟨1, rfl, by decide, rfl⟩
    · have hix := ix1
      go_wp2_with fail
      go_meet
      exact ⟨10, rfl, by decide, rfl⟩
    · have hix := ix2
      go_wp2_with fail
      go_meet
      exact ⟨4, rfl, by decide, rfl⟩
  case rest =>
    obtain ⟨r, rfl, hr, rfl⟩ := hcut
    go_upto_region 4 with fail
    rename_i hk
    exact tail4 a2 a3 w i dd r k2 x6 x7 hi hd1 hr hk2 hx6 hx7 hK hX6 hX7 _ hk _ _ _ _ _ _ _ _ _ _ _ _ _ _ _ _ _ _ _ _ _ _ _ _ _ _ _ _ _ _ _ _ _ _ _ _ _ _ _ _ _ _ _ _ _ _ _ _ _ _ _ _ _ _ _ _ _ _ _ _ _ _ _ _ _ _ _ _ _ _ _ _ _ _ _ _ _ _ _ _ _ _ _ _ _ _ _ _ _ _ _ _ _ _ _ _ _ _ _ _ _ _ _ _ _ _ _ _ _ _ _ _ _ _ _ _ _ _ _ _ _ _ _ _ _ _ _ _ _ _ _ _ _ _ _ _ _ _ _ _ _ _ _ _ _ _ _ _ _ _ _ _ _ _ _ _ _ _ _ _ _ _ _ _ _ _ _ _ _ _ _ _ _ _ _ _ _ _ _ _ _ _ _ _ _ _ _ _ _ _ _ _ _ _ _ _ _ _ _ _ _ _ _ _ _ _ _ _ _ _ _ _ _ _ _ _ _ _ _ _ _ _ _ _ _ _ _ _ _ _ _ _ _ _ _ _ _ _ _ _ _ _

end Go.Proofs.YtkhbjhmhdlmmfaaGreat
