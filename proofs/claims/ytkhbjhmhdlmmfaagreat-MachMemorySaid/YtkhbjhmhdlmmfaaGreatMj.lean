/- Walks: the law on memory. -/
import Derived.Test.YtkhbjhmhdlmmfaaGreatMi
import Derived.Deep.DeepCutAuto
import Derived.Deep.RegionHeld3
namespace Go.Proofs.YtkhbjhmhdlmmfaaGreat
open Go.RowKit

theorem bytesL_snoc (f : Nat → Int) (n : Nat) (x : Int) : bytesL f n ++ [.int .u8 x] = bytesL (fun j => if j = n then x else f j) (n + 1) := by
  unfold bytesL
  rw [List.range_succ, List.map_append]
  congr 1
  · refine List.map_congr_left (fun j hj => ?_)
    have := List.mem_range.1 hj
    show Value.int .u8 (f j) = Value.int .u8 (if j = n then x else f j)
    rw [if_neg (by omega)]
  · simp
def MemJ (w : World) (t0 : Value) (wr : World) : Prop :=
  ∃ (n : Nat) (f : Nat → Int) (p : Option Addr) (c : Nat), t0 = .slice p n c ∧ wr.ownsRow w.heap.size 5 1 (.slice p n c) n (bytesL f n) ∧ n ≤ 140737488351240 ∧ Fr (fun _ => False) w wr
theorem MemJ.intro {w : World} {t0 : Value} {wr : World} (n : Nat) (f : Nat → Int) (h : wr.ownsRow w.heap.size 5 1 t0 n (bytesL f n)) (hn : n ≤ 140737488351240) (hF : Fr (fun _ => False) w wr) : MemJ w t0 wr := by
  obtain ⟨p, c, rfl⟩ := owns_slice_m h
  exact ⟨n, f, p, c, rfl, h, hn, hF⟩
def lenOf (v : Value) : Nat := match v with | .slice _ n _ => n | _ => 0
theorem owns_bytes {w : World} {base : Nat} {v : Value} {n : Nat} {f : Nat → Int} (h : w.ownsRow base 5 1 v n (bytesL f n)) (hn : 1 ≤ n) (m : Nat) (hm : m ≤ n) : ∃ g c, v = .slice (some ⟨g, 0, none⟩) n c ∧ g < w.heap.size ∧ RowAt w (.slice (some ⟨g, 0, none⟩) m c) m (bytesL f m) ∧ n ≤ c := by
  rcases h.2 with ⟨_, h0⟩ | ⟨g, cap, cur, rfl, hb, hg, hnc, hmx, hcs, htake⟩
  · omega
  · refine ⟨g, cap, rfl, (Array.getElem?_eq_some_iff.1 hg).1, .inr ⟨_, _, rfl, fun j u hu => ?_⟩, hnc⟩
    have hj : j < m := by simpa [bytesL] using (List.getElem?_eq_some_iff.1 hu).1
    rw [bytesL_get f m j hj] at hu
    rw [Addr.add_lit, Nat.zero_add]
    rw [← hu, h.cellAt j (by omega), bytesL_get f n j (by omega)]

set_option maxRecDepth 100000 in
set_option maxHeartbeats 4000000 in
theorem walkM (v0 : Value) (n : Nat) (f : Nat → Int) (a1 v a3 a4 : Int) (w : World) (hx : RowAt w v0 n (bytesL f n)) (hn : n ≤ 140737488351232) :
    Calls Tryz.prog 3 #[v0, .int .i64 a1, .int .i64 v, .int .i64 a3, .int .i64 a4] w (PostP w) := by
  obtain ⟨k2, hk2, hK⟩ := mask_nat a3 2 (by decide)
  simp only [Int.reducePow, Int.reduceSub, Nat.reducePow] at hK hk2
  have HX := Lib.hid hx
  clear hx
  go_enter Tryz.func3, Tryz.ntmps3
  go_upto_region 1 with fail
  go_cut [11] (fun x wx => ∃ k : Nat, x = .int .i64 k ∧ (k = 1 ∨ k = 2 ∨ k = 4 ∨ k = 8) ∧ w = wx)
  case first =>
    have h4 : bits .and .i64 a3 3 = 0 ∨ bits .and .i64 a3 3 = 1 ∨ bits .and .i64 a3 3 = 2 ∨ bits .and .i64 a3 3 = 3 := by omega
    clear hK
    rcases h4 with hK | hK | hK | hK
    · go_wp2_with fail
      go_meet
      exact ⟨1, rfl, by decide, rfl⟩
    · go_wp2_with fail
      go_meet
      exact ⟨2, rfl, by decide, rfl⟩
    · go_wp2_with fail
      go_meet
      exact ⟨4, rfl, by decide, rfl⟩
    · go_wp2_with fail
      go_meet
      exact ⟨8, rfl, by decide, rfl⟩
  case rest =>
    obtain ⟨k, rfl, hk, rfl⟩ := hcut
    obtain ⟨i0, hi0, hz0, hz1, hz2⟩ := info_parts Tryz.info5
    clear hK hk2
    go_wp2_with (go_at_call 7; refine (copyBytesAt _ n f _ ?_ (by omega)).mono ?_; (exact HX.out); rintro e w1 ⟨p, c, rfl, ho, hF1⟩; (have HO := Lib.hid ho); (have HF1 := Lib.hid hF1); clear ho hF1)
    go_loopw [0] (fun t0 wr => MemJ w t0 wr) (fun t0 _ => 8 - lenOf t0)
    case atStart => exact MemJ.intro n f HO.out (by omega) HF1.out
    case round =>
      obtain ⟨n', f', p', c', rfl, ho, hn', hF⟩ := hrel
      have HR := Lib.hid ho
      have HF := Lib.hid hF
      have hzr := hF.size
      clear ho hF HO HF1 HX
      by_cases h8 : n' < 8
      · have h8I : (n' : Int) < 8 := by omega
        go_wp2_with (at_builtin; refine wpList_append_own _ rfl _ _ 22 rfl w.heap.size 5 i0 (.int .u8 0) 1 1 Tryz.underlying22 hi0 hz0 hz1 hz2 rfl (by decide) (.slice p' n' c') n' (bytesL f' n') rfl ?own _ 1 _ [.int .u8 (a4 % 256)] rfl rfl (one_cell (by simp [go_sem])) (one_one rfl) ?b1 ?b2 ?b3 ?kk)
        case own => exact HR.out.alloc _
        case b1 => unfold maxLen; omega
        case b2 => omega
        case b3 => simp; omega
        case kk =>
          intro v2 w2 hown2 hgrow2 _
          obtain ⟨p2, c2, rfl⟩ := owns_slice_m hown2
          have F2 : Fr (fun _ => False) w w2 := (HF.out.alloc _).grown hgrow2 (fun q hq => .inr (HR.out.lt q hq).1)
          rw [bytesL_snoc] at hown2
          have HO2 := Lib.hid hown2
          have HF2 := Lib.hid F2
          clear hown2 hgrow2 F2
          go_wp2
          refine ⟨MemJ.intro (n' + 1) _ HO2.out (by omega) HF2.out, by simp [lenOf]; omega⟩
      · have h8I : ¬ ((n' : Int) < 8) := by omega
        obtain ⟨g, c, hv, hgl, hR, hnc⟩ := owns_bytes HR.out (by omega) (if 300 < n' then 300 else n') (by split <;> omega)
        cases hv
        have HRX := Lib.hid hR
        clear hR HR
        by_cases h3 : 300 < n'
        · have h3I : (300 : Int) < n' := by omega
          have h3c : ¬ ((c' : Int) < 300) := by omega
          rw [if_pos h3] at HRX
          go_upto_region 7 with fail
          rename_i hkk
          exact mem7 a1 v w _ k 300 g c' f' hk (by decide) (by decide) HRX HF hgl _ hkk _ _ _ _ _ _ _ _ _ _ _ _ _ _ _ _ _ _ _ _ _ _ _ _ _ _ _ _ _ _ _ _ _ _ _ _ _ _ _ _ _ _ _ _ _ _ _ _ _ _ _ _ _ _ _ _ _ _ _ _ _ _ _ _ _ _ _ _ _ _ _ _ _ _ _ _ _ _ _ _ _ _ _ _ _ _ _ _ _ _ _ _ _ _ _ _ _ _ _ _ _ _ _ _ _ _ _ _ _ _ _ _ _ _ _ _ _ _ _ _ _ _ _ _ _ _ _ _ _ _ _ _ _ _ _ _ _ _ _ _ _ _ _ _ _ _ _ _ _ _ _ _ _ _ _ _ _ _ _ _ _ _ _ _ _ _ _ _ _ _ _ _
        · have h3I : ¬ ((300 : Int) < n') := by omega
          rw [if_neg h3] at HRX
          go_upto_region 7 with fail
          rename_i hkk
          exact mem7 a1 v w _ k n' g c' f' hk (by omega) (by omega) HRX HF hgl _ hkk _ _ _ _ _ _ _ _ _ _ _ _ _ _ _ _ _ _ _ _ _ _ _ _ _ _ _ _ _ _ _ _ _ _ _ _ _ _ _ _ _ _ _ _ _ _ _ _ _ _ _ _ _ _ _ _ _ _ _ _ _ _ _ _ _ _ _ _ _ _ _ _ _ _ _ _ _ _ _ _ _ _ _ _ _ _ _ _ _ _ _ _ _ _ _ _ _ _ _ _ _ _ _ _ _ _ _ _ _ _ _ _ _ _ _ _ _ _ _ _ _ _ _ _ _ _ _ _ _ _ _ _ _ _ _ _ _ _ _ _ _ _ _ _ _ _ _ _ _ _ _ _ _ _ _ _ _ _ _ _ _ _ _ _ _ _ _ _ _ _ _ _

end Go.Proofs.YtkhbjhmhdlmmfaaGreat
