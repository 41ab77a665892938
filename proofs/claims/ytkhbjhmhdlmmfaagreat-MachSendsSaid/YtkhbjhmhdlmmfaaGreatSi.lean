/- Walks: the law on sending. -/
import Derived.Test.YtkhbjhmhdlmmfaaGreatSh
import Derived.Test.YtkhbjhmhdlmmfaaGreatLo
import Derived.Deep.DeepCutAuto
namespace Go.Proofs.YtkhbjhmhdlmmfaaGreat
open Go.RowKit

def sxOf (first : Int) (j : Nat) : Int := wrap64 (first + (j : Int))
theorem send_two (first : Int) (k j : Nat) (hj : j < k) : codeL (sendCode (sxOf first) k) (2 * j) ++ codeL (codeOf [⟨20, false, false, 0, 1, 0, 0, wrap64 (first + (j : Int))⟩, ⟨38, false, false, 0, 0, 0, 0, 6⟩]) 2 = codeL (sendCode (sxOf first) k) (2 * (j + 1)) := by
  rw [codeL_join, show 2 * (j + 1) = 2 * j + 2 by omega]
  refine codeL_congr _ _ _ (fun x hx => ?_)
  unfold joinC
  by_cases h : x < 2 * j
  · rw [if_pos h]
  · rw [if_neg h]
    obtain rfl | rfl : x = 2 * j ∨ x = 2 * j + 1 := by omega
    · rw [show 2 * j - 2 * j = 0 by omega]
      unfold sendCode sxOf
      rw [if_neg (by omega), if_pos (by omega), show 2 * j / 2 = j by omega]
      rfl
    · rw [show 2 * j + 1 - 2 * j = 1 by omega]
      unfold sendCode
      rw [if_neg (by omega), if_neg (by omega)]
      rfl
theorem send_end (first : Nat → Int) (k : Nat) : codeL (sendCode first k) (2 * k) ++ codeL (codeOf [⟨39, false, false, 0, 0, 0, 0, 0⟩]) 1 = codeL (sendCode first k) (2 * k + 1) := by
  rw [codeL_join]
  refine codeL_congr _ _ _ (fun x hx => ?_)
  unfold joinC
  by_cases h : x < 2 * k
  · rw [if_pos h]
  · rw [if_neg h]
    obtain rfl : x = 2 * k := by omega
    unfold sendCode
    rw [if_pos rfl, show 2 * k - 2 * k = 0 by omega]
    rfl
theorem sentOf_lt (j : Nat) (h : j < 64) : sentOf (2 * (j + 1)) = j + 1 ∧ sentOf (2 * j) = j := by
  unfold sentOf
  rw [show 2 * (j + 1) / 2 = j + 1 by omega, show 2 * j / 2 = j by omega, if_pos h]
  exact ⟨by split <;> omega, rfl⟩
theorem sentOf_ge (j : Nat) (h : 64 ≤ j) : sentOf (2 * (j + 1)) = sentOf (2 * j) := by
  unfold sentOf
  rw [show 2 * (j + 1) / 2 = j + 1 by omega, show 2 * j / 2 = j by omega, if_neg (by omega), if_neg (by omega)]
theorem sentOf_le (j : Nat) : sentOf j ≤ 64 := by unfold sentOf; split <;> omega

theorem row_news_at {w : World} {arr : Array Value} {c : Nat → Ins} {n q : Nat} (hq : w.heap.size = q) (h : codeL c n = arr.toList) : ∀ j u, (codeL c n)[j]? = some u → (w.alloc (.cells arr 25)).cell? ((⟨q, 0, none⟩ : Addr).add j) = some u := by
  subst hq; exact row_news h
theorem owns_apart {w : World} {base base' e e' sz sz' : Nat} {v v' : Value} {n n' : Nat} {xs xs' : List Value} (h : w.ownsRow base e sz v n xs) (h' : w.ownsRow base' e' sz' v' n' xs') (he : e ≠ e') : ∀ g, v.ownBlock = some g → ¬ v'.ownBlock = some g := by
  intro g hg hg'
  rcases h.2 with ⟨rfl, _⟩ | ⟨q, cap, cur, rfl, _, hq, _⟩
  · cases hg
  · rcases h'.2 with ⟨rfl, _⟩ | ⟨q', cap', cur', rfl, _, hq', _⟩
    · cases hg'
    · cases hg
      cases hg'
      rw [hq] at hq'
      injection hq' with h1
      injection h1 with _ h2
      exact he h2
theorem ownsRow_at {S : Nat → Prop} {w w' : World} {base e sz : Nat} {v : Value} {n : Nat} {xs : List Value} (h : w.ownsRow base e sz v n xs) (hf : Fr S w w') (hS : ∀ g, v.ownBlock = some g → ¬ S g) : w'.ownsRow base e sz v n xs := by
  refine ⟨h.1, ?_⟩
  rcases h.2 with hn | ⟨g, cap, cur, h1, h2, h3, h4⟩
  · exact .inl hn
  · exact .inr ⟨g, cap, cur, h1, h2, (hf.block g (Array.getElem?_eq_some_iff.1 h3).1 (hS g (by rw [h1]; rfl))).trans h3, h4⟩

set_option maxRecDepth 100000 in
theorem sameInts_nil (p p' : Option Addr) (c c' : Nat) (w : World) :
    Calls Tryz.prog 13 #[.slice p 0 c, .slice p' 0 c'] w fun e w' => e = .returned (.bool true) ∧ Fr (fun _ => False) w w' := by
  go_enter Tryz.func13, Tryz.ntmps13
  go_wp2
  refine wp_loop_rounds 1 ?_
  rw [rounds_succ]
  go_wp2
  go_ret
  exact ⟨rfl, Fr.refl _ _⟩

def SendJ (w : World) (first : Int) (k : Nat) (s6 s7 i : Value) (wr : World) : Prop :=
  ∃ j : Nat, j ≤ k ∧ i = .int .i64 j ∧ wr.ownsRow w.heap.size 25 8 s6 (2 * j) (codeL (sendCode (sxOf first) k) (2 * j)) ∧ wr.ownsRow w.heap.size 3 1 s7 (sentOf (2 * j)) (intsL (sxOf first) (sentOf (2 * j))) ∧ Fr (fun _ => False) w wr

theorem SendJ.intro {w : World} {first : Int} {k : Nat} {s6 s7 i : Value} {wr : World} (j : Nat) (hj : j ≤ k) (hi : i = .int .i64 j) (h6 : wr.ownsRow w.heap.size 25 8 s6 (2 * j) (codeL (sendCode (sxOf first) k) (2 * j))) (h7 : wr.ownsRow w.heap.size 3 1 s7 (sentOf (2 * j)) (intsL (sxOf first) (sentOf (2 * j)))) (hF : Fr (fun _ => False) w wr) : SendJ w first k s6 s7 i wr := ⟨j, hj, hi, h6, h7, hF⟩

set_option maxRecDepth 100000 in
set_option maxHeartbeats 8000000 in
theorem walkS (a0 : Int) (a1 : Int) (w : World) :
    Calls Tryz.prog 4 #[.int .i64 a0, .int .i64 a1] w fun e w' => e = .returned (.bool true) ∧ Fr (fun _ => False) w w' := by
  obtain ⟨b0, hb0, hB⟩ := mask_nat a0 62 (by decide)
  simp only [Int.reducePow, Int.reduceSub, Nat.reducePow] at hB hb0
  have hBB : ((b0 : Nat) : Int).tmod 80 = ((b0 % 80 : Nat) : Int) := by rw [Int.tmod_eq_emod_of_nonneg (by omega)]; omega
  obtain ⟨k, hk⟩ : ∃ k, b0 % 80 = k := ⟨_, rfl⟩
  have hk80 : k < 80 := by omega
  rw [hk] at hBB
  clear hk hb0
  obtain ⟨i0, hi0, hz0, hz1, hz2⟩ := info_parts Tryz.info25
  obtain ⟨i1, hi1, hy0, hy1, hy2⟩ := info_parts Tryz.info3
  go_enter Tryz.func4, Tryz.ntmps4
  go_wp2
  go_loopw [6, 7, 8] (fun s6 s7 i wr => SendJ w a1 k s6 s7 i wr) (fun _ _ i _ => k - (match i with | .int _ q => q | _ => 0).toNat)
  case atStart => exact ⟨0, by omega, rfl, World.ownsRow_nil _ _ 25 8, World.ownsRow_nil _ _ 3 1, Fr.refl _ _⟩
  case round =>
    obtain ⟨j, hj, rfl, h6, h7, hF⟩ := hrel
    have hzr := hF.size
    obtain ⟨p6, c6, rfl⟩ := owns_slice_n h6
    obtain ⟨p7, c7, rfl⟩ := owns_slice_n h7
    have H6 := Lib.hid h6
    have H7 := Lib.hid h7
    have HF := Lib.hid hF
    have hs64 := sentOf_le (2 * j)
    clear h6 h7 hF
    by_cases hlt : j < k
    · have HT := Lib.hid (send_two a1 k j hlt)
      by_cases h64 : j < 64
      · have HSE := Lib.hid (sentOf_lt j h64)
        go_wp2_with (first | (go_at_call 8; refine (lawWide _ _ _).mono ?_; rintro e w1 ⟨rfl, rfl⟩) | (at_builtin; refine wpList_append_own _ rfl _ _ 27 rfl w.heap.size 25 i0 (.agg #[.int .i64 0, .bool false, .bool false, .int .i64 0, .int .i64 0, .int .i64 0, .int .i64 0, .int .i64 0]) 8 56 Tryz.underlying27 hi0 hz0 hz1 hz2 rfl (by decide) (.slice p6 (2 * j) c6) (2 * j) (codeL (sendCode (sxOf a1) k) (2 * j)) rfl ?own _ 2 _ (codeL (codeOf [⟨20, false, false, 0, 1, 0, 0, wrap64 (a1 + (j : Int))⟩, ⟨38, false, false, 0, 0, 0, 0, 6⟩]) 2) rfl rfl ?news (codeL_one _ _) ?b1 ?b2 ?b3 ?k) | fail)
        case own => repeat (first | with_reducible exact H6.out | with_reducible refine own_alloc ?_ _ | with_reducible refine own_drewN ?_ _)
        case news => exact row_news_at (by simp) rfl
        case b1 => unfold maxLen; omega
        case b2 => omega
        case b3 => simp; omega
        case k =>
          intro v2 w2 hown2 hgrow2 _
          obtain ⟨p62, c62, rfl⟩ := owns_slice_n hown2
          have F2 : Fr (fun _ => False) w w2 := Fr.grown (by repeat (first | with_reducible exact HF.out | with_reducible refine Fr.alloc ?_ _ | with_reducible refine Fr.drew ?_ | with_reducible refine Fr.drewN ?_ _)) hgrow2 (fun q hq => .inr (H6.out.lt q hq).1)
          have X2 : Fr (fun x => (Value.slice p6 (2 * j) c6).ownBlock = some x) wr w2 := Fr.grown (by repeat (first | with_reducible exact Fr.refl _ _ | with_reducible refine Fr.alloc ?_ _ | with_reducible refine Fr.drew ?_ | with_reducible refine Fr.drewN ?_ _)) hgrow2 (fun q hq => .inl hq)
          have ho2 := hown2
          rw [HT.out] at ho2
          have hz2' := F2.size
          have HO2 := Lib.hid ho2
          have HF2 := Lib.hid F2
          have HO7 := Lib.hid (ownsRow_at H7.out X2 (owns_apart H7.out H6.out (by decide)))
          clear hown2 hgrow2 F2 X2 ho2
          have hd64 : (j : Int) < 64 := by omega
          go_wp2_with (at_builtin; refine wpList_append_own _ rfl _ _ 29 rfl w.heap.size 3 i1 (.int .i64 0) 1 8 Tryz.underlying29 hi1 hy0 hy1 hy2 rfl (by decide) (.slice p7 (sentOf (2 * j)) c7) (sentOf (2 * j)) (intsL (sxOf a1) (sentOf (2 * j))) rfl ?own _ 1 _ [.int .i64 (wrap64 (a1 + (j : Int)))] rfl rfl (one_cell (by simp [go_sem])) (one_one rfl) ?b1 ?b2 ?b3 ?k)
          case own => exact own_alloc HO7.out _
          case b1 => unfold maxLen; omega
          case b2 => omega
          case b3 => simp; omega
          case k =>
            intro v3 w3 hown3 hgrow3 _
            obtain ⟨p72, c72, rfl⟩ := owns_slice_n hown3
            have F3 : Fr (fun _ => False) w w3 := (HF2.out.alloc _).grown hgrow3 (fun q hq => .inr (HO7.out.lt q hq).1)
            have X3 : Fr (fun x => (Value.slice p7 (sentOf (2 * j)) c7).ownBlock = some x) w2 w3 := ((Fr.refl _ w2).alloc _).grown hgrow3 (fun q hq => .inl hq)
            have HO6 := Lib.hid (ownsRow_at HO2.out X3 (owns_apart HO2.out HO7.out (by decide)))
            have ho3 : w3.ownsRow w.heap.size 3 1 (.slice p72 (sentOf (2 * j) + 1) c72) (sentOf (2 * (j + 1))) (intsL (sxOf a1) (sentOf (2 * (j + 1)))) := by
              rw [HSE.out.1]
              rw [intsL_succ]
              have := hown3
              rw [HSE.out.2] at this ⊢
              exact this
            have HO3 := Lib.hid ho3
            have HF3 := Lib.hid F3
            clear hown3 hgrow3 F3 X3 ho3
            go_wp2
            refine ⟨SendJ.intro (j + 1) (by omega) (by go_num) HO6.out HO3.out HF3.out, by simp; omega⟩
      · have hd64 : ¬ ((j : Int) < 64) := by omega
        have HSE := Lib.hid (sentOf_ge j (by omega))
        go_wp2_with (first | (go_at_call 8; refine (lawWide _ _ _).mono ?_; rintro e w1 ⟨rfl, rfl⟩) | (at_builtin; refine wpList_append_own _ rfl _ _ 27 rfl w.heap.size 25 i0 (.agg #[.int .i64 0, .bool false, .bool false, .int .i64 0, .int .i64 0, .int .i64 0, .int .i64 0, .int .i64 0]) 8 56 Tryz.underlying27 hi0 hz0 hz1 hz2 rfl (by decide) (.slice p6 (2 * j) c6) (2 * j) (codeL (sendCode (sxOf a1) k) (2 * j)) rfl ?own _ 2 _ (codeL (codeOf [⟨20, false, false, 0, 1, 0, 0, wrap64 (a1 + (j : Int))⟩, ⟨38, false, false, 0, 0, 0, 0, 6⟩]) 2) rfl rfl ?news (codeL_one _ _) ?b1 ?b2 ?b3 ?k) | fail)
        case own => repeat (first | with_reducible exact H6.out | with_reducible refine own_alloc ?_ _ | with_reducible refine own_drewN ?_ _)
        case news => exact row_news_at (by simp) rfl
        case b1 => unfold maxLen; omega
        case b2 => omega
        case b3 => simp; omega
        case k =>
          intro v2 w2 hown2 hgrow2 _
          obtain ⟨p62, c62, rfl⟩ := owns_slice_n hown2
          have F2 : Fr (fun _ => False) w w2 := Fr.grown (by repeat (first | with_reducible exact HF.out | with_reducible refine Fr.alloc ?_ _ | with_reducible refine Fr.drew ?_ | with_reducible refine Fr.drewN ?_ _)) hgrow2 (fun q hq => .inr (H6.out.lt q hq).1)
          have X2 : Fr (fun x => (Value.slice p6 (2 * j) c6).ownBlock = some x) wr w2 := Fr.grown (by repeat (first | with_reducible exact Fr.refl _ _ | with_reducible refine Fr.alloc ?_ _ | with_reducible refine Fr.drew ?_ | with_reducible refine Fr.drewN ?_ _)) hgrow2 (fun q hq => .inl hq)
          have ho2 := hown2
          rw [HT.out] at ho2
          have hz2' := F2.size
          have HO2 := Lib.hid ho2
          have HF2 := Lib.hid F2
          have HO7 := Lib.hid (ownsRow_at H7.out X2 (owns_apart H7.out H6.out (by decide)))
          clear hown2 hgrow2 F2 X2 ho2
          go_wp2
          refine ⟨SendJ.intro (j + 1) (by omega) (by go_num) HO2.out (by rw [HSE.out]; exact HO7.out) HF2.out, by simp; omega⟩
    · obtain rfl : j = k := by omega
      clear hlt
      by_cases hk0 : j = 0
      · subst hk0
        have h6z := H6.out
        have h7z := H7.out
        simp only [Nat.mul_zero] at h6z h7z
        rw [show sentOf 0 = 0 from rfl] at h7z
        have H6 := Lib.hid h6z
        have H7 := Lib.hid h7z
        clear h6z h7z
        go_wp2_with (first | (go_at_call 8; refine (lawWide _ _ _).mono ?_; rintro e w1 ⟨rfl, rfl⟩) | (at_builtin; refine wpList_append_own _ rfl _ _ 27 rfl w.heap.size 25 i0 (.agg #[.int .i64 0, .bool false, .bool false, .int .i64 0, .int .i64 0, .int .i64 0, .int .i64 0, .int .i64 0]) 8 56 Tryz.underlying27 hi0 hz0 hz1 hz2 rfl (by decide) (.slice p6 0 c6) (0) (codeL (sendCode (sxOf a1) 0) 0) rfl ?own _ 1 _ (codeL (codeOf [⟨20, false, false, 0, 0, 0, 0, 0⟩]) 1) rfl rfl ?news (codeL_one _ _) ?b1 ?b2 ?b3 ?k) | fail)
        case own => repeat (first | with_reducible exact H6.out | with_reducible refine own_alloc ?_ _ | with_reducible refine own_drewN ?_ _)
        case news => exact row_news_at (by simp) rfl
        case b1 => decide
        case b2 => decide
        case b3 => simp; omega
        case k =>
          intro v2 w2 hown2 hgrow2 _
          obtain ⟨p62, c62, rfl⟩ := owns_slice_n hown2
          have F2 : Fr (fun _ => False) w w2 := Fr.grown (by repeat (first | with_reducible exact HF.out | with_reducible refine Fr.alloc ?_ _ | with_reducible refine Fr.drew ?_ | with_reducible refine Fr.drewN ?_ _)) hgrow2 (fun q hq => .inr (H6.out.lt q hq).1)
          have X2 : Fr (fun x => (Value.slice p6 0 c6).ownBlock = some x) wr w2 := Fr.grown (by repeat (first | with_reducible exact Fr.refl _ _ | with_reducible refine Fr.alloc ?_ _ | with_reducible refine Fr.drew ?_ | with_reducible refine Fr.drewN ?_ _)) hgrow2 (fun q hq => .inl hq)
          have HO7 := Lib.hid (ownsRow_at H7.out X2 (owns_apart H7.out H6.out (by decide)))
          have HO2 := Lib.hid hown2
          have HF2 := Lib.hid F2
          clear hown2 hgrow2 F2 X2
          go_wp2_with (at_builtin; refine wpList_append_own _ rfl _ _ 27 rfl w.heap.size 25 i0 (.agg #[.int .i64 0, .bool false, .bool false, .int .i64 0, .int .i64 0, .int .i64 0, .int .i64 0, .int .i64 0]) 8 56 Tryz.underlying27 hi0 hz0 hz1 hz2 rfl (by decide) (.slice p62 (0 + 1) c62) (0 + 1) (codeL (sendCode (sxOf a1) 0) 0 ++ codeL (codeOf [⟨20, false, false, 0, 0, 0, 0, 0⟩]) 1) rfl ?own _ 1 _ (codeL (codeOf [⟨39, false, false, 0, 0, 0, 0, 0⟩]) 1) rfl rfl ?news (codeL_one _ _) ?b1 ?b2 ?b3 ?k)
          case own => repeat (first | with_reducible exact HO2.out | with_reducible refine own_alloc ?_ _ | with_reducible refine own_drewN ?_ _)
          case news => exact row_news_at (by simp) rfl
          case b1 => decide
          case b2 => decide
          case b3 => have := HF2.out.size; simp; omega
          case k =>
            intro v3 w3 hown3 hgrow3 _
            have F3 : Fr (fun _ => False) w w3 := Fr.grown (by repeat (first | with_reducible exact HF2.out | with_reducible refine Fr.alloc ?_ _ | with_reducible refine Fr.drew ?_ | with_reducible refine Fr.drewN ?_ _)) hgrow3 (fun q hq => .inr (HO2.out.lt q hq).1)
            have X3 : Fr (fun x => (Value.slice p62 (0 + 1) c62).ownBlock = some x) w2 w3 := Fr.grown (by repeat (first | with_reducible exact Fr.refl _ _ | with_reducible refine Fr.alloc ?_ _ | with_reducible refine Fr.drew ?_ | with_reducible refine Fr.drewN ?_ _)) hgrow3 (fun q hq => .inl hq)
            have ho7 := ownsRow_at HO7.out X3 (owns_apart HO7.out HO2.out (by decide))
            have ho3 : w3.ownsRow w.heap.size 25 8 v3 2 (codeL noneCode 2) := hown3
            obtain ⟨g, cap, rfl, _, _, hC⟩ := owns_code ho3 (by omega)
            have HRUN := Lib.hid (runs_none g cap w3 hC)
            have HO73 := Lib.hid ho7
            have HF3 := Lib.hid F3
            clear hown3 hgrow3 ho3 F3 X3 ho7 hC
            go_wp2_with fail
            refine HRUN.out.mono ?_
            rintro e w4 ⟨p1, m1, c1, p3, c3, rfl, hF4⟩
            have HF4 := Lib.hid (HF3.out.trans hF4)
            clear hF4
            have hz0' : sentOf 0 = 0 := rfl
            go_wp2_with (go_at_call 13; refine (sameInts_nil _ _ _ _ _).mono ?_; rintro e w5 ⟨rfl, hF5⟩)
            go_ret
            exact ⟨rfl, (HF4.out.alloc _).trans hF5⟩
      · have hk0' : ((j : Int) == 0) = false := by rw [beq_eq_false_iff_ne]; omega
        by_cases hk64 : 64 < j
        · have hk64' : (64 : Int) < j := by omega
          go_wp2_with (at_builtin; refine wpList_append_own _ rfl _ _ 27 rfl w.heap.size 25 i0 (.agg #[.int .i64 0, .bool false, .bool false, .int .i64 0, .int .i64 0, .int .i64 0, .int .i64 0, .int .i64 0]) 8 56 Tryz.underlying27 hi0 hz0 hz1 hz2 rfl (by decide) (.slice p6 (2 * j) c6) (2 * j) (codeL (sendCode (sxOf a1) j) (2 * j)) rfl ?own _ 1 _ (codeL (codeOf [⟨39, false, false, 0, 0, 0, 0, 0⟩]) 1) rfl rfl ?news (codeL_one _ _) ?b1 ?b2 ?b3 ?k)
          case own => repeat (first | with_reducible exact H6.out | with_reducible refine own_alloc ?_ _ | with_reducible refine own_drewN ?_ _)
          case news => exact row_news_at (by simp) rfl
          case b1 => unfold maxLen; omega
          case b2 => omega
          case b3 => simp; omega
          case k =>
            intro v2 w2 hown2 hgrow2 _
            have ho2 := hown2
            rw [send_end] at ho2
            have F2 : Fr (fun _ => False) w w2 := Fr.grown (by repeat (first | with_reducible exact HF.out | with_reducible refine Fr.alloc ?_ _ | with_reducible refine Fr.drew ?_ | with_reducible refine Fr.drewN ?_ _)) hgrow2 (fun q hq => .inr (H6.out.lt q hq).1)
            have X2 : Fr (fun x => (Value.slice p6 (2 * j) c6).ownBlock = some x) wr w2 := Fr.grown (by repeat (first | with_reducible exact Fr.refl _ _ | with_reducible refine Fr.alloc ?_ _ | with_reducible refine Fr.drew ?_ | with_reducible refine Fr.drewN ?_ _)) hgrow2 (fun q hq => .inl hq)
            have ho7 := ownsRow_at H7.out X2 (owns_apart H7.out H6.out (by decide))
            obtain ⟨g, cap, rfl, _, _, hC⟩ := owns_code ho2 (by omega)
            have hrun := runs_send (sxOf a1) j hk80 (by omega) g cap w2 hC
            rw [if_pos (by omega)] at hrun
            have HRUN := Lib.hid hrun
            have HO7 := Lib.hid ho7
            have HF2 := Lib.hid F2
            clear hown2 hgrow2 ho2 F2 X2 ho7 hC hrun
            go_wp2_with fail
            refine HRUN.out.mono ?_
            rintro e w3 ⟨p1, m1, c1, p3, c3, rfl, hsent, hF3⟩
            have HS3 := Lib.hid hsent
            have HO73 := Lib.hid (ownsRow_fr HO7.out hF3)
            have HF3 := Lib.hid (HF2.out.trans hF3)
            clear hsent hF3 HRUN
            go_wp2_with (go_at_call 13; refine (sameInts_ok _ _ (sentOf (2 * j)) _ _ (sxOf a1) _ (own_alloc HS3.out _) (own_alloc HO73.out _) (by omega)).mono ?_; rintro e w4 ⟨rfl, hF4⟩)
            go_ret
            exact ⟨rfl, (HF3.out.alloc _).trans hF4⟩
        · have hk64' : (j : Int) ≤ 64 := by omega
          have hk64'' : decide ((64 : Int) < (j : Int)) = false := decide_eq_false (by omega)
          go_wp2_with (at_builtin; refine wpList_append_own _ rfl _ _ 27 rfl w.heap.size 25 i0 (.agg #[.int .i64 0, .bool false, .bool false, .int .i64 0, .int .i64 0, .int .i64 0, .int .i64 0, .int .i64 0]) 8 56 Tryz.underlying27 hi0 hz0 hz1 hz2 rfl (by decide) (.slice p6 (2 * j) c6) (2 * j) (codeL (sendCode (sxOf a1) j) (2 * j)) rfl ?ownz _ 1 _ (codeL (codeOf [⟨39, false, false, 0, 0, 0, 0, 0⟩]) 1) rfl rfl ?newsz (codeL_one _ _) ?b1z ?b2z ?b3z ?kz)
          case ownz => repeat (first | with_reducible exact H6.out | with_reducible refine own_alloc ?_ _ | with_reducible refine own_drewN ?_ _)
          case newsz => exact row_news_at (by simp) rfl
          case b1z => unfold maxLen; omega
          case b2z => omega
          case b3z => simp; omega
          case kz =>
            intro v2 w2 hown2 hgrow2 _
            have ho2 := hown2
            rw [send_end] at ho2
            have F2 : Fr (fun _ => False) w w2 := Fr.grown (by repeat (first | with_reducible exact HF.out | with_reducible refine Fr.alloc ?_ _ | with_reducible refine Fr.drew ?_ | with_reducible refine Fr.drewN ?_ _)) hgrow2 (fun q hq => .inr (H6.out.lt q hq).1)
            have X2 : Fr (fun x => (Value.slice p6 (2 * j) c6).ownBlock = some x) wr w2 := Fr.grown (by repeat (first | with_reducible exact Fr.refl _ _ | with_reducible refine Fr.alloc ?_ _ | with_reducible refine Fr.drew ?_ | with_reducible refine Fr.drewN ?_ _)) hgrow2 (fun q hq => .inl hq)
            have ho7 := ownsRow_at H7.out X2 (owns_apart H7.out H6.out (by decide))
            obtain ⟨g, cap, rfl, _, _, hC⟩ := owns_code ho2 (by omega)
            have hrun := runs_send (sxOf a1) j hk80 (by omega) g cap w2 hC
            rw [if_neg (by omega)] at hrun
            have HRUN := Lib.hid hrun
            have HO7 := Lib.hid ho7
            have HF2 := Lib.hid F2
            clear hown2 hgrow2 ho2 F2 X2 ho7 hC hrun
            go_wp2_with fail
            refine HRUN.out.mono ?_
            rintro e w3 ⟨p1, m1, c1, p3, c3, rfl, hsent, hF3⟩
            have HS3 := Lib.hid hsent
            have HO73 := Lib.hid (ownsRow_fr HO7.out hF3)
            have HF3 := Lib.hid (HF2.out.trans hF3)
            clear hsent hF3 HRUN
            go_wp2_with (go_at_call 13; refine (sameInts_ok _ _ (sentOf (2 * j)) _ _ (sxOf a1) _ (own_alloc HS3.out _) (own_alloc HO73.out _) (by omega)).mono ?_; rintro e w4 ⟨rfl, hF4⟩)
            go_ret
            exact ⟨rfl, (HF3.out.alloc _).trans hF4⟩
end Go.Proofs.YtkhbjhmhdlmmfaaGreat
