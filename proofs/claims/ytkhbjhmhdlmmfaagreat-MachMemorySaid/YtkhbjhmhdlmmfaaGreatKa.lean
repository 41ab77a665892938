/- Walks: stores. -/
import Derived.Test.YtkhbjhmhdlmmfaaGreatI
import Derived.Deep.DeepCutAuto
namespace Go.Proofs.YtkhbjhmhdlmmfaaGreat
open Go.RowKit

set_option maxRecDepth 100000 in
set_option maxHeartbeats 4000000 in
theorem store_ctx_reg (b : Nat) (L : Lay) (m : Mac) (w : World) (hR : RepF w b (mcell L m)) (d s : Nat) (hd : (d : Int) < 11) (hs : (s : Int) < 11) (nar : Bool) (off imm : Int)
    (ta ra x : Int) (hk : m.reg d = ⟨3, ta, ra, x⟩) (tb rb xb : Int) (hk' : m.reg s = ⟨1, tb, rb, xb⟩) (a n bc len cap : Nat) (cur : Array Value) (hxo : x + off = (a : Int)) (hL : L.ctx = .slice (some ⟨bc, 0, none⟩) len cap) (hcur : HeapAt w bc (.cells cur 5 (0, 0))) (hsz : cur.size = cap) (hne : bc ≠ b) (g1 : a + n ≤ len) (g2 : 1 ≤ n) (g8 : n ≤ 8) (g3 : len ≤ cap) (g4 : (a : Int) ≤ 70000) :
    Calls Tryz.prog 44 #[.pointer (some ⟨b, 0, none⟩), .agg #[.int .i64 24, .bool nar, .bool true, .int .i64 n, .int .i64 d, .int .i64 s, .int .i64 off, .int .i64 imm]] w fun e w' =>
      e = .returned (.tuple #[.int .i64 0, .int .i64 0]) ∧ w'.heap[bc]? = some (.cells (spliced cur a n (byteOf xb)) 5 (0, 0)) ∧ RepF w' b (mcell L m) ∧ Fr (· = bc) w w' := by
  have HK := Lib.hid hk'
  have HL := Lib.hid hL
  have Hsz := Lib.hid hsz
  have HC0 := Lib.hid hcur
  have hbc := HeapAt.lt hcur
  have G1 := Lib.hid g1
  have G3 := Lib.hid g3
  have g5' : decide ((a : Int) + (n : Int) ≤ (len : Int)) = true := by simp; omega
  clear hL hsz hcur g1 g3
  have H := Lib.hid hR
  have hb := hR.lt
  obtain ⟨h0, h1, h2, h3⟩ := hR.reg d (by omega)
  rw [hk] at h0 h1 h2 h3
  have hb1 : b < w.heap.size + 1 := by omega
  have hb2 : b < w.heap.size + 1 + 1 := by omega
  have hb3 : b < w.heap.size + 1 + 1 + 1 := by omega
  have hb4 : b < w.heap.size + 1 + 1 + 1 + 1 := by omega
  have hb5 : b < w.heap.size + 1 + 1 + 1 + 1 + 1 := by omega
  have hb6 : b < w.heap.size + 1 + 1 + 1 + 1 + 1 + 1 := by omega
  clear hR hk
  clear hk'
  go_enter Tryz.func44, Tryz.ntmps44
  go_upto_region 1 with fail
  go_cut [6, 7] (fun s6 s7 wx => ∃ p6 p7 : Nat, s6 = .pointer (some ⟨p6, 0, none⟩) ∧ s7 = .pointer (some ⟨p7, 0, none⟩) ∧ (wx.cell? ⟨p6, 0, none⟩ = some (.int .i64 3) ∧ wx.cell? ⟨p6, 1, none⟩ = some (.int .i64 ta) ∧ wx.cell? ⟨p6, 2, none⟩ = some (.int .i64 ra) ∧ wx.cell? ⟨p6, 3, none⟩ = some (.int .i64 x)) ∧ (wx.cell? ⟨p7, 0, none⟩ = some (.int .i64 1) ∧ wx.cell? ⟨p7, 1, none⟩ = some (.int .i64 tb) ∧ wx.cell? ⟨p7, 2, none⟩ = some (.int .i64 rb) ∧ wx.cell? ⟨p7, 3, none⟩ = some (.int .i64 xb)) ∧ (wx.cell? ⟨w.heap.size, 0, none⟩ = some (.int .i64 24) ∧ wx.cell? ⟨w.heap.size, 1, none⟩ = some (.bool nar) ∧ wx.cell? ⟨w.heap.size, 2, none⟩ = some (.bool true) ∧ wx.cell? ⟨w.heap.size, 3, none⟩ = some (.int .i64 n) ∧ wx.cell? ⟨w.heap.size, 4, none⟩ = some (.int .i64 d) ∧ wx.cell? ⟨w.heap.size, 5, none⟩ = some (.int .i64 s) ∧ wx.cell? ⟨w.heap.size, 6, none⟩ = some (.int .i64 off) ∧ wx.cell? ⟨w.heap.size, 7, none⟩ = some (.int .i64 imm)) ∧ w.heap.size ≤ p6 ∧ w.heap.size ≤ p7 ∧ RepF wx b (mcell L m) ∧ Fr (fun _ => False) w wx)
  case first =>
    go_region_held3 (fun w' => w'.cell? ⟨b, 423 + d * 4, none⟩ = some (.int .i64 3) ∧ w'.cell? ⟨b, 423 + d * 4 + 1, none⟩ = some (.int .i64 ta) ∧ w'.cell? ⟨b, 423 + d * 4 + 2, none⟩ = some (.int .i64 ra) ∧ w'.cell? ⟨b, 423 + d * 4 + 3, none⟩ = some (.int .i64 x) ∧ w'.cell? ⟨w.heap.size, 0, none⟩ = some (.int .i64 24) ∧ w'.cell? ⟨w.heap.size, 1, none⟩ = some (.bool nar) ∧ w'.cell? ⟨w.heap.size, 2, none⟩ = some (.bool true) ∧ w'.cell? ⟨w.heap.size, 3, none⟩ = some (.int .i64 n) ∧ w'.cell? ⟨w.heap.size, 4, none⟩ = some (.int .i64 d) ∧ w'.cell? ⟨w.heap.size, 5, none⟩ = some (.int .i64 s) ∧ w'.cell? ⟨w.heap.size, 6, none⟩ = some (.int .i64 off) ∧ w'.cell? ⟨w.heap.size, 7, none⟩ = some (.int .i64 imm)) (simp [go_sem, *])
      (first | (go_at_call 56; refine (second_reg b L m _ _ _ _ _ _ s hs _ ?_).mono ?_; (repeat (first | with_reducible exact H.out | with_reducible refine RepF.drew ?_ | with_reducible refine RepF.alloc ?_ _)); rw [HK.out]; rintro e w' ⟨rfl, rfl⟩) | fail)
    all_goals
      go_wp2_with fail
      go_meet
      refine ⟨_, _, rfl, rfl, ⟨by simp [go_sem], by simp [go_sem], by simp [go_sem], by simp [go_sem]⟩, ⟨by simp [go_sem], by simp [go_sem], by simp [go_sem], by simp [go_sem]⟩, ⟨by simp [go_sem], by simp [go_sem], by simp [go_sem], by simp [go_sem], by simp [go_sem], by simp [go_sem], by simp [go_sem], by simp [go_sem]⟩, by omega, by omega, ?_, ?_⟩
      · (repeat (first | with_reducible exact H.out | with_reducible refine RepF.drew ?_ | with_reducible refine RepF.alloc ?_ _))
      · repeat (first | with_reducible exact Fr.refl _ _ | with_reducible refine Fr.drew ?_ | with_reducible refine Fr.alloc ?_ _)
  case rest =>
    obtain ⟨p6, p7, rfl, rfl, ⟨a0, a1, a2, a3⟩, ⟨b0, b1, b2, b3⟩, ⟨i0, i1, i2, i3, i4, i5, i6, i7⟩, m6, m7, hRx, hFx⟩ := hcut
    have HR := Lib.hid hRx
    have HF := Lib.hid hFx
    have l6 := World.block_lt_of_cell? wc _ a0
    have l7 := World.block_lt_of_cell? wc _ b0
    have l0 := World.block_lt_of_cell? wc _ i0
    have lb := hRx.lt
    simp only at l6 l7 l0
    clear hRx hFx
    have l6a : p6 < wc.heap.size + 1 := by omega
    have l6b : p6 < wc.heap.size + 1 + 1 := by omega
    have l6c : p6 < wc.heap.size + 1 + 1 + 1 := by omega
    have l6d : p6 < wc.heap.size + 1 + 1 + 1 + 1 := by omega
    have l6e : p6 < wc.heap.size + 1 + 1 + 1 + 1 + 1 := by omega
    have l7a : p7 < wc.heap.size + 1 := by omega
    have l7b : p7 < wc.heap.size + 1 + 1 := by omega
    have l7c : p7 < wc.heap.size + 1 + 1 + 1 := by omega
    have l7d : p7 < wc.heap.size + 1 + 1 + 1 + 1 := by omega
    have l7e : p7 < wc.heap.size + 1 + 1 + 1 + 1 + 1 := by omega
    have l0a : w.heap.size < wc.heap.size + 1 := by omega
    have l0b : w.heap.size < wc.heap.size + 1 + 1 := by omega
    have l0c : w.heap.size < wc.heap.size + 1 + 1 + 1 := by omega
    have l0d : w.heap.size < wc.heap.size + 1 + 1 + 1 + 1 := by omega
    have l0e : w.heap.size < wc.heap.size + 1 + 1 + 1 + 1 + 1 := by omega
    have lba : b < wc.heap.size + 1 := by omega
    have lbb : b < wc.heap.size + 1 + 1 := by omega
    have lbc : b < wc.heap.size + 1 + 1 + 1 := by omega
    have lbd : b < wc.heap.size + 1 + 1 + 1 + 1 := by omega
    have lbe : b < wc.heap.size + 1 + 1 + 1 + 1 + 1 := by omega
    have HCAP := Lib.hid (show ((a + n : Nat) : Int) ≤ 100000 by omega)
    have HC := Lib.hid (show HeapAt wc bc (.cells cur 5 (0, 0)) from (HF.out.block bc hbc (fun h => h)).trans HC0.out)
    have g1n : 1 ≤ (n : Int) := by omega
    have g8n : (n : Int) ≤ 8 := by omega
    have n6 : p6 ≠ bc := by omega
    have n7 : p7 ≠ bc := by omega
    have n0 : w.heap.size ≠ bc := by omega
    go_wp2_with (go_at_call 62; refine (pointer_any _ _ _ _ _).mono ?_; rintro e w1 ⟨rfl, rfl⟩)
    go_region_held3 (fun w' => w'.cell? ⟨p6, 0, none⟩ = some (.int .i64 3) ∧ w'.cell? ⟨p6, 1, none⟩ = some (.int .i64 ta) ∧ w'.cell? ⟨p6, 2, none⟩ = some (.int .i64 ra) ∧ w'.cell? ⟨p6, 3, none⟩ = some (.int .i64 x) ∧ w'.cell? ⟨p7, 0, none⟩ = some (.int .i64 1) ∧ w'.cell? ⟨p7, 1, none⟩ = some (.int .i64 tb) ∧ w'.cell? ⟨p7, 2, none⟩ = some (.int .i64 rb) ∧ w'.cell? ⟨p7, 3, none⟩ = some (.int .i64 xb) ∧ w'.cell? ⟨w.heap.size, 3, none⟩ = some (.int .i64 n)) (simp [go_sem, *])
      (first | (go_at_call 63; refine (within_ctxR b L m _ len cap HL.out _ _ _ _ _ _ (by omega) (by omega) (by omega) (by omega) ?_).mono ?_; (repeat (first | with_reducible exact HR.out | with_reducible refine RepF.drew ?_ | with_reducible refine RepF.alloc ?_ _)); rintro e w1 ⟨rfl, rfl⟩) | fail)
    go_wp2_with (go_at_call 57; refine (numeric_any _ _ _ _ _).mono ?_; rintro e w1 ⟨rfl, rfl⟩)
    go_region_held3 (fun w' => w'.cell? ⟨p6, 0, none⟩ = some (.int .i64 3) ∧ w'.cell? ⟨p6, 1, none⟩ = some (.int .i64 ta) ∧ w'.cell? ⟨p6, 2, none⟩ = some (.int .i64 ra) ∧ w'.cell? ⟨p6, 3, none⟩ = some (.int .i64 x) ∧ w'.cell? ⟨p7, 0, none⟩ = some (.int .i64 1) ∧ w'.cell? ⟨p7, 1, none⟩ = some (.int .i64 tb) ∧ w'.cell? ⟨p7, 2, none⟩ = some (.int .i64 rb) ∧ w'.cell? ⟨p7, 3, none⟩ = some (.int .i64 xb) ∧ w'.cell? ⟨w.heap.size, 3, none⟩ = some (.int .i64 n)) (simp [go_sem, *])
      (first | (go_at_call 10; refine (put_any n _ _ (by omega) (by omega)).mono ?_; rintro e w1 ⟨rfl, rfl⟩) | (go_at_call 66; refine (write_ctxR b bc len cap cur L m _ HL.out ?_ ?_ Hsz.out _ _ _ a n G1.out g2 G3.out HCAP.out _ _ (byteOf xb) ?_ ?_).mono ?_; (repeat (first | with_reducible exact HC.out | with_reducible refine HeapAt.drew ?_ | with_reducible refine HeapAt.alloc ?_ _)); (repeat (first | with_reducible exact HR.out | with_reducible refine RepF.drew ?_ | with_reducible refine RepF.alloc ?_ _)); simp; (intro j hj; simp [go_sem]; rw [putArr_get n _ n j hj, if_pos hj]); rintro e w1 ⟨rfl, hh, hF1⟩; (have hkc := frCell hF1); (have Hh := Lib.hid hh); (have HF1 := Lib.hid hF1); clear hh hF1) | fail)
    go_wp2_with fail
    refine bodyPost_ret (v := .tuple #[.int .i64 0, .int .i64 0]) (by simp [results, Tryz.results44, go_sem]) rfl ⟨rfl, Hh.out, ?_, ?_⟩
    · exact RepF.fr (by repeat (first | with_reducible exact HR.out | with_reducible refine RepF.drew ?_ | with_reducible refine RepF.alloc ?_ _)) HF1.out (fun h => hne h.symm)
    · refine Fr.trans (Fr.mono (S := fun _ => False) ?_ (fun _ _ h => h.elim)) HF1.out
      (repeat (first | with_reducible exact HF.out | with_reducible refine Fr.drew ?_ | with_reducible refine Fr.alloc ?_ _))

set_option maxRecDepth 100000 in
set_option maxHeartbeats 4000000 in
theorem store_stack_reg (b : Nat) (L : Lay) (m : Mac) (w : World) (hR : RepF w b (mcell L m)) (d s : Nat) (hd : (d : Int) < 11) (hs : (s : Int) < 11) (nar : Bool) (off imm : Int)
    (ta ra x : Int) (hk : m.reg d = ⟨2, ta, ra, x⟩) (tb rb xb : Int) (hk' : m.reg s = ⟨1, tb, rb, xb⟩) (a n : Nat) (hxo : x + off = (a : Int)) (g1 : a + n ≤ 256) (g2 : 1 ≤ n) (g8 : n ≤ 8) :
    Calls Tryz.prog 44 #[.pointer (some ⟨b, 0, none⟩), .agg #[.int .i64 24, .bool nar, .bool true, .int .i64 n, .int .i64 d, .int .i64 s, .int .i64 off, .int .i64 imm]] w fun e w' =>
      e = .returned (.tuple #[.int .i64 0, .int .i64 0]) ∧ RepF w' b (mcell L (m.puts a (byteOf xb) n)) ∧ Fr (· = b) w w' := by
  have HK := Lib.hid hk'
  have G1 := Lib.hid g1
  have ga : (a : Int) ≤ 256 := by omega
  have g5' : decide ((a : Int) + (n : Int) ≤ 256) = true := by simp; omega
  clear g1
  have H := Lib.hid hR
  have hb := hR.lt
  obtain ⟨h0, h1, h2, h3⟩ := hR.reg d (by omega)
  rw [hk] at h0 h1 h2 h3
  have hb1 : b < w.heap.size + 1 := by omega
  have hb2 : b < w.heap.size + 1 + 1 := by omega
  have hb3 : b < w.heap.size + 1 + 1 + 1 := by omega
  have hb4 : b < w.heap.size + 1 + 1 + 1 + 1 := by omega
  have hb5 : b < w.heap.size + 1 + 1 + 1 + 1 + 1 := by omega
  have hb6 : b < w.heap.size + 1 + 1 + 1 + 1 + 1 + 1 := by omega
  clear hR hk
  clear hk'
  go_enter Tryz.func44, Tryz.ntmps44
  go_upto_region 1 with fail
  go_cut [6, 7] (fun s6 s7 wx => ∃ p6 p7 : Nat, s6 = .pointer (some ⟨p6, 0, none⟩) ∧ s7 = .pointer (some ⟨p7, 0, none⟩) ∧ (wx.cell? ⟨p6, 0, none⟩ = some (.int .i64 2) ∧ wx.cell? ⟨p6, 1, none⟩ = some (.int .i64 ta) ∧ wx.cell? ⟨p6, 2, none⟩ = some (.int .i64 ra) ∧ wx.cell? ⟨p6, 3, none⟩ = some (.int .i64 x)) ∧ (wx.cell? ⟨p7, 0, none⟩ = some (.int .i64 1) ∧ wx.cell? ⟨p7, 1, none⟩ = some (.int .i64 tb) ∧ wx.cell? ⟨p7, 2, none⟩ = some (.int .i64 rb) ∧ wx.cell? ⟨p7, 3, none⟩ = some (.int .i64 xb)) ∧ (wx.cell? ⟨w.heap.size, 0, none⟩ = some (.int .i64 24) ∧ wx.cell? ⟨w.heap.size, 1, none⟩ = some (.bool nar) ∧ wx.cell? ⟨w.heap.size, 2, none⟩ = some (.bool true) ∧ wx.cell? ⟨w.heap.size, 3, none⟩ = some (.int .i64 n) ∧ wx.cell? ⟨w.heap.size, 4, none⟩ = some (.int .i64 d) ∧ wx.cell? ⟨w.heap.size, 5, none⟩ = some (.int .i64 s) ∧ wx.cell? ⟨w.heap.size, 6, none⟩ = some (.int .i64 off) ∧ wx.cell? ⟨w.heap.size, 7, none⟩ = some (.int .i64 imm)) ∧ w.heap.size ≤ p6 ∧ w.heap.size ≤ p7 ∧ RepF wx b (mcell L m) ∧ Fr (fun _ => False) w wx)
  case first =>
    go_region_held3 (fun w' => w'.cell? ⟨b, 423 + d * 4, none⟩ = some (.int .i64 2) ∧ w'.cell? ⟨b, 423 + d * 4 + 1, none⟩ = some (.int .i64 ta) ∧ w'.cell? ⟨b, 423 + d * 4 + 2, none⟩ = some (.int .i64 ra) ∧ w'.cell? ⟨b, 423 + d * 4 + 3, none⟩ = some (.int .i64 x) ∧ w'.cell? ⟨w.heap.size, 0, none⟩ = some (.int .i64 24) ∧ w'.cell? ⟨w.heap.size, 1, none⟩ = some (.bool nar) ∧ w'.cell? ⟨w.heap.size, 2, none⟩ = some (.bool true) ∧ w'.cell? ⟨w.heap.size, 3, none⟩ = some (.int .i64 n) ∧ w'.cell? ⟨w.heap.size, 4, none⟩ = some (.int .i64 d) ∧ w'.cell? ⟨w.heap.size, 5, none⟩ = some (.int .i64 s) ∧ w'.cell? ⟨w.heap.size, 6, none⟩ = some (.int .i64 off) ∧ w'.cell? ⟨w.heap.size, 7, none⟩ = some (.int .i64 imm)) (simp [go_sem, *])
      (first | (go_at_call 56; refine (second_reg b L m _ _ _ _ _ _ s hs _ ?_).mono ?_; (repeat (first | with_reducible exact H.out | with_reducible refine RepF.drew ?_ | with_reducible refine RepF.alloc ?_ _)); rw [HK.out]; rintro e w' ⟨rfl, rfl⟩) | fail)
    all_goals
      go_wp2_with fail
      go_meet
      refine ⟨_, _, rfl, rfl, ⟨by simp [go_sem], by simp [go_sem], by simp [go_sem], by simp [go_sem]⟩, ⟨by simp [go_sem], by simp [go_sem], by simp [go_sem], by simp [go_sem]⟩, ⟨by simp [go_sem], by simp [go_sem], by simp [go_sem], by simp [go_sem], by simp [go_sem], by simp [go_sem], by simp [go_sem], by simp [go_sem]⟩, by omega, by omega, ?_, ?_⟩
      · (repeat (first | with_reducible exact H.out | with_reducible refine RepF.drew ?_ | with_reducible refine RepF.alloc ?_ _))
      · repeat (first | with_reducible exact Fr.refl _ _ | with_reducible refine Fr.drew ?_ | with_reducible refine Fr.alloc ?_ _)
  case rest =>
    obtain ⟨p6, p7, rfl, rfl, ⟨a0, a1, a2, a3⟩, ⟨b0, b1, b2, b3⟩, ⟨i0, i1, i2, i3, i4, i5, i6, i7⟩, m6, m7, hRx, hFx⟩ := hcut
    have HR := Lib.hid hRx
    have HF := Lib.hid hFx
    have l6 := World.block_lt_of_cell? wc _ a0
    have l7 := World.block_lt_of_cell? wc _ b0
    have l0 := World.block_lt_of_cell? wc _ i0
    have lb := hRx.lt
    simp only at l6 l7 l0
    clear hRx hFx
    have l6a : p6 < wc.heap.size + 1 := by omega
    have l6b : p6 < wc.heap.size + 1 + 1 := by omega
    have l6c : p6 < wc.heap.size + 1 + 1 + 1 := by omega
    have l6d : p6 < wc.heap.size + 1 + 1 + 1 + 1 := by omega
    have l6e : p6 < wc.heap.size + 1 + 1 + 1 + 1 + 1 := by omega
    have l7a : p7 < wc.heap.size + 1 := by omega
    have l7b : p7 < wc.heap.size + 1 + 1 := by omega
    have l7c : p7 < wc.heap.size + 1 + 1 + 1 := by omega
    have l7d : p7 < wc.heap.size + 1 + 1 + 1 + 1 := by omega
    have l7e : p7 < wc.heap.size + 1 + 1 + 1 + 1 + 1 := by omega
    have l0a : w.heap.size < wc.heap.size + 1 := by omega
    have l0b : w.heap.size < wc.heap.size + 1 + 1 := by omega
    have l0c : w.heap.size < wc.heap.size + 1 + 1 + 1 := by omega
    have l0d : w.heap.size < wc.heap.size + 1 + 1 + 1 + 1 := by omega
    have l0e : w.heap.size < wc.heap.size + 1 + 1 + 1 + 1 + 1 := by omega
    have lba : b < wc.heap.size + 1 := by omega
    have lbb : b < wc.heap.size + 1 + 1 := by omega
    have lbc : b < wc.heap.size + 1 + 1 + 1 := by omega
    have lbd : b < wc.heap.size + 1 + 1 + 1 + 1 := by omega
    have lbe : b < wc.heap.size + 1 + 1 + 1 + 1 + 1 := by omega
    have g1n : 1 ≤ (n : Int) := by omega
    have g8n : (n : Int) ≤ 8 := by omega
    have n6 : p6 ≠ b := by omega
    have n7 : p7 ≠ b := by omega
    have n0 : w.heap.size ≠ b := by omega
    go_wp2_with (go_at_call 62; refine (pointer_any _ _ _ _ _).mono ?_; rintro e w1 ⟨rfl, rfl⟩)
    go_region_held3 (fun w' => w'.cell? ⟨p6, 0, none⟩ = some (.int .i64 2) ∧ w'.cell? ⟨p6, 1, none⟩ = some (.int .i64 ta) ∧ w'.cell? ⟨p6, 2, none⟩ = some (.int .i64 ra) ∧ w'.cell? ⟨p6, 3, none⟩ = some (.int .i64 x) ∧ w'.cell? ⟨p7, 0, none⟩ = some (.int .i64 1) ∧ w'.cell? ⟨p7, 1, none⟩ = some (.int .i64 tb) ∧ w'.cell? ⟨p7, 2, none⟩ = some (.int .i64 rb) ∧ w'.cell? ⟨p7, 3, none⟩ = some (.int .i64 xb) ∧ w'.cell? ⟨w.heap.size, 3, none⟩ = some (.int .i64 n)) (simp [go_sem, *])
      (first | (go_at_call 63; refine (within_stack _ _ _ _ _ _ _ (by omega) (by omega) (by omega) (by omega)).mono ?_; rintro e w1 ⟨rfl, rfl⟩) | fail)
    go_wp2_with (go_at_call 57; refine (numeric_any _ _ _ _ _).mono ?_; rintro e w1 ⟨rfl, rfl⟩)
    go_region_held3 (fun w' => w'.cell? ⟨p6, 0, none⟩ = some (.int .i64 2) ∧ w'.cell? ⟨p6, 1, none⟩ = some (.int .i64 ta) ∧ w'.cell? ⟨p6, 2, none⟩ = some (.int .i64 ra) ∧ w'.cell? ⟨p6, 3, none⟩ = some (.int .i64 x) ∧ w'.cell? ⟨p7, 0, none⟩ = some (.int .i64 1) ∧ w'.cell? ⟨p7, 1, none⟩ = some (.int .i64 tb) ∧ w'.cell? ⟨p7, 2, none⟩ = some (.int .i64 rb) ∧ w'.cell? ⟨p7, 3, none⟩ = some (.int .i64 xb) ∧ w'.cell? ⟨w.heap.size, 3, none⟩ = some (.int .i64 n)) (simp [go_sem, *])
      (first | (go_at_call 10; refine (put_any n _ _ (by omega) (by omega)).mono ?_; rintro e w1 ⟨rfl, rfl⟩) | (go_at_call 66; refine (write_stack b L m _ ?_ _ _ _ a n _ _ (byteOf xb) G1.out ?_ ?_ ?_).mono ?_; (repeat (first | with_reducible exact HR.out | with_reducible refine RepF.drew ?_ | with_reducible refine RepF.alloc ?_ _)); simp; (simp; omega); (intro j hj; simp [go_sem]; rw [putArr_get n _ n j hj, if_pos hj]); rintro e w1 ⟨rfl, hh, hF1⟩; (have hkc := frCell hF1); (have Hh := Lib.hid hh); (have HF1 := Lib.hid hF1); clear hh hF1) | fail)
    go_wp2_with fail
    refine bodyPost_ret (v := .tuple #[.int .i64 0, .int .i64 0]) (by simp [results, Tryz.results44, go_sem]) rfl ⟨rfl, Hh.out, ?_⟩
    refine Fr.trans (Fr.mono (S := fun _ => False) ?_ (fun _ _ h => h.elim)) HF1.out
    (repeat (first | with_reducible exact HF.out | with_reducible refine Fr.drew ?_ | with_reducible refine Fr.alloc ?_ _))

set_option maxRecDepth 100000 in
set_option maxHeartbeats 4000000 in
theorem store_stack_imm (b : Nat) (L : Lay) (m : Mac) (w : World) (hR : RepF w b (mcell L m)) (d  : Nat) (hd : (d : Int) < 11)  (nar : Bool) (off imm s : Int)
    (ta ra x : Int) (hk : m.reg d = ⟨2, ta, ra, x⟩)  (a n : Nat) (hxo : x + off = (a : Int)) (g1 : a + n ≤ 256) (g2 : 1 ≤ n) (g8 : n ≤ 8) :
    Calls Tryz.prog 44 #[.pointer (some ⟨b, 0, none⟩), .agg #[.int .i64 24, .bool nar, .bool false, .int .i64 n, .int .i64 d, .int .i64 s, .int .i64 off, .int .i64 imm]] w fun e w' =>
      e = .returned (.tuple #[.int .i64 0, .int .i64 0]) ∧ RepF w' b (mcell L (m.puts a (byteOf imm) n)) ∧ Fr (· = b) w w' := by
  have G1 := Lib.hid g1
  have ga : (a : Int) ≤ 256 := by omega
  have g5' : decide ((a : Int) + (n : Int) ≤ 256) = true := by simp; omega
  clear g1
  have H := Lib.hid hR
  have hb := hR.lt
  obtain ⟨h0, h1, h2, h3⟩ := hR.reg d (by omega)
  rw [hk] at h0 h1 h2 h3
  have hb1 : b < w.heap.size + 1 := by omega
  have hb2 : b < w.heap.size + 1 + 1 := by omega
  have hb3 : b < w.heap.size + 1 + 1 + 1 := by omega
  have hb4 : b < w.heap.size + 1 + 1 + 1 + 1 := by omega
  have hb5 : b < w.heap.size + 1 + 1 + 1 + 1 + 1 := by omega
  have hb6 : b < w.heap.size + 1 + 1 + 1 + 1 + 1 + 1 := by omega
  clear hR hk
  go_enter Tryz.func44, Tryz.ntmps44
  go_upto_region 1 with fail
  go_cut [6, 7] (fun s6 s7 wx => ∃ p6 p7 : Nat, s6 = .pointer (some ⟨p6, 0, none⟩) ∧ s7 = .pointer (some ⟨p7, 0, none⟩) ∧ (wx.cell? ⟨p6, 0, none⟩ = some (.int .i64 2) ∧ wx.cell? ⟨p6, 1, none⟩ = some (.int .i64 ta) ∧ wx.cell? ⟨p6, 2, none⟩ = some (.int .i64 ra) ∧ wx.cell? ⟨p6, 3, none⟩ = some (.int .i64 x)) ∧ (wx.cell? ⟨p7, 0, none⟩ = some (.int .i64 1) ∧ wx.cell? ⟨p7, 1, none⟩ = some (.int .i64 0) ∧ wx.cell? ⟨p7, 2, none⟩ = some (.int .i64 0) ∧ wx.cell? ⟨p7, 3, none⟩ = some (.int .i64 imm)) ∧ (wx.cell? ⟨w.heap.size, 0, none⟩ = some (.int .i64 24) ∧ wx.cell? ⟨w.heap.size, 1, none⟩ = some (.bool nar) ∧ wx.cell? ⟨w.heap.size, 2, none⟩ = some (.bool false) ∧ wx.cell? ⟨w.heap.size, 3, none⟩ = some (.int .i64 n) ∧ wx.cell? ⟨w.heap.size, 4, none⟩ = some (.int .i64 d) ∧ wx.cell? ⟨w.heap.size, 5, none⟩ = some (.int .i64 s) ∧ wx.cell? ⟨w.heap.size, 6, none⟩ = some (.int .i64 off) ∧ wx.cell? ⟨w.heap.size, 7, none⟩ = some (.int .i64 imm)) ∧ w.heap.size ≤ p6 ∧ w.heap.size ≤ p7 ∧ RepF wx b (mcell L m) ∧ Fr (fun _ => False) w wx)
  case first =>
    go_region_held3 (fun w' => w'.cell? ⟨b, 423 + d * 4, none⟩ = some (.int .i64 2) ∧ w'.cell? ⟨b, 423 + d * 4 + 1, none⟩ = some (.int .i64 ta) ∧ w'.cell? ⟨b, 423 + d * 4 + 2, none⟩ = some (.int .i64 ra) ∧ w'.cell? ⟨b, 423 + d * 4 + 3, none⟩ = some (.int .i64 x) ∧ w'.cell? ⟨w.heap.size, 0, none⟩ = some (.int .i64 24) ∧ w'.cell? ⟨w.heap.size, 1, none⟩ = some (.bool nar) ∧ w'.cell? ⟨w.heap.size, 2, none⟩ = some (.bool false) ∧ w'.cell? ⟨w.heap.size, 3, none⟩ = some (.int .i64 n) ∧ w'.cell? ⟨w.heap.size, 4, none⟩ = some (.int .i64 d) ∧ w'.cell? ⟨w.heap.size, 5, none⟩ = some (.int .i64 s) ∧ w'.cell? ⟨w.heap.size, 6, none⟩ = some (.int .i64 off) ∧ w'.cell? ⟨w.heap.size, 7, none⟩ = some (.int .i64 imm)) (simp [go_sem, *])
      (first | (go_at_call 56; refine (second_imm b _ _ _ _ _ _ _ _).mono ?_; rintro e w' ⟨rfl, rfl⟩) | fail)
    all_goals
      go_wp2_with fail
      go_meet
      refine ⟨_, _, rfl, rfl, ⟨by simp [go_sem], by simp [go_sem], by simp [go_sem], by simp [go_sem]⟩, ⟨by simp [go_sem], by simp [go_sem], by simp [go_sem], by simp [go_sem]⟩, ⟨by simp [go_sem], by simp [go_sem], by simp [go_sem], by simp [go_sem], by simp [go_sem], by simp [go_sem], by simp [go_sem], by simp [go_sem]⟩, by omega, by omega, ?_, ?_⟩
      · (repeat (first | with_reducible exact H.out | with_reducible refine RepF.drew ?_ | with_reducible refine RepF.alloc ?_ _))
      · repeat (first | with_reducible exact Fr.refl _ _ | with_reducible refine Fr.drew ?_ | with_reducible refine Fr.alloc ?_ _)
  case rest =>
    obtain ⟨p6, p7, rfl, rfl, ⟨a0, a1, a2, a3⟩, ⟨b0, b1, b2, b3⟩, ⟨i0, i1, i2, i3, i4, i5, i6, i7⟩, m6, m7, hRx, hFx⟩ := hcut
    have HR := Lib.hid hRx
    have HF := Lib.hid hFx
    have l6 := World.block_lt_of_cell? wc _ a0
    have l7 := World.block_lt_of_cell? wc _ b0
    have l0 := World.block_lt_of_cell? wc _ i0
    have lb := hRx.lt
    simp only at l6 l7 l0
    clear hRx hFx
    have l6a : p6 < wc.heap.size + 1 := by omega
    have l6b : p6 < wc.heap.size + 1 + 1 := by omega
    have l6c : p6 < wc.heap.size + 1 + 1 + 1 := by omega
    have l6d : p6 < wc.heap.size + 1 + 1 + 1 + 1 := by omega
    have l6e : p6 < wc.heap.size + 1 + 1 + 1 + 1 + 1 := by omega
    have l7a : p7 < wc.heap.size + 1 := by omega
    have l7b : p7 < wc.heap.size + 1 + 1 := by omega
    have l7c : p7 < wc.heap.size + 1 + 1 + 1 := by omega
    have l7d : p7 < wc.heap.size + 1 + 1 + 1 + 1 := by omega
    have l7e : p7 < wc.heap.size + 1 + 1 + 1 + 1 + 1 := by omega
    have l0a : w.heap.size < wc.heap.size + 1 := by omega
    have l0b : w.heap.size < wc.heap.size + 1 + 1 := by omega
    have l0c : w.heap.size < wc.heap.size + 1 + 1 + 1 := by omega
    have l0d : w.heap.size < wc.heap.size + 1 + 1 + 1 + 1 := by omega
    have l0e : w.heap.size < wc.heap.size + 1 + 1 + 1 + 1 + 1 := by omega
    have lba : b < wc.heap.size + 1 := by omega
    have lbb : b < wc.heap.size + 1 + 1 := by omega
    have lbc : b < wc.heap.size + 1 + 1 + 1 := by omega
    have lbd : b < wc.heap.size + 1 + 1 + 1 + 1 := by omega
    have lbe : b < wc.heap.size + 1 + 1 + 1 + 1 + 1 := by omega
    have g1n : 1 ≤ (n : Int) := by omega
    have g8n : (n : Int) ≤ 8 := by omega
    have n6 : p6 ≠ b := by omega
    have n7 : p7 ≠ b := by omega
    have n0 : w.heap.size ≠ b := by omega
    go_wp2_with (go_at_call 62; refine (pointer_any _ _ _ _ _).mono ?_; rintro e w1 ⟨rfl, rfl⟩)
    go_region_held3 (fun w' => w'.cell? ⟨p6, 0, none⟩ = some (.int .i64 2) ∧ w'.cell? ⟨p6, 1, none⟩ = some (.int .i64 ta) ∧ w'.cell? ⟨p6, 2, none⟩ = some (.int .i64 ra) ∧ w'.cell? ⟨p6, 3, none⟩ = some (.int .i64 x) ∧ w'.cell? ⟨p7, 0, none⟩ = some (.int .i64 1) ∧ w'.cell? ⟨p7, 1, none⟩ = some (.int .i64 0) ∧ w'.cell? ⟨p7, 2, none⟩ = some (.int .i64 0) ∧ w'.cell? ⟨p7, 3, none⟩ = some (.int .i64 imm) ∧ w'.cell? ⟨w.heap.size, 3, none⟩ = some (.int .i64 n)) (simp [go_sem, *])
      (first | (go_at_call 63; refine (within_stack _ _ _ _ _ _ _ (by omega) (by omega) (by omega) (by omega)).mono ?_; rintro e w1 ⟨rfl, rfl⟩) | fail)
    go_wp2_with (go_at_call 57; refine (numeric_any _ _ _ _ _).mono ?_; rintro e w1 ⟨rfl, rfl⟩)
    go_region_held3 (fun w' => w'.cell? ⟨p6, 0, none⟩ = some (.int .i64 2) ∧ w'.cell? ⟨p6, 1, none⟩ = some (.int .i64 ta) ∧ w'.cell? ⟨p6, 2, none⟩ = some (.int .i64 ra) ∧ w'.cell? ⟨p6, 3, none⟩ = some (.int .i64 x) ∧ w'.cell? ⟨p7, 0, none⟩ = some (.int .i64 1) ∧ w'.cell? ⟨p7, 1, none⟩ = some (.int .i64 0) ∧ w'.cell? ⟨p7, 2, none⟩ = some (.int .i64 0) ∧ w'.cell? ⟨p7, 3, none⟩ = some (.int .i64 imm) ∧ w'.cell? ⟨w.heap.size, 3, none⟩ = some (.int .i64 n)) (simp [go_sem, *])
      (first | (go_at_call 10; refine (put_any n _ _ (by omega) (by omega)).mono ?_; rintro e w1 ⟨rfl, rfl⟩) | (go_at_call 66; refine (write_stack b L m _ ?_ _ _ _ a n _ _ (byteOf imm) G1.out ?_ ?_ ?_).mono ?_; (repeat (first | with_reducible exact HR.out | with_reducible refine RepF.drew ?_ | with_reducible refine RepF.alloc ?_ _)); simp; (simp; omega); (intro j hj; simp [go_sem]; rw [putArr_get n _ n j hj, if_pos hj]); rintro e w1 ⟨rfl, hh, hF1⟩; (have hkc := frCell hF1); (have Hh := Lib.hid hh); (have HF1 := Lib.hid hF1); clear hh hF1) | fail)
    go_wp2_with fail
    refine bodyPost_ret (v := .tuple #[.int .i64 0, .int .i64 0]) (by simp [results, Tryz.results44, go_sem]) rfl ⟨rfl, Hh.out, ?_⟩
    refine Fr.trans (Fr.mono (S := fun _ => False) ?_ (fun _ _ h => h.elim)) HF1.out
    (repeat (first | with_reducible exact HF.out | with_reducible refine Fr.drew ?_ | with_reducible refine Fr.alloc ?_ _))

end Go.Proofs.YtkhbjhmhdlmmfaaGreat
