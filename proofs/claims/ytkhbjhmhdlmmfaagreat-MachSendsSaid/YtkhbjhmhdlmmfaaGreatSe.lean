/- Walks: a call that would send a number too many. -/
import Derived.Test.YtkhbjhmhdlmmfaaGreatSd
namespace Go.Proofs.YtkhbjhmhdlmmfaaGreat
open Go.RowKit

set_option maxRecDepth 100000 in
set_option maxHeartbeats 8000000 in
theorem call_full (b : Nat) (L : Lay) (m : Mac) (v : Int) (n : Nat) (w : World) (nar reg : Bool) (sz dst src off : Int) (hR : RepF w b (mcell L m)) (h1 : m.reg 1 = .num v) (p : Option Addr) (cp : Nat) (hL : L.sent = .slice p n cp)
    (hn : 64 ≤ n) :
    Calls Tryz.prog 48 #[.pointer (some ⟨b, 0, none⟩), .agg #[.int .i64 38, .bool nar, .bool reg, .int .i64 sz, .int .i64 dst, .int .i64 src, .int .i64 off, .int .i64 6]] w fun e w' => e = .returned (.tuple #[.int .i64 0, .int .i64 0]) ∧
      RepF w' b (mcell L (m.called (.num (-1)))) ∧ Fr (fun x => x = b) w w' := by
  have hb := hR.lt
  have HR := Lib.hid hR
  have HL := Lib.hid hL
  have H1 := Lib.hid h1
  clear hR hL h1
  obtain ⟨box, hbox⟩ : ∃ box, box = Obj.cells #[.int .i64 38, .bool nar, .bool reg, .int .i64 sz, .int .i64 dst, .int .i64 src, .int .i64 off, .int .i64 6] 25 := ⟨_, rfl⟩
  have hbx0 := heap_alloc_new w box
  have HSIG := Lib.hid (sig5 (w.alloc box))
  rw [hbox] at hbx0 HSIG
  have HBX := Lib.hid hbx0
  have HRa := Lib.hid (HR.out.alloc box)
  rw [hbox] at HRa
  clear hbx0 hbox box
  go_enter Tryz.func48, Tryz.ntmps48
  go_wp2_with fail
  refine HSIG.out.mono ?_
  rintro e w1 ⟨g, lo, hi, pp, qq, rfl, hg, hge, hF1⟩
  have HR1 := Lib.hid (HRa.out.fr hF1 (fun h => h))
  have HB1 := Lib.hid (heap_fr HBX.out hF1 (fun h => h))
  have HG1 := Lib.hid hg
  have hz1 := hF1.size
  have HF1 := Lib.hid (((Fr.refl (fun _ => False) w).alloc _).trans hF1)
  simp at hz1
  clear hF1 hg HSIG
  obtain ⟨so, hso⟩ : ∃ so, so = Obj.cells #[.slice (some ⟨g, 0, none⟩) 5 5, .int .i64 lo, .int .i64 hi, .bool pp, .bool qq] 108 := ⟨_, rfl⟩
  have HASK := Lib.hid (asked_emit b g L m v (w1.alloc so) (HR1.out.alloc so) H1.out (heap_fr HG1.out ((Fr.refl (fun _ => False) w1).alloc so) (fun h => h)))
  rw [hso] at HASK
  clear hso so
  go_wp2_with fail
  refine HASK.out.mono ?_
  rintro e w2 ⟨rfl, hF2⟩
  have HR2 := HR1.out.fr (((Fr.refl (fun _ => False) w1).alloc _).trans hF2) (fun h => h)
  have hB2 := heap_fr HB1.out (((Fr.refl (fun _ => False) w1).alloc _).trans hF2) (fun h => h)
  have hF2' := HF1.out.trans (((Fr.refl (fun _ => False) w1).alloc _).trans hF2)
  have q7 : w2.cell? ⟨w.heap.size, 7, none⟩ = some (.int .i64 6) := by simp [World.cell?, hB2]
  have hz2 := hF2.size
  simp at hz2
  have hzw := HF1.out.size
  have s467 := HR2.cell 467 (by omega)
  rw [show mcell L m 467 = L.sent by simp [mcell], HL.out] at s467
  obtain ⟨_, _, _, r13⟩ := HR2.reg 1 (by omega)
  obtain ⟨_, _, _, r23⟩ := HR2.reg 2 (by omega)
  obtain ⟨_, _, _, r33⟩ := HR2.reg 3 (by omega)
  rw [H1.out] at r13
  simp only [Nat.reduceMul, Nat.reduceAdd, Val.num] at r13 r23 r33
  have hb2 := HR2.lt
  have fz2 := HR2.frozen
  have HF2 := Lib.hid hF2'
  have HR2 := Lib.hid HR2
  clear hF2 hF2' hB2 HASK HR1 HB1 HG1 HF1 HRa HBX HR
  have hbs1 : b < w2.heap.size + 1 := by omega
  have hbs2 : b < w2.heap.size + 1 + 1 := by omega
  have hbs3 : b < w2.heap.size + 1 + 1 + 1 := by omega
  have hws : w.heap.size < w2.heap.size := by omega
  have hws1 : w.heap.size < w2.heap.size + 1 := by omega
  have hws2 : w.heap.size < w2.heap.size + 1 + 1 := by omega
  have hws3 : w.heap.size < w2.heap.size + 1 + 1 + 1 := by omega
  go_wp2_with (go_at_call 30; refine (number_any 0 _).mono ?_; rintro e w3 ⟨rfl, rfl⟩)
  have hn64 : decide ((n : Int) ≥ 64) = true := decide_eq_true (by omega)
  go_quiet (fail)
  go_wp2_with fail
  obtain ⟨r00, r01, r02, r03⟩ := HR2.out.reg 0 (by omega)
  obtain ⟨r10, r11, r12, r13⟩ := HR2.out.reg 1 (by omega)
  obtain ⟨r20, r21, r22, r23⟩ := HR2.out.reg 2 (by omega)
  obtain ⟨r30, r31, r32, r33⟩ := HR2.out.reg 3 (by omega)
  obtain ⟨r40, r41, r42, r43⟩ := HR2.out.reg 4 (by omega)
  obtain ⟨r50, r51, r52, r53⟩ := HR2.out.reg 5 (by omega)
  simp only [Nat.reduceMul, Nat.reduceAdd] at r00 r01 r02 r03 r10 r11 r12 r13 r20 r21 r22 r23 r30 r31 r32 r33 r40 r41 r42 r43 r50 r51 r52 r53
  have hb9 : b ≠ w2.heap.size + 1 + 1 := by omega
  go_region_held3 (fun w' => w'.cell? ⟨w2.heap.size + 1 + 1, 0, none⟩ = some (.int .i64 1) ∧ w'.cell? ⟨w2.heap.size + 1 + 1, 1, none⟩ = some (.int .i64 0) ∧ w'.cell? ⟨w2.heap.size + 1 + 1, 2, none⟩ = some (.int .i64 0) ∧ w'.cell? ⟨w2.heap.size + 1 + 1, 3, none⟩ = some (.int .i64 (-1))) (simp [go_sem, *]) (fail)
  go_wp2
  refine wp_loop_rounds 6 ?_
  rw [rounds_succ]
  go_wp2
  rw [rounds_succ]
  go_wp2
  rw [rounds_succ]
  go_wp2
  rw [rounds_succ]
  go_wp2
  rw [rounds_succ]
  go_wp2
  rw [rounds_succ]
  go_wp2
  go_ret2
  refine ⟨rfl, ?_, ?_⟩
  · repeat (first | with_reducible refine RepF.drew ?_)
    exact ((((((show RepF _ b (mcell L m) from by repeat (first | with_reducible exact HR2.out | with_reducible refine RepF.drew ?_ | with_reducible refine RepF.drewN ?_ _ | with_reducible refine RepF.alloc ?_ _ | with_reducible refine RepF.setCell_other ?_ _ hb9 _)).setReg 0 (by omega) (.num (-1))).setReg 1 (by omega) .zero).setReg 2 (by omega) .zero).setReg 3 (by omega) .zero).setReg 4 (by omega) .zero).setReg 5 (by omega) .zero
  · repeat (first | with_reducible refine Fr.drew ?_ | with_reducible refine Fr.drewN ?_ _ | with_reducible refine Fr.alloc ?_ _ | with_reducible refine Fr.setCell ?_ _ _ (.inl rfl) | with_reducible refine Fr.setCell ?_ _ _ (.inr (show w.heap.size ≤ w2.heap.size + 1 + 1 by omega)))
    exact HF2.out.mono (fun _ _ h => h.elim)

end Go.Proofs.YtkhbjhmhdlmmfaaGreat
