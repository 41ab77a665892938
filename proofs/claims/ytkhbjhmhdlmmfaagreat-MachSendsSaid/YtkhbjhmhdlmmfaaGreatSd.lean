/- Walks: a call that sends a number. -/
import Derived.Test.YtkhbjhmhdlmmfaaGreatSc
import Derived.Test.YtkhbjhmhdlmmfaaGreatU
import Derived.Deep.QuietTactic
import Derived.BigQuiet
import Derived.Deep.RegionHeld3
namespace Go.Proofs.YtkhbjhmhdlmmfaaGreat
open Go.RowKit

/-- behind a call: r0, and r1 to r5 unset -/
def Mac.called (m : Mac) (v : Val) : Mac := (((((m.setReg 0 v).setReg 1 .zero).setReg 2 .zero).setReg 3 .zero).setReg 4 .zero).setReg 5 .zero

theorem upd_sent (L : Lay) (m : Mac) (v : Value) : ∀ i, i < 471 → upd (mcell L m) 467 v i = mcell { L with sent := v } m i := by
  intro i hi
  unfold upd
  by_cases h : i = 467
  · subst h; simp [mcell]
  · rw [if_neg h]
    unfold mcell
    by_cases h0 : i < 416
    · simp only [if_pos h0]
    · by_cases h1 : i = 416
      · simp [h1]
      · by_cases h2 : i < 420
        · simp [h0, h1, h2]
        · by_cases h3 : i = 420
          · simp [h3]
          · by_cases h4 : i = 421
            · simp [h4]
            · by_cases h5 : i = 422
              · simp [h5]
              · by_cases h6 : i < 467
                · simp [h0, h1, h2, h3, h4, h5, h6]
                · simp [h0, h1, h2, h3, h4, h5, h6, h]

theorem own_drewN {w : World} {base e sz : Nat} {v : Value} {n : Nat} {xs : List Value} (h : w.ownsRow base e sz v n xs) (k : Nat) : (w.drewN k).ownsRow base e sz v n xs := h
theorem own_alloc {w : World} {base e sz : Nat} {v : Value} {n : Nat} {xs : List Value} (h : w.ownsRow base e sz v n xs) (o : Obj) : (w.alloc o).ownsRow base e sz v n xs := h.alloc o
theorem owns_slice_n {w : World} {base e sz : Nat} {v : Value} {n : Nat} {xs : List Value} (h : w.ownsRow base e sz v n xs) : ∃ p c, v = .slice p n c := by
  rcases h.2 with ⟨rfl, rfl⟩ | ⟨g, cap, cur, rfl, _⟩
  · exact ⟨_, _, rfl⟩
  · exact ⟨_, _, rfl⟩
theorem RepF.ends {S : Nat → Prop} {w w' : World} {b : Nat} {f : Nat → Value} (h : RepF w b f) (hf : Fr S w w') (hS : ¬ S b) : RepF w' b f := h.fr hf hS

theorem new3 (w : World) (o1 o2 o3 o4 : Obj) (q : Nat) : (((((w.alloc o1).alloc o2).alloc o3).drewN q).alloc o4).heap[w.heap.size + 1 + 1]? = some o3 := by
  have h := heap_alloc_new ((w.alloc o1).alloc o2) o3
  have h2 : (((w.alloc o1).alloc o2).alloc o3).heap[w.heap.size + 1 + 1]? = some o3 := by simpa using h
  rw [Below.heap_alloc _ _ _ (Array.getElem?_eq_some_iff.1 (show (((((w.alloc o1).alloc o2).alloc o3).drewN q).heap[w.heap.size + 1 + 1]? = some o3) from h2)).1]
  exact h2

set_option maxRecDepth 100000 in
set_option maxHeartbeats 8000000 in
theorem call_emit (b : Nat) (L : Lay) (m : Mac) (v : Int) (n : Nat) (sx : Nat → Int) (base : Nat) (w : World) (nar reg : Bool) (sz dst src off : Int) (hR : RepF w b (mcell L m)) (h1 : m.reg 1 = .num v) (p : Option Addr) (cp : Nat) (hL : L.sent = .slice p n cp)
    (hs : w.ownsRow base 3 1 (.slice p n cp) n (intsL sx n)) (hbb : b < base) (hbw : base ≤ w.heap.size) (hn : n < 64) (hv : sx n = v) :
    Calls Tryz.prog 48 #[.pointer (some ⟨b, 0, none⟩), .agg #[.int .i64 38, .bool nar, .bool reg, .int .i64 sz, .int .i64 dst, .int .i64 src, .int .i64 off, .int .i64 6]] w fun e w' => e = .returned (.tuple #[.int .i64 0, .int .i64 0]) ∧
      ∃ p2 c2, w'.ownsRow base 3 1 (.slice p2 (n + 1) c2) (n + 1) (intsL sx (n + 1)) ∧ RepF w' b (mcell { L with sent := .slice p2 (n + 1) c2 } (m.called (.num 0))) ∧ Fr (fun x => x = b ∨ (Value.slice p n cp).ownBlock = some x) w w' := by
  have hb := hR.lt
  have HR := Lib.hid hR
  have HS := Lib.hid hs
  have HL := Lib.hid hL
  have HV := Lib.hid hv
  have H1 := Lib.hid h1
  clear hR hs hL hv h1
  obtain ⟨box, hbox⟩ : ∃ box, box = Obj.cells #[.int .i64 38, .bool nar, .bool reg, .int .i64 sz, .int .i64 dst, .int .i64 src, .int .i64 off, .int .i64 6] 25 := ⟨_, rfl⟩
  have hbx0 := heap_alloc_new w box
  have HSIG := Lib.hid (sig5 (w.alloc box))
  rw [hbox] at hbx0 HSIG
  have HBX := Lib.hid hbx0
  have HRa := Lib.hid (HR.out.alloc box)
  rw [hbox] at HRa
  clear hbx0 hbox box
  go_enter Tryz.func48, Tryz.ntmps48
  go_wp2_with fail
  refine HSIG.out.mono ?_
  rintro e w1 ⟨g, lo, hi, pp, qq, rfl, hg, hge, hF1⟩
  have HR1 := Lib.hid (HRa.out.fr hF1 (fun h => h))
  have HB1 := Lib.hid (heap_fr HBX.out hF1 (fun h => h))
  have HG1 := Lib.hid hg
  have hz1 := hF1.size
  have HF1 := Lib.hid (((Fr.refl (fun _ => False) w).alloc _).trans hF1)
  simp at hz1
  clear hF1 hg HSIG
  obtain ⟨so, hso⟩ : ∃ so, so = Obj.cells #[.slice (some ⟨g, 0, none⟩) 5 5, .int .i64 lo, .int .i64 hi, .bool pp, .bool qq] 108 := ⟨_, rfl⟩
  have HASK := Lib.hid (asked_emit b g L m v (w1.alloc so) (HR1.out.alloc so) H1.out (heap_fr HG1.out ((Fr.refl (fun _ => False) w1).alloc so) (fun h => h)))
  rw [hso] at HASK
  clear hso so
  go_wp2_with fail
  refine HASK.out.mono ?_
  rintro e w2 ⟨rfl, hF2⟩
  have HR2 := HR1.out.fr (((Fr.refl (fun _ => False) w1).alloc _).trans hF2) (fun h => h)
  have hB2 := heap_fr HB1.out (((Fr.refl (fun _ => False) w1).alloc _).trans hF2) (fun h => h)
  have hF2' := HF1.out.trans (((Fr.refl (fun _ => False) w1).alloc _).trans hF2)
  have q7 : w2.cell? ⟨w.heap.size, 7, none⟩ = some (.int .i64 6) := by simp [World.cell?, hB2]
  have hz2 := hF2.size
  simp at hz2
  have hzw := HF1.out.size
  have s467 := HR2.cell 467 (by omega)
  rw [show mcell L m 467 = L.sent by simp [mcell], HL.out] at s467
  obtain ⟨_, _, _, r13⟩ := HR2.reg 1 (by omega)
  obtain ⟨_, _, _, r23⟩ := HR2.reg 2 (by omega)
  obtain ⟨_, _, _, r33⟩ := HR2.reg 3 (by omega)
  rw [H1.out] at r13
  simp only [Nat.reduceMul, Nat.reduceAdd, Val.num] at r13 r23 r33
  have hb2 := HR2.lt
  have fz2 := HR2.frozen
  have HS2 := Lib.hid (ownsRow_fr HS.out hF2')
  have HF2 := Lib.hid hF2'
  have HR2 := Lib.hid HR2
  clear hF2 hF2' hB2 HASK HR1 HB1 HG1 HF1 HRa HBX HR HS
  have hbs1 : b < w2.heap.size + 1 := by omega
  have hbs2 : b < w2.heap.size + 1 + 1 := by omega
  have hbs3 : b < w2.heap.size + 1 + 1 + 1 := by omega
  have hbw2 : base ≤ w2.heap.size := by omega
  have hws : w.heap.size < w2.heap.size := by omega
  have hws1 : w.heap.size < w2.heap.size + 1 := by omega
  have hws2 : w.heap.size < w2.heap.size + 1 + 1 := by omega
  have hws3 : w.heap.size < w2.heap.size + 1 + 1 + 1 := by omega
  go_wp2_with (go_at_call 30; refine (number_any 0 _).mono ?_; rintro e w3 ⟨rfl, rfl⟩)
  obtain ⟨i0, hi0, hz0, hz3, hz4⟩ := info_parts Tryz.info3
  have hn64 : decide ((n : Int) ≥ 64) = false := decide_eq_false (by omega)
  go_quiet (fail)
  go_wp2_with (at_builtin; go_must (refine wpList_append_own _ rfl _ _ 29 rfl base 3 i0 (.int .i64 0) 1 8 Tryz.underlying29 hi0 hz0 hz3 hz4 rfl (by decide) _ _ _ rfl (show World.ownsRow _ base 3 1 (.slice p n cp) n (intsL sx n) from by repeat (first | with_reducible exact HS2.out | with_reducible refine own_alloc ?_ _ | with_reducible refine own_drewN ?_ _)) _ 1 _ [.int .i64 v] rfl rfl (one_cell (by simp [go_sem])) (one_one rfl) (by unfold maxLen; omega) (by omega) (by simp; omega) ?_; intro v5 w5 hown5 hgrow5 _; obtain ⟨p2, c2, rfl⟩ := owns_slice_n hown5; (have F5 : Fr (fun x => (Value.slice p n cp).ownBlock = some x) w2 w5 := Fr.grown ((((((Fr.refl _ w2).alloc _).alloc _).alloc _).drewN _).alloc _) hgrow5 (fun k hk => .inl hk)); (have x5 : Fr (fun x => (Value.slice p n cp).ownBlock = some x) _ w5 := Fr.grown (Fr.refl _ _) hgrow5 (fun k hk => .inl hk)); (have hne9 : ¬ (Value.slice p n cp).ownBlock = some (w2.heap.size + 1 + 1) := fun h => by have := (HS2.out.lt _ h).2; omega); (have h9 := heap_fr (new3 w2 _ _ _ _ nq) x5 hne9); (have hneb : ¬ (Value.slice p n cp).ownBlock = some b := fun h => by have := (HS2.out.lt _ h).1; omega); (have R5 := HR2.out.fr F5 hneb); (have c467 : w5.cell? ⟨b, 467, none⟩ = some (.slice p n cp) := (cell_fr s467 F5 hneb)); (have f5 := R5.frozen); (have hb5 := R5.lt); (have k0 : w5.cell? ⟨w2.heap.size + 1 + 1, 0, none⟩ = some (.int .i64 1) := by simp [World.cell?, h9]); (have k1 : w5.cell? ⟨w2.heap.size + 1 + 1, 1, none⟩ = some (.int .i64 0) := by simp [World.cell?, h9]); (have k2 : w5.cell? ⟨w2.heap.size + 1 + 1, 2, none⟩ = some (.int .i64 0) := by simp [World.cell?, h9]); (have k3 : w5.cell? ⟨w2.heap.size + 1 + 1, 3, none⟩ = some (.int .i64 0) := by simp [World.cell?, h9]); (have hz5 := F5.size); (have HO5 := Lib.hid hown5); (have HF5 := Lib.hid F5); (have HR5 := Lib.hid R5); clear hown5 hgrow5 x5 hne9 h9 hneb F5 R5))
  obtain ⟨r00, r01, r02, r03⟩ := HR5.out.reg 0 (by omega)
  obtain ⟨r10, r11, r12, r13⟩ := HR5.out.reg 1 (by omega)
  obtain ⟨r20, r21, r22, r23⟩ := HR5.out.reg 2 (by omega)
  obtain ⟨r30, r31, r32, r33⟩ := HR5.out.reg 3 (by omega)
  obtain ⟨r40, r41, r42, r43⟩ := HR5.out.reg 4 (by omega)
  obtain ⟨r50, r51, r52, r53⟩ := HR5.out.reg 5 (by omega)
  simp only [Nat.reduceMul, Nat.reduceAdd] at r00 r01 r02 r03 r10 r11 r12 r13 r20 r21 r22 r23 r30 r31 r32 r33 r40 r41 r42 r43 r50 r51 r52 r53
  have hb9 : b ≠ w2.heap.size + 1 + 1 := by omega
  go_region_held3 (fun w' => w'.cell? ⟨w2.heap.size + 1 + 1, 0, none⟩ = some (.int .i64 1) ∧ w'.cell? ⟨w2.heap.size + 1 + 1, 1, none⟩ = some (.int .i64 0) ∧ w'.cell? ⟨w2.heap.size + 1 + 1, 2, none⟩ = some (.int .i64 0) ∧ w'.cell? ⟨w2.heap.size + 1 + 1, 3, none⟩ = some (.int .i64 0)) (simp [go_sem, *]) (fail)
  go_wp2
  refine wp_loop_rounds 6 ?_
  rw [rounds_succ]
  go_wp2
  rw [rounds_succ]
  go_wp2
  rw [rounds_succ]
  go_wp2
  rw [rounds_succ]
  go_wp2
  rw [rounds_succ]
  go_wp2
  rw [rounds_succ]
  go_wp2
  go_ret2
  have hL' : ∀ x, x < 471 → upd (mcell L m) 467 (.slice p2 (n + 1) c2) x = mcell { L with sent := .slice p2 (n + 1) c2 } m x := upd_sent L m _
  have hrep := (((((((HR5.out.setCell 467 (.slice p2 (n + 1) c2)).congr hL').setReg 0 (by omega) (.num 0)).setReg 1 (by omega) .zero).setReg 2 (by omega) .zero).setReg 3 (by omega) .zero).setReg 4 (by omega) .zero).setReg 5 (by omega) .zero
  refine ⟨rfl, p2, c2, ?_, ?_, ?_⟩
  · have ho := HO5.out
    rw [show intsL sx n ++ [.int .i64 v] = intsL sx (n + 1) by rw [intsL_succ, HV.out]] at ho
    refine ownsRow_frS (S := fun x => x = b) ho ?_ (fun g hg h => by omega)
    repeat (first | with_reducible exact Fr.refl _ _ | with_reducible refine Fr.drew ?_ | with_reducible refine Fr.setCell ?_ _ _ (.inl rfl))
  · repeat (first | with_reducible refine RepF.drew ?_)
    exact hrep
  · repeat (first | with_reducible refine Fr.drew ?_ | with_reducible refine Fr.setCell ?_ _ _ (.inl (.inl rfl)))
    refine (HF2.out.mono (fun _ _ h => h.elim)).trans (HF5.out.mono (fun _ _ h => .inr h))

end Go.Proofs.YtkhbjhmhdlmmfaaGreat
