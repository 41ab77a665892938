/- Walks: Step: an instruction is fetched, done, and the next one found. -/
import Derived.Test.YtkhbjhmhdlmmfaaGreatI
import Derived.Maps.Own
namespace Go.Proofs.YtkhbjhmhdlmmfaaGreat
open Go.RowKit

/-- the entries of the map that New fills: the unit u i stands for the instruction i -/
def mapArr (u : Nat → Int) (n : Nat) : Array MapEntry := ((List.range n).map fun i => ({ key := .int .i64 (u i), val := .int .i64 i, born := i } : MapEntry)).toArray

theorem findNow_range (u : Nat → Int) (x : Int) (j : Nat) (hx : u j = x) : ∀ (d k n i : Nat), n - k = d → k ≤ j → j < n → (∀ a, a < j → u a ≠ x) →
    Instr.findNow (.int .i64) (.int .i64 x) ((List.range' k (n - k)).map fun i => ({ key := .int .i64 (u i), val := .int .i64 i, born := i } : MapEntry)) i = some (some (i + (j - k), .int .i64 j)) := by
  intro d
  induction d with
  | zero => intro k n i hd hk hj _; omega
  | succ d ih =>
    intro k n i hd hk hj hne
    rw [hd, List.range'_succ, List.map_cons]
    simp only [Instr.findNow, Instr.sameNow, if_true]
    by_cases e : k = j
    · subst e
      simp [hx]
    · have h1 : (x == u k) = false := by rw [beq_eq_false_iff_ne]; exact fun h => hne k (by omega) h.symm
      rw [h1]
      simp only
      have := ih (k + 1) n (i + 1) (by omega) (by omega) hj hne
      rw [show n - (k + 1) = d by omega] at this
      rw [this, show i + 1 + (j - (k + 1)) = i + (j - k) by omega]

theorem findNow_hit (u : Nat → Int) (n j : Nat) (hj : j < n) (hne : ∀ a, a < j → u a ≠ u j) :
    Instr.findNow (.int .i64) (.int .i64 (u j)) (mapArr u n).toList 0 = some (some (j, .int .i64 j)) := by
  have := findNow_range u (u j) j rfl n 0 n 0 (by omega) (by omega) hj hne
  simpa [mapArr, List.range_eq_range'] using this

theorem run_look (u : Nat → Int) (n j r : Nat) (hj : j < n) (hne : ∀ a, a < j → u a ≠ u j) (w : World) (h : w.heap[r]? = some (.map (mapArr u n) n)) :
    (Instr.lookup 62 (.map (some r)) (.int .i64 (u j)) true).run Tryz.prog w = .ok (.tuple #[.int .i64 j, .bool true]) w := by
  have hf := findNow_hit u n j hj hne
  have hc : (Instr.checkKey (mapArr u n).isEmpty 10000 3 (.int .i64 (u j))).run Tryz.prog w = .ok () w := MapKept.run_checkKey Tryz.underlying3 (by simp [MapKept.IsKey]) _ 9999
  have hk := MapKept.run_findKey (P := Tryz.prog) (w := w) Tryz.underlying3 hf
  unfold Instr.lookup
  simp only [Sem.run_bind, run_underlying Tryz.underlying62, Result.andThen, getObj]
  simp [Sem.run, h, hc, hk, Result.andThen]

theorem upd_pc (L : Lay) (m : Mac) (p : Nat) (s : Nat) : ∀ i, i < 471 → upd (upd (mcell L m) 468 (.int .i64 p)) 469 (.int .i64 s) i = mcell L { m with pc := p, steps := s } i := by
  intro i hi
  unfold upd
  by_cases e : i = 469
  · subst e; simp [mcell]
  · by_cases e2 : i = 468
    · subst e2; simp [mcell]
    · rw [if_neg e, if_neg e2]
      unfold mcell
      by_cases h0 : i < 416
      · simp only [if_pos h0]; rfl
      · by_cases h1 : i = 416
        · simp [h1]
        · by_cases h2 : i < 420
          · simp [h0, h1, h2]
          · by_cases h3 : i < 467
            · simp [h0, h1, h2, h3]
            · have : i = 467 ∨ i = 470 := by omega
              rcases this with rfl | rfl <;> simp
theorem upd_st (L : Lay) (m : Mac) (s : Nat) : ∀ i, i < 471 → upd (mcell L m) 469 (.int .i64 s) i = mcell L { m with steps := s } i := by
  intro i hi
  have h := upd_pc L m m.pc s i hi
  rw [← h]
  unfold upd
  by_cases e : i = 469
  · rw [if_pos e, if_pos e]
  · rw [if_neg e, if_neg e]
    by_cases e2 : i = 468
    · rw [if_pos e2, e2]; simp [mcell]
    · rw [if_neg e2]
theorem RepF.drewN {w : World} {b : Nat} {f : Nat → Value} (h : RepF w b f) (n : Nat) : RepF (w.drewN n) b f := h
theorem Fr.drewN {S : Nat → Prop} {a w : World} (h : Fr S a w) (n : Nat) : Fr S a (w.drewN n) := ⟨h.os, h.tape, h.output, h.size, h.block⟩
theorem frCells {S : Nat → Prop} {W w1 : World} (h : Fr S W w1) : ∀ k o, k < W.heap.size → ¬ S k → w1.cell? ⟨k, o, none⟩ = W.cell? ⟨k, o, none⟩ :=
  fun k _ hk hc => World.cell?_of_block (w := W) (h.block k hk hc)


set_option maxRecDepth 100000 in
set_option maxHeartbeats 4000000 in
theorem step_ok_40 (b : Nat) (L : Lay) (m m' : Mac) (w : World) (S : Nat → Prop) (hSw : ∀ k, S k → k < w.heap.size) (hR : RepF w b (mcell L m)) (hdone : m.done = false) (i : Ins) (len gc capc gu capu : Nat) (u : Nat → Int)
    (hcode : L.code = .slice (some ⟨gc, 0, none⟩) len capc) (hci : w.cell? ⟨gc, m.pc * 8, none⟩ = some (.int .i64 i.op) ∧ w.cell? ⟨gc, m.pc * 8 + 1, none⟩ = some (.bool i.nar) ∧ w.cell? ⟨gc, m.pc * 8 + 2, none⟩ = some (.bool i.reg) ∧ w.cell? ⟨gc, m.pc * 8 + 3, none⟩ = some (.int .i64 i.size) ∧ w.cell? ⟨gc, m.pc * 8 + 4, none⟩ = some (.int .i64 i.dst) ∧ w.cell? ⟨gc, m.pc * 8 + 5, none⟩ = some (.int .i64 i.src) ∧ w.cell? ⟨gc, m.pc * 8 + 6, none⟩ = some (.int .i64 i.off) ∧ w.cell? ⟨gc, m.pc * 8 + 7, none⟩ = some (.int .i64 i.imm))
    (ho0 : i.op ≤ 15)
    (ho1 : decide (26 ≤ i.op) = false) (ho2 : (i.op != 39) = true)
    (hlast : ((m.pc : Int) + 1 == (len : Int)) = false) (hpc : (m.pc : Int) < len)
    (hunits : L.units = .slice (some ⟨gu, 0, none⟩) (len + 1) capu) (hu1 : w.cell? ⟨gu, m.pc + 1, none⟩ = some (.int .i64 (u (m.pc + 1)))) (hub : 0 ≤ u (m.pc + 1) ∧ u (m.pc + 1) ≤ 1000000) (hinj : ∀ a, a < m.pc + 1 → u a ≠ u (m.pc + 1)) (hmap : w.heap[L.beg]? = some (.map (mapArr u len) len)) (hSu : ¬ S gu) (hSb : ¬ S L.beg) (hlt : m.pc + 1 < len) (hpc6 : (m.pc : Int) ≤ 1000000)
    (X : World → Prop) (hX : ∀ w1 w2, X w1 → Fr (fun k => k = b) w1 w2 → X w2)
    (hst : (m.steps : Int) ≤ 1000000000) (hSS : S b)
    (hdo : ∀ W, RepF W b (mcell L m) → Fr (fun _ => False) w W → Calls Tryz.prog 40 #[.pointer (some ⟨b, 0, none⟩), .agg #[.int .i64 i.op, .bool i.nar, .bool i.reg, .int .i64 i.size, .int .i64 i.dst, .int .i64 i.src, .int .i64 i.off, .int .i64 i.imm]] W fun e w' => e = .returned (.tuple #[.int .i64 0, .int .i64 0]) ∧ RepF w' b (mcell L m') ∧ X w' ∧ Fr S W w') (hpc' : m'.pc = m.pc) (hst' : m'.steps = m.steps) (hdone' : m'.done = false) :
    Calls Tryz.prog 32 #[.pointer (some ⟨b, 0, none⟩)] w fun e w' => e = .returned (.int .i64 0) ∧ RepF w' b (mcell L { m' with pc := m.pc + 1, steps := m.steps + 1 }) ∧ X w' ∧ Fr S w w' := by
  have H := Lib.hid hR
  have hb := hR.lt
  have hn0 : ¬ S w.heap.size := fun h => Nat.lt_irrefl _ (hSw _ h)
  have HSW := Lib.hid hSw
  have HXX := Lib.hid hX
  clear hX
  clear hSw
  have hDo := Lib.hid hdo
  obtain ⟨c0, c1, c2, c3, c4, c5, c6, c7⟩ := hci
  have hgc := World.block_lt_of_cell? w _ c0
  simp only at hgc
  have f8 := hR.cell 470 (by omega)
  have f1 := hR.cell 420 (by omega)
  have f6 := hR.cell 468 (by omega)
  simp only [show mcell L m 470 = .bool m.done by simp [mcell], show mcell L m 420 = L.code by simp [mcell], show mcell L m 468 = .int .i64 m.pc by simp [mcell], hdone, hcode] at f8 f1 f6
  have hgu := World.block_lt_of_cell? w _ hu1
  simp only at hgu
  have hgm : L.beg < w.heap.size := (Array.getElem?_eq_some_iff.1 hmap).1
  have HU := Lib.hid hunits
  have HU1 := Lib.hid hu1
  have HM := Lib.hid hmap
  have HI := Lib.hid hinj
  obtain ⟨hub0, hub1⟩ := hub
  have HPC := Lib.hid hpc'
  have HST := Lib.hid hst'
  have HDN := Lib.hid hdone'
  clear hunits hu1 hmap hinj hpc' hst' hdone'
  clear hR hdo hcode hdone
  go_enter Tryz.func32, Tryz.ntmps32
  go_wp2_with fail
  go_region
  go_wp2_with fail
  go_quiet (fail)
  go_wp2_with fail
  go_region_held3 (fun w' => w'.cell? ⟨w.heap.size, 0, none⟩ = some (.int .i64 i.op) ∧ w'.cell? ⟨w.heap.size, 1, none⟩ = some (.bool i.nar) ∧ w'.cell? ⟨w.heap.size, 2, none⟩ = some (.bool i.reg) ∧ w'.cell? ⟨w.heap.size, 3, none⟩ = some (.int .i64 i.size) ∧ w'.cell? ⟨w.heap.size, 4, none⟩ = some (.int .i64 i.dst) ∧ w'.cell? ⟨w.heap.size, 5, none⟩ = some (.int .i64 i.src) ∧ w'.cell? ⟨w.heap.size, 6, none⟩ = some (.int .i64 i.off) ∧ w'.cell? ⟨w.heap.size, 7, none⟩ = some (.int .i64 i.imm)) (simp [go_sem, *])
    (first | (go_at_call 38; refine (doer_arith _ _ (by omega) _).mono ?_; rintro e w0 ⟨rfl, rfl⟩) | (go_at_call 40; refine (hDo.out _ ?_ ?_).mono ?_; (repeat (first | with_reducible exact H.out | with_reducible refine RepF.drew ?_ | with_reducible refine RepF.drewN ?_ _ | with_reducible refine RepF.alloc ?_ _)); (repeat (first | with_reducible exact Fr.refl _ _ | with_reducible refine Fr.drew ?_ | with_reducible refine Fr.drewN ?_ _ | with_reducible refine Fr.alloc ?_ _)); rintro e w1 ⟨rfl, hR1, hX1, hF1⟩; (have hkc := frCells hF1); (have hz1 := hF1.size); (simp [go_sem] at hz1); (have HR1 := Lib.hid hR1); (have HX1 := Lib.hid hX1); (have HF1 := Lib.hid hF1); clear hR1 hX1 hF1) | fail)
  have e8 := HR1.out.cell 470 (by omega)
  have e1 := HR1.out.cell 421 (by omega)
  have e2 := HR1.out.cell 422 (by omega)
  have e6 := HR1.out.cell 468 (by omega)
  have e7 := HR1.out.cell 469 (by omega)
  simp only [show mcell L m' 470 = .bool m'.done by simp [mcell], show mcell L m' 421 = L.units by simp [mcell], show mcell L m' 422 = .map (some L.beg) by simp [mcell], show mcell L m' 468 = .int .i64 m'.pc by simp [mcell], show mcell L m' 469 = .int .i64 m'.steps by simp [mcell], HU.out, HPC.out, HST.out, HDN.out] at e8 e1 e2 e6 e7
  have eu : w1.cell? ⟨gu, m.pc + 1, none⟩ = some (.int .i64 (u (m.pc + 1))) := by rw [hkc gu _ (by simp; omega) hSu]; simp [go_sem, hgu, HU1.out]
  have em : w1.heap[L.beg]? = some (.map (mapArr u len) len) := (HF1.out.block L.beg (by simp; omega) hSb).trans ((Below.heap_alloc w _ _ hgm).trans HM.out)
  have hlk : ∀ n, (Instr.lookup 62 (.map (some L.beg)) (.int .i64 (u (m.pc + 1))) true).run Tryz.prog (w1.drewN n) = .ok (.tuple #[.int .i64 (m.pc + 1 : Nat), .bool true]) (w1.drewN n) := fun n => run_look u len (m.pc + 1) L.beg hlt HI.out (w1.drewN n) em
  have ef := HR1.out.frozen
  have hb1 := HR1.out.lt
  have HEM := Lib.hid em
  clear hkc em c0 c1 c2 c3 c4 c5 c6 c7 f8 f1 f6
  go_wp2_with fail
  go_quiet (fail)
  go_wp2_with fail
  go_ret
  have hq := ((HR1.out.setCell 468 (.int .i64 (m.pc + 1 : Nat))).setCell 469 (.int .i64 (m.steps + 1 : Nat))).congr (upd_pc L m' (m.pc + 1) (m.steps + 1))
  rw [show ((m.pc + 1 : Nat) : Int) = (m.pc : Int) + 1 by omega, show ((m.steps + 1 : Nat) : Int) = (m.steps : Int) + 1 by omega] at hq
  refine ⟨rfl, ?_, ?_, ?_⟩
  · repeat (first | with_reducible refine RepF.drew ?_ | with_reducible refine RepF.drewN ?_ _ | with_reducible refine RepF.alloc ?_ _)
    exact hq
  · refine HXX.out w1 _ HX1.out ?_
    repeat (first | with_reducible exact Fr.refl _ _ | with_reducible refine Fr.drew ?_ | with_reducible refine Fr.drewN ?_ _ | with_reducible refine Fr.alloc ?_ _ | with_reducible refine Fr.setCell ?_ _ _ (.inl rfl))
  · repeat (first | with_reducible refine Fr.drew ?_ | with_reducible refine Fr.drewN ?_ _ | with_reducible refine Fr.alloc ?_ _ | with_reducible refine Fr.setCell ?_ _ _ (.inl hSS))
    refine Fr.trans (b := (w.alloc _).drewN _) ?_ HF1.out
    exact ((Fr.refl _ _).alloc _).drewN _


set_option maxRecDepth 100000 in
set_option maxHeartbeats 4000000 in
theorem step_ok_42 (b : Nat) (L : Lay) (m m' : Mac) (w : World) (S : Nat → Prop) (hSw : ∀ k, S k → k < w.heap.size) (hR : RepF w b (mcell L m)) (hdone : m.done = false) (i : Ins) (len gc capc gu capu : Nat) (u : Nat → Int)
    (hcode : L.code = .slice (some ⟨gc, 0, none⟩) len capc) (hci : w.cell? ⟨gc, m.pc * 8, none⟩ = some (.int .i64 20) ∧ w.cell? ⟨gc, m.pc * 8 + 1, none⟩ = some (.bool i.nar) ∧ w.cell? ⟨gc, m.pc * 8 + 2, none⟩ = some (.bool i.reg) ∧ w.cell? ⟨gc, m.pc * 8 + 3, none⟩ = some (.int .i64 i.size) ∧ w.cell? ⟨gc, m.pc * 8 + 4, none⟩ = some (.int .i64 i.dst) ∧ w.cell? ⟨gc, m.pc * 8 + 5, none⟩ = some (.int .i64 i.src) ∧ w.cell? ⟨gc, m.pc * 8 + 6, none⟩ = some (.int .i64 i.off) ∧ w.cell? ⟨gc, m.pc * 8 + 7, none⟩ = some (.int .i64 i.imm))
    (hlast : ((m.pc : Int) + 1 == (len : Int)) = false) (hpc : (m.pc : Int) < len)
    (hunits : L.units = .slice (some ⟨gu, 0, none⟩) (len + 1) capu) (hu1 : w.cell? ⟨gu, m.pc + 1, none⟩ = some (.int .i64 (u (m.pc + 1)))) (hub : 0 ≤ u (m.pc + 1) ∧ u (m.pc + 1) ≤ 1000000) (hinj : ∀ a, a < m.pc + 1 → u a ≠ u (m.pc + 1)) (hmap : w.heap[L.beg]? = some (.map (mapArr u len) len)) (hSu : ¬ S gu) (hSb : ¬ S L.beg) (hlt : m.pc + 1 < len) (hpc6 : (m.pc : Int) ≤ 1000000)
    (X : World → Prop) (hX : ∀ w1 w2, X w1 → Fr (fun k => k = b) w1 w2 → X w2)
    (hst : (m.steps : Int) ≤ 1000000000) (hSS : S b)
    (hdo : ∀ W, RepF W b (mcell L m) → Fr (fun _ => False) w W → Calls Tryz.prog 42 #[.pointer (some ⟨b, 0, none⟩), .agg #[.int .i64 20, .bool i.nar, .bool i.reg, .int .i64 i.size, .int .i64 i.dst, .int .i64 i.src, .int .i64 i.off, .int .i64 i.imm]] W fun e w' => e = .returned (.tuple #[.int .i64 0, .int .i64 0]) ∧ RepF w' b (mcell L m') ∧ X w' ∧ Fr S W w') (hpc' : m'.pc = m.pc) (hst' : m'.steps = m.steps) (hdone' : m'.done = false) :
    Calls Tryz.prog 32 #[.pointer (some ⟨b, 0, none⟩)] w fun e w' => e = .returned (.int .i64 0) ∧ RepF w' b (mcell L { m' with pc := m.pc + 1, steps := m.steps + 1 }) ∧ X w' ∧ Fr S w w' := by
  have H := Lib.hid hR
  have hb := hR.lt
  have hn0 : ¬ S w.heap.size := fun h => Nat.lt_irrefl _ (hSw _ h)
  have HSW := Lib.hid hSw
  have HXX := Lib.hid hX
  clear hX
  clear hSw
  have hDo := Lib.hid hdo
  obtain ⟨c0, c1, c2, c3, c4, c5, c6, c7⟩ := hci
  have hgc := World.block_lt_of_cell? w _ c0
  simp only at hgc
  have f8 := hR.cell 470 (by omega)
  have f1 := hR.cell 420 (by omega)
  have f6 := hR.cell 468 (by omega)
  simp only [show mcell L m 470 = .bool m.done by simp [mcell], show mcell L m 420 = L.code by simp [mcell], show mcell L m 468 = .int .i64 m.pc by simp [mcell], hdone, hcode] at f8 f1 f6
  have hgu := World.block_lt_of_cell? w _ hu1
  simp only at hgu
  have hgm : L.beg < w.heap.size := (Array.getElem?_eq_some_iff.1 hmap).1
  have HU := Lib.hid hunits
  have HU1 := Lib.hid hu1
  have HM := Lib.hid hmap
  have HI := Lib.hid hinj
  obtain ⟨hub0, hub1⟩ := hub
  have HPC := Lib.hid hpc'
  have HST := Lib.hid hst'
  have HDN := Lib.hid hdone'
  clear hunits hu1 hmap hinj hpc' hst' hdone'
  clear hR hdo hcode hdone
  go_enter Tryz.func32, Tryz.ntmps32
  go_wp2_with fail
  go_region
  go_wp2_with fail
  go_quiet (fail)
  go_wp2_with fail
  go_region_held3 (fun w' => w'.cell? ⟨w.heap.size, 0, none⟩ = some (.int .i64 20) ∧ w'.cell? ⟨w.heap.size, 1, none⟩ = some (.bool i.nar) ∧ w'.cell? ⟨w.heap.size, 2, none⟩ = some (.bool i.reg) ∧ w'.cell? ⟨w.heap.size, 3, none⟩ = some (.int .i64 i.size) ∧ w'.cell? ⟨w.heap.size, 4, none⟩ = some (.int .i64 i.dst) ∧ w'.cell? ⟨w.heap.size, 5, none⟩ = some (.int .i64 i.src) ∧ w'.cell? ⟨w.heap.size, 6, none⟩ = some (.int .i64 i.off) ∧ w'.cell? ⟨w.heap.size, 7, none⟩ = some (.int .i64 i.imm)) (simp [go_sem, *])
    (first | (go_at_call 38; refine (doer_wide _ _).mono ?_; rintro e w0 ⟨rfl, rfl⟩) | (go_at_call 42; refine (hDo.out _ ?_ ?_).mono ?_; (repeat (first | with_reducible exact H.out | with_reducible refine RepF.drew ?_ | with_reducible refine RepF.drewN ?_ _ | with_reducible refine RepF.alloc ?_ _)); (repeat (first | with_reducible exact Fr.refl _ _ | with_reducible refine Fr.drew ?_ | with_reducible refine Fr.drewN ?_ _ | with_reducible refine Fr.alloc ?_ _)); rintro e w1 ⟨rfl, hR1, hX1, hF1⟩; (have hkc := frCells hF1); (have hz1 := hF1.size); (simp [go_sem] at hz1); (have HR1 := Lib.hid hR1); (have HX1 := Lib.hid hX1); (have HF1 := Lib.hid hF1); clear hR1 hX1 hF1) | fail)
  have e8 := HR1.out.cell 470 (by omega)
  have e1 := HR1.out.cell 421 (by omega)
  have e2 := HR1.out.cell 422 (by omega)
  have e6 := HR1.out.cell 468 (by omega)
  have e7 := HR1.out.cell 469 (by omega)
  simp only [show mcell L m' 470 = .bool m'.done by simp [mcell], show mcell L m' 421 = L.units by simp [mcell], show mcell L m' 422 = .map (some L.beg) by simp [mcell], show mcell L m' 468 = .int .i64 m'.pc by simp [mcell], show mcell L m' 469 = .int .i64 m'.steps by simp [mcell], HU.out, HPC.out, HST.out, HDN.out] at e8 e1 e2 e6 e7
  have eu : w1.cell? ⟨gu, m.pc + 1, none⟩ = some (.int .i64 (u (m.pc + 1))) := by rw [hkc gu _ (by simp; omega) hSu]; simp [go_sem, hgu, HU1.out]
  have em : w1.heap[L.beg]? = some (.map (mapArr u len) len) := (HF1.out.block L.beg (by simp; omega) hSb).trans ((Below.heap_alloc w _ _ hgm).trans HM.out)
  have hlk : ∀ n, (Instr.lookup 62 (.map (some L.beg)) (.int .i64 (u (m.pc + 1))) true).run Tryz.prog (w1.drewN n) = .ok (.tuple #[.int .i64 (m.pc + 1 : Nat), .bool true]) (w1.drewN n) := fun n => run_look u len (m.pc + 1) L.beg hlt HI.out (w1.drewN n) em
  have ef := HR1.out.frozen
  have hb1 := HR1.out.lt
  have HEM := Lib.hid em
  clear hkc em c0 c1 c2 c3 c4 c5 c6 c7 f8 f1 f6
  go_wp2_with fail
  go_quiet (fail)
  go_wp2_with fail
  go_ret
  have hq := ((HR1.out.setCell 468 (.int .i64 (m.pc + 1 : Nat))).setCell 469 (.int .i64 (m.steps + 1 : Nat))).congr (upd_pc L m' (m.pc + 1) (m.steps + 1))
  rw [show ((m.pc + 1 : Nat) : Int) = (m.pc : Int) + 1 by omega, show ((m.steps + 1 : Nat) : Int) = (m.steps : Int) + 1 by omega] at hq
  refine ⟨rfl, ?_, ?_, ?_⟩
  · repeat (first | with_reducible refine RepF.drew ?_ | with_reducible refine RepF.drewN ?_ _ | with_reducible refine RepF.alloc ?_ _)
    exact hq
  · refine HXX.out w1 _ HX1.out ?_
    repeat (first | with_reducible exact Fr.refl _ _ | with_reducible refine Fr.drew ?_ | with_reducible refine Fr.drewN ?_ _ | with_reducible refine Fr.alloc ?_ _ | with_reducible refine Fr.setCell ?_ _ _ (.inl rfl))
  · repeat (first | with_reducible refine Fr.drew ?_ | with_reducible refine Fr.drewN ?_ _ | with_reducible refine Fr.alloc ?_ _ | with_reducible refine Fr.setCell ?_ _ _ (.inl hSS))
    refine Fr.trans (b := (w.alloc _).drewN _) ?_ HF1.out
    exact ((Fr.refl _ _).alloc _).drewN _


set_option maxRecDepth 100000 in
set_option maxHeartbeats 4000000 in
theorem step_ok_43 (b : Nat) (L : Lay) (m m' : Mac) (w : World) (S : Nat → Prop) (hSw : ∀ k, S k → k < w.heap.size) (hR : RepF w b (mcell L m)) (hdone : m.done = false) (i : Ins) (len gc capc gu capu : Nat) (u : Nat → Int)
    (hcode : L.code = .slice (some ⟨gc, 0, none⟩) len capc) (hci : w.cell? ⟨gc, m.pc * 8, none⟩ = some (.int .i64 i.op) ∧ w.cell? ⟨gc, m.pc * 8 + 1, none⟩ = some (.bool i.nar) ∧ w.cell? ⟨gc, m.pc * 8 + 2, none⟩ = some (.bool i.reg) ∧ w.cell? ⟨gc, m.pc * 8 + 3, none⟩ = some (.int .i64 i.size) ∧ w.cell? ⟨gc, m.pc * 8 + 4, none⟩ = some (.int .i64 i.dst) ∧ w.cell? ⟨gc, m.pc * 8 + 5, none⟩ = some (.int .i64 i.src) ∧ w.cell? ⟨gc, m.pc * 8 + 6, none⟩ = some (.int .i64 i.off) ∧ w.cell? ⟨gc, m.pc * 8 + 7, none⟩ = some (.int .i64 i.imm))
    (ho0 : 22 ≤ i.op) (ho00 : i.op ≤ 23)
    (ho1 : decide (26 ≤ i.op) = false) (ho2 : (i.op != 39) = true)
    (hlast : ((m.pc : Int) + 1 == (len : Int)) = false) (hpc : (m.pc : Int) < len)
    (hunits : L.units = .slice (some ⟨gu, 0, none⟩) (len + 1) capu) (hu1 : w.cell? ⟨gu, m.pc + 1, none⟩ = some (.int .i64 (u (m.pc + 1)))) (hub : 0 ≤ u (m.pc + 1) ∧ u (m.pc + 1) ≤ 1000000) (hinj : ∀ a, a < m.pc + 1 → u a ≠ u (m.pc + 1)) (hmap : w.heap[L.beg]? = some (.map (mapArr u len) len)) (hSu : ¬ S gu) (hSb : ¬ S L.beg) (hlt : m.pc + 1 < len) (hpc6 : (m.pc : Int) ≤ 1000000)
    (X : World → Prop) (hX : ∀ w1 w2, X w1 → Fr (fun k => k = b) w1 w2 → X w2)
    (hst : (m.steps : Int) ≤ 1000000000) (hSS : S b)
    (hdo : ∀ W, RepF W b (mcell L m) → Fr (fun _ => False) w W → Calls Tryz.prog 43 #[.pointer (some ⟨b, 0, none⟩), .agg #[.int .i64 i.op, .bool i.nar, .bool i.reg, .int .i64 i.size, .int .i64 i.dst, .int .i64 i.src, .int .i64 i.off, .int .i64 i.imm]] W fun e w' => e = .returned (.tuple #[.int .i64 0, .int .i64 0]) ∧ RepF w' b (mcell L m') ∧ X w' ∧ Fr S W w') (hpc' : m'.pc = m.pc) (hst' : m'.steps = m.steps) (hdone' : m'.done = false) :
    Calls Tryz.prog 32 #[.pointer (some ⟨b, 0, none⟩)] w fun e w' => e = .returned (.int .i64 0) ∧ RepF w' b (mcell L { m' with pc := m.pc + 1, steps := m.steps + 1 }) ∧ X w' ∧ Fr S w w' := by
  have H := Lib.hid hR
  have hb := hR.lt
  have hn0 : ¬ S w.heap.size := fun h => Nat.lt_irrefl _ (hSw _ h)
  have HSW := Lib.hid hSw
  have HXX := Lib.hid hX
  clear hX
  clear hSw
  have hDo := Lib.hid hdo
  obtain ⟨c0, c1, c2, c3, c4, c5, c6, c7⟩ := hci
  have hgc := World.block_lt_of_cell? w _ c0
  simp only at hgc
  have f8 := hR.cell 470 (by omega)
  have f1 := hR.cell 420 (by omega)
  have f6 := hR.cell 468 (by omega)
  simp only [show mcell L m 470 = .bool m.done by simp [mcell], show mcell L m 420 = L.code by simp [mcell], show mcell L m 468 = .int .i64 m.pc by simp [mcell], hdone, hcode] at f8 f1 f6
  have hgu := World.block_lt_of_cell? w _ hu1
  simp only at hgu
  have hgm : L.beg < w.heap.size := (Array.getElem?_eq_some_iff.1 hmap).1
  have HU := Lib.hid hunits
  have HU1 := Lib.hid hu1
  have HM := Lib.hid hmap
  have HI := Lib.hid hinj
  obtain ⟨hub0, hub1⟩ := hub
  have HPC := Lib.hid hpc'
  have HST := Lib.hid hst'
  have HDN := Lib.hid hdone'
  clear hunits hu1 hmap hinj hpc' hst' hdone'
  clear hR hdo hcode hdone
  go_enter Tryz.func32, Tryz.ntmps32
  go_wp2_with fail
  go_region
  go_wp2_with fail
  go_quiet (fail)
  go_wp2_with fail
  go_region_held3 (fun w' => w'.cell? ⟨w.heap.size, 0, none⟩ = some (.int .i64 i.op) ∧ w'.cell? ⟨w.heap.size, 1, none⟩ = some (.bool i.nar) ∧ w'.cell? ⟨w.heap.size, 2, none⟩ = some (.bool i.reg) ∧ w'.cell? ⟨w.heap.size, 3, none⟩ = some (.int .i64 i.size) ∧ w'.cell? ⟨w.heap.size, 4, none⟩ = some (.int .i64 i.dst) ∧ w'.cell? ⟨w.heap.size, 5, none⟩ = some (.int .i64 i.src) ∧ w'.cell? ⟨w.heap.size, 6, none⟩ = some (.int .i64 i.off) ∧ w'.cell? ⟨w.heap.size, 7, none⟩ = some (.int .i64 i.imm)) (simp [go_sem, *])
    (first | (go_at_call 38; refine (doer_load _ _ (by omega) (by omega) _).mono ?_; rintro e w0 ⟨rfl, rfl⟩) | (go_at_call 43; refine (hDo.out _ ?_ ?_).mono ?_; (repeat (first | with_reducible exact H.out | with_reducible refine RepF.drew ?_ | with_reducible refine RepF.drewN ?_ _ | with_reducible refine RepF.alloc ?_ _)); (repeat (first | with_reducible exact Fr.refl _ _ | with_reducible refine Fr.drew ?_ | with_reducible refine Fr.drewN ?_ _ | with_reducible refine Fr.alloc ?_ _)); rintro e w1 ⟨rfl, hR1, hX1, hF1⟩; (have hkc := frCells hF1); (have hz1 := hF1.size); (simp [go_sem] at hz1); (have HR1 := Lib.hid hR1); (have HX1 := Lib.hid hX1); (have HF1 := Lib.hid hF1); clear hR1 hX1 hF1) | fail)
  have e8 := HR1.out.cell 470 (by omega)
  have e1 := HR1.out.cell 421 (by omega)
  have e2 := HR1.out.cell 422 (by omega)
  have e6 := HR1.out.cell 468 (by omega)
  have e7 := HR1.out.cell 469 (by omega)
  simp only [show mcell L m' 470 = .bool m'.done by simp [mcell], show mcell L m' 421 = L.units by simp [mcell], show mcell L m' 422 = .map (some L.beg) by simp [mcell], show mcell L m' 468 = .int .i64 m'.pc by simp [mcell], show mcell L m' 469 = .int .i64 m'.steps by simp [mcell], HU.out, HPC.out, HST.out, HDN.out] at e8 e1 e2 e6 e7
  have eu : w1.cell? ⟨gu, m.pc + 1, none⟩ = some (.int .i64 (u (m.pc + 1))) := by rw [hkc gu _ (by simp; omega) hSu]; simp [go_sem, hgu, HU1.out]
  have em : w1.heap[L.beg]? = some (.map (mapArr u len) len) := (HF1.out.block L.beg (by simp; omega) hSb).trans ((Below.heap_alloc w _ _ hgm).trans HM.out)
  have hlk : ∀ n, (Instr.lookup 62 (.map (some L.beg)) (.int .i64 (u (m.pc + 1))) true).run Tryz.prog (w1.drewN n) = .ok (.tuple #[.int .i64 (m.pc + 1 : Nat), .bool true]) (w1.drewN n) := fun n => run_look u len (m.pc + 1) L.beg hlt HI.out (w1.drewN n) em
  have ef := HR1.out.frozen
  have hb1 := HR1.out.lt
  have HEM := Lib.hid em
  clear hkc em c0 c1 c2 c3 c4 c5 c6 c7 f8 f1 f6
  go_wp2_with fail
  go_quiet (fail)
  go_wp2_with fail
  go_ret
  have hq := ((HR1.out.setCell 468 (.int .i64 (m.pc + 1 : Nat))).setCell 469 (.int .i64 (m.steps + 1 : Nat))).congr (upd_pc L m' (m.pc + 1) (m.steps + 1))
  rw [show ((m.pc + 1 : Nat) : Int) = (m.pc : Int) + 1 by omega, show ((m.steps + 1 : Nat) : Int) = (m.steps : Int) + 1 by omega] at hq
  refine ⟨rfl, ?_, ?_, ?_⟩
  · repeat (first | with_reducible refine RepF.drew ?_ | with_reducible refine RepF.drewN ?_ _ | with_reducible refine RepF.alloc ?_ _)
    exact hq
  · refine HXX.out w1 _ HX1.out ?_
    repeat (first | with_reducible exact Fr.refl _ _ | with_reducible refine Fr.drew ?_ | with_reducible refine Fr.drewN ?_ _ | with_reducible refine Fr.alloc ?_ _ | with_reducible refine Fr.setCell ?_ _ _ (.inl rfl))
  · repeat (first | with_reducible refine Fr.drew ?_ | with_reducible refine Fr.drewN ?_ _ | with_reducible refine Fr.alloc ?_ _ | with_reducible refine Fr.setCell ?_ _ _ (.inl hSS))
    refine Fr.trans (b := (w.alloc _).drewN _) ?_ HF1.out
    exact ((Fr.refl _ _).alloc _).drewN _


set_option maxRecDepth 100000 in
set_option maxHeartbeats 4000000 in
theorem step_ok_44 (b : Nat) (L : Lay) (m m' : Mac) (w : World) (S : Nat → Prop) (hSw : ∀ k, S k → k < w.heap.size) (hR : RepF w b (mcell L m)) (hdone : m.done = false) (i : Ins) (len gc capc gu capu : Nat) (u : Nat → Int)
    (hcode : L.code = .slice (some ⟨gc, 0, none⟩) len capc) (hci : w.cell? ⟨gc, m.pc * 8, none⟩ = some (.int .i64 24) ∧ w.cell? ⟨gc, m.pc * 8 + 1, none⟩ = some (.bool i.nar) ∧ w.cell? ⟨gc, m.pc * 8 + 2, none⟩ = some (.bool i.reg) ∧ w.cell? ⟨gc, m.pc * 8 + 3, none⟩ = some (.int .i64 i.size) ∧ w.cell? ⟨gc, m.pc * 8 + 4, none⟩ = some (.int .i64 i.dst) ∧ w.cell? ⟨gc, m.pc * 8 + 5, none⟩ = some (.int .i64 i.src) ∧ w.cell? ⟨gc, m.pc * 8 + 6, none⟩ = some (.int .i64 i.off) ∧ w.cell? ⟨gc, m.pc * 8 + 7, none⟩ = some (.int .i64 i.imm))
    (hlast : ((m.pc : Int) + 1 == (len : Int)) = false) (hpc : (m.pc : Int) < len)
    (hunits : L.units = .slice (some ⟨gu, 0, none⟩) (len + 1) capu) (hu1 : w.cell? ⟨gu, m.pc + 1, none⟩ = some (.int .i64 (u (m.pc + 1)))) (hub : 0 ≤ u (m.pc + 1) ∧ u (m.pc + 1) ≤ 1000000) (hinj : ∀ a, a < m.pc + 1 → u a ≠ u (m.pc + 1)) (hmap : w.heap[L.beg]? = some (.map (mapArr u len) len)) (hSu : ¬ S gu) (hSb : ¬ S L.beg) (hlt : m.pc + 1 < len) (hpc6 : (m.pc : Int) ≤ 1000000)
    (X : World → Prop) (hX : ∀ w1 w2, X w1 → Fr (fun k => k = b) w1 w2 → X w2)
    (hst : (m.steps : Int) ≤ 1000000000) (hSS : S b)
    (hdo : ∀ W, RepF W b (mcell L m) → Fr (fun _ => False) w W → Calls Tryz.prog 44 #[.pointer (some ⟨b, 0, none⟩), .agg #[.int .i64 24, .bool i.nar, .bool i.reg, .int .i64 i.size, .int .i64 i.dst, .int .i64 i.src, .int .i64 i.off, .int .i64 i.imm]] W fun e w' => e = .returned (.tuple #[.int .i64 0, .int .i64 0]) ∧ RepF w' b (mcell L m') ∧ X w' ∧ Fr S W w') (hpc' : m'.pc = m.pc) (hst' : m'.steps = m.steps) (hdone' : m'.done = false) :
    Calls Tryz.prog 32 #[.pointer (some ⟨b, 0, none⟩)] w fun e w' => e = .returned (.int .i64 0) ∧ RepF w' b (mcell L { m' with pc := m.pc + 1, steps := m.steps + 1 }) ∧ X w' ∧ Fr S w w' := by
  have H := Lib.hid hR
  have hb := hR.lt
  have hn0 : ¬ S w.heap.size := fun h => Nat.lt_irrefl _ (hSw _ h)
  have HSW := Lib.hid hSw
  have HXX := Lib.hid hX
  clear hX
  clear hSw
  have hDo := Lib.hid hdo
  obtain ⟨c0, c1, c2, c3, c4, c5, c6, c7⟩ := hci
  have hgc := World.block_lt_of_cell? w _ c0
  simp only at hgc
  have f8 := hR.cell 470 (by omega)
  have f1 := hR.cell 420 (by omega)
  have f6 := hR.cell 468 (by omega)
  simp only [show mcell L m 470 = .bool m.done by simp [mcell], show mcell L m 420 = L.code by simp [mcell], show mcell L m 468 = .int .i64 m.pc by simp [mcell], hdone, hcode] at f8 f1 f6
  have hgu := World.block_lt_of_cell? w _ hu1
  simp only at hgu
  have hgm : L.beg < w.heap.size := (Array.getElem?_eq_some_iff.1 hmap).1
  have HU := Lib.hid hunits
  have HU1 := Lib.hid hu1
  have HM := Lib.hid hmap
  have HI := Lib.hid hinj
  obtain ⟨hub0, hub1⟩ := hub
  have HPC := Lib.hid hpc'
  have HST := Lib.hid hst'
  have HDN := Lib.hid hdone'
  clear hunits hu1 hmap hinj hpc' hst' hdone'
  clear hR hdo hcode hdone
  go_enter Tryz.func32, Tryz.ntmps32
  go_wp2_with fail
  go_region
  go_wp2_with fail
  go_quiet (fail)
  go_wp2_with fail
  go_region_held3 (fun w' => w'.cell? ⟨w.heap.size, 0, none⟩ = some (.int .i64 24) ∧ w'.cell? ⟨w.heap.size, 1, none⟩ = some (.bool i.nar) ∧ w'.cell? ⟨w.heap.size, 2, none⟩ = some (.bool i.reg) ∧ w'.cell? ⟨w.heap.size, 3, none⟩ = some (.int .i64 i.size) ∧ w'.cell? ⟨w.heap.size, 4, none⟩ = some (.int .i64 i.dst) ∧ w'.cell? ⟨w.heap.size, 5, none⟩ = some (.int .i64 i.src) ∧ w'.cell? ⟨w.heap.size, 6, none⟩ = some (.int .i64 i.off) ∧ w'.cell? ⟨w.heap.size, 7, none⟩ = some (.int .i64 i.imm)) (simp [go_sem, *])
    (first | (go_at_call 38; refine (doer_store _ _).mono ?_; rintro e w0 ⟨rfl, rfl⟩) | (go_at_call 44; refine (hDo.out _ ?_ ?_).mono ?_; (repeat (first | with_reducible exact H.out | with_reducible refine RepF.drew ?_ | with_reducible refine RepF.drewN ?_ _ | with_reducible refine RepF.alloc ?_ _)); (repeat (first | with_reducible exact Fr.refl _ _ | with_reducible refine Fr.drew ?_ | with_reducible refine Fr.drewN ?_ _ | with_reducible refine Fr.alloc ?_ _)); rintro e w1 ⟨rfl, hR1, hX1, hF1⟩; (have hkc := frCells hF1); (have hz1 := hF1.size); (simp [go_sem] at hz1); (have HR1 := Lib.hid hR1); (have HX1 := Lib.hid hX1); (have HF1 := Lib.hid hF1); clear hR1 hX1 hF1) | fail)
  have e8 := HR1.out.cell 470 (by omega)
  have e1 := HR1.out.cell 421 (by omega)
  have e2 := HR1.out.cell 422 (by omega)
  have e6 := HR1.out.cell 468 (by omega)
  have e7 := HR1.out.cell 469 (by omega)
  simp only [show mcell L m' 470 = .bool m'.done by simp [mcell], show mcell L m' 421 = L.units by simp [mcell], show mcell L m' 422 = .map (some L.beg) by simp [mcell], show mcell L m' 468 = .int .i64 m'.pc by simp [mcell], show mcell L m' 469 = .int .i64 m'.steps by simp [mcell], HU.out, HPC.out, HST.out, HDN.out] at e8 e1 e2 e6 e7
  have eu : w1.cell? ⟨gu, m.pc + 1, none⟩ = some (.int .i64 (u (m.pc + 1))) := by rw [hkc gu _ (by simp; omega) hSu]; simp [go_sem, hgu, HU1.out]
  have em : w1.heap[L.beg]? = some (.map (mapArr u len) len) := (HF1.out.block L.beg (by simp; omega) hSb).trans ((Below.heap_alloc w _ _ hgm).trans HM.out)
  have hlk : ∀ n, (Instr.lookup 62 (.map (some L.beg)) (.int .i64 (u (m.pc + 1))) true).run Tryz.prog (w1.drewN n) = .ok (.tuple #[.int .i64 (m.pc + 1 : Nat), .bool true]) (w1.drewN n) := fun n => run_look u len (m.pc + 1) L.beg hlt HI.out (w1.drewN n) em
  have ef := HR1.out.frozen
  have hb1 := HR1.out.lt
  have HEM := Lib.hid em
  clear hkc em c0 c1 c2 c3 c4 c5 c6 c7 f8 f1 f6
  go_wp2_with fail
  go_quiet (fail)
  go_wp2_with fail
  go_ret
  have hq := ((HR1.out.setCell 468 (.int .i64 (m.pc + 1 : Nat))).setCell 469 (.int .i64 (m.steps + 1 : Nat))).congr (upd_pc L m' (m.pc + 1) (m.steps + 1))
  rw [show ((m.pc + 1 : Nat) : Int) = (m.pc : Int) + 1 by omega, show ((m.steps + 1 : Nat) : Int) = (m.steps : Int) + 1 by omega] at hq
  refine ⟨rfl, ?_, ?_, ?_⟩
  · repeat (first | with_reducible refine RepF.drew ?_ | with_reducible refine RepF.drewN ?_ _ | with_reducible refine RepF.alloc ?_ _)
    exact hq
  · refine HXX.out w1 _ HX1.out ?_
    repeat (first | with_reducible exact Fr.refl _ _ | with_reducible refine Fr.drew ?_ | with_reducible refine Fr.drewN ?_ _ | with_reducible refine Fr.alloc ?_ _ | with_reducible refine Fr.setCell ?_ _ _ (.inl rfl))
  · repeat (first | with_reducible refine Fr.drew ?_ | with_reducible refine Fr.drewN ?_ _ | with_reducible refine Fr.alloc ?_ _ | with_reducible refine Fr.setCell ?_ _ _ (.inl hSS))
    refine Fr.trans (b := (w.alloc _).drewN _) ?_ HF1.out
    exact ((Fr.refl _ _).alloc _).drewN _


set_option maxRecDepth 100000 in
set_option maxHeartbeats 4000000 in
theorem step_ok_48 (b : Nat) (L : Lay) (m m' : Mac) (w : World) (S : Nat → Prop) (hSw : ∀ k, S k → k < w.heap.size) (hR : RepF w b (mcell L m)) (hdone : m.done = false) (i : Ins) (len gc capc gu capu : Nat) (u : Nat → Int)
    (hcode : L.code = .slice (some ⟨gc, 0, none⟩) len capc) (hci : w.cell? ⟨gc, m.pc * 8, none⟩ = some (.int .i64 38) ∧ w.cell? ⟨gc, m.pc * 8 + 1, none⟩ = some (.bool i.nar) ∧ w.cell? ⟨gc, m.pc * 8 + 2, none⟩ = some (.bool i.reg) ∧ w.cell? ⟨gc, m.pc * 8 + 3, none⟩ = some (.int .i64 i.size) ∧ w.cell? ⟨gc, m.pc * 8 + 4, none⟩ = some (.int .i64 i.dst) ∧ w.cell? ⟨gc, m.pc * 8 + 5, none⟩ = some (.int .i64 i.src) ∧ w.cell? ⟨gc, m.pc * 8 + 6, none⟩ = some (.int .i64 i.off) ∧ w.cell? ⟨gc, m.pc * 8 + 7, none⟩ = some (.int .i64 i.imm))
    (hlast : ((m.pc : Int) + 1 == (len : Int)) = false) (hpc : (m.pc : Int) < len)
    (hunits : L.units = .slice (some ⟨gu, 0, none⟩) (len + 1) capu) (hu1 : w.cell? ⟨gu, m.pc + 1, none⟩ = some (.int .i64 (u (m.pc + 1)))) (hub : 0 ≤ u (m.pc + 1) ∧ u (m.pc + 1) ≤ 1000000) (hinj : ∀ a, a < m.pc + 1 → u a ≠ u (m.pc + 1)) (hmap : w.heap[L.beg]? = some (.map (mapArr u len) len)) (hSu : ¬ S gu) (hSb : ¬ S L.beg) (hlt : m.pc + 1 < len) (hpc6 : (m.pc : Int) ≤ 1000000)
    (X : World → Prop) (hX : ∀ w1 w2, X w1 → Fr (fun k => k = b) w1 w2 → X w2)
    (L' : Lay) (hLu : L'.units = L.units) (hLb : L'.beg = L.beg)
    (hst : (m.steps : Int) ≤ 1000000000) (hSS : S b)
    (hdo : ∀ W, RepF W b (mcell L m) → Fr (fun _ => False) w W → Calls Tryz.prog 48 #[.pointer (some ⟨b, 0, none⟩), .agg #[.int .i64 38, .bool i.nar, .bool i.reg, .int .i64 i.size, .int .i64 i.dst, .int .i64 i.src, .int .i64 i.off, .int .i64 i.imm]] W fun e w' => e = .returned (.tuple #[.int .i64 0, .int .i64 0]) ∧ RepF w' b (mcell L' m') ∧ X w' ∧ Fr S W w') (hpc' : m'.pc = m.pc) (hst' : m'.steps = m.steps) (hdone' : m'.done = false) :
    Calls Tryz.prog 32 #[.pointer (some ⟨b, 0, none⟩)] w fun e w' => e = .returned (.int .i64 0) ∧ RepF w' b (mcell L' { m' with pc := m.pc + 1, steps := m.steps + 1 }) ∧ X w' ∧ Fr S w w' := by
  have H := Lib.hid hR
  have hb := hR.lt
  have hn0 : ¬ S w.heap.size := fun h => Nat.lt_irrefl _ (hSw _ h)
  have HSW := Lib.hid hSw
  have HXX := Lib.hid hX
  clear hX
  clear hSw
  have hDo := Lib.hid hdo
  obtain ⟨c0, c1, c2, c3, c4, c5, c6, c7⟩ := hci
  have hgc := World.block_lt_of_cell? w _ c0
  simp only at hgc
  have f8 := hR.cell 470 (by omega)
  have f1 := hR.cell 420 (by omega)
  have f6 := hR.cell 468 (by omega)
  simp only [show mcell L m 470 = .bool m.done by simp [mcell], show mcell L m 420 = L.code by simp [mcell], show mcell L m 468 = .int .i64 m.pc by simp [mcell], hdone, hcode] at f8 f1 f6
  have hgu := World.block_lt_of_cell? w _ hu1
  simp only at hgu
  have hgm : L.beg < w.heap.size := (Array.getElem?_eq_some_iff.1 hmap).1
  have HU := Lib.hid hunits
  have HU1 := Lib.hid hu1
  have HM := Lib.hid hmap
  have HI := Lib.hid hinj
  obtain ⟨hub0, hub1⟩ := hub
  have HPC := Lib.hid hpc'
  have HST := Lib.hid hst'
  have HDN := Lib.hid hdone'
  clear hunits hu1 hmap hinj hpc' hst' hdone'
  have HLU := Lib.hid hLu
  have HLB := Lib.hid hLb
  clear hLu hLb
  clear hR hdo hcode hdone
  go_enter Tryz.func32, Tryz.ntmps32
  go_wp2_with fail
  go_region
  go_wp2_with fail
  go_quiet (fail)
  go_wp2_with fail
  go_region_held3 (fun w' => w'.cell? ⟨w.heap.size, 0, none⟩ = some (.int .i64 38) ∧ w'.cell? ⟨w.heap.size, 1, none⟩ = some (.bool i.nar) ∧ w'.cell? ⟨w.heap.size, 2, none⟩ = some (.bool i.reg) ∧ w'.cell? ⟨w.heap.size, 3, none⟩ = some (.int .i64 i.size) ∧ w'.cell? ⟨w.heap.size, 4, none⟩ = some (.int .i64 i.dst) ∧ w'.cell? ⟨w.heap.size, 5, none⟩ = some (.int .i64 i.src) ∧ w'.cell? ⟨w.heap.size, 6, none⟩ = some (.int .i64 i.off) ∧ w'.cell? ⟨w.heap.size, 7, none⟩ = some (.int .i64 i.imm)) (simp [go_sem, *])
    (first | (go_at_call 38; refine (doer_call _ _).mono ?_; rintro e w0 ⟨rfl, rfl⟩) | (go_at_call 48; refine (hDo.out _ ?_ ?_).mono ?_; (repeat (first | with_reducible exact H.out | with_reducible refine RepF.drew ?_ | with_reducible refine RepF.drewN ?_ _ | with_reducible refine RepF.alloc ?_ _)); (repeat (first | with_reducible exact Fr.refl _ _ | with_reducible refine Fr.drew ?_ | with_reducible refine Fr.drewN ?_ _ | with_reducible refine Fr.alloc ?_ _)); rintro e w1 ⟨rfl, hR1, hX1, hF1⟩; (have hkc := frCells hF1); (have hz1 := hF1.size); (simp [go_sem] at hz1); (have HR1 := Lib.hid hR1); (have HX1 := Lib.hid hX1); (have HF1 := Lib.hid hF1); clear hR1 hX1 hF1) | fail)
  have e8 := HR1.out.cell 470 (by omega)
  have e1 := HR1.out.cell 421 (by omega)
  have e2 := HR1.out.cell 422 (by omega)
  have e6 := HR1.out.cell 468 (by omega)
  have e7 := HR1.out.cell 469 (by omega)
  simp only [show mcell L' m' 470 = .bool m'.done by simp [mcell], show mcell L' m' 421 = L'.units by simp [mcell], show mcell L' m' 422 = .map (some L'.beg) by simp [mcell], show mcell L' m' 468 = .int .i64 m'.pc by simp [mcell], show mcell L' m' 469 = .int .i64 m'.steps by simp [mcell], HLU.out, HLB.out, HU.out, HPC.out, HST.out, HDN.out] at e8 e1 e2 e6 e7
  have eu : w1.cell? ⟨gu, m.pc + 1, none⟩ = some (.int .i64 (u (m.pc + 1))) := by rw [hkc gu _ (by simp; omega) hSu]; simp [go_sem, hgu, HU1.out]
  have em : w1.heap[L.beg]? = some (.map (mapArr u len) len) := (HF1.out.block L.beg (by simp; omega) hSb).trans ((Below.heap_alloc w _ _ hgm).trans HM.out)
  have hlk : ∀ n, (Instr.lookup 62 (.map (some L.beg)) (.int .i64 (u (m.pc + 1))) true).run Tryz.prog (w1.drewN n) = .ok (.tuple #[.int .i64 (m.pc + 1 : Nat), .bool true]) (w1.drewN n) := fun n => run_look u len (m.pc + 1) L.beg hlt HI.out (w1.drewN n) em
  have ef := HR1.out.frozen
  have hb1 := HR1.out.lt
  have HEM := Lib.hid em
  clear hkc em c0 c1 c2 c3 c4 c5 c6 c7 f8 f1 f6
  go_wp2_with fail
  go_quiet (fail)
  go_wp2_with fail
  go_ret
  have hq := ((HR1.out.setCell 468 (.int .i64 (m.pc + 1 : Nat))).setCell 469 (.int .i64 (m.steps + 1 : Nat))).congr (upd_pc L' m' (m.pc + 1) (m.steps + 1))
  rw [show ((m.pc + 1 : Nat) : Int) = (m.pc : Int) + 1 by omega, show ((m.steps + 1 : Nat) : Int) = (m.steps : Int) + 1 by omega] at hq
  refine ⟨rfl, ?_, ?_, ?_⟩
  · repeat (first | with_reducible refine RepF.drew ?_ | with_reducible refine RepF.drewN ?_ _ | with_reducible refine RepF.alloc ?_ _)
    exact hq
  · refine HXX.out w1 _ HX1.out ?_
    repeat (first | with_reducible exact Fr.refl _ _ | with_reducible refine Fr.drew ?_ | with_reducible refine Fr.drewN ?_ _ | with_reducible refine Fr.alloc ?_ _ | with_reducible refine Fr.setCell ?_ _ _ (.inl rfl))
  · repeat (first | with_reducible refine Fr.drew ?_ | with_reducible refine Fr.drewN ?_ _ | with_reducible refine Fr.alloc ?_ _ | with_reducible refine Fr.setCell ?_ _ _ (.inl hSS))
    refine Fr.trans (b := (w.alloc _).drewN _) ?_ HF1.out
    exact ((Fr.refl _ _).alloc _).drewN _


set_option maxRecDepth 100000 in
set_option maxHeartbeats 4000000 in
theorem step_trap_43 (b : Nat) (L : Lay) (m : Mac) (w : World) (S : Nat → Prop) (hSw : ∀ k, S k → k < w.heap.size) (hR : RepF w b (mcell L m)) (hdone : m.done = false) (i : Ins) (er : Int) (len gc capc : Nat)
    (hcode : L.code = .slice (some ⟨gc, 0, none⟩) len capc) (hci : w.cell? ⟨gc, m.pc * 8, none⟩ = some (.int .i64 i.op) ∧ w.cell? ⟨gc, m.pc * 8 + 1, none⟩ = some (.bool i.nar) ∧ w.cell? ⟨gc, m.pc * 8 + 2, none⟩ = some (.bool i.reg) ∧ w.cell? ⟨gc, m.pc * 8 + 3, none⟩ = some (.int .i64 i.size) ∧ w.cell? ⟨gc, m.pc * 8 + 4, none⟩ = some (.int .i64 i.dst) ∧ w.cell? ⟨gc, m.pc * 8 + 5, none⟩ = some (.int .i64 i.src) ∧ w.cell? ⟨gc, m.pc * 8 + 6, none⟩ = some (.int .i64 i.off) ∧ w.cell? ⟨gc, m.pc * 8 + 7, none⟩ = some (.int .i64 i.imm))
    (ho0 : 22 ≤ i.op) (ho00 : i.op ≤ 23)
    (ho1 : decide (26 ≤ i.op) = false) (ho2 : (i.op != 39) = true)
    (hpc6 : (m.pc : Int) ≤ 1000000)
    (hlast : ((m.pc : Int) + 1 == (len : Int)) = false) (hpc : (m.pc : Int) < len)
    (hdo : ∀ W, RepF W b (mcell L m) → Fr (fun _ => False) w W → Calls Tryz.prog 43 #[.pointer (some ⟨b, 0, none⟩), .agg #[.int .i64 i.op, .bool i.nar, .bool i.reg, .int .i64 i.size, .int .i64 i.dst, .int .i64 i.src, .int .i64 i.off, .int .i64 i.imm]] W fun e w' => e = .returned (.tuple #[.int .i64 0, .int .i64 er]) ∧ Fr S W w') (her : (er != 0) = true) :
    Calls Tryz.prog 32 #[.pointer (some ⟨b, 0, none⟩)] w fun e w' => e = .returned (.int .i64 er) ∧ Fr S w w' := by
  have H := Lib.hid hR
  have hb := hR.lt
  have hn0 : ¬ S w.heap.size := fun h => Nat.lt_irrefl _ (hSw _ h)
  have HSW := Lib.hid hSw
  clear hSw
  have hDo := Lib.hid hdo
  obtain ⟨c0, c1, c2, c3, c4, c5, c6, c7⟩ := hci
  have hgc := World.block_lt_of_cell? w _ c0
  simp only at hgc
  have f8 := hR.cell 470 (by omega)
  have f1 := hR.cell 420 (by omega)
  have f6 := hR.cell 468 (by omega)
  simp only [show mcell L m 470 = .bool m.done by simp [mcell], show mcell L m 420 = L.code by simp [mcell], show mcell L m 468 = .int .i64 m.pc by simp [mcell], hdone, hcode] at f8 f1 f6
  clear hR hdo hcode hdone
  go_enter Tryz.func32, Tryz.ntmps32
  go_wp2_with fail
  go_region
  go_wp2_with fail
  go_quiet (fail)
  go_wp2_with fail
  go_region_held3 (fun w' => w'.cell? ⟨w.heap.size, 0, none⟩ = some (.int .i64 i.op) ∧ w'.cell? ⟨w.heap.size, 1, none⟩ = some (.bool i.nar) ∧ w'.cell? ⟨w.heap.size, 2, none⟩ = some (.bool i.reg) ∧ w'.cell? ⟨w.heap.size, 3, none⟩ = some (.int .i64 i.size) ∧ w'.cell? ⟨w.heap.size, 4, none⟩ = some (.int .i64 i.dst) ∧ w'.cell? ⟨w.heap.size, 5, none⟩ = some (.int .i64 i.src) ∧ w'.cell? ⟨w.heap.size, 6, none⟩ = some (.int .i64 i.off) ∧ w'.cell? ⟨w.heap.size, 7, none⟩ = some (.int .i64 i.imm)) (simp [go_sem, *])
    (first | (go_at_call 38; refine (doer_load _ _ (by omega) (by omega) _).mono ?_; rintro e w0 ⟨rfl, rfl⟩) | (go_at_call 43; refine (hDo.out _ ?_ ?_).mono ?_; (repeat (first | with_reducible exact H.out | with_reducible refine RepF.drew ?_ | with_reducible refine RepF.drewN ?_ _ | with_reducible refine RepF.alloc ?_ _)); (repeat (first | with_reducible exact Fr.refl _ _ | with_reducible refine Fr.drew ?_ | with_reducible refine Fr.drewN ?_ _ | with_reducible refine Fr.alloc ?_ _)); rintro e w1 ⟨rfl, hF1⟩; (have hkc := frCells hF1); (have hz1 := hF1.size); (simp [go_sem] at hz1); (have HF1 := Lib.hid hF1); clear hF1) | fail)
  clear hkc
  go_wp2
  go_ret
  refine ⟨rfl, ?_⟩
  refine Fr.trans (b := (w.alloc _).drewN _) ?_ HF1.out
  exact ((Fr.refl _ _).alloc _).drewN _


set_option maxRecDepth 100000 in
set_option maxHeartbeats 4000000 in
theorem step_trap_44 (b : Nat) (L : Lay) (m : Mac) (w : World) (S : Nat → Prop) (hSw : ∀ k, S k → k < w.heap.size) (hR : RepF w b (mcell L m)) (hdone : m.done = false) (i : Ins) (er : Int) (len gc capc : Nat)
    (hcode : L.code = .slice (some ⟨gc, 0, none⟩) len capc) (hci : w.cell? ⟨gc, m.pc * 8, none⟩ = some (.int .i64 24) ∧ w.cell? ⟨gc, m.pc * 8 + 1, none⟩ = some (.bool i.nar) ∧ w.cell? ⟨gc, m.pc * 8 + 2, none⟩ = some (.bool i.reg) ∧ w.cell? ⟨gc, m.pc * 8 + 3, none⟩ = some (.int .i64 i.size) ∧ w.cell? ⟨gc, m.pc * 8 + 4, none⟩ = some (.int .i64 i.dst) ∧ w.cell? ⟨gc, m.pc * 8 + 5, none⟩ = some (.int .i64 i.src) ∧ w.cell? ⟨gc, m.pc * 8 + 6, none⟩ = some (.int .i64 i.off) ∧ w.cell? ⟨gc, m.pc * 8 + 7, none⟩ = some (.int .i64 i.imm))
    (hpc6 : (m.pc : Int) ≤ 1000000)
    (hlast : ((m.pc : Int) + 1 == (len : Int)) = false) (hpc : (m.pc : Int) < len)
    (hdo : ∀ W, RepF W b (mcell L m) → Fr (fun _ => False) w W → Calls Tryz.prog 44 #[.pointer (some ⟨b, 0, none⟩), .agg #[.int .i64 24, .bool i.nar, .bool i.reg, .int .i64 i.size, .int .i64 i.dst, .int .i64 i.src, .int .i64 i.off, .int .i64 i.imm]] W fun e w' => e = .returned (.tuple #[.int .i64 0, .int .i64 er]) ∧ Fr S W w') (her : (er != 0) = true) :
    Calls Tryz.prog 32 #[.pointer (some ⟨b, 0, none⟩)] w fun e w' => e = .returned (.int .i64 er) ∧ Fr S w w' := by
  have H := Lib.hid hR
  have hb := hR.lt
  have hn0 : ¬ S w.heap.size := fun h => Nat.lt_irrefl _ (hSw _ h)
  have HSW := Lib.hid hSw
  clear hSw
  have hDo := Lib.hid hdo
  obtain ⟨c0, c1, c2, c3, c4, c5, c6, c7⟩ := hci
  have hgc := World.block_lt_of_cell? w _ c0
  simp only at hgc
  have f8 := hR.cell 470 (by omega)
  have f1 := hR.cell 420 (by omega)
  have f6 := hR.cell 468 (by omega)
  simp only [show mcell L m 470 = .bool m.done by simp [mcell], show mcell L m 420 = L.code by simp [mcell], show mcell L m 468 = .int .i64 m.pc by simp [mcell], hdone, hcode] at f8 f1 f6
  clear hR hdo hcode hdone
  go_enter Tryz.func32, Tryz.ntmps32
  go_wp2_with fail
  go_region
  go_wp2_with fail
  go_quiet (fail)
  go_wp2_with fail
  go_region_held3 (fun w' => w'.cell? ⟨w.heap.size, 0, none⟩ = some (.int .i64 24) ∧ w'.cell? ⟨w.heap.size, 1, none⟩ = some (.bool i.nar) ∧ w'.cell? ⟨w.heap.size, 2, none⟩ = some (.bool i.reg) ∧ w'.cell? ⟨w.heap.size, 3, none⟩ = some (.int .i64 i.size) ∧ w'.cell? ⟨w.heap.size, 4, none⟩ = some (.int .i64 i.dst) ∧ w'.cell? ⟨w.heap.size, 5, none⟩ = some (.int .i64 i.src) ∧ w'.cell? ⟨w.heap.size, 6, none⟩ = some (.int .i64 i.off) ∧ w'.cell? ⟨w.heap.size, 7, none⟩ = some (.int .i64 i.imm)) (simp [go_sem, *])
    (first | (go_at_call 38; refine (doer_store _ _).mono ?_; rintro e w0 ⟨rfl, rfl⟩) | (go_at_call 44; refine (hDo.out _ ?_ ?_).mono ?_; (repeat (first | with_reducible exact H.out | with_reducible refine RepF.drew ?_ | with_reducible refine RepF.drewN ?_ _ | with_reducible refine RepF.alloc ?_ _)); (repeat (first | with_reducible exact Fr.refl _ _ | with_reducible refine Fr.drew ?_ | with_reducible refine Fr.drewN ?_ _ | with_reducible refine Fr.alloc ?_ _)); rintro e w1 ⟨rfl, hF1⟩; (have hkc := frCells hF1); (have hz1 := hF1.size); (simp [go_sem] at hz1); (have HF1 := Lib.hid hF1); clear hF1) | fail)
  clear hkc
  go_wp2
  go_ret
  refine ⟨rfl, ?_⟩
  refine Fr.trans (b := (w.alloc _).drewN _) ?_ HF1.out
  exact ((Fr.refl _ _).alloc _).drewN _


set_option maxRecDepth 100000 in
set_option maxHeartbeats 4000000 in
theorem step_trap_48 (b : Nat) (L : Lay) (m : Mac) (w : World) (S : Nat → Prop) (hSw : ∀ k, S k → k < w.heap.size) (hR : RepF w b (mcell L m)) (hdone : m.done = false) (i : Ins) (er : Int) (len gc capc : Nat)
    (hcode : L.code = .slice (some ⟨gc, 0, none⟩) len capc) (hci : w.cell? ⟨gc, m.pc * 8, none⟩ = some (.int .i64 38) ∧ w.cell? ⟨gc, m.pc * 8 + 1, none⟩ = some (.bool i.nar) ∧ w.cell? ⟨gc, m.pc * 8 + 2, none⟩ = some (.bool i.reg) ∧ w.cell? ⟨gc, m.pc * 8 + 3, none⟩ = some (.int .i64 i.size) ∧ w.cell? ⟨gc, m.pc * 8 + 4, none⟩ = some (.int .i64 i.dst) ∧ w.cell? ⟨gc, m.pc * 8 + 5, none⟩ = some (.int .i64 i.src) ∧ w.cell? ⟨gc, m.pc * 8 + 6, none⟩ = some (.int .i64 i.off) ∧ w.cell? ⟨gc, m.pc * 8 + 7, none⟩ = some (.int .i64 i.imm))
    (hpc6 : (m.pc : Int) ≤ 1000000)
    (hlast : ((m.pc : Int) + 1 == (len : Int)) = false) (hpc : (m.pc : Int) < len)
    (hdo : ∀ W, RepF W b (mcell L m) → Fr (fun _ => False) w W → Calls Tryz.prog 48 #[.pointer (some ⟨b, 0, none⟩), .agg #[.int .i64 38, .bool i.nar, .bool i.reg, .int .i64 i.size, .int .i64 i.dst, .int .i64 i.src, .int .i64 i.off, .int .i64 i.imm]] W fun e w' => e = .returned (.tuple #[.int .i64 0, .int .i64 er]) ∧ Fr S W w') (her : (er != 0) = true) :
    Calls Tryz.prog 32 #[.pointer (some ⟨b, 0, none⟩)] w fun e w' => e = .returned (.int .i64 er) ∧ Fr S w w' := by
  have H := Lib.hid hR
  have hb := hR.lt
  have hn0 : ¬ S w.heap.size := fun h => Nat.lt_irrefl _ (hSw _ h)
  have HSW := Lib.hid hSw
  clear hSw
  have hDo := Lib.hid hdo
  obtain ⟨c0, c1, c2, c3, c4, c5, c6, c7⟩ := hci
  have hgc := World.block_lt_of_cell? w _ c0
  simp only at hgc
  have f8 := hR.cell 470 (by omega)
  have f1 := hR.cell 420 (by omega)
  have f6 := hR.cell 468 (by omega)
  simp only [show mcell L m 470 = .bool m.done by simp [mcell], show mcell L m 420 = L.code by simp [mcell], show mcell L m 468 = .int .i64 m.pc by simp [mcell], hdone, hcode] at f8 f1 f6
  clear hR hdo hcode hdone
  go_enter Tryz.func32, Tryz.ntmps32
  go_wp2_with fail
  go_region
  go_wp2_with fail
  go_quiet (fail)
  go_wp2_with fail
  go_region_held3 (fun w' => w'.cell? ⟨w.heap.size, 0, none⟩ = some (.int .i64 38) ∧ w'.cell? ⟨w.heap.size, 1, none⟩ = some (.bool i.nar) ∧ w'.cell? ⟨w.heap.size, 2, none⟩ = some (.bool i.reg) ∧ w'.cell? ⟨w.heap.size, 3, none⟩ = some (.int .i64 i.size) ∧ w'.cell? ⟨w.heap.size, 4, none⟩ = some (.int .i64 i.dst) ∧ w'.cell? ⟨w.heap.size, 5, none⟩ = some (.int .i64 i.src) ∧ w'.cell? ⟨w.heap.size, 6, none⟩ = some (.int .i64 i.off) ∧ w'.cell? ⟨w.heap.size, 7, none⟩ = some (.int .i64 i.imm)) (simp [go_sem, *])
    (first | (go_at_call 38; refine (doer_call _ _).mono ?_; rintro e w0 ⟨rfl, rfl⟩) | (go_at_call 48; refine (hDo.out _ ?_ ?_).mono ?_; (repeat (first | with_reducible exact H.out | with_reducible refine RepF.drew ?_ | with_reducible refine RepF.drewN ?_ _ | with_reducible refine RepF.alloc ?_ _)); (repeat (first | with_reducible exact Fr.refl _ _ | with_reducible refine Fr.drew ?_ | with_reducible refine Fr.drewN ?_ _ | with_reducible refine Fr.alloc ?_ _)); rintro e w1 ⟨rfl, hF1⟩; (have hkc := frCells hF1); (have hz1 := hF1.size); (simp [go_sem] at hz1); (have HF1 := Lib.hid hF1); clear hF1) | fail)
  clear hkc
  go_wp2
  go_ret
  refine ⟨rfl, ?_⟩
  refine Fr.trans (b := (w.alloc _).drewN _) ?_ HF1.out
  exact ((Fr.refl _ _).alloc _).drewN _


set_option maxRecDepth 100000 in
set_option maxHeartbeats 4000000 in
theorem step_trap_49 (b : Nat) (L : Lay) (m : Mac) (w : World) (S : Nat → Prop) (hSw : ∀ k, S k → k < w.heap.size) (hR : RepF w b (mcell L m)) (hdone : m.done = false) (i : Ins) (er : Int) (len gc capc : Nat)
    (hcode : L.code = .slice (some ⟨gc, 0, none⟩) len capc) (hci : w.cell? ⟨gc, m.pc * 8, none⟩ = some (.int .i64 39) ∧ w.cell? ⟨gc, m.pc * 8 + 1, none⟩ = some (.bool i.nar) ∧ w.cell? ⟨gc, m.pc * 8 + 2, none⟩ = some (.bool i.reg) ∧ w.cell? ⟨gc, m.pc * 8 + 3, none⟩ = some (.int .i64 i.size) ∧ w.cell? ⟨gc, m.pc * 8 + 4, none⟩ = some (.int .i64 i.dst) ∧ w.cell? ⟨gc, m.pc * 8 + 5, none⟩ = some (.int .i64 i.src) ∧ w.cell? ⟨gc, m.pc * 8 + 6, none⟩ = some (.int .i64 i.off) ∧ w.cell? ⟨gc, m.pc * 8 + 7, none⟩ = some (.int .i64 i.imm))
    (hpc : (m.pc : Int) < len)
    (hdo : ∀ W, RepF W b (mcell L m) → Fr (fun _ => False) w W → Calls Tryz.prog 49 #[.pointer (some ⟨b, 0, none⟩), .agg #[.int .i64 39, .bool i.nar, .bool i.reg, .int .i64 i.size, .int .i64 i.dst, .int .i64 i.src, .int .i64 i.off, .int .i64 i.imm]] W fun e w' => e = .returned (.tuple #[.int .i64 0, .int .i64 er]) ∧ Fr S W w') (her : (er != 0) = true) :
    Calls Tryz.prog 32 #[.pointer (some ⟨b, 0, none⟩)] w fun e w' => e = .returned (.int .i64 er) ∧ Fr S w w' := by
  have H := Lib.hid hR
  have hb := hR.lt
  have hn0 : ¬ S w.heap.size := fun h => Nat.lt_irrefl _ (hSw _ h)
  have HSW := Lib.hid hSw
  clear hSw
  have hDo := Lib.hid hdo
  obtain ⟨c0, c1, c2, c3, c4, c5, c6, c7⟩ := hci
  have hgc := World.block_lt_of_cell? w _ c0
  simp only at hgc
  have f8 := hR.cell 470 (by omega)
  have f1 := hR.cell 420 (by omega)
  have f6 := hR.cell 468 (by omega)
  simp only [show mcell L m 470 = .bool m.done by simp [mcell], show mcell L m 420 = L.code by simp [mcell], show mcell L m 468 = .int .i64 m.pc by simp [mcell], hdone, hcode] at f8 f1 f6
  clear hR hdo hcode hdone
  go_enter Tryz.func32, Tryz.ntmps32
  go_wp2_with fail
  go_region
  go_wp2_with fail
  go_quiet (fail)
  go_wp2_with fail
  go_region_held3 (fun w' => w'.cell? ⟨w.heap.size, 0, none⟩ = some (.int .i64 39) ∧ w'.cell? ⟨w.heap.size, 1, none⟩ = some (.bool i.nar) ∧ w'.cell? ⟨w.heap.size, 2, none⟩ = some (.bool i.reg) ∧ w'.cell? ⟨w.heap.size, 3, none⟩ = some (.int .i64 i.size) ∧ w'.cell? ⟨w.heap.size, 4, none⟩ = some (.int .i64 i.dst) ∧ w'.cell? ⟨w.heap.size, 5, none⟩ = some (.int .i64 i.src) ∧ w'.cell? ⟨w.heap.size, 6, none⟩ = some (.int .i64 i.off) ∧ w'.cell? ⟨w.heap.size, 7, none⟩ = some (.int .i64 i.imm)) (simp [go_sem, *])
    (first | (go_at_call 38; refine (doer_exit _ _).mono ?_; rintro e w0 ⟨rfl, rfl⟩) | (go_at_call 49; refine (hDo.out _ ?_ ?_).mono ?_; (repeat (first | with_reducible exact H.out | with_reducible refine RepF.drew ?_ | with_reducible refine RepF.drewN ?_ _ | with_reducible refine RepF.alloc ?_ _)); (repeat (first | with_reducible exact Fr.refl _ _ | with_reducible refine Fr.drew ?_ | with_reducible refine Fr.drewN ?_ _ | with_reducible refine Fr.alloc ?_ _)); rintro e w1 ⟨rfl, hF1⟩; (have hkc := frCells hF1); (have hz1 := hF1.size); (simp [go_sem] at hz1); (have HF1 := Lib.hid hF1); clear hF1) | fail)
  clear hkc
  go_wp2
  go_ret
  refine ⟨rfl, ?_⟩
  refine Fr.trans (b := (w.alloc _).drewN _) ?_ HF1.out
  exact ((Fr.refl _ _).alloc _).drewN _


set_option maxRecDepth 100000 in
set_option maxHeartbeats 4000000 in
theorem step_exit (b : Nat) (L : Lay) (m m' : Mac) (w : World) (S : Nat → Prop) (hSw : ∀ k, S k → k < w.heap.size) (hR : RepF w b (mcell L m)) (hdone : m.done = false) (i : Ins) (len gc capc : Nat)
    (hcode : L.code = .slice (some ⟨gc, 0, none⟩) len capc) (hci : w.cell? ⟨gc, m.pc * 8, none⟩ = some (.int .i64 39) ∧ w.cell? ⟨gc, m.pc * 8 + 1, none⟩ = some (.bool i.nar) ∧ w.cell? ⟨gc, m.pc * 8 + 2, none⟩ = some (.bool i.reg) ∧ w.cell? ⟨gc, m.pc * 8 + 3, none⟩ = some (.int .i64 i.size) ∧ w.cell? ⟨gc, m.pc * 8 + 4, none⟩ = some (.int .i64 i.dst) ∧ w.cell? ⟨gc, m.pc * 8 + 5, none⟩ = some (.int .i64 i.src) ∧ w.cell? ⟨gc, m.pc * 8 + 6, none⟩ = some (.int .i64 i.off) ∧ w.cell? ⟨gc, m.pc * 8 + 7, none⟩ = some (.int .i64 i.imm))
    (hpc : (m.pc : Int) < len)
    (X : World → Prop) (hX : ∀ w1 w2, X w1 → Fr (fun k => k = b) w1 w2 → X w2)
    (hst : (m.steps : Int) ≤ 1000000000) (hSS : S b)
    (hdo : ∀ W, RepF W b (mcell L m) → Fr (fun _ => False) w W → Calls Tryz.prog 49 #[.pointer (some ⟨b, 0, none⟩), .agg #[.int .i64 39, .bool i.nar, .bool i.reg, .int .i64 i.size, .int .i64 i.dst, .int .i64 i.src, .int .i64 i.off, .int .i64 i.imm]] W fun e w' => e = .returned (.tuple #[.int .i64 0, .int .i64 0]) ∧ RepF w' b (mcell L m') ∧ X w' ∧ Fr S W w') (hpc' : m'.pc = m.pc) (hst' : m'.steps = m.steps) (hdone' : m'.done = true) :
    Calls Tryz.prog 32 #[.pointer (some ⟨b, 0, none⟩)] w fun e w' => e = .returned (.int .i64 0) ∧ RepF w' b (mcell L { m' with steps := m.steps + 1 }) ∧ X w' ∧ Fr S w w' := by
  have H := Lib.hid hR
  have hb := hR.lt
  have hn0 : ¬ S w.heap.size := fun h => Nat.lt_irrefl _ (hSw _ h)
  have HSW := Lib.hid hSw
  have HXX := Lib.hid hX
  clear hX
  clear hSw
  have hDo := Lib.hid hdo
  obtain ⟨c0, c1, c2, c3, c4, c5, c6, c7⟩ := hci
  have hgc := World.block_lt_of_cell? w _ c0
  simp only at hgc
  have f8 := hR.cell 470 (by omega)
  have f1 := hR.cell 420 (by omega)
  have f6 := hR.cell 468 (by omega)
  simp only [show mcell L m 470 = .bool m.done by simp [mcell], show mcell L m 420 = L.code by simp [mcell], show mcell L m 468 = .int .i64 m.pc by simp [mcell], hdone, hcode] at f8 f1 f6
  have HST := Lib.hid hst'
  have HDN := Lib.hid hdone'
  have HPC := Lib.hid hpc'
  clear hst' hdone' hpc'
  clear hR hdo hcode hdone
  go_enter Tryz.func32, Tryz.ntmps32
  go_wp2_with fail
  go_region
  go_wp2_with fail
  go_quiet (fail)
  go_wp2_with fail
  go_region_held3 (fun w' => w'.cell? ⟨w.heap.size, 0, none⟩ = some (.int .i64 39) ∧ w'.cell? ⟨w.heap.size, 1, none⟩ = some (.bool i.nar) ∧ w'.cell? ⟨w.heap.size, 2, none⟩ = some (.bool i.reg) ∧ w'.cell? ⟨w.heap.size, 3, none⟩ = some (.int .i64 i.size) ∧ w'.cell? ⟨w.heap.size, 4, none⟩ = some (.int .i64 i.dst) ∧ w'.cell? ⟨w.heap.size, 5, none⟩ = some (.int .i64 i.src) ∧ w'.cell? ⟨w.heap.size, 6, none⟩ = some (.int .i64 i.off) ∧ w'.cell? ⟨w.heap.size, 7, none⟩ = some (.int .i64 i.imm)) (simp [go_sem, *])
    (first | (go_at_call 38; refine (doer_exit _ _).mono ?_; rintro e w0 ⟨rfl, rfl⟩) | (go_at_call 49; refine (hDo.out _ ?_ ?_).mono ?_; (repeat (first | with_reducible exact H.out | with_reducible refine RepF.drew ?_ | with_reducible refine RepF.drewN ?_ _ | with_reducible refine RepF.alloc ?_ _)); (repeat (first | with_reducible exact Fr.refl _ _ | with_reducible refine Fr.drew ?_ | with_reducible refine Fr.drewN ?_ _ | with_reducible refine Fr.alloc ?_ _)); rintro e w1 ⟨rfl, hR1, hX1, hF1⟩; (have hkc := frCells hF1); (have hz1 := hF1.size); (simp [go_sem] at hz1); (have HR1 := Lib.hid hR1); (have HX1 := Lib.hid hX1); (have HF1 := Lib.hid hF1); clear hR1 hX1 hF1) | fail)
  have e8 := HR1.out.cell 470 (by omega)
  have e7 := HR1.out.cell 469 (by omega)
  simp only [show mcell L m' 470 = .bool m'.done by simp [mcell], show mcell L m' 469 = .int .i64 m'.steps by simp [mcell], HST.out, HDN.out] at e8 e7
  have ef := HR1.out.frozen
  have hb1 := HR1.out.lt
  clear hkc c0 c1 c2 c3 c4 c5 c6 c7 f8 f1 f6
  go_wp2
  go_ret
  have hq := (HR1.out.setCell 469 (.int .i64 (m.steps + 1 : Nat))).congr (upd_st L m' (m.steps + 1))
  rw [show ((m.steps + 1 : Nat) : Int) = (m.steps : Int) + 1 by omega] at hq
  refine ⟨rfl, ?_, ?_, ?_⟩
  · repeat (first | with_reducible refine RepF.drew ?_ | with_reducible refine RepF.drewN ?_ _ | with_reducible refine RepF.alloc ?_ _)
    exact hq
  · refine HXX.out w1 _ HX1.out ?_
    repeat (first | with_reducible exact Fr.refl _ _ | with_reducible refine Fr.drew ?_ | with_reducible refine Fr.drewN ?_ _ | with_reducible refine Fr.alloc ?_ _ | with_reducible refine Fr.setCell ?_ _ _ (.inl rfl))
  · repeat (first | with_reducible refine Fr.drew ?_ | with_reducible refine Fr.drewN ?_ _ | with_reducible refine Fr.alloc ?_ _ | with_reducible refine Fr.setCell ?_ _ _ (.inl hSS))
    refine Fr.trans (b := (w.alloc _).drewN _) ?_ HF1.out
    exact ((Fr.refl _ _).alloc _).drewN _


end Go.Proofs.YtkhbjhmhdlmmfaaGreat
