/- Walks: a step that calls, and a run, where the row of what was sent may turn. -/
import Derived.Test.YtkhbjhmhdlmmfaaGreatI
import Derived.Test.YtkhbjhmhdlmmfaaGreatQ
import Derived.Test.YtkhbjhmhdlmmfaaGreatR
import Derived.Maps.Own
import Derived.WalkMore
import Derived.ScopeJumps
namespace Go.Proofs.YtkhbjhmhdlmmfaaGreat
open Go.RowKit

set_option maxRecDepth 100000 in
set_option maxHeartbeats 4000000 in
theorem step_call (b : Nat) (L : Lay) (m m' : Mac) (w : World) (S : Nat → Prop) (hSw : ∀ k, S k → k < w.heap.size) (hR : RepF w b (mcell L m)) (hdone : m.done = false) (i : Ins) (len gc capc gu capu : Nat) (u : Nat → Int)
    (hcode : L.code = .slice (some ⟨gc, 0, none⟩) len capc) (hci : w.cell? ⟨gc, m.pc * 8, none⟩ = some (.int .i64 38) ∧ w.cell? ⟨gc, m.pc * 8 + 1, none⟩ = some (.bool i.nar) ∧ w.cell? ⟨gc, m.pc * 8 + 2, none⟩ = some (.bool i.reg) ∧ w.cell? ⟨gc, m.pc * 8 + 3, none⟩ = some (.int .i64 i.size) ∧ w.cell? ⟨gc, m.pc * 8 + 4, none⟩ = some (.int .i64 i.dst) ∧ w.cell? ⟨gc, m.pc * 8 + 5, none⟩ = some (.int .i64 i.src) ∧ w.cell? ⟨gc, m.pc * 8 + 6, none⟩ = some (.int .i64 i.off) ∧ w.cell? ⟨gc, m.pc * 8 + 7, none⟩ = some (.int .i64 i.imm))
    (hlast : ((m.pc : Int) + 1 == (len : Int)) = false) (hpc : (m.pc : Int) < len)
    (hunits : L.units = .slice (some ⟨gu, 0, none⟩) (len + 1) capu) (hu1 : w.cell? ⟨gu, m.pc + 1, none⟩ = some (.int .i64 (u (m.pc + 1)))) (hub : 0 ≤ u (m.pc + 1) ∧ u (m.pc + 1) ≤ 1000000) (hinj : ∀ a, a < m.pc + 1 → u a ≠ u (m.pc + 1)) (hmap : w.heap[L.beg]? = some (.map (mapArr u len) len)) (hSu : ¬ S gu) (hSb : ¬ S L.beg) (hlt : m.pc + 1 < len) (hpc6 : (m.pc : Int) ≤ 1000000)
    (X : Lay → World → Prop) (hX : ∀ L' w1 w2, X L' w1 → Fr (fun k => k = b) w1 w2 → X L' w2)
    (hst : (m.steps : Int) ≤ 1000000000) (hSS : S b)
    (hdo : ∀ W, RepF W b (mcell L m) → Fr (fun _ => False) w W → Calls Tryz.prog 48 #[.pointer (some ⟨b, 0, none⟩), .agg #[.int .i64 38, .bool i.nar, .bool i.reg, .int .i64 i.size, .int .i64 i.dst, .int .i64 i.src, .int .i64 i.off, .int .i64 i.imm]] W fun e w' => ∃ L' : Lay, e = .returned (.tuple #[.int .i64 0, .int .i64 0]) ∧ L'.units = L.units ∧ L'.beg = L.beg ∧ RepF w' b (mcell L' m') ∧ X L' w' ∧ Fr S W w') (hpc' : m'.pc = m.pc) (hst' : m'.steps = m.steps) (hdone' : m'.done = false) :
    Calls Tryz.prog 32 #[.pointer (some ⟨b, 0, none⟩)] w fun e w' => ∃ L' : Lay, e = .returned (.int .i64 0) ∧ RepF w' b (mcell L' { m' with pc := m.pc + 1, steps := m.steps + 1 }) ∧ X L' w' ∧ Fr S w w' := by
  have H := Lib.hid hR
  have hb := hR.lt
  have hn0 : ¬ S w.heap.size := fun h => Nat.lt_irrefl _ (hSw _ h)
  have HSW := Lib.hid hSw
  have HXX := Lib.hid hX
  clear hX
  clear hSw
  have hDo := Lib.hid hdo
  obtain ⟨c0, c1, c2, c3, c4, c5, c6, c7⟩ := hci
  have hgc := World.block_lt_of_cell? w _ c0
  simp only at hgc
  have f8 := hR.cell 470 (by omega)
  have f1 := hR.cell 420 (by omega)
  have f6 := hR.cell 468 (by omega)
  simp only [show mcell L m 470 = .bool m.done by simp [mcell], show mcell L m 420 = L.code by simp [mcell], show mcell L m 468 = .int .i64 m.pc by simp [mcell], hdone, hcode] at f8 f1 f6
  have hgu := World.block_lt_of_cell? w _ hu1
  simp only at hgu
  have hgm : L.beg < w.heap.size := (Array.getElem?_eq_some_iff.1 hmap).1
  have HU := Lib.hid hunits
  have HU1 := Lib.hid hu1
  have HM := Lib.hid hmap
  have HI := Lib.hid hinj
  obtain ⟨hub0, hub1⟩ := hub
  have HPC := Lib.hid hpc'
  have HST := Lib.hid hst'
  have HDN := Lib.hid hdone'
  clear hunits hu1 hmap hinj hpc' hst' hdone'
  clear hR hdo hcode hdone
  go_enter Tryz.func32, Tryz.ntmps32
  go_wp2_with fail
  go_region
  go_wp2_with fail
  go_quiet (fail)
  go_wp2_with fail
  go_region_held3 (fun w' => w'.cell? ⟨w.heap.size, 0, none⟩ = some (.int .i64 38) ∧ w'.cell? ⟨w.heap.size, 1, none⟩ = some (.bool i.nar) ∧ w'.cell? ⟨w.heap.size, 2, none⟩ = some (.bool i.reg) ∧ w'.cell? ⟨w.heap.size, 3, none⟩ = some (.int .i64 i.size) ∧ w'.cell? ⟨w.heap.size, 4, none⟩ = some (.int .i64 i.dst) ∧ w'.cell? ⟨w.heap.size, 5, none⟩ = some (.int .i64 i.src) ∧ w'.cell? ⟨w.heap.size, 6, none⟩ = some (.int .i64 i.off) ∧ w'.cell? ⟨w.heap.size, 7, none⟩ = some (.int .i64 i.imm)) (simp [go_sem, *])
    (first | (go_at_call 38; refine (doer_call _ _).mono ?_; rintro e w0 ⟨rfl, rfl⟩) | (go_at_call 48; refine (hDo.out _ ?_ ?_).mono ?_; (repeat (first | with_reducible exact H.out | with_reducible refine RepF.drew ?_ | with_reducible refine RepF.drewN ?_ _ | with_reducible refine RepF.alloc ?_ _)); (repeat (first | with_reducible exact Fr.refl _ _ | with_reducible refine Fr.drew ?_ | with_reducible refine Fr.drewN ?_ _ | with_reducible refine Fr.alloc ?_ _)); rintro e w1 ⟨L', rfl, hLu, hLb, hR1, hX1, hF1⟩; (have HLU := Lib.hid hLu); (have HLB := Lib.hid hLb); clear hLu hLb; (have hkc := frCells hF1); (have hz1 := hF1.size); (simp [go_sem] at hz1); (have HR1 := Lib.hid hR1); (have HX1 := Lib.hid hX1); (have HF1 := Lib.hid hF1); clear hR1 hX1 hF1) | fail)
  have e8 := HR1.out.cell 470 (by omega)
  have e1 := HR1.out.cell 421 (by omega)
  have e2 := HR1.out.cell 422 (by omega)
  have e6 := HR1.out.cell 468 (by omega)
  have e7 := HR1.out.cell 469 (by omega)
  simp only [show mcell L' m' 470 = .bool m'.done by simp [mcell], show mcell L' m' 421 = L'.units by simp [mcell], show mcell L' m' 422 = .map (some L'.beg) by simp [mcell], show mcell L' m' 468 = .int .i64 m'.pc by simp [mcell], show mcell L' m' 469 = .int .i64 m'.steps by simp [mcell], HLU.out, HLB.out, HU.out, HPC.out, HST.out, HDN.out] at e8 e1 e2 e6 e7
  have eu : w1.cell? ⟨gu, m.pc + 1, none⟩ = some (.int .i64 (u (m.pc + 1))) := by rw [hkc gu _ (by simp; omega) hSu]; simp [go_sem, hgu, HU1.out]
  have em : w1.heap[L.beg]? = some (.map (mapArr u len) len) := (HF1.out.block L.beg (by simp; omega) hSb).trans ((Below.heap_alloc w _ _ hgm).trans HM.out)
  have hlk : ∀ n, (Instr.lookup 62 (.map (some L.beg)) (.int .i64 (u (m.pc + 1))) true).run Tryz.prog (w1.drewN n) = .ok (.tuple #[.int .i64 (m.pc + 1 : Nat), .bool true]) (w1.drewN n) := fun n => run_look u len (m.pc + 1) L.beg hlt HI.out (w1.drewN n) em
  have ef := HR1.out.frozen
  have hb1 := HR1.out.lt
  have HEM := Lib.hid em
  clear hkc em c0 c1 c2 c3 c4 c5 c6 c7 f8 f1 f6
  go_wp2_with fail
  go_quiet (fail)
  go_wp2_with fail
  go_ret
  have hq := ((HR1.out.setCell 468 (.int .i64 (m.pc + 1 : Nat))).setCell 469 (.int .i64 (m.steps + 1 : Nat))).congr (upd_pc L' m' (m.pc + 1) (m.steps + 1))
  rw [show ((m.pc + 1 : Nat) : Int) = (m.pc : Int) + 1 by omega, show ((m.steps + 1 : Nat) : Int) = (m.steps : Int) + 1 by omega] at hq
  refine ⟨L', rfl, ?_, ?_, ?_⟩
  · repeat (first | with_reducible refine RepF.drew ?_ | with_reducible refine RepF.drewN ?_ _ | with_reducible refine RepF.alloc ?_ _)
    exact hq
  · refine HXX.out L' w1 _ HX1.out ?_
    repeat (first | with_reducible exact Fr.refl _ _ | with_reducible refine Fr.drew ?_ | with_reducible refine Fr.drewN ?_ _ | with_reducible refine Fr.alloc ?_ _ | with_reducible refine Fr.setCell ?_ _ _ (.inl rfl))
  · repeat (first | with_reducible refine Fr.drew ?_ | with_reducible refine Fr.drewN ?_ _ | with_reducible refine Fr.alloc ?_ _ | with_reducible refine Fr.setCell ?_ _ _ (.inl hSS))
    refine Fr.trans (b := (w.alloc _).drewN _) ?_ HF1.out
    exact ((Fr.refl _ _).alloc _).drewN _

set_option maxRecDepth 1000000 in
set_option maxHeartbeats 4000000 in
theorem run_done2 (b K : Nat) (hK : K < 1048576) (ms : Nat → Mac) (w : World) (S : Nat → Prop) (hn0 : ¬ S w.heap.size) (I : Nat → World → Prop) (hI0 : ∀ o, I 0 (w.alloc o))
    (hrep : ∀ k, k < K → ∀ W, I k W → Fr S w W → ∃ L : Lay, RepF W b (mcell L (ms k)) ∧ (ms k).done = false)
    (hstep : ∀ k, k < K → ∀ W, I k W → Fr S w W → Calls Tryz.prog 32 #[.pointer (some ⟨b, 0, none⟩)] W fun e w' => e = .returned (.int .i64 0) ∧ I (k + 1) w' ∧ Fr S W w')
    (n : Nat) (cx : Nat → Int) (nS : Nat) (sx : Nat → Int) (hn : n ≤ 1000000) (hnS : nS ≤ 1000000)
    (hend : ∀ W, I K W → Fr S w W → ∃ L : Lay, RepF W b (mcell L (ms K)) ∧ (ms K).done = true ∧ RowAt W L.ctx n (bytesL cx n) ∧ RowAt W L.sent nS (intsL sx nS)) :
    Calls Tryz.prog 20 #[.pointer (some ⟨b, 0, none⟩), .int .i64 1048576] w fun e w' => ∃ v s, e = .returned (.tuple #[.agg #[.int .i64 ((ms K).reg 0).x, v, .slice none 0 0, s], .int .i64 0]) ∧
      w'.ownsRow w.heap.size 5 1 v n (bytesL cx n) ∧ w'.ownsRow w.heap.size 3 1 s nS (intsL sx nS) ∧ Fr S w w' := by
  have HI0 := Lib.hid (hI0 (.cells infoZero 31))
  have HREP := Lib.hid hrep
  have HSTEP := Lib.hid hstep
  have HEND := Lib.hid hend
  have HKN := Lib.hid hK
  have HNN := Lib.hid (And.intro hn hnS)
  clear hI0 hrep hstep hend hK hn hnS
  go_enter Tryz.func20, Tryz.ntmps20
  go_wp2
  refine scope_loop 0 (RunJ I K S w b) (runMu K) rfl ?_ ?_
  · go_wp2
    exact ⟨0, fun _ => undef, Nat.zero_le _, rfl, HI0.out, Fr.refl _ _⟩
  · rintro a' w' ⟨k, u, hk, rfl, hI, hF⟩
    have hFw : Fr S w w' := Fr.trans ((Fr.refl S w).alloc _) hF
    by_cases hlt : k < K
    · obtain ⟨L, hR, hd⟩ := HREP.out k hlt w' hI hFw
      have hST := HSTEP.out k hlt w' hI hFw
      have HST := Lib.hid hST
      have hb := hR.lt
      have f8 := hR.cell 470 (by omega)
      rw [show mcell L (ms k) 470 = .bool (ms k).done by simp [mcell], hd] at f8
      have hkz : decide ((k : Int) ≥ 1048576) = false := by have := HKN.out; simp; omega
      have hkw : (k : Int) < 1048576 := by have := HKN.out; omega
      have HF := Lib.hid hF
      have HLT := Lib.hid hlt
      clear hk hlt
      clear hST hR hd hF hI hFw
      go_wp2_with (go_at_call 32; refine HST.out.mono ?_; rintro e w1 ⟨rfl, hI1, hF1⟩)
      go_step3
      exact ⟨rfl, RunJ.intro (k + 1) _ _ HLT.out rfl hI1 (HF.out.trans hF1), by have h1 := HLT.out; show K - ((k : Int) + 1).toNat < K - (k : Int).toNat; omega⟩
    · have : k = K := by omega
      subst this
      obtain ⟨L, hR, hd, hc, hs⟩ := HEND.out w' hI hFw
      have hb := hR.lt
      have f8 := hR.cell 470 (by omega)
      have f1 := hR.cell 416 (by omega)
      have f2 := hR.cell 417 (by omega)
      have f3 := hR.cell 467 (by omega)
      obtain ⟨_, _, _, f4⟩ := hR.reg 0 (by omega)
      simp only [Nat.zero_mul, Nat.add_zero, Nat.reduceAdd] at f4
      rw [show mcell L (ms k) 470 = .bool (ms k).done by simp [mcell], hd] at f8
      rw [show mcell L (ms k) 416 = L.ctx by simp [mcell]] at f1
      rw [show mcell L (ms k) 417 = .slice none 0 0 by simp [mcell]] at f2
      rw [show mcell L (ms k) 467 = L.sent by simp [mcell]] at f3
      have hfr : ∀ o, w'.frozen? ⟨w.heap.size, o, none⟩ = false := fun o => by
        have h1 := hF.block w.heap.size (by simp) hn0
        have h2 : (w.alloc (.cells infoZero 31)).heap[w.heap.size]? = some (.cells infoZero 31 (0, 0)) := by show (w.heap.push (Obj.cells infoZero 31 (0, 0)))[w.heap.size]? = _; exact Array.getElem?_push_size
        rw [h2] at h1
        simp [World.frozen?, h1]
      have hbx : ∀ o u, infoZero[o]? = some u → w'.cell? ⟨w.heap.size, o, none⟩ = some u := fun o u hu => by
        have h1 := hF.block w.heap.size (by simp) hn0
        have h2 : (w.alloc (.cells infoZero 31)).heap[w.heap.size]? = some (.cells infoZero 31 (0, 0)) := by show (w.heap.push (Obj.cells infoZero 31 (0, 0)))[w.heap.size]? = _; exact Array.getElem?_push_size
        rw [h2] at h1
        simp [World.cell?, h1, hu]
      have b0 := hbx 0 _ rfl
      have b1 := hbx 1 _ rfl
      have b2 := hbx 2 _ rfl
      have b3 := hbx 3 _ rfl
      clear hbx
      have hws : w.heap.size < w'.heap.size := by have := hF.size; simp at this; omega
      have HFw := Lib.hid hFw
      have HF := Lib.hid hF
      have HC := Lib.hid hc
      have HS := Lib.hid hs
      clear hk hlt hR hd hF hFw hI hc hs
      go_wp2_with fail
      go_region_held3 (fun W => W.cell? ⟨b, 426, none⟩ = some (.int .i64 ((ms k).reg 0).x) ∧ W.cell? ⟨b, 416, none⟩ = some L.ctx ∧ W.cell? ⟨b, 417, none⟩ = some (.slice none 0 0) ∧ W.cell? ⟨b, 467, none⟩ = some L.sent) (simp [go_sem, *])
        (first
          | (go_at_call 27; refine (clone_bytesAt _ n cx _ ?_ (by have := HNN.out; omega)).mono ?_; (first | exact HC.out | exact HC.out.drewN _); rintro e w1 ⟨v1, rfl, ho1, hF1⟩; obtain ⟨p1, m1, c1, rfl⟩ := owns_slice ho1; (have hkc := fcell hF1); (have hz1 := hF1.size); (try simp [go_sem] at hz1); (have g4 := (hkc.1 b 426 hb).trans f4); (have g1 := (hkc.1 b 416 hb).trans f1); (have g2 := (hkc.1 b 417 hb).trans f2); (have g3 := (hkc.1 b 467 hb).trans f3); (have l0 := (hkc.1 w.heap.size 0 hws).trans b0); (have l1 := (hkc.1 w.heap.size 1 hws).trans b1); (have l2 := (hkc.1 w.heap.size 2 hws).trans b2); (have l3 := (hkc.1 w.heap.size 3 hws).trans b3); (have gf := fun o => (hkc.2 w.heap.size o hws).trans (hfr o)); (have gb : b < w1.heap.size := by omega); (have gw : w.heap.size < w1.heap.size := by omega); clear hkc; (have HF1 := Lib.hid hF1); (have HO1 := Lib.hid ho1); clear hF1 ho1)
          | (go_at_call 28; refine (copies_nil _).mono ?_; rintro e w2 ⟨rfl, rfl⟩)
          | (go_at_call 31; refine (clone_intsAt _ nS sx _ ?_ (by have := HNN.out; omega)).mono ?_; (first | exact HS.out.drew.fr HF1.out | exact (HS.out.drewN _).fr HF1.out); rintro e w3 ⟨v3, rfl, ho3, hF3⟩; obtain ⟨p3, m3, c3, rfl⟩ := owns_slice ho3; (have hkc3 := fcell hF3); (have hz3 := hF3.size); (try simp [go_sem] at hz3); (have k4 := (hkc3.1 b 426 gb).trans g4); (have k1 := (hkc3.1 b 416 gb).trans g1); (have k2 := (hkc3.1 b 417 gb).trans g2); (have k3 := (hkc3.1 b 467 gb).trans g3); (have n0 := (hkc3.1 w.heap.size 0 gw).trans l0); (have n1 := (hkc3.1 w.heap.size 1 gw).trans l1); (have n2 := (hkc3.1 w.heap.size 2 gw).trans l2); (have n3 := (hkc3.1 w.heap.size 3 gw).trans l3); (have kw : w.heap.size < w3.heap.size := by omega); (have kf := fun o => (hkc3.2 w.heap.size o gw).trans (gf o)); clear hkc3; (have HF3 := Lib.hid hF3); (have HO3 := Lib.hid ho3); clear hF3 ho3)
          | fail)
      go_wp2
      simp only [Exit.jump]
      refine bodyPost_ret (v := .tuple #[.agg #[.int .i64 ((ms k).reg 0).x, .slice p1 m1 c1, .slice none 0 0, .slice p3 m3 c3], .int .i64 0]) (by simp [results, Tryz.results20, go_sem, *]) rfl ⟨_, _, rfl, ?_, ?_, ?_⟩
      · have hq : Fr (fun x => x = w.heap.size) w3 _ := ((((Fr.refl (fun x => x = w.heap.size) w3).setCell ⟨w.heap.size, 0, none⟩ (Value.int IntKind.i64 ((ms k).reg 0).x) (.inl rfl)).setCell ⟨w.heap.size, 1, none⟩ (Value.slice p1 m1 c1) (.inl rfl)).setCell ⟨w.heap.size, 2, none⟩ (Value.slice none 0 0) (.inl rfl)).setCell ⟨w.heap.size, 3, none⟩ (Value.slice p3 m3 c3) (.inl rfl)
        exact ownsRow_base (ownsRow_frS (ownsRow_fr HO1.out HF3.out) hq (fun g hg => by simp at hg; omega)) (by simp; omega)
      · have hq : Fr (fun x => x = w.heap.size) w3 _ := ((((Fr.refl (fun x => x = w.heap.size) w3).setCell ⟨w.heap.size, 0, none⟩ (Value.int IntKind.i64 ((ms k).reg 0).x) (.inl rfl)).setCell ⟨w.heap.size, 1, none⟩ (Value.slice p1 m1 c1) (.inl rfl)).setCell ⟨w.heap.size, 2, none⟩ (Value.slice none 0 0) (.inl rfl)).setCell ⟨w.heap.size, 3, none⟩ (Value.slice p3 m3 c3) (.inl rfl)
        exact ownsRow_base (ownsRow_frS HO3.out hq (fun g hg => by omega)) (by omega)
      · have hq : Fr S w w3 := ((HFw.out.drew).ends HF1.out).ends HF3.out
        exact (((hq.setCell _ _ (.inr (Nat.le_refl _))).setCell _ _ (.inr (Nat.le_refl _))).setCell _ _ (.inr (Nat.le_refl _))).setCell _ _ (.inr (Nat.le_refl _))

end Go.Proofs.YtkhbjhmhdlmmfaaGreat
