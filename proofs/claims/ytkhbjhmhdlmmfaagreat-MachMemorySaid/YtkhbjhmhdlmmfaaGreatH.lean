/- Walks: pieces of the context, writing. -/
import Derived.Test.YtkhbjhmhdlmmfaaGreatN
import Derived.Laws.CopyOwn
namespace Go.Proofs.YtkhbjhmhdlmmfaaGreat
open Go.RowKit

set_option maxHeartbeats 400000 in
theorem readable_ctx (p : Value) (t r x a n : Int) (w : World) :
    Calls Tryz.prog 64 #[p, .agg #[.int .i64 3, .int .i64 t, .int .i64 r, .int .i64 x], .int .i64 a, .int .i64 n] w fun e w' =>
      e = .returned (.int .i64 0) ∧ w.alloc (.cells #[.int .i64 3, .int .i64 t, .int .i64 r, .int .i64 x] 64) = w' := by
  go_enter Tryz.func64, Tryz.ntmps64
  go_wp2
  go_ret
  exact ⟨rfl, rfl⟩

def piOff (cap a : Nat) : Nat := if cap = a then 0 else a
set_option maxRecDepth 100000 in
set_option maxHeartbeats 400000 in
theorem piece_ctx (b bc len cap : Nat) (w : World) (hb : b < w.heap.size) (hc : w.cell? ⟨b, 416, none⟩ = some (.slice (some ⟨bc, 0, none⟩) len cap)) (t r x : Int) (a n : Nat) (h : a + n ≤ len) (hl : len ≤ cap) (hcap : ((a + n : Nat) : Int) ≤ 100000) :
    Calls Tryz.prog 85 #[.pointer (some ⟨b, 0, none⟩), .agg #[.int .i64 3, .int .i64 t, .int .i64 r, .int .i64 x], .int .i64 a, .int .i64 n] w fun e w' =>
      e = .returned (.slice (some ⟨bc, piOff cap a, none⟩) n (cap - a)) ∧ w.alloc (.cells #[.int .i64 3, .int .i64 t, .int .i64 r, .int .i64 x] 64) = w' := by
  by_cases hca : cap = a
  · have e1 : piOff cap a = 0 := by unfold piOff; rw [if_pos hca]
    have e2 : cap - a = 0 := by omega
    rw [e1, e2]
    subst hca
    clear e1 e2
    go_enter Tryz.func85, Tryz.ntmps85
    go_wp2
    go_ret
    exact ⟨congrArg (fun k => Ending.returned (.slice (some ⟨bc, 0, none⟩) k 0)) (show cap + n - cap = n by omega), rfl⟩
  · have e1 : piOff cap a = a := by unfold piOff; rw [if_neg hca]
    rw [e1]
    clear e1
    go_enter Tryz.func85, Tryz.ntmps85
    go_wp2
    go_ret
    exact ⟨congrArg (fun k => Ending.returned (.slice (some ⟨bc, a, none⟩) k (cap - a))) (show a + n - a = n by omega), rfl⟩

set_option maxRecDepth 100000 in
set_option maxHeartbeats 400000 in
theorem piece_ctx_nil (b : Nat) (w : World) (hb : b < w.heap.size) (hc : w.cell? ⟨b, 416, none⟩ = some (.slice none 0 0)) (t r x : Int) :
    Calls Tryz.prog 85 #[.pointer (some ⟨b, 0, none⟩), .agg #[.int .i64 3, .int .i64 t, .int .i64 r, .int .i64 x], .int .i64 0, .int .i64 0] w fun e w' =>
      e = .returned (.slice none 0 0) ∧ w.alloc (.cells #[.int .i64 3, .int .i64 t, .int .i64 r, .int .i64 x] 64) = w' := by
  go_enter Tryz.func85, Tryz.ntmps85
  go_wp2
  go_ret
  exact ⟨rfl, rfl⟩

theorem pow_wrap (p : Nat) : wrap64 (2 ^ (p % 8)) = 2 ^ (p % 8) := by
  have : p % 8 = 0 ∨ p % 8 = 1 ∨ p % 8 = 2 ∨ p % 8 = 3 ∨ p % 8 = 4 ∨ p % 8 = 5 ∨ p % 8 = 6 ∨ p % 8 = 7 := by omega
  rcases this with h | h | h | h | h | h | h | h <;> rw [h] <;> simp [wrap64]

set_option maxRecDepth 100000 in
set_option maxHeartbeats 1000000 in
theorem write_stack (b : Nat) (L : Lay) (m : Mac) (w : World) (hR : RepF w b (mcell L m)) (t r x : Int) (a n g c : Nat) (y : Nat → Int) (h : a + n ≤ 256) (hg : g < w.heap.size) (hgb : g ≠ b) (hy : ∀ j, j < n → w.cell? ⟨g, j, none⟩ = some (.int .u8 (y j))) :
    Calls Tryz.prog 66 #[.pointer (some ⟨b, 0, none⟩), .agg #[.int .i64 2, .int .i64 t, .int .i64 r, .int .i64 x], .int .i64 a, .slice (some ⟨g, 0, none⟩) n c] w fun e w' =>
      e = .returned (.tuple #[]) ∧ RepF w' b (mcell L (m.puts a y n)) ∧ Fr (· = b) w w' := by
  have H := Lib.hid hR
  have hb := hR.lt
  have Hy := Lib.hid hy
  clear hR hy
  go_enter Tryz.func66, Tryz.ntmps66
  go_wp2
  go_loopw [8, 9, 10, 24] (fun _ _ _ i wr => ∃ k : Nat, k ≤ n ∧ i = .int .i64 k ∧ RepF wr b (mcell L (m.puts a y k)) ∧ Fr (· = b) w wr) (fun _ _ _ i _ => n - (intOf i).toNat)
  case atStart => exact ⟨0, by omega, rfl, H.out.alloc _, (Fr.refl _ _).alloc _⟩
  case round =>
    obtain ⟨k, hk, rfl, hR1, hF1⟩ := hrel
    have HR1 := Lib.hid hR1
    have HF1 := Lib.hid hF1
    clear hR1 hF1
    by_cases hlt : k < n
    · have hcell : wr.cell? ⟨g, k, none⟩ = some (.int .u8 (y k)) := by rw [World.cell?_of_block (w := w) (HF1.out.block g hg hgb)]; exact Hy.out k hlt
      have hf := HR1.out.frozen
      have hb1 := HR1.out.lt
      by_cases hz : ((m.puts a y k).ptr ((a + k) / 8)).k = 0
      · obtain ⟨h0, h1, h2, h3⟩ := HR1.out.ptrAt ((a + k) / 8) (by omega)
        have hby := HR1.out.byteAt (a + k) (by omega)
        have hmk := (HR1.out.setCell ((a + k) / 8 * 13 + 4 + (a + k) % 8) (.int .u8 (y k))).cell ((a + k) / 8 * 13 + 12) (by omega)
        have e1 : upd (mcell L (m.puts a y k)) ((a + k) / 8 * 13 + 4 + (a + k) % 8) (.int .u8 (y k)) ((a + k) / 8 * 13 + 12) = .int .i64 (maskOf (m.puts a y k).wr ((a + k) / 8)) := by
          unfold upd; rw [if_neg (by omega), mcell_slot _ 12 (by omega) (by omega)]; rfl
        rw [e1] at hmk
        have HS := Lib.hid (HR1.out.setByte (a + k) (by omega) (y k))
        have HP := Lib.hid (show (m.puts a y (k + 1)) = (m.puts a y k).setByte (a + k) (y k) by show Mac.put _ _ _ = _; unfold Mac.put; rw [if_pos hz])
        rw [hz] at h0
        clear hz h1 h2 h3 e1
        go_wp2_with fail
        go_region
        go_wp2_with fail
        refine ⟨⟨k + 1, by omega, by go_num, ?_, ?_⟩, by simp [intOf]; omega⟩
        · rw [HP.out, pow_wrap]
          exact HS.out.drew
        · exact (((HF1.out.setCell _ _ (.inl rfl)).setCell _ _ (.inl rfl)).drew)
      · have hz' : (((m.puts a y k).ptr ((a + k) / 8)).k != 0) = true := by simpa using hz
        obtain ⟨h0, h1, h2, h3⟩ := HR1.out.ptrAt ((a + k) / 8) (by omega)
        have hmk := HR1.out.maskAt ((a + k) / 8) (by omega)
        have q4 := HR1.out.byte ((a + k) / 8) 0 (by omega) (by omega)
        have q5 := HR1.out.byte ((a + k) / 8) 1 (by omega) (by omega)
        have q6 := HR1.out.byte ((a + k) / 8) 2 (by omega) (by omega)
        have q7 := HR1.out.byte ((a + k) / 8) 3 (by omega) (by omega)
        have q8 := HR1.out.byte ((a + k) / 8) 4 (by omega) (by omega)
        have q9 := HR1.out.byte ((a + k) / 8) 5 (by omega) (by omega)
        have q10 := HR1.out.byte ((a + k) / 8) 6 (by omega) (by omega)
        have q11 := HR1.out.byte ((a + k) / 8) 7 (by omega) (by omega)
        simp only [Nat.add_zero, Nat.add_assoc, Nat.reduceAdd] at q4 q5 q6 q7 q8 q9 q10 q11
        have hS := HR1.out.setPtr ((a + k) / 8) (by omega) .zero
        have HS := Lib.hid (hS.setByte (a + k) (by omega) (y k))
        have HP := Lib.hid (show (m.puts a y (k + 1)) = ((m.puts a y k).clear ((a + k) / 8)).setByte (a + k) (y k) by show Mac.put _ _ _ = _; unfold Mac.put; rw [if_neg hz])
        have hby := hS.byteAt (a + k) (by omega)
        have hm2 := (hS.setCell ((a + k) / 8 * 13 + 4 + (a + k) % 8) (.int .u8 (y k))).cell ((a + k) / 8 * 13 + 12) (by omega)
        have e1 : upd (mcell L ((m.puts a y k).setPtr ((a + k) / 8) .zero)) ((a + k) / 8 * 13 + 4 + (a + k) % 8) (.int .u8 (y k)) ((a + k) / 8 * 13 + 12) = .int .i64 (maskOf ((m.puts a y k).setPtr ((a + k) / 8) .zero).wr ((a + k) / 8)) := by
          unfold upd; rw [if_neg (by omega), mcell_slot _ 12 (by omega) (by omega)]; rfl
        rw [e1] at hm2
        have hF := HF1.out
        obtain ⟨m1, hm1⟩ : ∃ m1, m1 = (m.puts a y k).setPtr ((a + k) / 8) .zero := ⟨_, rfl⟩
        have HP2 := Lib.hid (HP.out.trans (show ((m.puts a y k).clear ((a + k) / 8)).setByte (a + k) (y k) = m1.setByte (a + k) (y k) by rw [hm1]; rfl))
        rw [← hm1] at hm2 hby
        have hSB := HS.out
        rw [← hm1] at hSB
        unfold set13 at hby hm2 hSB
        simp only [Val.zero] at hby hm2 hSB
        have HSB := Lib.hid hSB
        have HF := Lib.hid hF
        clear hz hS e1 hm1 HP HS hSB hF
        go_wp2_with fail
        go_region
        go_wp2_with fail
        refine ⟨⟨k + 1, by omega, by go_num, ?_, ?_⟩, by simp [intOf]; omega⟩
        · rw [HP2.out, pow_wrap]
          exact HSB.out.drew
        · repeat (first | with_reducible exact HF.out | with_reducible refine Fr.drew ?_ | with_reducible refine Fr.alloc ?_ _ | with_reducible refine Fr.setCell ?_ _ _ (.inl rfl))
    · have : k = n := by omega
      subst this
      go_wp2
      go_end0
      exact ⟨rfl, HR1.out, HF1.out⟩

/-- a row of bytes behind a piece of it written -/
def spliced (cur : Array Value) (a n : Nat) (y : Nat → Int) : Array Value := (cur.toList.take a ++ (((List.range n).map fun j => Value.int .u8 (y j)) ++ cur.toList.drop (a + n))).toArray
theorem spliced_size (cur : Array Value) (a n : Nat) (y : Nat → Int) (h : a + n ≤ cur.size) : (spliced cur a n y).size = cur.size := by
  simp [spliced]; omega
theorem spliced_get (cur : Array Value) (a n : Nat) (y : Nat → Int) (h : a + n ≤ cur.size) (j : Nat) : (spliced cur a n y)[j]? = if a ≤ j ∧ j < a + n then some (.int .u8 (y (j - a))) else cur[j]? := by
  unfold spliced
  rw [List.getElem?_toArray]
  by_cases h1 : j < a
  · rw [List.getElem?_append_left (by simp; omega), if_neg (by omega), List.getElem?_take, if_pos h1]; simp
  · rw [List.getElem?_append_right (by simp; omega)]
    have e : (cur.toList.take a).length = a := by simp; omega
    rw [e]
    by_cases h2 : j < a + n
    · rw [if_pos ⟨by omega, h2⟩, List.getElem?_append_left (by simp; omega)]
      simp [show j - a < n by omega]
    · rw [if_neg (by omega), List.getElem?_append_right (by simp; omega)]
      simp only [List.length_map, List.length_range, List.getElem?_drop, Array.getElem?_toList]
      rw [show a + n + (j - a - n) = j by omega]

theorem Fr.setRow {S : Nat → Prop} {a w : World} (h : Fr S a w) (g : Nat) (cs : Array Value) (hg : S g) : Fr S a (w.setRow g cs) :=
  ⟨h.os, h.tape, h.output, by simpa [World.setRow] using h.size, fun k hk hn => by
    rw [setRow_other w g k cs (by rintro rfl; exact hn hg)]
    exact h.block k hk hn⟩

theorem Tryz.size5 : (Tryz.prog.info? 5).map (·.size) = some 1 := by kernel_rfl

set_option maxRecDepth 100000 in
set_option maxHeartbeats 1000000 in
theorem write_ctx (b bc len cap : Nat) (cur : Array Value) (w : World) (hb : b < w.heap.size) (hc : w.cell? ⟨b, 416, none⟩ = some (.slice (some ⟨bc, 0, none⟩) len cap)) (hcur : w.heap[bc]? = some (.cells cur 5 (0, 0))) (hsz : cur.size = cap)
    (t r x : Int) (a n : Nat) (h : a + n ≤ len) (hn : 1 ≤ n) (hl : len ≤ cap) (hcap : ((a + n : Nat) : Int) ≤ 100000) (g c : Nat) (y : Nat → Int) (hg : g < w.heap.size) (hy : ∀ j, j < n → w.cell? ⟨g, j, none⟩ = some (.int .u8 (y j))) :
    Calls Tryz.prog 66 #[.pointer (some ⟨b, 0, none⟩), .agg #[.int .i64 3, .int .i64 t, .int .i64 r, .int .i64 x], .int .i64 a, .slice (some ⟨g, 0, none⟩) n c] w fun e w' =>
      e = .returned (.tuple #[]) ∧ w'.heap[bc]? = some (.cells (spliced cur a n y) 5 (0, 0)) ∧ Fr (· = bc) w w' := by
  have hpo : piOff cap a = a := by unfold piOff; rw [if_neg (by omega)]
  have hbc : bc < w.heap.size := (Array.getElem?_eq_some_iff.1 hcur).1
  have Hy := Lib.hid hy
  have Hcur := Lib.hid hcur
  have Hsz := Lib.hid hsz
  have Hpo := Lib.hid hpo
  clear hy hcur hsz hpo
  go_enter Tryz.func66, Tryz.ntmps66
  go_wp2_with (go_at_call 85; refine (piece_ctx b bc len cap _ ?_ ?_ _ _ _ a n h hl hcap).mono ?_; (simp; omega); (simpa [go_sem, hb] using hc); rw [Hpo.out]; rintro e w1 ⟨rfl, rfl⟩)
  rw [run_copy_row (P := Tryz.prog) _ 22 22 3 5 bc a n (cap - a) ⟨g, 0, none⟩ n c cur 5 ((List.range n).map fun j => Value.int .u8 (y j)) Tryz.underlying22 Tryz.size5
    (by rw [Below.heap_alloc _ _ _ (by simp; omega), Below.heap_alloc _ _ _ hbc]; exact Hcur.out) (by simp)
    (fun j v hj => by
      have hjn : j < n := by simpa using (List.getElem?_eq_some_iff.1 hj).1
      rw [Addr.add_lit, Nat.zero_add, World.cell?_alloc_past _ _ _ (by simp; omega), World.cell?_alloc_past _ _ _ hg, Hy.out j hjn]
      simpa [hjn] using hj)
    (by have := Hsz.out; simp; omega) (fun v hv => by obtain ⟨j, _, rfl⟩ := List.mem_map.1 hv; rfl)]
  go_wp2
  refine bodyPost_ret (results_none rfl _ _ _) rfl ⟨rfl, ?_, ?_⟩
  · rw [setRow_heap _ bc cur _ 5 _ (by rw [Below.heap_alloc _ _ _ (by simp; omega), Below.heap_alloc _ _ _ hbc]; exact Hcur.out)]
    unfold spliced
    simp
  · refine Fr.setRow ?_ _ _ rfl
    exact ((Fr.refl _ _).alloc _).alloc _

end Go.Proofs.YtkhbjhmhdlmmfaaGreat
