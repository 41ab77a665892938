/- Walks: read and get of the context; loads. -/
import Derived.Test.YtkhbjhmhdlmmfaaGreatH
import Derived.Test.YtkhbjhmhdlmmfaaGreatB
namespace Go.Proofs.YtkhbjhmhdlmmfaaGreat
open Go.RowKit

theorem frCell {c : Nat} {W w1 : World} (h : Fr (· = c) W w1) : ∀ k o, k < W.heap.size → k ≠ c → w1.cell? ⟨k, o, none⟩ = W.cell? ⟨k, o, none⟩ :=
  fun k _ hk hc => World.cell?_of_block (w := W) (h.block k hk hc)
/-- what a block holds -/
def HeapAt (w : World) (k : Nat) (o : Obj) : Prop := w.heap[k]? = some o
theorem HeapAt.lt {w : World} {k : Nat} {o : Obj} (h : HeapAt w k o) : k < w.heap.size := (Array.getElem?_eq_some_iff.1 h).1
theorem HeapAt.alloc {w : World} {k : Nat} {o : Obj} (h : HeapAt w k o) (o' : Obj) : HeapAt (w.alloc o') k o := (Below.heap_alloc w o' k h.lt).trans h
theorem HeapAt.drew {w : World} {k : Nat} {o : Obj} (h : HeapAt w k o) : HeapAt w.drew k o := h

def bytesL (f : Nat → Int) (n : Nat) : List Value := (List.range n).map fun j => .int .u8 (f j)
theorem bytesL_get (f : Nat → Int) (n j : Nat) (h : j < n) : (bytesL f n)[j]? = some (.int .u8 (f j)) := by simp [bytesL, h]
theorem bytesL_one (f : Nat → Int) (n : Nat) : ∀ u ∈ bytesL f n, u.oneCell' = true := by
  intro u hu
  obtain ⟨j, _, rfl⟩ := List.mem_map.1 hu
  rfl
theorem bytesL_len (f : Nat → Int) (n : Nat) : (bytesL f n).length = n := by simp [bytesL]

theorem owns_form {w : World} {base e : Nat} {v : Value} {n : Nat} {f : Nat → Int} (h : w.ownsRow base e 1 v n (bytesL f n)) (hn : 1 ≤ n) :
    ∃ g cap, v = .slice (some ⟨g, 0, none⟩) n cap ∧ base ≤ g ∧ g < w.heap.size ∧ ∀ j, j < n → w.cell? ⟨g, j, none⟩ = some (.int .u8 (f j)) := by
  rcases h.2 with ⟨_, hn0⟩ | ⟨g, cap, cur, rfl, hb, hg, hnc, _, hcs, htake⟩
  · omega
  · refine ⟨g, cap, rfl, hb, (Array.getElem?_eq_some_iff.1 hg).1, fun j hj => ?_⟩
    have := h.cells (g := g) rfl j _ (bytesL_get f n j hj)
    rwa [Addr.add_lit, Nat.zero_add] at this

set_option maxRecDepth 100000 in
set_option maxHeartbeats 1000000 in
theorem read_ctx (b bc len cap : Nat) (cx : Nat → Int) (w : World) (hb : b < w.heap.size) (hc : w.cell? ⟨b, 416, none⟩ = some (.slice (some ⟨bc, 0, none⟩) len cap)) (hcx : ∀ j, j < len → w.cell? ⟨bc, j, none⟩ = some (.int .u8 (cx j)))
    (t r x : Int) (a n : Nat) (h : a + n ≤ len) (hl : len ≤ cap) (hcap : ((a + n : Nat) : Int) ≤ 100000) :
    Calls Tryz.prog 84 #[.pointer (some ⟨b, 0, none⟩), .agg #[.int .i64 3, .int .i64 t, .int .i64 r, .int .i64 x], .int .i64 a, .int .i64 n] w fun e w' =>
      ∃ v, e = .returned v ∧ w'.ownsRow w.heap.size 5 1 v n (bytesL (fun j => cx (a + j)) n) ∧ Fr (fun _ => False) w w' := by
  have Hx := Lib.hid hcx
  clear hcx
  go_enter Tryz.func84, Tryz.ntmps84
  go_wp2_with (first
    | (go_at_call 85; refine (piece_ctx b bc len cap _ ?_ ?_ _ _ _ a n h hl hcap).mono ?_; (simp; omega); (simpa [go_sem, hb] using hc); rintro e w1 ⟨rfl, rfl⟩)
    | fail)
  · have hpo : 1 ≤ n → piOff cap a = a := by intro h1; unfold piOff; rw [if_neg (by omega)]
    refine (clone_bytes _ n _ (bytesL (fun j => cx (a + j)) n) _ (bytesL_len _ _) (by omega) ?_ (bytesL_one _ _)).mono ?_
    · intro j u hu
      have hj : j < n := by simpa [bytesL] using (List.getElem?_eq_some_iff.1 hu).1
      rw [bytesL_get _ n j hj] at hu
      cases hu
      have hbc := World.block_lt_of_cell? w _ (Hx.out (a + j) (by omega))
      simp only at hbc
      rw [Addr.add_lit, hpo (by omega), World.cell?_alloc_past _ _ _ (by simp; omega), World.cell?_alloc_past _ _ _ hbc, Hx.out (a + j) (by omega)]
    · rintro e w1 ⟨v, rfl, ho, hbl⟩
      have Ho := Lib.hid ho
      have Hb := Lib.hid hbl
      clear ho hbl
      go_wp2
      go_ret
      refine ⟨v, rfl, ⟨Ho.out.1, ?_⟩, (((Fr.refl _ _).alloc _).alloc _).below Hb.out⟩
      rcases Ho.out.2 with hn | ⟨g, cap', cur, h1, h2, h3⟩
      · exact .inl hn
      · exact .inr ⟨g, cap', cur, h1, by simp at h2; omega, h3⟩

theorem RepF.ctxAt {w : World} {b : Nat} {L : Lay} {m : Mac} (h : RepF w b (mcell L m)) : w.cell? ⟨b, 416, none⟩ = some L.ctx := by
  rw [h.cell 416 (by omega)]; simp [mcell]

theorem write_ctxR (b bc len cap : Nat) (cur : Array Value) (L : Lay) (m : Mac) (w : World) (hL : L.ctx = .slice (some ⟨bc, 0, none⟩) len cap) (hcur : HeapAt w bc (.cells cur 5 (0, 0))) (hR : RepF w b (mcell L m)) (hsz : cur.size = cap)
    (t r x : Int) (a n : Nat) (h : a + n ≤ len) (hn : 1 ≤ n) (hl : len ≤ cap) (hcap : ((a + n : Nat) : Int) ≤ 100000) (g c : Nat) (y : Nat → Int) (hg : g < w.heap.size) (hy : ∀ j, j < n → w.cell? ⟨g, j, none⟩ = some (.int .u8 (y j))) :
    Calls Tryz.prog 66 #[.pointer (some ⟨b, 0, none⟩), .agg #[.int .i64 3, .int .i64 t, .int .i64 r, .int .i64 x], .int .i64 a, .slice (some ⟨g, 0, none⟩) n c] w fun e w' =>
      e = .returned (.tuple #[]) ∧ w'.heap[bc]? = some (.cells (spliced cur a n y) 5 (0, 0)) ∧ Fr (· = bc) w w' :=
  write_ctx b bc len cap cur w hR.lt (by rw [hR.ctxAt, hL]) hcur hsz t r x a n h hn hl hcap g c y hg hy

theorem within_ctxR (b : Nat) (L : Lay) (m : Mac) (ad : Option Addr) (len c : Nat) (hL : L.ctx = .slice ad len c) (t r x a n : Int) (w : World) (h : 0 ≤ a) (h1 : a ≤ 1000000) (h2 : 0 ≤ n) (h3 : n ≤ 1000000) (hR : RepF w b (mcell L m)) :
    Calls Tryz.prog 63 #[.pointer (some ⟨b, 0, none⟩), .agg #[.int .i64 3, .int .i64 t, .int .i64 r, .int .i64 x], .int .i64 a, .int .i64 n] w fun e w' => e = .returned (.bool (decide (a + n ≤ (len : Int)))) ∧
      (w.alloc (.cells #[.int .i64 3, .int .i64 t, .int .i64 r, .int .i64 x] 64)).alloc (.cells #[.int .i64 3, .int .i64 t, .int .i64 r, .int .i64 x] 64) = w' :=
  within_ctx b ad len c t r x a n w hR.lt (by rw [hR.ctxAt, hL]) h h1 h2 h3

set_option maxRecDepth 100000 in
set_option maxHeartbeats 2000000 in
theorem load_out_ctx (b : Nat) (L : Lay) (m : Mac) (w : World) (hR : RepF w b (mcell L m)) (op : Int) (d s : Nat) (hs : (s : Int) < 11) (nar reg : Bool) (sz off imm : Int) (ad : Option Addr) (len cap : Nat) (hL : L.ctx = .slice ad len cap)
    (t r x : Int) (hk : m.reg s = ⟨3, t, r, x⟩) (g1 : 0 ≤ x + off) (g2 : x + off ≤ 1000000) (g3 : 0 ≤ sz) (g4 : sz ≤ 8) (g5 : (len : Int) < x + off + sz) :
    Calls Tryz.prog 43 #[.pointer (some ⟨b, 0, none⟩), .agg #[.int .i64 op, .bool nar, .bool reg, .int .i64 sz, .int .i64 d, .int .i64 s, .int .i64 off, .int .i64 imm]] w fun e w' =>
      e = .returned (.tuple #[.int .i64 0, .int .i64 81]) ∧ Fr (fun _ => False) w w' := by
  have H := Lib.hid hR
  have hb := hR.lt
  obtain ⟨h0, h1, h2, h3⟩ := hR.reg s (by omega)
  rw [hk] at h0 h1 h2 h3
  have HL := Lib.hid hL
  have g5' : decide (x + off + sz ≤ (len : Int)) = false := by simp; omega
  clear hR hk hL
  go_enter Tryz.func43, Tryz.ntmps43
  go_wp2_with fail
  go_region
  go_wp2_with (go_at_call 62; refine (pointer_any _ _ _ _ _).mono ?_; rintro e w1 ⟨rfl, rfl⟩)
  go_region_held3 (fun w' => w'.cell? ⟨w.heap.size + 1, 0, none⟩ = some (.int .i64 3) ∧ w'.cell? ⟨w.heap.size + 1, 1, none⟩ = some (.int .i64 t) ∧ w'.cell? ⟨w.heap.size + 1, 2, none⟩ = some (.int .i64 r) ∧ w'.cell? ⟨w.heap.size + 1, 3, none⟩ = some (.int .i64 x) ∧ w'.cell? ⟨w.heap.size, 0, none⟩ = some (.int .i64 op) ∧ w'.cell? ⟨w.heap.size, 1, none⟩ = some (.bool nar) ∧ w'.cell? ⟨w.heap.size, 2, none⟩ = some (.bool reg) ∧ w'.cell? ⟨w.heap.size, 3, none⟩ = some (.int .i64 sz) ∧ w'.cell? ⟨w.heap.size, 4, none⟩ = some (.int .i64 d) ∧ w'.cell? ⟨w.heap.size, 5, none⟩ = some (.int .i64 s) ∧ w'.cell? ⟨w.heap.size, 6, none⟩ = some (.int .i64 off) ∧ w'.cell? ⟨w.heap.size, 7, none⟩ = some (.int .i64 imm)) (simp [go_sem, *])
    (first | (go_at_call 63; refine (within_ctxR b L m ad len cap HL.out _ _ _ _ _ _ g1 g2 g3 (by omega) ?_).mono ?_; (repeat (first | with_reducible exact H.out | with_reducible refine RepF.drew ?_ | with_reducible refine RepF.alloc ?_ _)); rintro e w1 ⟨rfl, rfl⟩) | fail)
  go_wp2
  refine bodyPost_ret (v := .tuple #[.int .i64 0, .int .i64 81]) (by simp [results, Tryz.results43, go_sem]) rfl ⟨rfl, ?_⟩
  repeat (first | with_reducible exact Fr.refl _ _ | with_reducible refine Fr.drew ?_ | with_reducible refine Fr.alloc ?_ _)

set_option maxRecDepth 100000 in
set_option maxHeartbeats 2000000 in
theorem load_out_stack (b : Nat) (L : Lay) (m : Mac) (w : World) (hR : RepF w b (mcell L m)) (op : Int) (d s : Nat) (hs : (s : Int) < 11) (nar reg : Bool) (sz off imm : Int) 
    (t r x : Int) (hk : m.reg s = ⟨2, t, r, x⟩) (g1 : 0 ≤ x + off) (g2 : x + off ≤ 1000000) (g3 : 0 ≤ sz) (g4 : sz ≤ 8) (g5 : 256 < x + off + sz) :
    Calls Tryz.prog 43 #[.pointer (some ⟨b, 0, none⟩), .agg #[.int .i64 op, .bool nar, .bool reg, .int .i64 sz, .int .i64 d, .int .i64 s, .int .i64 off, .int .i64 imm]] w fun e w' =>
      e = .returned (.tuple #[.int .i64 0, .int .i64 81]) ∧ Fr (fun _ => False) w w' := by
  have H := Lib.hid hR
  have hb := hR.lt
  obtain ⟨h0, h1, h2, h3⟩ := hR.reg s (by omega)
  rw [hk] at h0 h1 h2 h3
  have g5' : decide (x + off + sz ≤ 256) = false := by simp; omega
  clear hR hk
  go_enter Tryz.func43, Tryz.ntmps43
  go_wp2_with fail
  go_region
  go_wp2_with (go_at_call 62; refine (pointer_any _ _ _ _ _).mono ?_; rintro e w1 ⟨rfl, rfl⟩)
  go_region_held3 (fun w' => w'.cell? ⟨w.heap.size + 1, 0, none⟩ = some (.int .i64 2) ∧ w'.cell? ⟨w.heap.size + 1, 1, none⟩ = some (.int .i64 t) ∧ w'.cell? ⟨w.heap.size + 1, 2, none⟩ = some (.int .i64 r) ∧ w'.cell? ⟨w.heap.size + 1, 3, none⟩ = some (.int .i64 x) ∧ w'.cell? ⟨w.heap.size, 0, none⟩ = some (.int .i64 op) ∧ w'.cell? ⟨w.heap.size, 1, none⟩ = some (.bool nar) ∧ w'.cell? ⟨w.heap.size, 2, none⟩ = some (.bool reg) ∧ w'.cell? ⟨w.heap.size, 3, none⟩ = some (.int .i64 sz) ∧ w'.cell? ⟨w.heap.size, 4, none⟩ = some (.int .i64 d) ∧ w'.cell? ⟨w.heap.size, 5, none⟩ = some (.int .i64 s) ∧ w'.cell? ⟨w.heap.size, 6, none⟩ = some (.int .i64 off) ∧ w'.cell? ⟨w.heap.size, 7, none⟩ = some (.int .i64 imm)) (simp [go_sem, *])
    (first | (go_at_call 63; refine (within_stack _ _ _ _ _ _ _ g1 g2 g3 (by omega)).mono ?_; rintro e w1 ⟨rfl, rfl⟩) | fail)
  go_wp2
  refine bodyPost_ret (v := .tuple #[.int .i64 0, .int .i64 81]) (by simp [results, Tryz.results43, go_sem]) rfl ⟨rfl, ?_⟩
  repeat (first | with_reducible exact Fr.refl _ _ | with_reducible refine Fr.drew ?_ | with_reducible refine Fr.alloc ?_ _)

end Go.Proofs.YtkhbjhmhdlmmfaaGreat
