/- Walks: New. -/
import Derived.Test.YtkhbjhmhdlmmfaaGreatT
import Derived.Deep.DeepCutAuto
namespace Go.Proofs.YtkhbjhmhdlmmfaaGreat
open Go.RowKit

theorem owns_code {w : World} {base : Nat} {v : Value} {n : Nat} {c : Nat → Ins} (h : w.ownsRow base 25 8 v n (codeL c n)) (hn : 1 ≤ n) :
    ∃ g cap, v = .slice (some ⟨g, 0, none⟩) n cap ∧ base ≤ g ∧ g < w.heap.size ∧ CodeAt w g n c := by
  rcases h.2 with ⟨_, hn0⟩ | ⟨g, cap, cur, rfl, hb, hg, hnc, hm, hcs, htake⟩
  · omega
  · refine ⟨g, cap, rfl, hb, (Array.getElem?_eq_some_iff.1 hg).1, fun k hk => ?_⟩
    have key : ∀ j, j < 8 → w.cell? ⟨g, k * 8 + j, none⟩ = (c k).cells[j]? := fun j hj => by
      rw [h.cellAt (k * 8 + j) (by omega), codeL_get c n k j hk hj]
    exact ⟨key 0 (by omega), key 1 (by omega), key 2 (by omega), key 3 (by omega), key 4 (by omega), key 5 (by omega), key 6 (by omega), key 7 (by omega)⟩
theorem owns_ints {w : World} {base : Nat} {v : Value} {n : Nat} {u : Nat → Int} (h : w.ownsRow base 3 1 v n (intsL u n)) (hn : 1 ≤ n) :
    ∃ g cap, v = .slice (some ⟨g, 0, none⟩) n cap ∧ base ≤ g ∧ g < w.heap.size ∧ ∀ j, j < n → w.cell? ⟨g, j, none⟩ = some (.int .i64 (u j)) := by
  rcases h.2 with ⟨_, hn0⟩ | ⟨g, cap, cur, rfl, hb, hg, hnc, hm, hcs, htake⟩
  · omega
  · refine ⟨g, cap, rfl, hb, (Array.getElem?_eq_some_iff.1 hg).1, fun j hj => ?_⟩
    rw [h.cellAt j (by omega)]
    simp [intsL, hj]
theorem codeAt_news {w : World} {g n : Nat} {c : Nat → Ins} (h : CodeAt w g n c) : ∀ j u, (codeL c n)[j]? = some u → w.cell? ((⟨g, 0, none⟩ : Addr).add j) = some u := by
  intro j u hu
  have hj : j < n * 8 := by have := (List.getElem?_eq_some_iff.1 hu).1; rwa [codeL_len] at this
  obtain ⟨k, i, hk, hi, rfl⟩ : ∃ k i, k < n ∧ i < 8 ∧ j = k * 8 + i := ⟨j / 8, j % 8, by omega, by omega, by omega⟩
  rw [codeL_get c n k i hk hi] at hu
  rw [Addr.add_lit, Nat.zero_add]
  obtain ⟨h0, h1, h2, h3, h4, h5, h6, h7⟩ := h k hk
  have : i = 0 ∨ i = 1 ∨ i = 2 ∨ i = 3 ∨ i = 4 ∨ i = 5 ∨ i = 6 ∨ i = 7 := by omega
  rcases this with rfl | rfl | rfl | rfl | rfl | rfl | rfl | rfl <;> (rw [← hu]; first | exact h0 | exact h1 | exact h2 | exact h3 | exact h4 | exact h5 | exact h6 | exact h7)

theorem clone_codeAt (g n cap : Nat) (c : Nat → Ins) (w : World) (hc : CodeAt w g n c) (hn : (n : Int) ≤ 4096) (hn1 : 1 ≤ n) :
    Calls Tryz.prog 25 #[.slice (some ⟨g, 0, none⟩) n cap] w fun e w' => ∃ gc capc : Nat, e = .returned (.slice (some ⟨gc, 0, none⟩) n capc) ∧ w.heap.size ≤ gc ∧ gc < w'.heap.size ∧ CodeAt w' gc n c ∧ Fr (fun _ => False) w w' := by
  refine (clone_code ⟨g, 0, none⟩ n cap (codeL c n) _ (codeL_len _ _) (by omega) (codeAt_news hc) (codeL_one _ _)).mono ?_
  rintro e w3 ⟨v3, rfl, ho3, hF3⟩
  obtain ⟨gc, capc, rfl, h1, h2, h3⟩ := owns_code ho3 hn1
  exact ⟨gc, capc, rfl, h1, h2, h3, (Fr.refl _ _).below hF3⟩
theorem units_at (g n cap : Nat) (c : Nat → Ins) (w : World) (hc : CodeAt w g n c) (hn : (n : Int) ≤ 4096) :
    Calls Tryz.prog 26 #[.slice (some ⟨g, 0, none⟩) n cap] w fun e w' => ∃ gu capu : Nat, e = .returned (.slice (some ⟨gu, 0, none⟩) (n + 1 : Nat) capu) ∧ w.heap.size ≤ gu ∧ gu < w'.heap.size ∧ (∀ j, j < n + 1 → w'.cell? ⟨gu, j, none⟩ = some (.int .i64 (unitsOf c j))) ∧ Fr (fun _ => False) w w' := by
  refine (units_ok g n cap c w hc hn).mono ?_
  rintro e w3 ⟨v3, rfl, ho3, hF3⟩
  obtain ⟨gc, capc, rfl, h1, h2, h3⟩ := owns_ints ho3 (by omega)
  exact ⟨gc, capc, rfl, h1, h2, h3, hF3⟩
theorem CodeAt.drew {w : World} {g n : Nat} {c : Nat → Ins} (h : CodeAt w g n c) : CodeAt w.drew g n c := h
theorem CodeAt.drewN {w : World} {g n : Nat} {c : Nat → Ins} (h : CodeAt w g n c) (k : Nat) : CodeAt (w.drewN k) g n c := h
theorem CodeAt.alloc {w : World} {g n : Nat} {c : Nat → Ins} (h : CodeAt w g n c) (o : Obj) : CodeAt (w.alloc o) g n c := h.fr ((Fr.refl (fun _ => False) w).alloc o) (fun h => h)

theorem findNow_miss (u : Nat → Int) (x : Int) : ∀ (l : List Nat) (i : Nat), (∀ a ∈ l, u a ≠ x) →
    Instr.findNow (.int .i64) (.int .i64 x) (l.map fun i => ({ key := .int .i64 (u i), val := .int .i64 i, born := i } : MapEntry)) i = some none := by
  intro l
  induction l with
  | nil => intro i _; rfl
  | cons a l ih =>
    intro i h
    rw [List.map_cons]
    simp only [Instr.findNow, Instr.sameNow, if_true]
    have h1 : (x == u a) = false := by rw [beq_eq_false_iff_ne]; exact fun e => h a (.head _) e.symm
    rw [h1]
    exact ih (i + 1) (fun b hb => h b (.tail _ hb))
theorem mapArr_push (u : Nat → Int) (k : Nat) : (mapArr u k).push { key := .int .i64 (u k), val := .int .i64 k, born := k } = mapArr u (k + 1) := by
  unfold mapArr
  rw [List.range_succ, List.map_append]
  simp
def putMap (w : World) (r : Nat) (o : Obj) : World := ChangeMaps.setBlock w r o
theorem run_add (u : Nat → Int) (k r : Nat) (hne : ∀ a, a < k → u a ≠ u k) (w : World) (h : w.heap[r]? = some (.map (mapArr u k) k)) :
    (Instr.mapUpdate 62 (.map (some r)) (.int .i64 (u k)) (.int .i64 k)).run Tryz.prog w = .ok () (putMap w r (.map (mapArr u (k + 1)) (k + 1))) := by
  have hf : Instr.findNow (.int .i64) (.int .i64 (u k)) (mapArr u k).toList 0 = some none := by
    have := findNow_miss u (u k) (List.range k) 0 (fun a ha => hne a (List.mem_range.1 ha))
    simpa [mapArr] using this
  have hc : (Instr.checkKey false 10000 3 (.int .i64 (u k))).run Tryz.prog w = .ok () w := MapKept.run_checkKey Tryz.underlying3 (by simp [MapKept.IsKey]) _ 9999
  have hk := MapKept.run_findKey (P := Tryz.prog) (w := w) Tryz.underlying3 hf
  unfold putMap
  simp [Instr.mapUpdate, run_underlying Tryz.underlying62, MapKept.run_getObj_map h, hc, hk, MapKept.run_setObj_map _ h, Result.andThen, ChangeMaps.setBlock, mapArr_push]
theorem putMap_fr {w : World} {r : Nat} {es : Array MapEntry} {k : Nat} (h : w.heap[r]? = some (.map es k)) (o : Obj) : (putMap w r o).heap[r]? = some o ∧ Fr (fun x => x = r) w (putMap w r o) :=
  ⟨ChangeMaps.heap_setBlock_same h o, ⟨rfl, rfl, rfl, by simp [putMap, ChangeMaps.setBlock], fun i _ hi => ChangeMaps.heap_setBlock_other h o hi⟩⟩

def macZero : Mac := { byte := fun _ => 0, wr := fun _ => false, ptr := fun _ => .zero, reg := fun _ => .zero, pc := 0, steps := 0, done := false }

def layNew (gc n capc gu capu gm : Nat) : Lay := { ctx := .slice none 0 0, code := .slice (some ⟨gc, 0, none⟩) n capc, units := .slice (some ⟨gu, 0, none⟩) (n + 1) capu, beg := gm, sent := .slice none 0 0 }

set_option maxRecDepth 100000 in
theorem zero73 : ∀ i, i < 471 → i ≠ 420 → i ≠ 421 → i ≠ 422 → Tryz.zeroCells73[i]? = some (mcell (layNew 0 0 0 0 0 0) macZero i) := by
  have h : ((Tryz.zeroCells73.setIfInBounds 420 (mcell (layNew 0 0 0 0 0 0) macZero 420)).setIfInBounds 421 (mcell (layNew 0 0 0 0 0 0) macZero 421)).setIfInBounds 422 (mcell (layNew 0 0 0 0 0 0) macZero 422) = ((List.range 471).map (mcell (layNew 0 0 0 0 0 0) macZero)).toArray := by kernel_rfl
  intro i hi h0 h1 h2
  have := congrArg (fun a : Array Value => a[i]?) h
  rw [Array.getElem?_setIfInBounds_ne (by omega), Array.getElem?_setIfInBounds_ne (by omega), Array.getElem?_setIfInBounds_ne (by omega)] at this
  rw [this]
  simp [hi]
theorem zero73_size : Tryz.zeroCells73.size = 471 := by kernel_rfl

theorem new_rel {w2 W : World} {gc capc gu capu gm n b : Nat} (c : Nat → Ins) (hb : b = W.heap.size) (hC : CodeAt W gc n c) (hU : ∀ j, j < n + 1 → W.cell? ⟨gu, j, none⟩ = some (.int .i64 (unitsOf c j))) (hM : W.heap[gm]? = some (.map #[] 0)) (hF : Fr (fun _ => False) w2 W) (o : Obj)
    (ho : o = .cells (((Tryz.zeroCells73.setIfInBounds 420 (.slice (some ⟨gc, 0, none⟩) n capc)).setIfInBounds 421 (.slice (some ⟨gu, 0, none⟩) (n + 1) capu)).setIfInBounds 422 (.map (some gm))) 73) :
    CodeAt (W.alloc o) gc n c ∧ (∀ j, j < n + 1 → (W.alloc o).cell? ⟨gu, j, none⟩ = some (.int .i64 (unitsOf c j))) ∧ (W.alloc o).heap[gm]? = some (.map #[] 0) ∧ RepF (W.alloc o) b (mcell (layNew gc n capc gu capu gm) macZero) ∧ Fr (fun _ => False) w2 (W.alloc o) := by
  refine ⟨hC.alloc o, fun j hj => ?_, ?_, ?_, hF.alloc o⟩
  · have hbk := World.block_lt_of_cell? W _ (hU j hj)
    rw [World.cell?_alloc_past _ _ _ hbk, hU j hj]
  · exact (Below.heap_alloc W o gm (Array.getElem?_eq_some_iff.1 hM).1).trans hM
  · subst hb ho
    refine ⟨_, heap_alloc_new W _, ?_, fun i hi => ?_⟩
    · rw [Array.size_setIfInBounds, Array.size_setIfInBounds, Array.size_setIfInBounds, zero73_size]
    · have hsz : ∀ (a : Array Value), a.size = 471 → i < a.size := fun a h => by omega
      by_cases h2 : i = 422
      · subst h2
        rw [Array.getElem?_setIfInBounds_self, if_pos (by rw [Array.size_setIfInBounds, Array.size_setIfInBounds, zero73_size]; omega)]
        rfl
      · rw [Array.getElem?_setIfInBounds_ne (by omega)]
        by_cases h1 : i = 421
        · subst h1
          rw [Array.getElem?_setIfInBounds_self, if_pos (by rw [Array.size_setIfInBounds, zero73_size]; omega)]
          rfl
        · rw [Array.getElem?_setIfInBounds_ne (by omega)]
          by_cases h0 : i = 420
          · subst h0
            rw [Array.getElem?_setIfInBounds_self, if_pos (by rw [zero73_size]; omega)]
            rfl
          · rw [Array.getElem?_setIfInBounds_ne (by omega), zero73 i hi h0 h1 h2]
            unfold mcell
            by_cases a : i < 416
            · simp only [if_pos a]
            · by_cases a1 : i = 416
              · simp [a1, layNew]
              · by_cases a2 : i < 420
                · simp [a, a1, a2]
                · by_cases a3 : i < 467
                  · simp [a, a1, a2, h0, h1, h2, a3]
                  · have : i = 467 ∨ i = 468 ∨ i = 469 ∨ i = 470 := by omega
                    rcases this with rfl | rfl | rfl | rfl <;> simp [layNew]

theorem upd_ctx (L : Lay) (m : Mac) (v : Value) : ∀ i, i < 471 → upd (upd (upd (upd (mcell L m) 416 v) 417 (.slice none 0 0)) 418 (.slice none 0 0)) 419 (.slice none 0 0) i = mcell { L with ctx := v } m i := by
  intro i hi
  unfold upd
  by_cases h9 : i = 419
  · subst h9; simp [mcell]
  · rw [if_neg h9]
    by_cases h8 : i = 418
    · subst h8; simp [mcell]
    · rw [if_neg h8]
      by_cases h7 : i = 417
      · subst h7; simp [mcell]
      · rw [if_neg h7]
        by_cases h6 : i = 416
        · subst h6; simp [mcell]
        · rw [if_neg h6]
          unfold mcell
          by_cases a : i < 416
          · simp only [if_pos a]
          · have : ¬ i < 420 := by omega
            simp only [if_neg a, if_neg h6, if_neg this]
theorem Fr.fresh {S T : Nat → Prop} {a b c : World} (h : Fr S a b) (k : Fr T b c) (hT : ∀ x, T x → a.heap.size ≤ x) : Fr S a c :=
  ⟨k.os.trans h.os, k.tape.trans h.tape, k.output.trans h.output, Nat.le_trans h.size k.size, fun i hi hn => (k.block i (Nat.lt_of_lt_of_le hi h.size) (fun hx => absurd (hT i hx) (by omega))).trans (h.block i hi hn)⟩
theorem cell_fr {S : Nat → Prop} {w w' : World} {k o : Nat} {v : Value} (h : w.cell? ⟨k, o, none⟩ = some v) (hf : Fr S w w') (hS : ¬ S k) : w'.cell? ⟨k, o, none⟩ = some v :=
  (frCells hf k o (World.block_lt_of_cell? w _ h) hS).trans h
theorem heap_fr {S : Nat → Prop} {w w' : World} {k : Nat} {o : Obj} (h : w.heap[k]? = some o) (hf : Fr S w w') (hS : ¬ S k) : w'.heap[k]? = some o :=
  (hf.block k (Array.getElem?_eq_some_iff.1 h).1 hS).trans h
theorem four_ctx {w3 : World} {b : Nat} {L : Lay} {m : Mac} (h : RepF w3 b (mcell L m)) (v : Value) :
    RepF ((((w3.setCell ⟨b, 416, none⟩ v).setCell ⟨b, 417, none⟩ (.slice none 0 0)).setCell ⟨b, 418, none⟩ (.slice none 0 0)).setCell ⟨b, 419, none⟩ (.slice none 0 0)).drew b (mcell { L with ctx := v } m) ∧
    Fr (fun k => k = b) w3 ((((w3.setCell ⟨b, 416, none⟩ v).setCell ⟨b, 417, none⟩ (.slice none 0 0)).setCell ⟨b, 418, none⟩ (.slice none 0 0)).setCell ⟨b, 419, none⟩ (.slice none 0 0)).drew :=
  ⟨(((((h.setCell _ _).setCell _ _).setCell _ _).setCell _ _).congr (upd_ctx L m v)).drew, (((((Fr.refl (fun k => k = b) w3).setCell _ _ (.inl rfl)).setCell _ _ (.inl rfl)).setCell _ _ (.inl rfl)).setCell _ _ (.inl rfl)).drew⟩

/-- the machine as New leaves it -/
def macStart (m : Nat) : Mac := ((macZero.setReg 1 ⟨3, 0, 0, 0⟩).setReg 2 (.num m)).setReg 10 ⟨2, 0, 0, 256⟩
theorem three_regs {wr : World} {b : Nat} {L : Lay} (h : RepF wr b (mcell L macZero)) (m : Nat) (o : Obj) :
    RepF (((((((((((((wr.setCell ⟨b, 427, none⟩ (.int .i64 3)).setCell ⟨b, 428, none⟩ (.int .i64 0)).setCell ⟨b, 429, none⟩ (.int .i64 0)).setCell ⟨b, 430, none⟩ (.int .i64 0)).setCell ⟨b, 431, none⟩ (.int .i64 1)).setCell ⟨b, 432, none⟩ (.int .i64 0)).setCell ⟨b, 433, none⟩ (.int .i64 0)).setCell ⟨b, 434, none⟩ (.int .i64 m)).setCell ⟨b, 463, none⟩ (.int .i64 2)).setCell ⟨b, 464, none⟩ (.int .i64 0)).setCell ⟨b, 465, none⟩ (.int .i64 0)).setCell ⟨b, 466, none⟩ (.int .i64 256)).alloc o).drew b (mcell L (macStart m)) ∧ Fr (fun k => k = b) wr (((((((((((((wr.setCell ⟨b, 427, none⟩ (.int .i64 3)).setCell ⟨b, 428, none⟩ (.int .i64 0)).setCell ⟨b, 429, none⟩ (.int .i64 0)).setCell ⟨b, 430, none⟩ (.int .i64 0)).setCell ⟨b, 431, none⟩ (.int .i64 1)).setCell ⟨b, 432, none⟩ (.int .i64 0)).setCell ⟨b, 433, none⟩ (.int .i64 0)).setCell ⟨b, 434, none⟩ (.int .i64 m)).setCell ⟨b, 463, none⟩ (.int .i64 2)).setCell ⟨b, 464, none⟩ (.int .i64 0)).setCell ⟨b, 465, none⟩ (.int .i64 0)).setCell ⟨b, 466, none⟩ (.int .i64 256)).alloc o).drew :=
  ⟨((((h.setReg 1 (by omega) ⟨3, 0, 0, 0⟩).setReg 2 (by omega) (.num m)).setReg 10 (by omega) ⟨2, 0, 0, 256⟩).alloc o).drew,
   ((((((((((((((Fr.refl (fun k => k = b) wr).setCell _ _ (.inl rfl)).setCell _ _ (.inl rfl)).setCell _ _ (.inl rfl)).setCell _ _ (.inl rfl)).setCell _ _ (.inl rfl)).setCell _ _ (.inl rfl)).setCell _ _ (.inl rfl)).setCell _ _ (.inl rfl)).setCell _ _ (.inl rfl)).setCell _ _ (.inl rfl)).setCell _ _ (.inl rfl)).setCell _ _ (.inl rfl)).alloc o).drew⟩
structure NewAt (w w' : World) (b gc capc gu capu gm n : Nat) (c : Nat → Ins) (cv : Value) (m : Nat) (cx : Nat → Int) : Prop where
  rep : RepF w' b (mcell { layNew gc n capc gu capu gm with ctx := cv } (macStart m))
  code : CodeAt w' gc n c
  units : ∀ j, j < n + 1 → w'.cell? ⟨gu, j, none⟩ = some (.int .i64 (unitsOf c j))
  map : w'.heap[gm]? = some (.map (mapArr (unitsOf c) n) n)
  ctx : w'.ownsRow (b + 1) 5 1 cv m (bytesL cx m)
  fr : Fr (fun _ => False) w w'
  lo1 : w.heap.size ≤ gc
  lo2 : w.heap.size ≤ gm
  o2 : gc < gu
  o3 : gu < b
  o5 : gm < b
  o6 : gm ≠ gc
  o7 : gm ≠ gu

set_option maxRecDepth 100000 in
set_option maxHeartbeats 4000000 in
theorem new_ok (g n cap : Nat) (c : Nat → Ins) (p : Option Addr) (m mc : Nat) (w : World) (hc : CodeAt w g n c) (hn : (n : Int) ≤ 4096) (hn1 : 1 ≤ n)
    (hop : ∀ k, k < n → ((c k).op == 21) = false)
    (hg : ∀ k, k < n → ∀ W, Calls Tryz.prog 39 #[(c k).agg] W fun e w' => e = .returned (.int .i64 0) ∧ Fr (fun _ => False) W w')
    (cx : Nat → Int) (hx : RowAt w (.slice p m mc) m (bytesL cx m)) (h0 : decide ((m : Int) < 0) = false) (h1 : decide ((m : Int) > 65535) = false) :
    Calls Tryz.prog 19 #[specV (.slice (some ⟨g, 0, none⟩) n cap), inpV (.slice p m mc)] w fun e w' => ∃ b gc capc gu capu gm cv, e = .returned (.tuple #[.pointer (some ⟨b, 0, none⟩), .int .i64 0]) ∧ NewAt w w' b gc capc gu capu gm n c cv m cx := by
  have HC := Lib.hid hc
  have HG := Lib.hid hg
  have HOP := Lib.hid hop
  have HN := Lib.hid hn
  have HX := Lib.hid hx
  have HN1 := Lib.hid hn1
  have hn0 : ((n : Int) == 0) = false := by rw [beq_eq_false_iff_ne]; omega
  clear hc hg hop hx hn1
  have hmm := @run_makeMap Tryz.prog
  unfold specV inpV
  go_enter Tryz.func19, Tryz.ntmps19
  go_upto_region 5 with (first
    | (go_at_call 23; refine (made_ok g n cap c _ (HC.out.fr (((Fr.refl (fun _ => False) _).alloc _).alloc _) (fun h => h)) HN.out hn0 HOP.out HG.out).mono ?_; rintro e w1 ⟨rfl, hF1⟩; (have hkc := fcell hF1); (have hz := hF1.size); (try simp [go_sem] at hz); (have HF1 := Lib.hid hF1); clear hF1)
    | (go_at_call 24; refine (fits_ok _ p m mc _ h0 h1).mono ?_; rintro e w2 ⟨rfl, hF2⟩; (have hkc2 := fcell hF2); (have hz2 := hF2.size); (try simp [go_sem] at hz2); (have HF2 := Lib.hid hF2); clear hF2)
    | fail)
  have hb0 : w.heap.size < w2.heap.size := by omega
  have hb1 : w.heap.size + 1 < w2.heap.size := by omega
  have e2 : w2.cell? ⟨w.heap.size, 2, none⟩ = some (.slice none 0 0) := by rw [hkc2.1 _ _ (by omega), hkc.1 _ _ (by simp <;> omega)]; simp [go_sem]
  have e3 : w2.cell? ⟨w.heap.size, 3, none⟩ = some (.slice none 0 0) := by rw [hkc2.1 _ _ (by omega), hkc.1 _ _ (by simp <;> omega)]; simp [go_sem]
  have e4 : w2.cell? ⟨w.heap.size, 4, none⟩ = some (.slice (some ⟨g, 0, none⟩) n cap) := by rw [hkc2.1 _ _ (by omega), hkc.1 _ _ (by simp <;> omega)]; simp [go_sem]
  have j0 : w2.cell? ⟨w.heap.size + 1, 0, none⟩ = some (.slice p m mc) := by rw [hkc2.1 _ _ (by omega), hkc.1 _ _ (by simp <;> omega)]; simp [go_sem]
  have j1 : w2.cell? ⟨w.heap.size + 1, 1, none⟩ = some (.slice none 0 0) := by rw [hkc2.1 _ _ (by omega), hkc.1 _ _ (by simp <;> omega)]; simp [go_sem]
  have hFW : Fr (fun _ => False) w w2 := (((Fr.refl (fun _ => False) w).alloc _).alloc _).trans (HF1.out.trans HF2.out)
  have HFW := Lib.hid hFW
  have HC2 := Lib.hid (HC.out.fr hFW (fun h => h))
  have HX2 := Lib.hid (HX.out.fr hFW)
  clear hkc hkc2 HF1 HF2 hz hz2 hFW HC HX
  go_cut [6] (fun t6 wx => ∃ b gc capc gu capu gm : Nat, t6 = .pointer (some ⟨b, 0, none⟩) ∧ w2.heap.size ≤ gc ∧ gc < gu ∧ gu < b ∧ w2.heap.size ≤ gm ∧ gm < b ∧ gm ≠ gc ∧ gm ≠ gu ∧ CodeAt wx gc n c ∧ (∀ j, j < n + 1 → wx.cell? ⟨gu, j, none⟩ = some (.int .i64 (unitsOf c j))) ∧ wx.heap[gm]? = some (.map #[] 0) ∧
    RepF wx b (mcell (layNew gc n capc gu capu gm) macZero) ∧ Fr (fun _ => False) w2 wx)
  case first =>
    go_region_held3 (fun W => W.cell? ⟨w.heap.size, 4, none⟩ = some (.slice (some ⟨g, 0, none⟩) n cap)) (simp [go_sem, *])
      (first
        | (go_at_call 25; refine (clone_codeAt g n cap c _ ?_ HN.out HN1.out).mono ?_; (repeat (first | with_reducible exact HC2.out | with_reducible exact HG3.out | with_reducible refine CodeAt.drew ?_ | with_reducible refine CodeAt.alloc ?_ _)); rintro e w3 ⟨gc, capc, rfl, hl3, hl3', hC3, hF3⟩; (have hkc := fcell hF3); (have hz3 := hF3.size); (simp at hz3 hl3); (have k4 := (hkc.1 w.heap.size 4 (by first | omega | (simp; omega))).trans (by simpa [go_sem, hb0] using e4)); (have kb0 : w.heap.size < w3.heap.size := by omega); (have HG3 := Lib.hid (CodeAt.fr (g := g) (n := n) (c := c) (by (repeat (first | with_reducible exact HC2.out | with_reducible exact HG3.out | with_reducible refine CodeAt.drew ?_ | with_reducible refine CodeAt.alloc ?_ _))) hF3 (fun h => h))); (have HC3 := Lib.hid hC3); (have HF3 := Lib.hid hF3); clear hF3 hC3 hkc)
        | (go_at_call 26; refine (units_at g n cap c _ ?_ HN.out).mono ?_; (repeat (first | with_reducible exact HC2.out | with_reducible exact HG3.out | with_reducible refine CodeAt.drew ?_ | with_reducible refine CodeAt.alloc ?_ _)); rintro e w4 ⟨gu, capu, rfl, hl4, hl4', hU4, hF4⟩; (have hkc4 := fcell hF4); (have hz4 := hF4.size); (try simp at hz4 hl4); (have l4 := (hkc4.1 w.heap.size 4 (by first | omega | (simp; omega))).trans (by simpa [go_sem, kb0] using k4)); (have lb0 : w.heap.size < w4.heap.size := by omega); (have HU4 := Lib.hid hU4); (have HF4 := Lib.hid hF4); clear hF4 hU4 hkc4)
        | fail)
    all_goals
      go_wp2_with fail
      go_meet
    · exact ⟨_, gc, capc, gu, capu, w4.heap.size, rfl, hl3, by omega, by omega, by omega, by omega, by omega, by omega, new_rel c (by simp) ((HC3.out.fr HF4.out (fun h => h)).alloc _) (fun j hj => by rw [World.cell?_alloc_past _ _ _ hl4']; exact HU4.out j hj) (heap_alloc_new w4 _) ((((Fr.refl _ w2).drew).trans HF3.out).trans HF4.out |>.alloc _) _ rfl⟩
    · exact ⟨_, gc, capc, gu, capu, w3.heap.size, rfl, hl3, by omega, by omega, by omega, by omega, by omega, by omega, new_rel c rfl ((HC3.out.alloc _).fr HF4.out (fun h => h)) HU4.out ((HF4.out.block _ (by simp) (fun h => h)).trans (heap_alloc_new w3 _)) (((((Fr.refl _ w2).drew).trans HF3.out).alloc _).trans HF4.out) _ rfl⟩
    · exact ⟨_, gc, capc, gu, capu, w2.heap.size, rfl, by omega, by omega, by omega, by omega, by omega, by omega, by omega, new_rel c rfl (HC3.out.fr HF4.out (fun h => h)) HU4.out ((HF4.out.block _ (by omega) (fun h => h)).trans ((HF3.out.block _ (by simp) (fun h => h)).trans (heap_alloc_new w2 _))) (((((Fr.refl _ w2).alloc _).drew).trans HF3.out).trans HF4.out) _ rfl⟩
  case rest =>
    obtain ⟨b, gc, capc, gu, capu, gm, rfl, o1, o2, o3, o4, o5, o6, o7, hCc, hUu, hMm, hRr, hFf⟩ := hcut
    have HR := Lib.hid hRr
    have HCC := Lib.hid hCc
    have HUU := Lib.hid hUu
    have HMM := Lib.hid hMm
    have HFF := Lib.hid hFf
    have hkc := fcell hFf
    have hzc := hFf.size
    have d2 := (hkc.1 w.heap.size 2 hb0).trans e2
    have d3 := (hkc.1 w.heap.size 3 hb0).trans e3
    have i0 := (hkc.1 (w.heap.size + 1) 0 hb1).trans j0
    have i1 := (hkc.1 (w.heap.size + 1) 1 hb1).trans j1
    have f416 := hRr.cell 416 (by omega)
    have f417 := hRr.cell 417 (by omega)
    have f418 := hRr.cell 418 (by omega)
    have f419 := hRr.cell 419 (by omega)
    have ff := hRr.frozen
    have hb := hRr.lt
    clear hRr hCc hUu hMm hFf hkc e2 e3 e4 j0 j1
    have HXC := Lib.hid (HX2.out.fr HFF.out)
    have hm1 : (m : Int) ≤ 65535 := by simpa using h1
    have HM := Lib.hid hm1
    go_wp2_with fail
    go_region_held3 (fun W => W.cell? ⟨w.heap.size + 1, 0, none⟩ = some (.slice p m mc) ∧ W.cell? ⟨w.heap.size + 1, 1, none⟩ = some (.slice none 0 0)) (simp [go_sem, *])
      (first
        | (go_at_call 27; refine (clone_bytesAt _ m cx _ ?_ (by have := HM.out; omega)).mono ?_; (exact HXC.out.drew); rintro e w3 ⟨v3, rfl, ho3, hF3⟩; obtain ⟨p3, m3, c3, rfl⟩ := owns_slice ho3; (have hkc := fcell hF3); (have hz3 := hF3.size); (try simp at hz3); (have k2 := (hkc.1 w.heap.size 2 (by show _ < wc.heap.size; omega)).trans d2); (have k3 := (hkc.1 w.heap.size 3 (by show _ < wc.heap.size; omega)).trans d3); (have k0 := (hkc.1 (w.heap.size + 1) 0 (by show _ < wc.heap.size; omega)).trans i0); (have k1 := (hkc.1 (w.heap.size + 1) 1 (by show _ < wc.heap.size; omega)).trans i1); (have kf := fun o => (hkc.2 b o hb).trans (ff o)); (have k416 := (hkc.1 b 416 hb).trans f416); (have k417 := (hkc.1 b 417 hb).trans f417); (have k418 := (hkc.1 b 418 hb).trans f418); (have k419 := (hkc.1 b 419 hb).trans f419); (have kb : b < w3.heap.size := by omega); (have HO3 := Lib.hid ho3); (have HF3 := Lib.hid hF3); clear hF3 ho3 hkc)
        | (go_at_call 28; refine (copies_nil _).mono ?_; rintro e w2 ⟨rfl, rfl⟩)
        | fail)
    have hbne : w.heap.size ≠ b := by omega
    have hbne1 : w.heap.size + 1 ≠ b := by omega
    have kb0 : w.heap.size < w3.heap.size := by omega
    have kb1 : w.heap.size + 1 < w3.heap.size := by omega
    clear d2 d3 i0 i1 ff f416 f417 f418 f419
    go_upto_region 7 with fail
    go_cut [6] (fun t6 wx => t6 = .pointer (some ⟨b, 0, none⟩) ∧ CodeAt wx gc n c ∧ (∀ j, j < n + 1 → wx.cell? ⟨gu, j, none⟩ = some (.int .i64 (unitsOf c j))) ∧ wx.heap[gm]? = some (.map #[] 0) ∧ wx.ownsRow (b + 1) 5 1 (.slice p3 m3 c3) m (bytesL cx m) ∧ wx.cell? ⟨w.heap.size + 1, 0, none⟩ = some (.slice p m mc) ∧ RepF wx b (mcell { layNew gc n capc gu capu gm with ctx := .slice p3 m3 c3 } macZero) ∧ Fr (fun _ => False) w wx)
    case first =>
      go_region_held3 (fun W => W.cell? ⟨w.heap.size, 2, none⟩ = some (.slice none 0 0) ∧ W.cell? ⟨w.heap.size, 3, none⟩ = some (.slice none 0 0)) (simp [go_sem, *])
        (first
          | (go_at_call 27; refine (clone_bytes_nil _).mono ?_; rintro e w4 ⟨rfl, rfl⟩)
          | (go_at_call 29; refine (clone_tables_nil _).mono ?_; rintro e w4 ⟨rfl, rfl⟩)
          | fail)
      go_wp2_with fail
      go_meet
      have hF3d : Fr (fun _ => False) wc w3 := (Fr.refl _ wc).drew.trans HF3.out
      obtain ⟨hR4, hF4⟩ := four_ctx (HR.out.drew.fr HF3.out (fun h => h)) (.slice p3 m3 c3)
      refine ⟨rfl, (HCC.out.fr hF3d (fun h => h)).fr hF4 (by omega), fun j hj => cell_fr (cell_fr (HUU.out j hj) hF3d (fun h => h)) hF4 (by omega), heap_fr (heap_fr HMM.out hF3d (fun h => h)) hF4 (by omega), ?_, ?_, hR4, ?_⟩
      · exact ownsRow_frS (ownsRow_base HO3.out (by show b + 1 ≤ wc.heap.size; omega)) hF4 (fun q hq => by omega)
      · exact cell_fr k0 hF4 (by omega)
      · exact ((HFW.out.trans HFF.out).trans hF3d).fresh hF4 (fun x hx => by omega)
    case rest =>
      obtain ⟨rfl, hC5, hU5, hM5, hO5, hI5, hR5, hF5⟩ := hcut
      have HR5 := Lib.hid hR5
      have HC5 := Lib.hid hC5
      have HU5 := Lib.hid hU5
      have HM5 := Lib.hid hM5
      have HO5 := Lib.hid hO5
      have HF5 := Lib.hid hF5
      have hb5 := hR5.lt
      have g0 := hR5.cell 420 (by omega)
      rw [show mcell { layNew gc n capc gu capu gm with ctx := .slice p3 m3 c3 } macZero 420 = .slice (some ⟨gc, 0, none⟩) n capc by simp [mcell, layNew]] at g0
      clear hR5 hC5 hU5 hM5 hO5 hF5 HR HCC HUU HMM HFF HXC k0 k1 k2 k3 kf k416 k417 k418 k419 kb HO3 HF3 HC2 HX2 HFW
      go_wp2_with fail
      go_loopw [57] (fun i wr => ∃ k : Nat, k ≤ n ∧ i = .int .i64 k ∧ wr.heap[gm]? = some (.map (mapArr (unitsOf c) k) k) ∧ Fr (fun x => x = gm) wc wr) (fun i _ => n - (match i with | .int _ q => q | _ => 0).toNat)
      case atStart => exact ⟨0, by omega, rfl, HM5.out, Fr.refl _ _⟩
      case round =>
        obtain ⟨k, hk, rfl, hM, hF⟩ := hrel
        by_cases hlt : k < n
        · have hu := cell_fr (HU5.out k (by omega)) hF (by omega)
          have hRk := HR5.out.fr hF (by omega)
          have l1 := hRk.cell 421 (by omega)
          have l2 := hRk.cell 422 (by omega)
          rw [show mcell { layNew gc n capc gu capu gm with ctx := .slice p3 m3 c3 } macZero 421 = .slice (some ⟨gu, 0, none⟩) (n + 1) capu by simp [mcell, layNew]] at l1
          rw [show mcell { layNew gc n capc gu capu gm with ctx := .slice p3 m3 c3 } macZero 422 = .map (some gm) by simp [mcell, layNew]] at l2
          have hmu : ∀ q, (Instr.mapUpdate 62 (.map (some gm)) (.int .i64 (unitsOf c k)) (.int .i64 k)).run Tryz.prog (wr.drewN q) = .ok () (putMap (wr.drewN q) gm (.map (mapArr (unitsOf c) (k + 1)) (k + 1))) := fun q => run_add (unitsOf c) k gm (fun a ha => by have := unitsOf_lt c a k ha; omega) (wr.drewN q) hM
          have hmu0 : (Instr.mapUpdate 62 (.map (some gm)) (.int .i64 (unitsOf c k)) (.int .i64 k)).run Tryz.prog wr.drew = .ok () (putMap wr.drew gm (.map (mapArr (unitsOf c) (k + 1)) (k + 1))) := run_add (unitsOf c) k gm (fun a ha => by have := unitsOf_lt c a k ha; omega) wr.drew hM
          have hbr := hRk.lt
          have hgr := World.block_lt_of_cell? _ _ hu
          simp only at hgr
          have HF := Lib.hid hF
          have HM := Lib.hid hM
          clear hF hM hRk
          go_wp2_with fail
          go_region
          obtain ⟨hm1, hf1⟩ := putMap_fr (w := wr.drew) HM.out (.map (mapArr (unitsOf c) (k + 1)) (k + 1))
          have HM1 := Lib.hid hm1
          have HF1 := Lib.hid hf1
          clear hm1 hf1
          go_wp2_with fail
          refine ⟨⟨k + 1, by omega, rfl, HM1.out, HF.out.drew.trans HF1.out⟩, by simp; omega⟩
        · have : k = n := by omega
          subst this
          have hRk := HR5.out.fr hF (by omega)
          have l3 := cell_fr hI5 hF (by omega)
          have hbr := hRk.lt
          have hfr := hRk.frozen
          have r1 := hRk.reg 1 (by omega)
          have r2 := hRk.reg 2 (by omega)
          have r10 := hRk.reg 10 (by omega)
          simp only [Nat.reduceMul, Nat.reduceAdd] at r1 r2 r10
          obtain ⟨q10, q11, q12, q13⟩ := r1
          obtain ⟨q20, q21, q22, q23⟩ := r2
          obtain ⟨qa0, qa1, qa2, qa3⟩ := r10
          have HRk := Lib.hid hRk
          have HF := Lib.hid hF
          have HM := Lib.hid hM
          have hl3 := World.block_lt_of_cell? _ _ l3
          simp only at hl3
          clear hF hM hRk
          go_wp2_with fail
          go_region_held3 (fun W => W.cell? ⟨w.heap.size + 1, 0, none⟩ = some (.slice p m mc)) (simp [go_sem, *])
            (first | (go_at_call 30; refine (number_any _ _).mono ?_; rintro e w4 ⟨rfl, rfl⟩) | fail)
          go_wp2_with fail
          obtain ⟨hRz, hFz⟩ := three_regs HRk.out m (.cells #[.int .i64 1, .int .i64 0, .int .i64 0, .int .i64 m] 64)
          refine bodyPost_ret (v := .tuple #[.pointer (some ⟨b, 0, none⟩), .int .i64 0]) (by simp [results, Tryz.results19, go_sem]) rfl ⟨b, gc, capc, gu, capu, gm, .slice p3 m3 c3, rfl, ?_⟩
          exact { rep := hRz, code := (HC5.out.fr HF.out (by omega)).fr hFz (by omega), units := fun j hj => cell_fr (cell_fr (HU5.out j hj) HF.out (by omega)) hFz (by omega), map := heap_fr HM.out hFz (by omega), ctx := ownsRow_frS (ownsRow_frS HO5.out HF.out (fun q hq => by omega)) hFz (fun q hq => by omega), fr := (HF5.out.fresh HF.out (fun x hx => by omega)).fresh hFz (fun x hx => by omega), lo1 := by omega, lo2 := by omega, o2 := o2, o3 := o3, o5 := o5, o6 := o6, o7 := o7 }

end Go.Proofs.YtkhbjhmhdlmmfaaGreat
