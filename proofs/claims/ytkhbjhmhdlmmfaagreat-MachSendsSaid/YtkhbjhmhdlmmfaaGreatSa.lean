/- Walks: sync.Once over a new helpers' table: the lock, the two deferred calls, doSlow, Do. -/
import Derived.Test.YtkhbjhmhdlmmfaaGreatM
import Derived.Maps.Own
import Derived.Defers
import Derived.Laws.LoneSync
import Derived.RegionCalls
import Derived.Laws.NewBlocks
namespace Go.Proofs.YtkhbjhmhdlmmfaaGreat
open Go.RowKit

theorem sy_disable (w : World) : (callFunc 123 #[]).run Tryz.prog w = .ok (.value (.tuple #[])) w := run_call_mark0 Tryz.func123 (by kernel_rfl) (by kernel_rfl) (by kernel_rfl) .disable (by kernel_rfl) w
theorem sy_enable (w : World) : (callFunc 125 #[]).run Tryz.prog w = .ok (.value (.tuple #[])) w := run_call_mark0 Tryz.func125 (by kernel_rfl) (by kernel_rfl) (by kernel_rfl) .enable (by kernel_rfl) w
theorem sy_acquire (a : Addr) (w : World) : (callFunc 126 #[.pointer (some a)]).run Tryz.prog w = .ok (.value (.tuple #[])) w := run_call_marked Tryz.func126 (by kernel_rfl) (by kernel_rfl) (by kernel_rfl) .acquire (by kernel_rfl) a w
theorem sy_release (a : Addr) (w : World) : (callFunc 128 #[.pointer (some a)]).run Tryz.prog w = .ok (.value (.tuple #[])) w := run_call_marked Tryz.func128 (by kernel_rfl) (by kernel_rfl) (by kernel_rfl) .releaseMerge (by kernel_rfl) a w

theorem store_deferred (a : Addr) (x : Value) (u : FrameMode) (w : World) (hc : w.cell? a = some x) (hz : w.frozen? a = false) :
    CallsD Tryz.prog 118 #[.pointer (some a), .bool true] u w fun e u' w' => u' = u ∧ (e = .returned (.tuple #[]) ∧ w' = w.drew.setCell a (.int .u32 1)) := by
  have hc' : w.drew.cell? a = some x := by go_simp
  have hz' : w.drew.frozen? a = false := by go_simp
  have hst := run_call_store (P := Tryz.prog) Tryz.func121 (by kernel_rfl) (by kernel_rfl) (by kernel_rfl) (by kernel_rfl) (k := .u32) (y := 1) hc' hz'
  go_enter_d Tryz.func118, Tryz.ntmps118
  go_wp2
  go_region_calls
  all_goals (go_end0; exact ⟨rfl, rfl⟩)

set_option maxRecDepth 100000 in
set_option maxHeartbeats 1600000 in
theorem unlock_deferred (a : Addr) (u : FrameMode) (w : World) (hc : w.cell? a = some (.int .i32 1)) (hz : w.frozen? a = false) :
    CallsD Tryz.prog 117 #[.pointer (some a)] u w fun e u' w' => u' = u ∧ (e = .returned (.tuple #[]) ∧ w' = w.setCell a (.int .i32 0)) := by
  have hd := sy_disable
  have he := sy_enable
  have hr := sy_release
  have hadd := run_call_add (P := Tryz.prog) Tryz.func129 (by kernel_rfl) (by kernel_rfl) (by kernel_rfl) .i32 (by kernel_rfl) (y := -1) (s := 0) hc hz (by simp [go_sem]; rfl)
  have hcv := run_convert_to_unsafe (P := Tryz.prog) (src := 176) (dst := 180) Tryz.underlying176 Tryz.underlying180 (by kernel_rfl) hc
  go_enter_d Tryz.func117, Tryz.ntmps117
  go_wp2
  go_end0
  go_wp2
  go_end0
  exact ⟨rfl, rfl⟩

set_option maxRecDepth 100000 in
set_option maxHeartbeats 1600000 in
theorem lock_free (a : Addr) (w : World) (hc : w.cell? a = some (.int .i32 0)) (hz : w.frozen? a = false) :
    Calls Tryz.prog 116 #[.pointer (some a)] w fun e w' => e = .returned (.tuple #[]) ∧ w' = w.setCell a (.int .i32 1) := by
  have hd := sy_disable
  have he := sy_enable
  have ha := sy_acquire
  have hcas := run_call_cas_hit (P := Tryz.prog) Tryz.func124 (by kernel_rfl) (by kernel_rfl) (by kernel_rfl) .i32 (by kernel_rfl) (y := 1) hc hz
  have hc' : (w.setCell a (.int .i32 1)).cell? a = some (.int .i32 1) := World.cell?_setCell_same w a _ hc
  have hcv := run_convert_to_unsafe (P := Tryz.prog) (src := 176) (dst := 180) Tryz.underlying176 Tryz.underlying180 (by kernel_rfl) hc'
  go_enter Tryz.func116, Tryz.ntmps116
  go_wp2
  first | go_end0 | (simp only [Exit.inBlock, Exit.then]; refine bodyPost_ret (results_none rfl _ _ _) rfl ?_) | refine bodyPost_ret (results_none rfl _ _ _) rfl ?_
  go_wp2
  go_end0
  exact ⟨rfl, rfl⟩

def pieceV (a b : Int) : Value := .iface 163 (.agg #[.int .i64 a, .int .i64 b])
def writerV (a : Int) : Value := .iface 165 (.agg #[.int .i64 a])
def pairV : Value := .iface 166 (.agg #[])
def numbersV (n : Int) (a b : Int) (p q : Bool) : Value := .iface 168 (.agg #[.int .i64 n, .int .i64 a, .int .i64 b, .bool p, .bool q])
def helperV : Nat → Value
  | 0 => pieceV 0 65535
  | 1 => writerV 2
  | 2 => writerV 1
  | 3 => pairV
  | 4 => pieceV (-1) 65534
  | 5 => numbersV 1 (-1) 0 false false
  | 6 => numbersV 2 0 0 false false
  | _ => numbersV 2 0 0 true true
def helpEntries (k : Nat) : Array MapEntry := ((List.range k).map fun (i : Nat) => ({ key := .int .i64 ((i : Int) + 1), val := helperV i, born := i } : MapEntry)).toArray
def putHelp (w : World) (r k : Nat) : World := ChangeMaps.setBlock w r (.map (helpEntries k) k)

theorem run_help (k : Nat) (hk : k < 8) (key : Int) (hv : Value) (he : key = (k : Int) + 1) (hhv : hv = helperV k) (r : Nat) (w : World) (h : w.heap[r]? = some (.map (helpEntries k) k)) :
    (Instr.mapUpdate 152 (.map (some r)) (.int .i64 key) hv).run Tryz.prog w = .ok () (putHelp w r (k + 1)) := by
  subst he hhv
  have hf : Instr.findNow (.int .i64) (.int .i64 ((k : Int) + 1)) (helpEntries k).toList 0 = some none := by
    match k, hk with | 0, _ | 1, _ | 2, _ | 3, _ | 4, _ | 5, _ | 6, _ | 7, _ => rfl
  have hc : (Instr.checkKey false 10000 3 (.int .i64 ((k : Int) + 1))).run Tryz.prog w = .ok () w := MapKept.run_checkKey Tryz.underlying3 (by simp [MapKept.IsKey]) _ 9999
  have hk' := MapKept.run_findKey (P := Tryz.prog) (w := w) Tryz.underlying3 hf
  have hp : (helpEntries k).push { key := .int .i64 ((k : Int) + 1), val := helperV k, born := k } = helpEntries (k + 1) := by
    unfold helpEntries
    rw [List.range_succ, List.map_append]
    simp
  unfold putHelp
  simp [Instr.mapUpdate, run_underlying Tryz.underlying152, MapKept.run_getObj_map h, hc, hk', MapKept.run_setObj_map _ h, Result.andThen, ChangeMaps.setBlock, hp]
theorem putHelp_at {w : World} {r k j : Nat} (h : w.heap[r]? = some (.map (helpEntries k) k)) : (putHelp w r j).heap[r]? = some (.map (helpEntries j) j) := ChangeMaps.heap_setBlock_same h _
theorem Fr.putHelp {S : Nat → Prop} {a w : World} (h : Fr S a w) (r k : Nat) (hr : a.heap.size ≤ r) : Fr S a (putHelp w r k) :=
  ⟨h.os, h.tape, h.output, by simpa [YtkhbjhmhdlmmfaaGreat.putHelp, ChangeMaps.setBlock] using h.size, fun q hq hn => by
    rw [← h.block q hq hn]
    have : q ≠ r := by omega
    simp [YtkhbjhmhdlmmfaaGreat.putHelp, ChangeMaps.setBlock, Array.getElem?_setIfInBounds_ne (Ne.symm this)]⟩

set_option maxRecDepth 100000 in
set_option maxHeartbeats 1600000 in
theorem fill_any (b : Nat) (x : Value) (w : World) (hc : w.cell? ⟨b, 3, none⟩ = some x) (hz : w.frozen? ⟨b, 3, none⟩ = false) :
    Calls Tryz.prog 112 #[.pointer (some ⟨b, 0, none⟩)] w fun e w' => ∃ W : World, e = .returned (.tuple #[]) ∧ w' = W.setCell ⟨b, 3, none⟩ (.map (some w.heap.size)) ∧ W.heap[w.heap.size]? = some (.map (helpEntries 8) 8) ∧ Fr (fun _ => False) w W := by
  have hmm := @run_makeMap Tryz.prog
  have a0 : (w.alloc (.map #[] 0)).heap[w.heap.size]? = some (.map (helpEntries 0) 0) := heap_alloc_new w _
  have e0 : (Instr.mapUpdate 152 (.map (some w.heap.size)) (.int .i64 1) (.iface 163 (.agg #[.int .i64 0, .int .i64 65535]))).run Tryz.prog (w.alloc (.map #[] 0)) = .ok () (putHelp (w.alloc (.map #[] 0)) w.heap.size 1) := run_help 0 (by decide) 1 _ rfl rfl w.heap.size _ a0
  have a1 : (putHelp (w.alloc (.map #[] 0)) w.heap.size 1).heap[w.heap.size]? = some (.map (helpEntries 1) 1) := putHelp_at a0
  have e1 : (Instr.mapUpdate 152 (.map (some w.heap.size)) (.int .i64 2) (.iface 165 (.agg #[.int .i64 2]))).run Tryz.prog (putHelp (w.alloc (.map #[] 0)) w.heap.size 1) = .ok () (putHelp (putHelp (w.alloc (.map #[] 0)) w.heap.size 1) w.heap.size 2) := run_help 1 (by decide) 2 _ rfl rfl w.heap.size _ a1
  have a2 : (putHelp (putHelp (w.alloc (.map #[] 0)) w.heap.size 1) w.heap.size 2).heap[w.heap.size]? = some (.map (helpEntries 2) 2) := putHelp_at a1
  have e2 : (Instr.mapUpdate 152 (.map (some w.heap.size)) (.int .i64 3) (.iface 165 (.agg #[.int .i64 1]))).run Tryz.prog (putHelp (putHelp (w.alloc (.map #[] 0)) w.heap.size 1) w.heap.size 2) = .ok () (putHelp (putHelp (putHelp (w.alloc (.map #[] 0)) w.heap.size 1) w.heap.size 2) w.heap.size 3) := run_help 2 (by decide) 3 _ rfl rfl w.heap.size _ a2
  have a3 : (putHelp (putHelp (putHelp (w.alloc (.map #[] 0)) w.heap.size 1) w.heap.size 2) w.heap.size 3).heap[w.heap.size]? = some (.map (helpEntries 3) 3) := putHelp_at a2
  have e3 : (Instr.mapUpdate 152 (.map (some w.heap.size)) (.int .i64 4) (.iface 166 (.agg #[]))).run Tryz.prog (putHelp (putHelp (putHelp (w.alloc (.map #[] 0)) w.heap.size 1) w.heap.size 2) w.heap.size 3) = .ok () (putHelp (putHelp (putHelp (putHelp (w.alloc (.map #[] 0)) w.heap.size 1) w.heap.size 2) w.heap.size 3) w.heap.size 4) := run_help 3 (by decide) 4 _ rfl rfl w.heap.size _ a3
  have a4 : (putHelp (putHelp (putHelp (putHelp (w.alloc (.map #[] 0)) w.heap.size 1) w.heap.size 2) w.heap.size 3) w.heap.size 4).heap[w.heap.size]? = some (.map (helpEntries 4) 4) := putHelp_at a3
  have e4 : (Instr.mapUpdate 152 (.map (some w.heap.size)) (.int .i64 5) (.iface 163 (.agg #[.int .i64 (-1), .int .i64 65534]))).run Tryz.prog (putHelp (putHelp (putHelp (putHelp (w.alloc (.map #[] 0)) w.heap.size 1) w.heap.size 2) w.heap.size 3) w.heap.size 4) = .ok () (putHelp (putHelp (putHelp (putHelp (putHelp (w.alloc (.map #[] 0)) w.heap.size 1) w.heap.size 2) w.heap.size 3) w.heap.size 4) w.heap.size 5) := run_help 4 (by decide) 5 _ rfl rfl w.heap.size _ a4
  have a5 : (putHelp (putHelp (putHelp (putHelp (putHelp (w.alloc (.map #[] 0)) w.heap.size 1) w.heap.size 2) w.heap.size 3) w.heap.size 4) w.heap.size 5).heap[w.heap.size]? = some (.map (helpEntries 5) 5) := putHelp_at a4
  have e5 : (Instr.mapUpdate 152 (.map (some w.heap.size)) (.int .i64 6) (.iface 168 (.agg #[.int .i64 1, .int .i64 (-1), .int .i64 0, .bool false, .bool false]))).run Tryz.prog (putHelp (putHelp (putHelp (putHelp (putHelp (w.alloc (.map #[] 0)) w.heap.size 1) w.heap.size 2) w.heap.size 3) w.heap.size 4) w.heap.size 5) = .ok () (putHelp (putHelp (putHelp (putHelp (putHelp (putHelp (w.alloc (.map #[] 0)) w.heap.size 1) w.heap.size 2) w.heap.size 3) w.heap.size 4) w.heap.size 5) w.heap.size 6) := run_help 5 (by decide) 6 _ rfl rfl w.heap.size _ a5
  have a6 : (putHelp (putHelp (putHelp (putHelp (putHelp (putHelp (w.alloc (.map #[] 0)) w.heap.size 1) w.heap.size 2) w.heap.size 3) w.heap.size 4) w.heap.size 5) w.heap.size 6).heap[w.heap.size]? = some (.map (helpEntries 6) 6) := putHelp_at a5
  have e6 : (Instr.mapUpdate 152 (.map (some w.heap.size)) (.int .i64 7) (.iface 168 (.agg #[.int .i64 2, .int .i64 0, .int .i64 0, .bool false, .bool false]))).run Tryz.prog (putHelp (putHelp (putHelp (putHelp (putHelp (putHelp (w.alloc (.map #[] 0)) w.heap.size 1) w.heap.size 2) w.heap.size 3) w.heap.size 4) w.heap.size 5) w.heap.size 6) = .ok () (putHelp (putHelp (putHelp (putHelp (putHelp (putHelp (putHelp (w.alloc (.map #[] 0)) w.heap.size 1) w.heap.size 2) w.heap.size 3) w.heap.size 4) w.heap.size 5) w.heap.size 6) w.heap.size 7) := run_help 6 (by decide) 7 _ rfl rfl w.heap.size _ a6
  have a7 : (putHelp (putHelp (putHelp (putHelp (putHelp (putHelp (putHelp (w.alloc (.map #[] 0)) w.heap.size 1) w.heap.size 2) w.heap.size 3) w.heap.size 4) w.heap.size 5) w.heap.size 6) w.heap.size 7).heap[w.heap.size]? = some (.map (helpEntries 7) 7) := putHelp_at a6
  have e7 : (Instr.mapUpdate 152 (.map (some w.heap.size)) (.int .i64 8) (.iface 168 (.agg #[.int .i64 2, .int .i64 0, .int .i64 0, .bool true, .bool true]))).run Tryz.prog (putHelp (putHelp (putHelp (putHelp (putHelp (putHelp (putHelp (w.alloc (.map #[] 0)) w.heap.size 1) w.heap.size 2) w.heap.size 3) w.heap.size 4) w.heap.size 5) w.heap.size 6) w.heap.size 7) = .ok () (putHelp (putHelp (putHelp (putHelp (putHelp (putHelp (putHelp (putHelp (w.alloc (.map #[] 0)) w.heap.size 1) w.heap.size 2) w.heap.size 3) w.heap.size 4) w.heap.size 5) w.heap.size 6) w.heap.size 7) w.heap.size 8) := run_help 7 (by decide) 8 _ rfl rfl w.heap.size _ a7
  have a8 : (putHelp (putHelp (putHelp (putHelp (putHelp (putHelp (putHelp (putHelp (w.alloc (.map #[] 0)) w.heap.size 1) w.heap.size 2) w.heap.size 3) w.heap.size 4) w.heap.size 5) w.heap.size 6) w.heap.size 7) w.heap.size 8).heap[w.heap.size]? = some (.map (helpEntries 8) 8) := putHelp_at a7
  have hb := World.block_lt_of_cell? w _ hc
  have hsz : ∀ (v : World) (j : Nat), (putHelp v w.heap.size j).heap.size = v.heap.size := fun v j => by simp [putHelp, ChangeMaps.setBlock]
  have hfr : Fr (fun _ => False) w (putHelp (putHelp (putHelp (putHelp (putHelp (putHelp (putHelp (putHelp (w.alloc (.map #[] 0)) w.heap.size 1) w.heap.size 2) w.heap.size 3) w.heap.size 4) w.heap.size 5) w.heap.size 6) w.heap.size 7) w.heap.size 8) := Fr.putHelp (Fr.putHelp (Fr.putHelp (Fr.putHelp (Fr.putHelp (Fr.putHelp (Fr.putHelp (Fr.putHelp (((Fr.refl _ w).alloc _)) _ _ (Nat.le_refl _)) _ _ (Nat.le_refl _)) _ _ (Nat.le_refl _)) _ _ (Nat.le_refl _)) _ _ (Nat.le_refl _)) _ _ (Nat.le_refl _)) _ _ (Nat.le_refl _)) _ _ (Nat.le_refl _)
  obtain ⟨W, hW⟩ : ∃ W, W = putHelp (putHelp (putHelp (putHelp (putHelp (putHelp (putHelp (putHelp (w.alloc (.map #[] 0)) w.heap.size 1) w.heap.size 2) w.heap.size 3) w.heap.size 4) w.heap.size 5) w.heap.size 6) w.heap.size 7) w.heap.size 8 := ⟨_, rfl⟩
  rw [← hW] at e7 a8 hfr
  clear hW a0 a1 a2 a3 a4 a5 a6 a7
  have c3 : W.cell? ⟨b, 3, none⟩ = some x := ((fcell hfr).1 b 3 hb).trans hc
  have z3 : W.frozen? ⟨b, 3, none⟩ = false := ((fcell hfr).2 b 3 hb).trans hz
  have A8 := Lib.hid a8
  have HF := Lib.hid hfr
  clear a8 hfr hsz
  go_enter Tryz.func112, Tryz.ntmps112
  go_wp2
  go_end0
  exact ⟨rfl, W, rfl, A8.out, HF.out⟩

set_option maxRecDepth 100000 in
set_option maxHeartbeats 1600000 in
theorem slow_any (b : Nat) (x : Value) (w : World)
    (h0 : w.cell? ⟨b, 0, none⟩ = some (.int .u32 0)) (h1 : w.cell? ⟨b, 1, none⟩ = some (.int .i32 0)) (h3 : w.cell? ⟨b, 3, none⟩ = some x)
    (f0 : w.frozen? ⟨b, 0, none⟩ = false) (f1 : w.frozen? ⟨b, 1, none⟩ = false) (f3 : w.frozen? ⟨b, 3, none⟩ = false) :
    Calls Tryz.prog 114 #[.pointer (some ⟨b, 0, none⟩), .func (.func 112) #[.pointer (some ⟨b, 0, none⟩)] #[]] w fun e w' => ∃ W : World, e = .returned (.tuple #[]) ∧
      w' = ((W.setCell ⟨b, 3, none⟩ (.map (some w.heap.size))).drew.setCell ⟨b, 0, none⟩ (.int .u32 1)).setCell ⟨b, 1, none⟩ (.int .i32 0) ∧ W.heap[w.heap.size]? = some (.map (helpEntries 8) 8) ∧ Fr (fun x => x = b) w W ∧ W.cell? ⟨b, 3, none⟩ = some x := by
  have hb := World.block_lt_of_cell? w _ h3
  have hl := run_call_load (P := Tryz.prog) Tryz.func115 (by kernel_rfl) (by kernel_rfl) (by kernel_rfl) .u32 (by kernel_rfl) (w := w.setCell ⟨b, 1, none⟩ (.int .i32 1)) (a := ⟨b, 0, none⟩) (x := 0) ((World.cell?_setCell_other _ ⟨b, 1, none⟩ ⟨b, 0, none⟩ _ (by simp)).trans h0)
  have h31 : (w.setCell ⟨b, 1, none⟩ (.int .i32 1)).cell? ⟨b, 3, none⟩ = some x := (World.cell?_setCell_other _ ⟨b, 1, none⟩ ⟨b, 3, none⟩ _ (by simp)).trans h3
  have h01 : (w.setCell ⟨b, 1, none⟩ (.int .i32 1)).cell? ⟨b, 0, none⟩ = some (.int .u32 0) := (World.cell?_setCell_other _ ⟨b, 1, none⟩ ⟨b, 0, none⟩ _ (by simp)).trans h0
  have h11 : (w.setCell ⟨b, 1, none⟩ (.int .i32 1)).cell? ⟨b, 1, none⟩ = some (.int .i32 1) := World.cell?_setCell_same w _ _ h1
  have f31 : (w.setCell ⟨b, 1, none⟩ (.int .i32 1)).frozen? ⟨b, 3, none⟩ = false := by simpa using f3
  have f01 : (w.setCell ⟨b, 1, none⟩ (.int .i32 1)).frozen? ⟨b, 0, none⟩ = false := by simpa using f0
  have f11 : (w.setCell ⟨b, 1, none⟩ (.int .i32 1)).frozen? ⟨b, 1, none⟩ = false := by simpa using f1
  have hnot : ∀ (x : Bool) (w : World), (Op.unary .not (.bool x)).run Tryz.prog w = .ok (.bool (!x)) w := fun _ _ => rfl
  go_enter_defers Tryz.func114, Tryz.ntmps114
  go_wp2_with (go_at_call 116; refine (lock_free ⟨b, 1, none⟩ _ (by go_simp) (by go_simp)).mono ?_; rintro e w' ⟨rfl, rfl⟩)
  go_wp2_with (first | (go_at_call 112; refine (fill_any b x _ h31 f31).mono ?_; rintro e w' ⟨W, rfl, rfl, ha, hF⟩) | (go_at_call 113; go_in))
  have hf := fcell hF
  have hbs : b < (w.setCell ⟨b, 1, none⟩ (.int .i32 1)).heap.size := by simpa [World.setCell] using hb
  have w0 : W.cell? ⟨b, 0, none⟩ = some (.int .u32 0) := (hf.1 b 0 hbs).trans h01
  have w1 : W.cell? ⟨b, 1, none⟩ = some (.int .i32 1) := (hf.1 b 1 hbs).trans h11
  have w3 : W.cell? ⟨b, 3, none⟩ = some x := (hf.1 b 3 hbs).trans h31
  have g0 : W.frozen? ⟨b, 0, none⟩ = false := (hf.2 b 0 hbs).trans f01
  have g1 : W.frozen? ⟨b, 1, none⟩ = false := (hf.2 b 1 hbs).trans f11
  have HA : W.heap[w.heap.size]? = some (.map (helpEntries 8) 8) := by simpa [World.setCell] using ha
  have HF : Fr (fun x => x = b) w W := ((Fr.refl (fun x => x = b) w).setCell ⟨b, 1, none⟩ (.int .i32 1) (.inl rfl)).ends hF
  clear hf ha hF
  refine leaves_cons (f := 118) (args := #[.pointer (some ⟨b, 0, none⟩), .bool true]) (by simp) (by simp [go_sem]) ?_
  refine (store_deferred ⟨b, 0, none⟩ (.int .u32 0) .returning _ ?_ (by simp [g0])).mono ?_
  · exact (World.cell?_setCell_other _ ⟨b, 3, none⟩ ⟨b, 0, none⟩ _ (by simp)).trans w0
  rintro e u' w'' ⟨rfl, rfl, rfl⟩
  refine leaves_cons (f := 117) (args := #[.pointer (some ⟨b, 1, none⟩)]) (by simp [settle]) (by simp [go_sem]) ?_
  refine (unlock_deferred ⟨b, 1, none⟩ _ _ ?_ (by simp [g1])).mono ?_
  · refine (World.cell?_setCell_other _ ⟨b, 0, none⟩ ⟨b, 1, none⟩ _ (by simp)).trans ?_
    rw [World.cell?_drew]
    exact (World.cell?_setCell_other _ ⟨b, 3, none⟩ ⟨b, 1, none⟩ _ (by simp)).trans w1
  rintro e u' w'' ⟨rfl, rfl, rfl⟩
  simp [Leaves, settle, results, Tryz.results114]
  exact ⟨W, rfl, HA, HF, w3⟩

set_option maxRecDepth 100000 in
set_option maxHeartbeats 1600000 in
/-- Do over a new table: it is filled -/
theorem once_any (b : Nat) (x : Value) (w : World)
    (h0 : w.cell? ⟨b, 0, none⟩ = some (.int .u32 0)) (h1 : w.cell? ⟨b, 1, none⟩ = some (.int .i32 0)) (h3 : w.cell? ⟨b, 3, none⟩ = some x)
    (f0 : w.frozen? ⟨b, 0, none⟩ = false) (f1 : w.frozen? ⟨b, 1, none⟩ = false) (f3 : w.frozen? ⟨b, 3, none⟩ = false) :
    Calls Tryz.prog 111 #[.pointer (some ⟨b, 0, none⟩), .func (.func 112) #[.pointer (some ⟨b, 0, none⟩)] #[]] w fun e w' => e = .returned (.tuple #[]) ∧
      w'.heap[w.heap.size]? = some (.map (helpEntries 8) 8) ∧ w'.cell? ⟨b, 3, none⟩ = some (.map (some w.heap.size)) ∧ Fr (fun x => x = b) w w' := by
  have hb := World.block_lt_of_cell? w _ h3
  have hl := run_call_load (P := Tryz.prog) Tryz.func115 (by kernel_rfl) (by kernel_rfl) (by kernel_rfl) .u32 (by kernel_rfl) h0
  have hnot : ∀ (x : Bool) (w : World), (Op.unary .not (.bool x)).run Tryz.prog w = .ok (.bool (!x)) w := fun _ _ => rfl
  go_enter Tryz.func111, Tryz.ntmps111
  go_wp2_with (first | (go_at_call 114; refine (slow_any b x _ h0 h1 h3 f0 f1 f3).mono ?_; rintro e w' ⟨W, rfl, rfl, hA, hF, w3⟩) | (go_at_call 113; go_in))
  go_end0
  have hne : b ≠ w.heap.size := by omega
  refine ⟨rfl, ?_, ?_, ?_⟩
  · rw [← hA]
    show (((W.setCell ⟨b, 3, none⟩ (.map (some w.heap.size))).setCell ⟨b, 0, none⟩ (.int .u32 1)).setCell ⟨b, 1, none⟩ (.int .i32 0)).heap[w.heap.size]? = W.heap[w.heap.size]?
    rw [Below.heap_setCell _ _ _ _ (Ne.symm hne), Below.heap_setCell _ _ _ _ (Ne.symm hne), Below.heap_setCell _ _ _ _ (Ne.symm hne)]
  · refine (World.cell?_setCell_other _ ⟨b, 1, none⟩ ⟨b, 3, none⟩ _ (by simp)).trans ?_
    refine (World.cell?_setCell_other _ ⟨b, 0, none⟩ ⟨b, 3, none⟩ _ (by simp)).trans ?_
    exact World.cell?_setCell_same _ _ _ w3
  · exact (((hF.setCell _ _ (.inl rfl)).drew).setCell _ _ (.inl rfl)).setCell _ _ (.inl rfl)

end Go.Proofs.YtkhbjhmhdlmmfaaGreat
