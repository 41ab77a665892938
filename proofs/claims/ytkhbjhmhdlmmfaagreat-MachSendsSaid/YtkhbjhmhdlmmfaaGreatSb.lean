/- Walks: Sig: what a helper is asked for. -/
import Derived.Test.YtkhbjhmhdlmmfaaGreatSa
import Derived.LoopN
namespace Go.Proofs.YtkhbjhmhdlmmfaaGreat
open Go.RowKit

theorem run_help_look (k : Nat) (hk : k < 8) (key : Int) (he : key = (k : Int) + 1) (r : Nat) (w : World) (h : w.heap[r]? = some (.map (helpEntries 8) 8)) :
    (Instr.lookup 152 (.map (some r)) (.int .i64 key) true).run Tryz.prog w = .ok (.tuple #[helperV k, .bool true]) w := by
  subst he
  have hf : Instr.findNow (.int .i64) (.int .i64 ((k : Int) + 1)) (helpEntries 8).toList 0 = some (some (k, helperV k)) := by
    match k, hk with | 0, _ | 1, _ | 2, _ | 3, _ | 4, _ | 5, _ | 6, _ | 7, _ => rfl
  have hc : (Instr.checkKey (helpEntries 8).isEmpty 10000 3 (.int .i64 ((k : Int) + 1))).run Tryz.prog w = .ok () w := MapKept.run_checkKey Tryz.underlying3 (by simp [MapKept.IsKey]) _ 9999
  have hk' := MapKept.run_findKey (P := Tryz.prog) (w := w) Tryz.underlying3 hf
  unfold Instr.lookup
  simp only [Sem.run_bind, run_underlying Tryz.underlying152, Result.andThen, getObj]
  simp [Sem.run, h, hc, hk', Result.andThen]

set_option maxRecDepth 100000 in
set_option maxHeartbeats 1600000 in
theorem get_help (k : Nat) (hk : k < 8) (b : Nat) (x : Value) (w : World)
    (h0 : w.cell? ⟨b, 0, none⟩ = some (.int .u32 0)) (h1 : w.cell? ⟨b, 1, none⟩ = some (.int .i32 0)) (h3 : w.cell? ⟨b, 3, none⟩ = some x)
    (f0 : w.frozen? ⟨b, 0, none⟩ = false) (f1 : w.frozen? ⟨b, 1, none⟩ = false) (f3 : w.frozen? ⟨b, 3, none⟩ = false) :
    Calls Tryz.prog 88 #[.pointer (some ⟨b, 0, none⟩), .int .i64 ((k : Int) + 1)] w fun e w' => e = .returned (.tuple #[helperV k, .bool true]) ∧ Fr (fun x => x = b) w w' := by
  have hmf : ∀ (fn : Fn) (first cap : Array Value) (w : World), (Instr.makeFunc fn first cap).run Tryz.prog w = .ok (.func fn first cap) w := fun _ _ _ _ => rfl
  obtain ⟨key, hkey⟩ : ∃ key : Int, key = (k : Int) + 1 := ⟨_, rfl⟩
  rw [← hkey]
  have HK := Lib.hid hkey
  clear hkey
  go_enter Tryz.func88, Tryz.ntmps88
  go_wp2_with (go_at_call 111; refine (once_any b x _ h0 h1 h3 f0 f1 f3).mono ?_; rintro e w' ⟨rfl, hA, hc, hF⟩; have hlk := run_help_look k hk key HK.out _ _ hA; (have hA := Lib.hid hA); (have HF := Lib.hid hF); clear hF)
  go_ret2
  exact ⟨rfl, HF.out⟩

theorem lt_of_new {w w' : World} (h : Fr (fun _ => False) w w') : w.heap.size ≤ w'.heap.size := h.size

def argsOf : Nat → List Int
  | 0 => [2, 4, 1, 0, 0]
  | 1 => [3, 2, 4, 0, 0]
  | 2 => [3, 1, 4, 0, 0]
  | 3 => [2, 2, 4, 0, 0]
  | 4 => [2, 4, 1, 0, 0]
  | 5 => [1, 0, 0, 0, 0]
  | _ => [1, 1, 0, 0, 0]

theorem make_five (w : World) : (Instr.makeSlice 29 (.int .i64 5) (.int .i64 5)).run Tryz.prog w = .ok (.slice (some ⟨w.heap.size, 0, none⟩) 5 5) (w.alloc (.cells #[.int .i64 0, .int .i64 0, .int .i64 0, .int .i64 0, .int .i64 0] 3)) := by
  kernel_rfl

set_option maxRecDepth 100000 in
set_option maxHeartbeats 1600000 in
theorem numbers_args (n a b : Int) (p q : Bool) (hn : n = 1 ∨ n = 2) (w : World) :
    Calls Tryz.prog 161 #[.agg #[.int .i64 n, .int .i64 a, .int .i64 b, .bool p, .bool q]] w fun e w' => ∃ g : Nat, e = .returned (.slice (some ⟨g, 0, none⟩) 5 5) ∧ w'.heap[g]? = some (.cells #[.int .i64 1, .int .i64 (if n = 1 then 0 else 1), .int .i64 0, .int .i64 0, .int .i64 0] 3 (0, 0)) ∧ w.heap.size ≤ g ∧ Fr (fun _ => False) w w' := by
  have hm := make_five
  rcases hn with rfl | rfl
  · go_enter Tryz.func161, Tryz.ntmps161
    go_wp2
    refine wp_loop_rounds 2 ?_
    rw [rounds_succ]
    go_wp2
    rw [rounds_succ]
    go_wp2
    go_ret
    exact ⟨_, rfl, (by have := heap_alloc_new (w.alloc (.cells #[.int .i64 1, .int .i64 a, .int .i64 b, .bool p, .bool q] 168)) (.cells #[.int .i64 1, .int .i64 0, .int .i64 0, .int .i64 0, .int .i64 0] 3); simpa using this), by simp, ((Fr.refl _ w).alloc _).alloc _⟩
  · go_enter Tryz.func161, Tryz.ntmps161
    go_wp2
    refine wp_loop_rounds 3 ?_
    rw [rounds_succ]
    go_wp2
    rw [rounds_succ]
    go_wp2
    rw [rounds_succ]
    go_wp2
    go_ret
    exact ⟨_, rfl, (by have := heap_alloc_new (w.alloc (.cells #[.int .i64 2, .int .i64 a, .int .i64 b, .bool p, .bool q] 168)) (.cells #[.int .i64 1, .int .i64 1, .int .i64 0, .int .i64 0, .int .i64 0] 3); simpa using this), by simp, ((Fr.refl _ w).alloc _).alloc _⟩

def IsSig (k : Nat) (w : World) (e : Ending) (w' : World) : Prop :=
  ∃ (g : Nat) (lo hi : Int) (p q : Bool), e = .returned (.tuple #[.agg #[.slice (some ⟨g, 0, none⟩) 5 5, .int .i64 lo, .int .i64 hi, .bool p, .bool q], .bool true]) ∧ w'.heap[g]? = some (.cells ((argsOf k).map fun x => Value.int .i64 x).toArray 3 (0, 0)) ∧ w.heap.size ≤ g ∧ Fr (fun _ => False) w w'

theorem heap_fr_at {S : Nat → Prop} {w w' : World} {k : Nat} {o : Obj} (h : w.heap[k]? = some o) (hf : Fr S w w') (hS : ¬ S k) : w'.heap[k]? = some o := by
  rw [hf.block k (Array.getElem?_eq_some_iff.1 h).1 hS]; exact h
theorem sig_cells {w w' : World} (hF : Fr (fun x => x = w.heap.size + 1) ((w.alloc (.cells #[.slice none 0 0, .int .i64 0, .int .i64 0, .bool false, .bool false] 108)).alloc (.cells #[.int .u32 0, .int .i32 0, .int .u32 0, .map none] 154)) w') :
    w'.heap[w.heap.size]? = some (.cells #[.slice none 0 0, .int .i64 0, .int .i64 0, .bool false, .bool false] 108) ∧ w.heap.size + 2 ≤ w'.heap.size ∧ Fr (fun _ => False) w w' := by
  refine ⟨?_, ?_, ?_⟩
  · exact heap_fr_at (by rw [Below.heap_alloc _ _ _ (by simp)]; exact heap_alloc_new w _) hF (by omega)
  · have := hF.size; simpa using this
  · exact ⟨hF.os, hF.tape, hF.output, by have := hF.size; simp at this; omega, fun k hk _ => by
      rw [hF.block k (by simp; omega) (by omega), Below.heap_alloc _ _ _ (by simp; omega), Below.heap_alloc _ _ _ hk]⟩

def ArgsAre (l : List Int) (w : World) (e : Ending) (w' : World) : Prop :=
  ∃ g : Nat, e = .returned (.slice (some ⟨g, 0, none⟩) 5 5) ∧ w'.heap[g]? = some (.cells (l.map fun x => Value.int .i64 x).toArray 3 (0, 0)) ∧ w.heap.size ≤ g ∧ Fr (fun _ => False) w w'
def RetIs (lo hi : Int) (p q : Bool) (w : World) (e : Ending) (w' : World) : Prop :=
  e = .returned (.agg #[.int .i64 lo, .int .i64 hi, .bool p, .bool q]) ∧ Fr (fun _ => False) w w'
theorem new_at {k : Nat} (w : World) (o1 o2 : Obj) (h : w.heap.size + 1 = k) : ((w.alloc o1).alloc o2).heap[k]? = some o2 := by
  subst h
  have := heap_alloc_new (w.alloc o1) o2
  simpa using this

set_option maxRecDepth 100000 in
set_option maxHeartbeats 1600000 in
theorem piece_args (a b : Int) (w : World) : Calls Tryz.prog 155 #[.agg #[.int .i64 a, .int .i64 b]] w (ArgsAre [2, 4, 1, 0, 0] w) := by
  go_enter Tryz.func155, Tryz.ntmps155
  go_wp2
  go_ret
  exact ⟨_, rfl, new_at w _ _ rfl, by simp, ((Fr.refl _ w).alloc _).alloc _⟩
set_option maxRecDepth 100000 in
set_option maxHeartbeats 1600000 in
theorem piece_ret (a b : Int) (w : World) : Calls Tryz.prog 156 #[.agg #[.int .i64 a, .int .i64 b]] w (RetIs a b false false w) := by
  go_enter Tryz.func156, Tryz.ntmps156
  go_wp2
  exact bodyPost_ret (v := .agg #[.int .i64 a, .int .i64 b, .bool false, .bool false]) (by simp [results, Tryz.results156, go_sem]) rfl ⟨rfl, ((Fr.refl _ w).alloc _).alloc _⟩
set_option maxRecDepth 100000 in
set_option maxHeartbeats 1600000 in
theorem writer_args (a : Int) (w : World) : Calls Tryz.prog 157 #[.agg #[.int .i64 a]] w (ArgsAre [3, a, 4, 0, 0] w) := by
  go_enter Tryz.func157, Tryz.ntmps157
  go_wp2
  go_ret
  exact ⟨_, rfl, new_at w _ _ rfl, by simp, ((Fr.refl _ w).alloc _).alloc _⟩
set_option maxRecDepth 100000 in
set_option maxHeartbeats 1600000 in
theorem writer_ret (a : Int) (w : World) : Calls Tryz.prog 158 #[.agg #[.int .i64 a]] w (RetIs 0 0 false false w) := by
  go_enter Tryz.func158, Tryz.ntmps158
  go_wp2
  exact bodyPost_ret (v := .agg #[.int .i64 0, .int .i64 0, .bool false, .bool false]) (by simp [results, Tryz.results158, go_sem]) rfl ⟨rfl, ((Fr.refl _ w).alloc _).alloc _⟩
set_option maxRecDepth 100000 in
set_option maxHeartbeats 1600000 in
theorem pair_args (w : World) : Calls Tryz.prog 159 #[.agg #[]] w (ArgsAre [2, 2, 4, 0, 0] w) := by
  go_enter Tryz.func159, Tryz.ntmps159
  go_wp2
  go_ret
  exact ⟨_, rfl, new_at w _ _ rfl, by simp, ((Fr.refl _ w).alloc _).alloc _⟩
set_option maxRecDepth 100000 in
set_option maxHeartbeats 1600000 in
theorem pair_ret (w : World) : Calls Tryz.prog 160 #[.agg #[]] w (RetIs (-1) 1 false false w) := by
  go_enter Tryz.func160, Tryz.ntmps160
  go_wp2
  exact bodyPost_ret (v := .agg #[.int .i64 (-1), .int .i64 1, .bool false, .bool false]) (by simp [results, Tryz.results160, go_sem]) rfl ⟨rfl, ((Fr.refl _ w).alloc _).alloc _⟩
set_option maxRecDepth 100000 in
set_option maxHeartbeats 1600000 in
theorem numbers_ret (n a b : Int) (p q : Bool) (w : World) : Calls Tryz.prog 162 #[.agg #[.int .i64 n, .int .i64 a, .int .i64 b, .bool p, .bool q]] w (RetIs a b p q w) := by
  go_enter Tryz.func162, Tryz.ntmps162
  go_wp2
  exact bodyPost_ret (v := .agg #[.int .i64 a, .int .i64 b, .bool p, .bool q]) (by simp [results, Tryz.results162, go_sem]) rfl ⟨rfl, ((Fr.refl _ w).alloc _).alloc _⟩
theorem numbers_args' (n a b : Int) (p q : Bool) (hn : n = 1 ∨ n = 2) (w : World) : Calls Tryz.prog 161 #[.agg #[.int .i64 n, .int .i64 a, .int .i64 b, .bool p, .bool q]] w (ArgsAre [1, if n = 1 then 0 else 1, 0, 0, 0] w) :=
  (numbers_args n a b p q hn w).mono fun _ _ h => h

def SigObj : Obj := .cells #[.slice none 0 0, .int .i64 0, .int .i64 0, .bool false, .bool false] 108
theorem sig_read {w : World} {k : Nat} (h : w.heap[k]? = some SigObj) : w.cell? ⟨k, 0, none⟩ = some (.slice none 0 0) ∧ w.cell? ⟨k, 1, none⟩ = some (.int .i64 0) ∧ w.cell? ⟨k, 2, none⟩ = some (.int .i64 0) ∧ w.cell? ⟨k, 3, none⟩ = some (.bool false) ∧ w.cell? ⟨k, 4, none⟩ = some (.bool false) ∧ ∀ o, w.frozen? ⟨k, o, none⟩ = false := by
  unfold SigObj at h
  refine ⟨?_, ?_, ?_, ?_, ?_, fun o => ?_⟩ <;> simp [World.cell?, World.frozen?, h]

set_option maxRecDepth 100000 in
set_option maxHeartbeats 1600000 in
theorem sig0 (w : World) : Calls Tryz.prog 70 #[.int .i64 1] w (IsSig 0 w) := by
  have hv : helperV 0 = .iface 163 (.agg #[.int .i64 0, .int .i64 65535]) := rfl
  have ha : ∀ w : World, (method 304 163 (.agg #[.int .i64 0, .int .i64 65535]) "warrant/help.args").run Tryz.prog w = .ok (155, .agg #[.int .i64 0, .int .i64 65535]) w := fun _ => by kernel_rfl
  have hr : ∀ w : World, (method 304 163 (.agg #[.int .i64 0, .int .i64 65535]) "warrant/help.ret").run Tryz.prog w = .ok (156, .agg #[.int .i64 0, .int .i64 65535]) w := fun _ => by kernel_rfl
  go_enter Tryz.func70, Tryz.ntmps70
  go_wp2_with (first | (go_at_call 88; refine (get_help 0 (by decide) (w.heap.size + 1) (.map none) _ (by simp) (by simp) (by simp) (by simp) (by simp) (by simp)).mono ?_; rintro e w1 ⟨rfl, hF⟩; obtain ⟨hblk1, hsz1, hFr1⟩ := sig_cells hF; (have hblk1 := Lib.hid hblk1); (have hFr1 := Lib.hid hFr1); clear hF) | (go_at_call 155; refine (piece_args 0 65535 _).mono ?_; rintro e w2 ⟨g, rfl, hg, hge, hF2⟩; (have hFr2 := Lib.hid (hFr1.out.trans hF2)); (have hblk2 := Lib.hid (heap_fr_at hblk1.out hF2 (fun h => h))); (have hg2 := Lib.hid hg); clear hF2 hg) | (go_at_call 156; refine (piece_ret 0 65535 _).mono ?_; rintro e w3 ⟨rfl, hF3⟩; (have hFr3 := Lib.hid (hFr2.out.trans hF3)); (have hblk3 := heap_fr_at hblk2.out hF3 (fun h => h)); (have hg3 := Lib.hid (heap_fr_at hg2.out hF3 (fun h => h))); obtain ⟨c0, c1, c2, c3, c4, fz⟩ := sig_read hblk3; clear hF3 hblk3))
  have hgo : g ≠ w.heap.size := by omega
  have HF : Fr (fun _ => False) w (((((w3.setCell ⟨w.heap.size, 0, none⟩ (.slice (some ⟨g, 0, none⟩) 5 5)).setCell ⟨w.heap.size, 1, none⟩ (.int .i64 0)).setCell ⟨w.heap.size, 2, none⟩ (.int .i64 65535)).setCell ⟨w.heap.size, 3, none⟩ (.bool false)).setCell ⟨w.heap.size, 4, none⟩ (.bool false)) :=
    ((((hFr3.out.setCell _ _ (.inr (Nat.le_refl _))).setCell _ _ (.inr (Nat.le_refl _))).setCell _ _ (.inr (Nat.le_refl _))).setCell _ _ (.inr (Nat.le_refl _))).setCell _ _ (.inr (Nat.le_refl _))
  refine bodyPost_ret (v := .tuple #[.agg #[.slice (some ⟨g, 0, none⟩) 5 5, .int .i64 0, .int .i64 65535, .bool false, .bool false], .bool true]) (by simp [results, Tryz.results70, go_sem, c0, c1, c2, c3, c4]) rfl ⟨g, _, _, _, _, rfl, ?_, by omega, HF⟩
  rw [Below.heap_setCell _ _ _ _ hgo, Below.heap_setCell _ _ _ _ hgo, Below.heap_setCell _ _ _ _ hgo, Below.heap_setCell _ _ _ _ hgo, Below.heap_setCell _ _ _ _ hgo]
  exact hg3.out
set_option maxRecDepth 100000 in
set_option maxHeartbeats 1600000 in
theorem sig1 (w : World) : Calls Tryz.prog 70 #[.int .i64 2] w (IsSig 1 w) := by
  have hv : helperV 1 = .iface 165 (.agg #[.int .i64 2]) := rfl
  have ha : ∀ w : World, (method 304 165 (.agg #[.int .i64 2]) "warrant/help.args").run Tryz.prog w = .ok (157, .agg #[.int .i64 2]) w := fun _ => by kernel_rfl
  have hr : ∀ w : World, (method 304 165 (.agg #[.int .i64 2]) "warrant/help.ret").run Tryz.prog w = .ok (158, .agg #[.int .i64 2]) w := fun _ => by kernel_rfl
  go_enter Tryz.func70, Tryz.ntmps70
  go_wp2_with (first | (go_at_call 88; refine (get_help 1 (by decide) (w.heap.size + 1) (.map none) _ (by simp) (by simp) (by simp) (by simp) (by simp) (by simp)).mono ?_; rintro e w1 ⟨rfl, hF⟩; obtain ⟨hblk1, hsz1, hFr1⟩ := sig_cells hF; (have hblk1 := Lib.hid hblk1); (have hFr1 := Lib.hid hFr1); clear hF) | (go_at_call 157; refine (writer_args 2 _).mono ?_; rintro e w2 ⟨g, rfl, hg, hge, hF2⟩; (have hFr2 := Lib.hid (hFr1.out.trans hF2)); (have hblk2 := Lib.hid (heap_fr_at hblk1.out hF2 (fun h => h))); (have hg2 := Lib.hid hg); clear hF2 hg) | (go_at_call 158; refine (writer_ret 2 _).mono ?_; rintro e w3 ⟨rfl, hF3⟩; (have hFr3 := Lib.hid (hFr2.out.trans hF3)); (have hblk3 := heap_fr_at hblk2.out hF3 (fun h => h)); (have hg3 := Lib.hid (heap_fr_at hg2.out hF3 (fun h => h))); obtain ⟨c0, c1, c2, c3, c4, fz⟩ := sig_read hblk3; clear hF3 hblk3))
  have hgo : g ≠ w.heap.size := by omega
  have HF : Fr (fun _ => False) w (((((w3.setCell ⟨w.heap.size, 0, none⟩ (.slice (some ⟨g, 0, none⟩) 5 5)).setCell ⟨w.heap.size, 1, none⟩ (.int .i64 0)).setCell ⟨w.heap.size, 2, none⟩ (.int .i64 0)).setCell ⟨w.heap.size, 3, none⟩ (.bool false)).setCell ⟨w.heap.size, 4, none⟩ (.bool false)) :=
    ((((hFr3.out.setCell _ _ (.inr (Nat.le_refl _))).setCell _ _ (.inr (Nat.le_refl _))).setCell _ _ (.inr (Nat.le_refl _))).setCell _ _ (.inr (Nat.le_refl _))).setCell _ _ (.inr (Nat.le_refl _))
  refine bodyPost_ret (v := .tuple #[.agg #[.slice (some ⟨g, 0, none⟩) 5 5, .int .i64 0, .int .i64 0, .bool false, .bool false], .bool true]) (by simp [results, Tryz.results70, go_sem, c0, c1, c2, c3, c4]) rfl ⟨g, _, _, _, _, rfl, ?_, by omega, HF⟩
  rw [Below.heap_setCell _ _ _ _ hgo, Below.heap_setCell _ _ _ _ hgo, Below.heap_setCell _ _ _ _ hgo, Below.heap_setCell _ _ _ _ hgo, Below.heap_setCell _ _ _ _ hgo]
  exact hg3.out
set_option maxRecDepth 100000 in
set_option maxHeartbeats 1600000 in
theorem sig2 (w : World) : Calls Tryz.prog 70 #[.int .i64 3] w (IsSig 2 w) := by
  have hv : helperV 2 = .iface 165 (.agg #[.int .i64 1]) := rfl
  have ha : ∀ w : World, (method 304 165 (.agg #[.int .i64 1]) "warrant/help.args").run Tryz.prog w = .ok (157, .agg #[.int .i64 1]) w := fun _ => by kernel_rfl
  have hr : ∀ w : World, (method 304 165 (.agg #[.int .i64 1]) "warrant/help.ret").run Tryz.prog w = .ok (158, .agg #[.int .i64 1]) w := fun _ => by kernel_rfl
  go_enter Tryz.func70, Tryz.ntmps70
  go_wp2_with (first | (go_at_call 88; refine (get_help 2 (by decide) (w.heap.size + 1) (.map none) _ (by simp) (by simp) (by simp) (by simp) (by simp) (by simp)).mono ?_; rintro e w1 ⟨rfl, hF⟩; obtain ⟨hblk1, hsz1, hFr1⟩ := sig_cells hF; (have hblk1 := Lib.hid hblk1); (have hFr1 := Lib.hid hFr1); clear hF) | (go_at_call 157; refine (writer_args 1 _).mono ?_; rintro e w2 ⟨g, rfl, hg, hge, hF2⟩; (have hFr2 := Lib.hid (hFr1.out.trans hF2)); (have hblk2 := Lib.hid (heap_fr_at hblk1.out hF2 (fun h => h))); (have hg2 := Lib.hid hg); clear hF2 hg) | (go_at_call 158; refine (writer_ret 1 _).mono ?_; rintro e w3 ⟨rfl, hF3⟩; (have hFr3 := Lib.hid (hFr2.out.trans hF3)); (have hblk3 := heap_fr_at hblk2.out hF3 (fun h => h)); (have hg3 := Lib.hid (heap_fr_at hg2.out hF3 (fun h => h))); obtain ⟨c0, c1, c2, c3, c4, fz⟩ := sig_read hblk3; clear hF3 hblk3))
  have hgo : g ≠ w.heap.size := by omega
  have HF : Fr (fun _ => False) w (((((w3.setCell ⟨w.heap.size, 0, none⟩ (.slice (some ⟨g, 0, none⟩) 5 5)).setCell ⟨w.heap.size, 1, none⟩ (.int .i64 0)).setCell ⟨w.heap.size, 2, none⟩ (.int .i64 0)).setCell ⟨w.heap.size, 3, none⟩ (.bool false)).setCell ⟨w.heap.size, 4, none⟩ (.bool false)) :=
    ((((hFr3.out.setCell _ _ (.inr (Nat.le_refl _))).setCell _ _ (.inr (Nat.le_refl _))).setCell _ _ (.inr (Nat.le_refl _))).setCell _ _ (.inr (Nat.le_refl _))).setCell _ _ (.inr (Nat.le_refl _))
  refine bodyPost_ret (v := .tuple #[.agg #[.slice (some ⟨g, 0, none⟩) 5 5, .int .i64 0, .int .i64 0, .bool false, .bool false], .bool true]) (by simp [results, Tryz.results70, go_sem, c0, c1, c2, c3, c4]) rfl ⟨g, _, _, _, _, rfl, ?_, by omega, HF⟩
  rw [Below.heap_setCell _ _ _ _ hgo, Below.heap_setCell _ _ _ _ hgo, Below.heap_setCell _ _ _ _ hgo, Below.heap_setCell _ _ _ _ hgo, Below.heap_setCell _ _ _ _ hgo]
  exact hg3.out
set_option maxRecDepth 100000 in
set_option maxHeartbeats 1600000 in
theorem sig3 (w : World) : Calls Tryz.prog 70 #[.int .i64 4] w (IsSig 3 w) := by
  have hv : helperV 3 = .iface 166 (.agg #[]) := rfl
  have ha : ∀ w : World, (method 304 166 (.agg #[]) "warrant/help.args").run Tryz.prog w = .ok (159, .agg #[]) w := fun _ => by kernel_rfl
  have hr : ∀ w : World, (method 304 166 (.agg #[]) "warrant/help.ret").run Tryz.prog w = .ok (160, .agg #[]) w := fun _ => by kernel_rfl
  go_enter Tryz.func70, Tryz.ntmps70
  go_wp2_with (first | (go_at_call 88; refine (get_help 3 (by decide) (w.heap.size + 1) (.map none) _ (by simp) (by simp) (by simp) (by simp) (by simp) (by simp)).mono ?_; rintro e w1 ⟨rfl, hF⟩; obtain ⟨hblk1, hsz1, hFr1⟩ := sig_cells hF; (have hblk1 := Lib.hid hblk1); (have hFr1 := Lib.hid hFr1); clear hF) | (go_at_call 159; refine (pair_args _).mono ?_; rintro e w2 ⟨g, rfl, hg, hge, hF2⟩; (have hFr2 := Lib.hid (hFr1.out.trans hF2)); (have hblk2 := Lib.hid (heap_fr_at hblk1.out hF2 (fun h => h))); (have hg2 := Lib.hid hg); clear hF2 hg) | (go_at_call 160; refine (pair_ret _).mono ?_; rintro e w3 ⟨rfl, hF3⟩; (have hFr3 := Lib.hid (hFr2.out.trans hF3)); (have hblk3 := heap_fr_at hblk2.out hF3 (fun h => h)); (have hg3 := Lib.hid (heap_fr_at hg2.out hF3 (fun h => h))); obtain ⟨c0, c1, c2, c3, c4, fz⟩ := sig_read hblk3; clear hF3 hblk3))
  have hgo : g ≠ w.heap.size := by omega
  have HF : Fr (fun _ => False) w (((((w3.setCell ⟨w.heap.size, 0, none⟩ (.slice (some ⟨g, 0, none⟩) 5 5)).setCell ⟨w.heap.size, 1, none⟩ (.int .i64 (-1))).setCell ⟨w.heap.size, 2, none⟩ (.int .i64 1)).setCell ⟨w.heap.size, 3, none⟩ (.bool false)).setCell ⟨w.heap.size, 4, none⟩ (.bool false)) :=
    ((((hFr3.out.setCell _ _ (.inr (Nat.le_refl _))).setCell _ _ (.inr (Nat.le_refl _))).setCell _ _ (.inr (Nat.le_refl _))).setCell _ _ (.inr (Nat.le_refl _))).setCell _ _ (.inr (Nat.le_refl _))
  refine bodyPost_ret (v := .tuple #[.agg #[.slice (some ⟨g, 0, none⟩) 5 5, .int .i64 (-1), .int .i64 1, .bool false, .bool false], .bool true]) (by simp [results, Tryz.results70, go_sem, c0, c1, c2, c3, c4]) rfl ⟨g, _, _, _, _, rfl, ?_, by omega, HF⟩
  rw [Below.heap_setCell _ _ _ _ hgo, Below.heap_setCell _ _ _ _ hgo, Below.heap_setCell _ _ _ _ hgo, Below.heap_setCell _ _ _ _ hgo, Below.heap_setCell _ _ _ _ hgo]
  exact hg3.out
set_option maxRecDepth 100000 in
set_option maxHeartbeats 1600000 in
theorem sig4 (w : World) : Calls Tryz.prog 70 #[.int .i64 5] w (IsSig 4 w) := by
  have hv : helperV 4 = .iface 163 (.agg #[.int .i64 (-1), .int .i64 65534]) := rfl
  have ha : ∀ w : World, (method 304 163 (.agg #[.int .i64 (-1), .int .i64 65534]) "warrant/help.args").run Tryz.prog w = .ok (155, .agg #[.int .i64 (-1), .int .i64 65534]) w := fun _ => by kernel_rfl
  have hr : ∀ w : World, (method 304 163 (.agg #[.int .i64 (-1), .int .i64 65534]) "warrant/help.ret").run Tryz.prog w = .ok (156, .agg #[.int .i64 (-1), .int .i64 65534]) w := fun _ => by kernel_rfl
  go_enter Tryz.func70, Tryz.ntmps70
  go_wp2_with (first | (go_at_call 88; refine (get_help 4 (by decide) (w.heap.size + 1) (.map none) _ (by simp) (by simp) (by simp) (by simp) (by simp) (by simp)).mono ?_; rintro e w1 ⟨rfl, hF⟩; obtain ⟨hblk1, hsz1, hFr1⟩ := sig_cells hF; (have hblk1 := Lib.hid hblk1); (have hFr1 := Lib.hid hFr1); clear hF) | (go_at_call 155; refine (piece_args (-1) 65534 _).mono ?_; rintro e w2 ⟨g, rfl, hg, hge, hF2⟩; (have hFr2 := Lib.hid (hFr1.out.trans hF2)); (have hblk2 := Lib.hid (heap_fr_at hblk1.out hF2 (fun h => h))); (have hg2 := Lib.hid hg); clear hF2 hg) | (go_at_call 156; refine (piece_ret (-1) 65534 _).mono ?_; rintro e w3 ⟨rfl, hF3⟩; (have hFr3 := Lib.hid (hFr2.out.trans hF3)); (have hblk3 := heap_fr_at hblk2.out hF3 (fun h => h)); (have hg3 := Lib.hid (heap_fr_at hg2.out hF3 (fun h => h))); obtain ⟨c0, c1, c2, c3, c4, fz⟩ := sig_read hblk3; clear hF3 hblk3))
  have hgo : g ≠ w.heap.size := by omega
  have HF : Fr (fun _ => False) w (((((w3.setCell ⟨w.heap.size, 0, none⟩ (.slice (some ⟨g, 0, none⟩) 5 5)).setCell ⟨w.heap.size, 1, none⟩ (.int .i64 (-1))).setCell ⟨w.heap.size, 2, none⟩ (.int .i64 65534)).setCell ⟨w.heap.size, 3, none⟩ (.bool false)).setCell ⟨w.heap.size, 4, none⟩ (.bool false)) :=
    ((((hFr3.out.setCell _ _ (.inr (Nat.le_refl _))).setCell _ _ (.inr (Nat.le_refl _))).setCell _ _ (.inr (Nat.le_refl _))).setCell _ _ (.inr (Nat.le_refl _))).setCell _ _ (.inr (Nat.le_refl _))
  refine bodyPost_ret (v := .tuple #[.agg #[.slice (some ⟨g, 0, none⟩) 5 5, .int .i64 (-1), .int .i64 65534, .bool false, .bool false], .bool true]) (by simp [results, Tryz.results70, go_sem, c0, c1, c2, c3, c4]) rfl ⟨g, _, _, _, _, rfl, ?_, by omega, HF⟩
  rw [Below.heap_setCell _ _ _ _ hgo, Below.heap_setCell _ _ _ _ hgo, Below.heap_setCell _ _ _ _ hgo, Below.heap_setCell _ _ _ _ hgo, Below.heap_setCell _ _ _ _ hgo]
  exact hg3.out
set_option maxRecDepth 100000 in
set_option maxHeartbeats 1600000 in
theorem sig5 (w : World) : Calls Tryz.prog 70 #[.int .i64 6] w (IsSig 5 w) := by
  have hv : helperV 5 = .iface 168 (.agg #[.int .i64 1, .int .i64 (-1), .int .i64 0, .bool false, .bool false]) := rfl
  have ha : ∀ w : World, (method 304 168 (.agg #[.int .i64 1, .int .i64 (-1), .int .i64 0, .bool false, .bool false]) "warrant/help.args").run Tryz.prog w = .ok (161, .agg #[.int .i64 1, .int .i64 (-1), .int .i64 0, .bool false, .bool false]) w := fun _ => by kernel_rfl
  have hr : ∀ w : World, (method 304 168 (.agg #[.int .i64 1, .int .i64 (-1), .int .i64 0, .bool false, .bool false]) "warrant/help.ret").run Tryz.prog w = .ok (162, .agg #[.int .i64 1, .int .i64 (-1), .int .i64 0, .bool false, .bool false]) w := fun _ => by kernel_rfl
  go_enter Tryz.func70, Tryz.ntmps70
  go_wp2_with (first | (go_at_call 88; refine (get_help 5 (by decide) (w.heap.size + 1) (.map none) _ (by simp) (by simp) (by simp) (by simp) (by simp) (by simp)).mono ?_; rintro e w1 ⟨rfl, hF⟩; obtain ⟨hblk1, hsz1, hFr1⟩ := sig_cells hF; (have hblk1 := Lib.hid hblk1); (have hFr1 := Lib.hid hFr1); clear hF) | (go_at_call 161; refine (numbers_args' 1 (-1) 0 false false (.inl rfl) _).mono ?_; rintro e w2 ⟨g, rfl, hg, hge, hF2⟩; (have hFr2 := Lib.hid (hFr1.out.trans hF2)); (have hblk2 := Lib.hid (heap_fr_at hblk1.out hF2 (fun h => h))); (have hg2 := Lib.hid hg); clear hF2 hg) | (go_at_call 162; refine (numbers_ret 1 (-1) 0 false false _).mono ?_; rintro e w3 ⟨rfl, hF3⟩; (have hFr3 := Lib.hid (hFr2.out.trans hF3)); (have hblk3 := heap_fr_at hblk2.out hF3 (fun h => h)); (have hg3 := Lib.hid (heap_fr_at hg2.out hF3 (fun h => h))); obtain ⟨c0, c1, c2, c3, c4, fz⟩ := sig_read hblk3; clear hF3 hblk3))
  have hgo : g ≠ w.heap.size := by omega
  have HF : Fr (fun _ => False) w (((((w3.setCell ⟨w.heap.size, 0, none⟩ (.slice (some ⟨g, 0, none⟩) 5 5)).setCell ⟨w.heap.size, 1, none⟩ (.int .i64 (-1))).setCell ⟨w.heap.size, 2, none⟩ (.int .i64 0)).setCell ⟨w.heap.size, 3, none⟩ (.bool false)).setCell ⟨w.heap.size, 4, none⟩ (.bool false)) :=
    ((((hFr3.out.setCell _ _ (.inr (Nat.le_refl _))).setCell _ _ (.inr (Nat.le_refl _))).setCell _ _ (.inr (Nat.le_refl _))).setCell _ _ (.inr (Nat.le_refl _))).setCell _ _ (.inr (Nat.le_refl _))
  refine bodyPost_ret (v := .tuple #[.agg #[.slice (some ⟨g, 0, none⟩) 5 5, .int .i64 (-1), .int .i64 0, .bool false, .bool false], .bool true]) (by simp [results, Tryz.results70, go_sem, c0, c1, c2, c3, c4]) rfl ⟨g, _, _, _, _, rfl, ?_, by omega, HF⟩
  rw [Below.heap_setCell _ _ _ _ hgo, Below.heap_setCell _ _ _ _ hgo, Below.heap_setCell _ _ _ _ hgo, Below.heap_setCell _ _ _ _ hgo, Below.heap_setCell _ _ _ _ hgo]
  exact hg3.out
set_option maxRecDepth 100000 in
set_option maxHeartbeats 1600000 in
theorem sig7 (w : World) : Calls Tryz.prog 70 #[.int .i64 8] w (IsSig 7 w) := by
  have hv : helperV 7 = .iface 168 (.agg #[.int .i64 2, .int .i64 0, .int .i64 0, .bool true, .bool true]) := rfl
  have ha : ∀ w : World, (method 304 168 (.agg #[.int .i64 2, .int .i64 0, .int .i64 0, .bool true, .bool true]) "warrant/help.args").run Tryz.prog w = .ok (161, .agg #[.int .i64 2, .int .i64 0, .int .i64 0, .bool true, .bool true]) w := fun _ => by kernel_rfl
  have hr : ∀ w : World, (method 304 168 (.agg #[.int .i64 2, .int .i64 0, .int .i64 0, .bool true, .bool true]) "warrant/help.ret").run Tryz.prog w = .ok (162, .agg #[.int .i64 2, .int .i64 0, .int .i64 0, .bool true, .bool true]) w := fun _ => by kernel_rfl
  go_enter Tryz.func70, Tryz.ntmps70
  go_wp2_with (first | (go_at_call 88; refine (get_help 7 (by decide) (w.heap.size + 1) (.map none) _ (by simp) (by simp) (by simp) (by simp) (by simp) (by simp)).mono ?_; rintro e w1 ⟨rfl, hF⟩; obtain ⟨hblk1, hsz1, hFr1⟩ := sig_cells hF; (have hblk1 := Lib.hid hblk1); (have hFr1 := Lib.hid hFr1); clear hF) | (go_at_call 161; refine (numbers_args' 2 0 0 true true (.inr rfl) _).mono ?_; rintro e w2 ⟨g, rfl, hg, hge, hF2⟩; (have hFr2 := Lib.hid (hFr1.out.trans hF2)); (have hblk2 := Lib.hid (heap_fr_at hblk1.out hF2 (fun h => h))); (have hg2 := Lib.hid hg); clear hF2 hg) | (go_at_call 162; refine (numbers_ret 2 0 0 true true _).mono ?_; rintro e w3 ⟨rfl, hF3⟩; (have hFr3 := Lib.hid (hFr2.out.trans hF3)); (have hblk3 := heap_fr_at hblk2.out hF3 (fun h => h)); (have hg3 := Lib.hid (heap_fr_at hg2.out hF3 (fun h => h))); obtain ⟨c0, c1, c2, c3, c4, fz⟩ := sig_read hblk3; clear hF3 hblk3))
  have hgo : g ≠ w.heap.size := by omega
  have HF : Fr (fun _ => False) w (((((w3.setCell ⟨w.heap.size, 0, none⟩ (.slice (some ⟨g, 0, none⟩) 5 5)).setCell ⟨w.heap.size, 1, none⟩ (.int .i64 0)).setCell ⟨w.heap.size, 2, none⟩ (.int .i64 0)).setCell ⟨w.heap.size, 3, none⟩ (.bool true)).setCell ⟨w.heap.size, 4, none⟩ (.bool true)) :=
    ((((hFr3.out.setCell _ _ (.inr (Nat.le_refl _))).setCell _ _ (.inr (Nat.le_refl _))).setCell _ _ (.inr (Nat.le_refl _))).setCell _ _ (.inr (Nat.le_refl _))).setCell _ _ (.inr (Nat.le_refl _))
  refine bodyPost_ret (v := .tuple #[.agg #[.slice (some ⟨g, 0, none⟩) 5 5, .int .i64 0, .int .i64 0, .bool true, .bool true], .bool true]) (by simp [results, Tryz.results70, go_sem, c0, c1, c2, c3, c4]) rfl ⟨g, _, _, _, _, rfl, ?_, by omega, HF⟩
  rw [Below.heap_setCell _ _ _ _ hgo, Below.heap_setCell _ _ _ _ hgo, Below.heap_setCell _ _ _ _ hgo, Below.heap_setCell _ _ _ _ hgo, Below.heap_setCell _ _ _ _ hgo]
  exact hg3.out
end Go.Proofs.YtkhbjhmhdlmmfaaGreat
