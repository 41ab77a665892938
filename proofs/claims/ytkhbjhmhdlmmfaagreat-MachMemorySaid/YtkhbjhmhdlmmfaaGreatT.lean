/- Walks: Check, made, fits, Units. -/
import Derived.Test.YtkhbjhmhdlmmfaaGreatQ
import Derived.Test.YtkhbjhmhdlmmfaaGreatR
namespace Go.Proofs.YtkhbjhmhdlmmfaaGreat
open Go.RowKit

/-- the cells of n instructions behind one another -/
def codeL (c : Nat → Ins) : Nat → List Value
  | 0 => []
  | n + 1 => codeL c n ++ (c n).cells
theorem codeL_len (c : Nat → Ins) (n : Nat) : (codeL c n).length = n * 8 := by
  induction n with
  | zero => rfl
  | succ n ih => simp [codeL, ih, Ins.cells]; omega
theorem codeL_get (c : Nat → Ins) (n k j : Nat) (hk : k < n) (hj : j < 8) : (codeL c n)[k * 8 + j]? = (c k).cells[j]? := by
  induction n with
  | zero => omega
  | succ n ih =>
    by_cases h : k < n
    · rw [codeL, List.getElem?_append_left (by rw [codeL_len]; omega), ih h]
    · have : k = n := by omega
      subst this
      rw [codeL, List.getElem?_append_right (by rw [codeL_len]; omega), codeL_len]
      congr 1; omega
theorem codeL_one (c : Nat → Ins) (n : Nat) : ∀ u ∈ codeL c n, u.oneCell' = true := by
  induction n with
  | zero => intro u hu; cases hu
  | succ n ih =>
    intro u hu
    rw [codeL] at hu
    rcases List.mem_append.1 hu with h | h
    · exact ih u h
    · simp only [Ins.cells, List.mem_cons, List.not_mem_nil, or_false] at h
      rcases h with rfl | rfl | rfl | rfl | rfl | rfl | rfl | rfl <;> rfl

/-- the code's cells lie in block g -/
def CodeAt (w : World) (g n : Nat) (c : Nat → Ins) : Prop :=
  ∀ k, k < n → w.cell? ⟨g, k * 8, none⟩ = some (.int .i64 (c k).op) ∧ w.cell? ⟨g, k * 8 + 1, none⟩ = some (.bool (c k).nar) ∧ w.cell? ⟨g, k * 8 + 2, none⟩ = some (.bool (c k).reg) ∧ w.cell? ⟨g, k * 8 + 3, none⟩ = some (.int .i64 (c k).size) ∧ w.cell? ⟨g, k * 8 + 4, none⟩ = some (.int .i64 (c k).dst) ∧ w.cell? ⟨g, k * 8 + 5, none⟩ = some (.int .i64 (c k).src) ∧ w.cell? ⟨g, k * 8 + 6, none⟩ = some (.int .i64 (c k).off) ∧ w.cell? ⟨g, k * 8 + 7, none⟩ = some (.int .i64 (c k).imm)
theorem CodeAt.fr {S : Nat → Prop} {w w' : World} {g n : Nat} {c : Nat → Ins} (h : CodeAt w g n c) (hf : Fr S w w') (hS : ¬ S g) : CodeAt w' g n c := by
  intro k hk
  obtain ⟨h0, h1, h2, h3, h4, h5, h6, h7⟩ := h k hk
  have hb := World.block_lt_of_cell? w _ h0
  have hw := frCells hf
  exact ⟨(hw _ _ hb hS).trans h0, (hw _ _ hb hS).trans h1, (hw _ _ hb hS).trans h2, (hw _ _ hb hS).trans h3, (hw _ _ hb hS).trans h4, (hw _ _ hb hS).trans h5, (hw _ _ hb hS).trans h6, (hw _ _ hb hS).trans h7⟩

set_option maxRecDepth 100000 in
set_option maxHeartbeats 2000000 in
theorem check_ok (g n cap : Nat) (c : Nat → Ins) (w : World) (hc : CodeAt w g n c) (hn : (n : Int) ≤ 4096)
    (hg : ∀ k, k < n → ∀ W, Calls Tryz.prog 39 #[(c k).agg] W fun e w' => e = .returned (.int .i64 0) ∧ Fr (fun _ => False) W w') :
    Calls Tryz.prog 35 #[.slice (some ⟨g, 0, none⟩) n cap] w fun e w' => e = .returned (.tuple #[.int .i64 0, .int .i64 0]) ∧ Fr (fun _ => False) w w' := by
  have HC := Lib.hid hc
  have HG := Lib.hid hg
  clear hc hg
  go_enter Tryz.func35, Tryz.ntmps35
  go_wp2
  go_loopw [9] (fun i wr => ∃ k : Nat, k ≤ n ∧ i = .int .i64 k ∧ Fr (fun _ => False) w wr) (fun i _ => n - (match i with | .int _ q => q | _ => 0).toNat)
  case atStart => exact ⟨0, by omega, rfl, Fr.refl _ _⟩
  case round =>
    obtain ⟨k, hk, rfl, hF⟩ := hrel
    by_cases hlt : k < n
    · have hC := HC.out.fr hF (fun h => h)
      obtain ⟨c0, c1, c2, c3, c4, c5, c6, c7⟩ := hC k hlt
      have hgb := World.block_lt_of_cell? _ _ c0
      simp only at hgb
      have hk4 : ((k : Int) == 4096) = false := by rw [beq_eq_false_iff_ne]; omega
      have HF := Lib.hid hF
      clear hF hC
      go_wp2_with (go_at_call 39; refine (HG.out k hlt _).mono ?_; rintro e w1 ⟨rfl, hF1⟩; (have HF1 := Lib.hid hF1); clear hF1)
      refine ⟨⟨k + 1, by omega, rfl, ?_⟩, by simp; omega⟩
      exact ((HF.out.alloc _).trans HF1.out)
    · have : k = n := by omega
      subst this
      go_wp2
      refine bodyPost_ret (v := .tuple #[.int .i64 0, .int .i64 0]) (by simp [results, Tryz.results35, go_sem]) rfl ⟨rfl, hF⟩

set_option maxRecDepth 100000 in
theorem codeWide (op : Int) (w : World) : Calls Tryz.prog 36 #[.int .i64 op] w fun e w' => e = .returned (.bool (op == 20 || op == 21)) ∧ w = w' := by
  cases h0 : (op == 20)
  · cases h1 : (op == 21)
    · go_enter Tryz.func36, Tryz.ntmps36
      go_wp2
      go_ret
      exact ⟨rfl, rfl⟩
    · go_enter Tryz.func36, Tryz.ntmps36
      go_wp2
      go_ret
      exact ⟨rfl, rfl⟩
  · go_enter Tryz.func36, Tryz.ntmps36
    go_wp2
    go_ret
    exact ⟨rfl, rfl⟩

/-- the plain program's description, of code alone -/
def specV (code : Value) : Value := .agg #[.int .i64 0, .int .i64 65535, .slice none 0 0, .slice none 0 0, code]

set_option maxRecDepth 100000 in
set_option maxHeartbeats 2000000 in
theorem made_ok (g n cap : Nat) (c : Nat → Ins) (w : World) (hc : CodeAt w g n c) (hn : (n : Int) ≤ 4096) (hn0 : ((n : Int) == 0) = false)
    (hop : ∀ k, k < n → ((c k).op == 21) = false)
    (hg : ∀ k, k < n → ∀ W, Calls Tryz.prog 39 #[(c k).agg] W fun e w' => e = .returned (.int .i64 0) ∧ Fr (fun _ => False) W w') :
    Calls Tryz.prog 23 #[specV (.slice (some ⟨g, 0, none⟩) n cap)] w fun e w' => e = .returned (.bool true) ∧ Fr (fun _ => False) w w' := by
  have HC := Lib.hid hc
  have HG := Lib.hid hg
  have HOP := Lib.hid hop
  have HN := Lib.hid hn
  clear hc hg hop
  unfold specV
  go_enter Tryz.func23, Tryz.ntmps23
  go_wp2
  go_loopw [45] (fun i wr => i = .int .i64 0 ∧ w.alloc (.cells #[.int .i64 0, .int .i64 65535, .slice none 0 0, .slice none 0 0, .slice (some ⟨g, 0, none⟩) n cap] 53) = wr) (fun _ _ => 0)
  case atStart => exact ⟨rfl, rfl⟩
  case round =>
    obtain ⟨rfl, rfl⟩ := hrel
    go_wp2_with (go_at_call 35; refine (check_ok g n cap c _ (HC.out.fr ((Fr.refl (fun _ => False) _).alloc _) (fun h => h)) HN.out HG.out).mono ?_; rintro e w1 ⟨rfl, hF1⟩; (have hkc := fcell hF1); (have hz := hF1.size); (try simp [go_sem] at hz); (have HF1 := Lib.hid hF1); clear hF1)
    have HFB := Lib.hid (((Fr.refl (fun _ => False) w).alloc (.cells #[.int .i64 0, .int .i64 65535, .slice none 0 0, .slice none 0 0, .slice (some ⟨g, 0, none⟩) n cap] 53)).trans HF1.out)
    clear hkc hz
    go_loopw [79] (fun i wr => ∃ k : Nat, k ≤ n ∧ i = .int .i64 k ∧ Fr (fun _ => False) w wr) (fun i _ => n - (match i with | .int _ q => q | _ => 0).toNat)
    case atStart => exact ⟨0, by omega, rfl, HFB.out⟩
    case round =>
      obtain ⟨k, hk, rfl, hF⟩ := hrel
      by_cases hlt : k < n
      · have hC := HC.out.fr hF (fun h => h)
        obtain ⟨c0, c1, c2, c3, c4, c5, c6, c7⟩ := hC k hlt
        have hgb := World.block_lt_of_cell? _ _ c0
        simp only at hgb
        have ho := HOP.out k hlt
        have HF := Lib.hid hF
        clear hF hC
        go_wp2
        refine ⟨⟨k + 1, by omega, rfl, ?_⟩, by simp; omega⟩
        exact HF.out.alloc _
      · have : k = n := by omega
        subst this
        go_wp2
        go_ret
        exact ⟨rfl, hF⟩

/-- the plain machine's inputs: a context alone -/
def inpV (ctx : Value) : Value := .agg #[ctx, .slice none 0 0]

set_option maxRecDepth 100000 in
set_option maxHeartbeats 2000000 in
theorem fits_ok (code : Value) (p : Option Addr) (m mc : Nat) (w : World) (h0 : decide ((m : Int) < 0) = false) (h1 : decide ((m : Int) > 65535) = false) :
    Calls Tryz.prog 24 #[specV code, inpV (.slice p m mc)] w fun e w' => e = .returned (.bool true) ∧ Fr (fun _ => False) w w' := by
  unfold specV inpV
  go_enter Tryz.func24, Tryz.ntmps24
  go_wp2
  go_loopw [33] (fun i wr => i = .int .i64 0 ∧ (w.alloc (.cells #[.int .i64 0, .int .i64 65535, .slice none 0 0, .slice none 0 0, code] 53)).alloc (.cells #[.slice p m mc, .slice none 0 0] 55) = wr) (fun _ _ => 0)
  case atStart => exact ⟨rfl, rfl⟩
  case round =>
    obtain ⟨rfl, rfl⟩ := hrel
    go_wp2
    go_ret
    exact ⟨rfl, ((Fr.refl _ _).alloc _).alloc _⟩

/-- the units before each instruction -/
def unitsOf (c : Nat → Ins) : Nat → Int
  | 0 => 0
  | k + 1 => unitsOf c k + (if ((c k).op == 20 || (c k).op == 21) = true then 2 else 1)
theorem unitsOf_bound (c : Nat → Ins) (k : Nat) : (k : Int) ≤ unitsOf c k ∧ unitsOf c k ≤ 2 * k := by
  induction k with
  | zero => simp [unitsOf]
  | succ k ih => simp only [unitsOf]; split <;> omega
theorem unitsOf_lt (c : Nat → Ins) (a b : Nat) (h : a < b) : unitsOf c a < unitsOf c b := by
  induction b with
  | zero => omega
  | succ b ih =>
    have : unitsOf c b < unitsOf c (b + 1) := by simp only [unitsOf]; split <;> omega
    by_cases e : a = b
    · subst e; exact this
    · have := ih (by omega); omega

theorem intsL_succ (u : Nat → Int) (n : Nat) : intsL u (n + 1) = intsL u n ++ [.int .i64 (u n)] := by
  unfold intsL; rw [List.range_succ, List.map_append]; rfl
theorem one_cell {w : World} {a : Addr} {x : Value} (h : w.cell? a = some x) : ∀ j u, [x][j]? = some u → w.cell? (a.add j) = some u := by
  intro j u hu
  have hj : j = 0 := by have := (List.getElem?_eq_some_iff.1 hu).1; simp at this; exact this
  subst hj
  have : x = u := by simpa using hu
  subst this
  simpa [Addr.add] using h
theorem one_one {x : Value} (h : x.oneCell' = true) : ∀ u ∈ [x], u.oneCell' = true := by
  intro u hu
  rw [List.mem_singleton] at hu
  rw [hu]; exact h

set_option maxRecDepth 100000 in
set_option maxHeartbeats 2000000 in
theorem units_ok (g n cap : Nat) (c : Nat → Ins) (w : World) (hc : CodeAt w g n c) (hn : (n : Int) ≤ 4096) :
    Calls Tryz.prog 26 #[.slice (some ⟨g, 0, none⟩) n cap] w fun e w' => ∃ v, e = .returned v ∧ w'.ownsRow w.heap.size 3 1 v (n + 1) (intsL (unitsOf c) (n + 1)) ∧ Fr (fun _ => False) w w' := by
  have HC := Lib.hid hc
  clear hc
  obtain ⟨i0, hi, hz0, hz1, hz2⟩ := info_parts Tryz.info3
  go_enter Tryz.func26, Tryz.ntmps26
  go_wp2
  go_loopw [3, 4, 10] (fun s t i wr => ∃ k : Nat, k ≤ n ∧ i = .int .i64 k ∧ t = .int .i64 (unitsOf c k) ∧ wr.ownsRow w.heap.size 3 1 s (k + 1) (intsL (unitsOf c) (k + 1)) ∧ Fr (fun _ => False) w wr) (fun _ _ i _ => n - (match i with | .int _ q => q | _ => 0).toNat)
  case atStart => exact ⟨0, by omega, rfl, rfl, World.ownsRow_lit w _ 1 (Nat.le_refl _) (by decide) rfl, (Fr.refl _ _).alloc _⟩
  case round =>
    obtain ⟨k, hk, rfl, rfl, hO, hF⟩ := hrel
    by_cases hlt : k < n
    · have hC := HC.out.fr hF (fun h => h)
      obtain ⟨c0, c1, c2, c3, c4, c5, c6, c7⟩ := hC k hlt
      have hgb := World.block_lt_of_cell? _ _ c0
      simp only at hgb
      have hub := unitsOf_bound c k
      have hu0 : (0 : Int) ≤ unitsOf c k := by omega
      have hu1 : unitsOf c k ≤ 8192 := by omega
      have hus := intsL_succ (unitsOf c) (k + 1)
      have hsz := hF.size
      have HF := Lib.hid hF
      have HO := Lib.hid hO
      have HUS := Lib.hid hus
      clear hF hC hub hO hus
      cases hw : ((c k).op == 20 || (c k).op == 21)
      · have HN1 := Lib.hid (show unitsOf c (k + 1) = unitsOf c k + 1 by simp [unitsOf, hw])
        go_wp2_with (first | (go_at_call 36; refine (codeWide _ _).mono ?_; rw [hw]; rintro e w1 ⟨rfl, rfl⟩) | (at_builtin; go_must (refine wpList_append_own _ rfl _ _ 29 rfl w.heap.size 3 i0 (.int .i64 0) 1 8 Tryz.underlying29 hi hz0 hz1 hz2 rfl (by decide) _ _ _ rfl ((HO.out.alloc _).alloc _) _ 1 _ [.int .i64 (unitsOf c k + 1)] rfl rfl (one_cell (by simp [go_sem])) (one_one rfl) (by unfold maxLen; omega) (by omega) (by simp; omega) ?_; intro v' w1 hown1 hgrow _; (have HO1 := Lib.hid hown1); (have HG1 := Lib.hid hgrow); clear hown1 hgrow)))
        refine ⟨⟨k + 1, by omega, rfl, ?_, ?_, ?_⟩, by simp; omega⟩
        · rw [HN1.out]
        · rw [HUS.out, HN1.out]; exact HO1.out
        · exact ((HF.out.alloc _).alloc _).grown HG1.out (fun q hq => .inr (HO.out.lt q hq).1)
      · have HN1 := Lib.hid (show unitsOf c (k + 1) = unitsOf c k + 1 + 1 by simp [unitsOf, hw]; omega)
        go_wp2_with (first | (go_at_call 36; refine (codeWide _ _).mono ?_; rw [hw]; rintro e w1 ⟨rfl, rfl⟩) | (at_builtin; go_must (refine wpList_append_own _ rfl _ _ 29 rfl w.heap.size 3 i0 (.int .i64 0) 1 8 Tryz.underlying29 hi hz0 hz1 hz2 rfl (by decide) _ _ _ rfl ((HO.out.alloc _).alloc _) _ 1 _ [.int .i64 (unitsOf c k + 1 + 1)] rfl rfl (one_cell (by simp [go_sem])) (one_one rfl) (by unfold maxLen; omega) (by omega) (by simp; omega) ?_; intro v' w1 hown1 hgrow _; (have HO1 := Lib.hid hown1); (have HG1 := Lib.hid hgrow); clear hown1 hgrow)))
        refine ⟨⟨k + 1, by omega, rfl, ?_, ?_, ?_⟩, by simp; omega⟩
        · rw [HN1.out]
        · rw [HUS.out, HN1.out]; exact HO1.out
        · exact ((HF.out.alloc _).alloc _).grown HG1.out (fun q hq => .inr (HO.out.lt q hq).1)
    · have : k = n := by omega
      subst this
      go_wp2
      go_ret
      exact ⟨_, rfl, hO, hF⟩

end Go.Proofs.YtkhbjhmhdlmmfaaGreat
