/- Walks: Run: the steps go on until the machine is done, or one of them traps. -/
import Derived.Test.YtkhbjhmhdlmmfaaGreatI
import Derived.WalkMore
import Derived.ScopeJumps
namespace Go.Proofs.YtkhbjhmhdlmmfaaGreat
open Go.RowKit

def intsL (f : Nat → Int) (n : Nat) : List Value := (List.range n).map fun j => .int .i64 (f j)
theorem intsL_len (f : Nat → Int) (n : Nat) : (intsL f n).length = n := by simp [intsL]
theorem intsL_one (f : Nat → Int) (n : Nat) : ∀ u ∈ intsL f n, u.oneCell' = true := by
  intro u hu
  obtain ⟨j, _, rfl⟩ := List.mem_map.1 hu
  rfl

/-- the slice v holds the row xs: nil where it is empty, or n cells behind one another -/
def RowAt (w : World) (v : Value) (n : Nat) (xs : List Value) : Prop :=
  (n = 0 ∧ xs = [] ∧ v = .slice none 0 0) ∨ ∃ a c, v = .slice (some a) n c ∧ ∀ j u, xs[j]? = some u → w.cell? (a.add j) = some u

theorem RowAt.fr {w w' : World} {v : Value} {n : Nat} {xs : List Value} (h : RowAt w v n xs) (hf : Fr (fun _ => False) w w') : RowAt w' v n xs := by
  rcases h with h | ⟨a, c, hv, hx⟩
  · exact .inl h
  · refine .inr ⟨a, c, hv, fun j u hu => ?_⟩
    have h0 := hx j u hu
    have hb := World.block_lt_of_cell? w _ h0
    rw [← h0]
    exact hf.toB.cell hb
theorem RowAt.drew {w : World} {v : Value} {n : Nat} {xs : List Value} (h : RowAt w v n xs) : RowAt w.drew v n xs := h
theorem RowAt.drewN {w : World} {v : Value} {n : Nat} {xs : List Value} (h : RowAt w v n xs) (k : Nat) : RowAt (w.drewN k) v n xs := h

theorem ownsRow_fr {w w' : World} {base e sz : Nat} {v : Value} {n : Nat} {xs : List Value} (h : w.ownsRow base e sz v n xs) (hf : Fr (fun _ => False) w w') : w'.ownsRow base e sz v n xs := by
  refine ⟨h.1, ?_⟩
  rcases h.2 with hn | ⟨g, cap, cur, h1, h2, h3, h4⟩
  · exact .inl hn
  · exact .inr ⟨g, cap, cur, h1, h2, (hf.block g (Array.getElem?_eq_some_iff.1 h3).1 (fun h => h)).trans h3, h4⟩
theorem ownsRow_frS {S : Nat → Prop} {w w' : World} {base e sz : Nat} {v : Value} {n : Nat} {xs : List Value} (h : w.ownsRow base e sz v n xs) (hf : Fr S w w') (hS : ∀ g, base ≤ g → ¬ S g) : w'.ownsRow base e sz v n xs := by
  refine ⟨h.1, ?_⟩
  rcases h.2 with hn | ⟨g, cap, cur, h1, h2, h3, h4⟩
  · exact .inl hn
  · exact .inr ⟨g, cap, cur, h1, h2, (hf.block g (Array.getElem?_eq_some_iff.1 h3).1 (hS g h2)).trans h3, h4⟩
theorem ownsRow_base {w : World} {base base' e sz : Nat} {v : Value} {n : Nat} {xs : List Value} (h : w.ownsRow base e sz v n xs) (hb : base' ≤ base) : w.ownsRow base' e sz v n xs := by
  refine ⟨h.1, ?_⟩
  rcases h.2 with hn | ⟨g, cap, cur, h1, h2, h3⟩
  · exact .inl hn
  · exact .inr ⟨g, cap, cur, h1, Nat.le_trans hb h2, h3⟩

theorem owns_slice {w : World} {base e sz : Nat} {v : Value} {n : Nat} {xs : List Value} (h : w.ownsRow base e sz v n xs) : ∃ p m c, v = .slice p m c := by
  rcases h.2 with ⟨rfl, _⟩ | ⟨g, cap, cur, rfl, _⟩
  · exact ⟨_, _, _, rfl⟩
  · exact ⟨_, _, _, rfl⟩

theorem clone_bytesAt (v : Value) (n : Nat) (f : Nat → Int) (w : World) (h : RowAt w v n (bytesL f n)) (hn : n ≤ 140737488351232) :
    Calls Tryz.prog 27 #[v] w fun e w' => ∃ v', e = .returned v' ∧ w'.ownsRow w.heap.size 5 1 v' n (bytesL f n) ∧ Fr (fun _ => False) w w' := by
  rcases h with ⟨rfl, _, rfl⟩ | ⟨a, c, rfl, hx⟩
  · refine (clone_bytes_nil w).mono ?_
    rintro e w1 ⟨rfl, rfl⟩
    exact ⟨_, rfl, World.ownsRow_nil w w.heap.size 5 1, Fr.refl _ _⟩
  · refine (clone_bytes a n c _ w (bytesL_len _ _) hn hx (bytesL_one _ _)).mono ?_
    rintro e w1 ⟨v, rfl, ho, hb⟩
    exact ⟨v, rfl, ho, (Fr.refl _ _).below hb⟩
theorem clone_intsAt (v : Value) (n : Nat) (f : Nat → Int) (w : World) (h : RowAt w v n (intsL f n)) (hn : n * 8 ≤ 140737488351232) :
    Calls Tryz.prog 31 #[v] w fun e w' => ∃ v', e = .returned v' ∧ w'.ownsRow w.heap.size 3 1 v' n (intsL f n) ∧ Fr (fun _ => False) w w' := by
  rcases h with ⟨rfl, _, rfl⟩ | ⟨a, c, rfl, hx⟩
  · refine (clone_ints_nil w).mono ?_
    rintro e w1 ⟨rfl, rfl⟩
    exact ⟨_, rfl, World.ownsRow_nil w w.heap.size 3 1, Fr.refl _ _⟩
  · refine (clone_ints a n c _ w (by rw [intsL_len, Nat.mul_one]) hn hx (intsL_one _ _)).mono ?_
    rintro e w1 ⟨v, rfl, ho, hb⟩
    exact ⟨v, rfl, ho, (Fr.refl _ _).below hb⟩

theorem scope_loop {P : Program} {r1 rest : Code} {Q : Exit → Act → World → Prop} {a : Act} {w : World} (l : Nat) (J : Act → World → Prop) (μ : Act → World → Nat) (h1 : findLabel r1 l = none)
    (first : r1.wp P (fun e a w => e = .normal ∧ J a w) a w)
    (pass : ∀ a w, J a w → rest.wp P (Exit.jump l (fun a' w' => J a' w' ∧ μ a' w' < μ a w) Q) a w) : (Code.scope (r1.seq ((Code.label l).seq rest))).wp P Q a w := by
  refine wp_scope_jumps l J μ (rest := .seq .skip rest) (by simp [findLabel, h1]) ?_ ?_
  · refine wp_seq (wp_mono first ?_)
    rintro e a1 w1 ⟨rfl, hJ⟩
    refine wp_seq (wp_label (wp_mono (pass a1 w1 hJ) ?_))
    intro e a2 w2 h
    cases e with
    | goto l' => exact ⟨h.1, h.2.1⟩
    | _ => exact h
  · intro a1 w1 hJ
    exact wp_seq (wp_skip (pass a1 w1 hJ))

def intOf (v : Value) : Int := match v with | .int _ q => q | _ => 0

def infoZero : Array Value := #[.int .i64 0, .slice none 0 0, .slice none 0 0, .slice none 0 0]

/-- what holds at the label: k rounds are done -/
def RunJ (I : Nat → World → Prop) (K : Nat) (S : Nat → Prop) (w : World) (b : Nat) : Act → World → Prop := fun a' w' => ∃ (k : Nat) (u : Nat → Value), k ≤ K ∧ a' = { tmps := #[.pointer (some ⟨b, 0, none⟩), .int .i64 1048576, u 2, u 3, .pointer (some ⟨w.heap.size, 0, none⟩), .int .i64 0, .int .i64 (k : Nat), u 7, u 8, u 9, u 10, u 11, u 12, u 13, u 14, u 15, u 16, u 17, u 18, u 19, u 20, u 21, u 22, u 23, u 24, u 25, u 26, u 27, u 28, u 29, u 30, u 31, u 32, u 33, u 34, u 35, u 36, u 37, u 38, u 39, u 40, u 41, u 42, u 43, u 44, u 45, u 46, u 47], defers := [] } ∧ I k w' ∧ Fr S (w.alloc (.cells infoZero 31)) w'
def runMu (K : Nat) : Act → World → Nat := fun a' _ => K - (intOf (a'.tmps.getD 6 undef)).toNat
def frameOf (t : Array Value) (i : Nat) : Value := t.getD i undef

theorem RunJ.intro {I : Nat → World → Prop} {K : Nat} {S : Nat → Prop} {w : World} {b : Nat} (k : Nat) (t : Array Value) (w' : World) (hk : k ≤ K) (hs : t = #[.pointer (some ⟨b, 0, none⟩), .int .i64 1048576, frameOf t 2, frameOf t 3, .pointer (some ⟨w.heap.size, 0, none⟩), .int .i64 0, .int .i64 (k : Nat), frameOf t 7, frameOf t 8, frameOf t 9, frameOf t 10, frameOf t 11, frameOf t 12, frameOf t 13, frameOf t 14, frameOf t 15, frameOf t 16, frameOf t 17, frameOf t 18, frameOf t 19, frameOf t 20, frameOf t 21, frameOf t 22, frameOf t 23, frameOf t 24, frameOf t 25, frameOf t 26, frameOf t 27, frameOf t 28, frameOf t 29, frameOf t 30, frameOf t 31, frameOf t 32, frameOf t 33, frameOf t 34, frameOf t 35, frameOf t 36, frameOf t 37, frameOf t 38, frameOf t 39, frameOf t 40, frameOf t 41, frameOf t 42, frameOf t 43, frameOf t 44, frameOf t 45, frameOf t 46, frameOf t 47]) (hI : I k w') (hF : Fr S (w.alloc (.cells infoZero 31)) w') : RunJ I K S w b { tmps := t, defers := [] } w' :=
  ⟨k, frameOf t, hk, by rw [← hs], hI, hF⟩

set_option maxRecDepth 1000000 in
set_option maxHeartbeats 4000000 in
theorem run_done (b K : Nat) (hK : K < 1048576) (ms : Nat → Mac) (Ls : Nat → Lay) (w : World) (S : Nat → Prop) (hSw : ∀ k, S k → k < w.heap.size) (I : Nat → World → Prop) (hI0 : ∀ o, I 0 (w.alloc o))
    (hrep : ∀ k, k < K → ∀ W, I k W → Fr S w W → RepF W b (mcell (Ls k) (ms k)) ∧ (ms k).done = false)
    (hstep : ∀ k, k < K → ∀ W, I k W → Fr S w W → Calls Tryz.prog 32 #[.pointer (some ⟨b, 0, none⟩)] W fun e w' => e = .returned (.int .i64 0) ∧ I (k + 1) w' ∧ Fr S W w')
    (n : Nat) (cx : Nat → Int) (nS : Nat) (sx : Nat → Int) (hn : n ≤ 1000000) (hnS : nS ≤ 1000000)
    (hend : ∀ W, I K W → Fr S w W → RepF W b (mcell (Ls K) (ms K)) ∧ (ms K).done = true ∧ RowAt W (Ls K).ctx n (bytesL cx n) ∧ RowAt W (Ls K).sent nS (intsL sx nS)) :
    Calls Tryz.prog 20 #[.pointer (some ⟨b, 0, none⟩), .int .i64 1048576] w fun e w' => ∃ v s, e = .returned (.tuple #[.agg #[.int .i64 ((ms K).reg 0).x, v, .slice none 0 0, s], .int .i64 0]) ∧
      w'.ownsRow w.heap.size 5 1 v n (bytesL cx n) ∧ w'.ownsRow w.heap.size 3 1 s nS (intsL sx nS) ∧ Fr S w w' := by
  have hn0 : ¬ S w.heap.size := fun h => Nat.lt_irrefl _ (hSw _ h)
  have HI0 := Lib.hid (hI0 (.cells infoZero 31))
  have HREP := Lib.hid hrep
  have HSTEP := Lib.hid hstep
  have HEND := Lib.hid hend
  have HKN := Lib.hid hK
  have HNN := Lib.hid (And.intro hn hnS)
  clear hI0 hrep hstep hend hSw hK hn hnS
  go_enter Tryz.func20, Tryz.ntmps20
  go_wp2
  refine scope_loop 0 (RunJ I K S w b) (runMu K) rfl ?_ ?_
  · go_wp2
    exact ⟨0, fun _ => undef, Nat.zero_le _, rfl, HI0.out, Fr.refl _ _⟩
  · rintro a' w' ⟨k, u, hk, rfl, hI, hF⟩
    have hFw : Fr S w w' := Fr.trans ((Fr.refl S w).alloc _) hF
    by_cases hlt : k < K
    · obtain ⟨hR, hd⟩ := HREP.out k hlt w' hI hFw
      have hST := HSTEP.out k hlt w' hI hFw
      have HST := Lib.hid hST
      have hb := hR.lt
      have f8 := hR.cell 470 (by omega)
      rw [show mcell (Ls k) (ms k) 470 = .bool (ms k).done by simp [mcell], hd] at f8
      have hkz : decide ((k : Int) ≥ 1048576) = false := by have := HKN.out; simp; omega
      have hkw : (k : Int) < 1048576 := by have := HKN.out; omega
      have HF := Lib.hid hF
      have HLT := Lib.hid hlt
      clear hk hlt
      clear hST hR hd hF hI hFw
      go_wp2_with (go_at_call 32; refine HST.out.mono ?_; rintro e w1 ⟨rfl, hI1, hF1⟩)
      go_step3
      exact ⟨rfl, RunJ.intro (k + 1) _ _ HLT.out rfl hI1 (HF.out.trans hF1), by have h1 := HLT.out; show K - ((k : Int) + 1).toNat < K - (k : Int).toNat; omega⟩
    · have : k = K := by omega
      subst this
      obtain ⟨hR, hd, hc, hs⟩ := HEND.out w' hI hFw
      have hb := hR.lt
      have f8 := hR.cell 470 (by omega)
      have f1 := hR.cell 416 (by omega)
      have f2 := hR.cell 417 (by omega)
      have f3 := hR.cell 467 (by omega)
      obtain ⟨_, _, _, f4⟩ := hR.reg 0 (by omega)
      simp only [Nat.zero_mul, Nat.add_zero, Nat.reduceAdd] at f4
      rw [show mcell (Ls k) (ms k) 470 = .bool (ms k).done by simp [mcell], hd] at f8
      rw [show mcell (Ls k) (ms k) 416 = (Ls k).ctx by simp [mcell]] at f1
      rw [show mcell (Ls k) (ms k) 417 = .slice none 0 0 by simp [mcell]] at f2
      rw [show mcell (Ls k) (ms k) 467 = (Ls k).sent by simp [mcell]] at f3
      have hfr : ∀ o, w'.frozen? ⟨w.heap.size, o, none⟩ = false := fun o => by
        have h1 := hF.block w.heap.size (by simp) hn0
        have h2 : (w.alloc (.cells infoZero 31)).heap[w.heap.size]? = some (.cells infoZero 31 (0, 0)) := by show (w.heap.push (Obj.cells infoZero 31 (0, 0)))[w.heap.size]? = _; exact Array.getElem?_push_size
        rw [h2] at h1
        simp [World.frozen?, h1]
      have hbx : ∀ o u, infoZero[o]? = some u → w'.cell? ⟨w.heap.size, o, none⟩ = some u := fun o u hu => by
        have h1 := hF.block w.heap.size (by simp) hn0
        have h2 : (w.alloc (.cells infoZero 31)).heap[w.heap.size]? = some (.cells infoZero 31 (0, 0)) := by show (w.heap.push (Obj.cells infoZero 31 (0, 0)))[w.heap.size]? = _; exact Array.getElem?_push_size
        rw [h2] at h1
        simp [World.cell?, h1, hu]
      have b0 := hbx 0 _ rfl
      have b1 := hbx 1 _ rfl
      have b2 := hbx 2 _ rfl
      have b3 := hbx 3 _ rfl
      clear hbx
      have hws : w.heap.size < w'.heap.size := by have := hF.size; simp at this; omega
      have HFw := Lib.hid hFw
      have HF := Lib.hid hF
      have HC := Lib.hid hc
      have HS := Lib.hid hs
      clear hk hlt hR hd hF hFw hI hc hs
      go_wp2_with fail
      go_region_held3 (fun W => W.cell? ⟨b, 426, none⟩ = some (.int .i64 ((ms k).reg 0).x) ∧ W.cell? ⟨b, 416, none⟩ = some (Ls k).ctx ∧ W.cell? ⟨b, 417, none⟩ = some (.slice none 0 0) ∧ W.cell? ⟨b, 467, none⟩ = some (Ls k).sent) (simp [go_sem, *])
        (first
          | (go_at_call 27; refine (clone_bytesAt _ n cx _ ?_ (by have := HNN.out; omega)).mono ?_; (first | exact HC.out | exact HC.out.drewN _); rintro e w1 ⟨v1, rfl, ho1, hF1⟩; obtain ⟨p1, m1, c1, rfl⟩ := owns_slice ho1; (have hkc := fcell hF1); (have hz1 := hF1.size); (try simp [go_sem] at hz1); (have g4 := (hkc.1 b 426 hb).trans f4); (have g1 := (hkc.1 b 416 hb).trans f1); (have g2 := (hkc.1 b 417 hb).trans f2); (have g3 := (hkc.1 b 467 hb).trans f3); (have l0 := (hkc.1 w.heap.size 0 hws).trans b0); (have l1 := (hkc.1 w.heap.size 1 hws).trans b1); (have l2 := (hkc.1 w.heap.size 2 hws).trans b2); (have l3 := (hkc.1 w.heap.size 3 hws).trans b3); (have gf := fun o => (hkc.2 w.heap.size o hws).trans (hfr o)); (have gb : b < w1.heap.size := by omega); (have gw : w.heap.size < w1.heap.size := by omega); clear hkc; (have HF1 := Lib.hid hF1); (have HO1 := Lib.hid ho1); clear hF1 ho1)
          | (go_at_call 28; refine (copies_nil _).mono ?_; rintro e w2 ⟨rfl, rfl⟩)
          | (go_at_call 31; refine (clone_intsAt _ nS sx _ ?_ (by have := HNN.out; omega)).mono ?_; (first | exact HS.out.drew.fr HF1.out | exact (HS.out.drewN _).fr HF1.out); rintro e w3 ⟨v3, rfl, ho3, hF3⟩; obtain ⟨p3, m3, c3, rfl⟩ := owns_slice ho3; (have hkc3 := fcell hF3); (have hz3 := hF3.size); (try simp [go_sem] at hz3); (have k4 := (hkc3.1 b 426 gb).trans g4); (have k1 := (hkc3.1 b 416 gb).trans g1); (have k2 := (hkc3.1 b 417 gb).trans g2); (have k3 := (hkc3.1 b 467 gb).trans g3); (have n0 := (hkc3.1 w.heap.size 0 gw).trans l0); (have n1 := (hkc3.1 w.heap.size 1 gw).trans l1); (have n2 := (hkc3.1 w.heap.size 2 gw).trans l2); (have n3 := (hkc3.1 w.heap.size 3 gw).trans l3); (have kw : w.heap.size < w3.heap.size := by omega); (have kf := fun o => (hkc3.2 w.heap.size o gw).trans (gf o)); clear hkc3; (have HF3 := Lib.hid hF3); (have HO3 := Lib.hid ho3); clear hF3 ho3)
          | fail)
      go_wp2
      simp only [Exit.jump]
      refine bodyPost_ret (v := .tuple #[.agg #[.int .i64 ((ms k).reg 0).x, .slice p1 m1 c1, .slice none 0 0, .slice p3 m3 c3], .int .i64 0]) (by simp [results, Tryz.results20, go_sem, *]) rfl ⟨_, _, rfl, ?_, ?_, ?_⟩
      · have hq : Fr (fun x => x = w.heap.size) w3 _ := ((((Fr.refl (fun x => x = w.heap.size) w3).setCell ⟨w.heap.size, 0, none⟩ (Value.int IntKind.i64 ((ms k).reg 0).x) (.inl rfl)).setCell ⟨w.heap.size, 1, none⟩ (Value.slice p1 m1 c1) (.inl rfl)).setCell ⟨w.heap.size, 2, none⟩ (Value.slice none 0 0) (.inl rfl)).setCell ⟨w.heap.size, 3, none⟩ (Value.slice p3 m3 c3) (.inl rfl)
        exact ownsRow_base (ownsRow_frS (ownsRow_fr HO1.out HF3.out) hq (fun g hg => by simp at hg; omega)) (by simp; omega)
      · have hq : Fr (fun x => x = w.heap.size) w3 _ := ((((Fr.refl (fun x => x = w.heap.size) w3).setCell ⟨w.heap.size, 0, none⟩ (Value.int IntKind.i64 ((ms k).reg 0).x) (.inl rfl)).setCell ⟨w.heap.size, 1, none⟩ (Value.slice p1 m1 c1) (.inl rfl)).setCell ⟨w.heap.size, 2, none⟩ (Value.slice none 0 0) (.inl rfl)).setCell ⟨w.heap.size, 3, none⟩ (Value.slice p3 m3 c3) (.inl rfl)
        exact ownsRow_base (ownsRow_frS HO3.out hq (fun g hg => by omega)) (by omega)
      · have hq : Fr S w w3 := ((HFw.out.drew).ends HF1.out).ends HF3.out
        exact (((hq.setCell _ _ (.inr (Nat.le_refl _))).setCell _ _ (.inr (Nat.le_refl _))).setCell _ _ (.inr (Nat.le_refl _))).setCell _ _ (.inr (Nat.le_refl _))

set_option maxRecDepth 1000000 in
set_option maxHeartbeats 4000000 in
theorem run_trap (b K : Nat) (hK : K < 1048576) (ms : Nat → Mac) (Ls : Nat → Lay) (w : World) (S : Nat → Prop) (hSw : ∀ k, S k → k < w.heap.size) (I : Nat → World → Prop) (hI0 : ∀ o, I 0 (w.alloc o))
    (hrep : ∀ k, k < K → ∀ W, I k W → Fr S w W → RepF W b (mcell (Ls k) (ms k)) ∧ (ms k).done = false)
    (hstep : ∀ k, k < K → ∀ W, I k W → Fr S w W → Calls Tryz.prog 32 #[.pointer (some ⟨b, 0, none⟩)] W fun e w' => e = .returned (.int .i64 0) ∧ I (k + 1) w' ∧ Fr S W w')
    (er : Int) (her : (er != 0) = true) (hend : ∀ W, I K W → Fr S w W → RepF W b (mcell (Ls K) (ms K)) ∧ (ms K).done = false ∧ Calls Tryz.prog 32 #[.pointer (some ⟨b, 0, none⟩)] W fun e w' => e = .returned (.int .i64 er) ∧ Fr S W w') :
    Calls Tryz.prog 20 #[.pointer (some ⟨b, 0, none⟩), .int .i64 1048576] w fun e w' => e = .returned (.tuple #[.agg infoZero, .int .i64 er]) ∧ Fr S w w' := by
  have hn0 : ¬ S w.heap.size := fun h => Nat.lt_irrefl _ (hSw _ h)
  have HI0 := Lib.hid (hI0 (.cells infoZero 31))
  have HREP := Lib.hid hrep
  have HSTEP := Lib.hid hstep
  have HEND := Lib.hid hend
  have HKN := Lib.hid hK
  clear hI0 hrep hstep hend hSw hK
  go_enter Tryz.func20, Tryz.ntmps20
  go_wp2
  refine scope_loop 0 (RunJ I K S w b) (runMu K) rfl ?_ ?_
  · go_wp2
    exact ⟨0, fun _ => undef, Nat.zero_le _, rfl, HI0.out, Fr.refl _ _⟩
  · rintro a' w' ⟨k, u, hk, rfl, hI, hF⟩
    have hFw : Fr S w w' := Fr.trans ((Fr.refl S w).alloc _) hF
    by_cases hlt : k < K
    · obtain ⟨hR, hd⟩ := HREP.out k hlt w' hI hFw
      have hST := HSTEP.out k hlt w' hI hFw
      have HST := Lib.hid hST
      have hb := hR.lt
      have f8 := hR.cell 470 (by omega)
      rw [show mcell (Ls k) (ms k) 470 = .bool (ms k).done by simp [mcell], hd] at f8
      have hkz : decide ((k : Int) ≥ 1048576) = false := by have := HKN.out; simp; omega
      have hkw : (k : Int) < 1048576 := by have := HKN.out; omega
      have HF := Lib.hid hF
      have HLT := Lib.hid hlt
      clear hk hlt
      clear hST hR hd hF hI hFw
      go_wp2_with (go_at_call 32; refine HST.out.mono ?_; rintro e w1 ⟨rfl, hI1, hF1⟩)
      go_step3
      exact ⟨rfl, RunJ.intro (k + 1) _ _ HLT.out rfl hI1 (HF.out.trans hF1), by have h1 := HLT.out; show K - ((k : Int) + 1).toNat < K - (k : Int).toNat; omega⟩
    · have : k = K := by omega
      subst this
      obtain ⟨hR, hd, hST⟩ := HEND.out w' hI hFw
      have HST := Lib.hid hST
      have hb := hR.lt
      have f8 := hR.cell 470 (by omega)
      rw [show mcell (Ls k) (ms k) 470 = .bool (ms k).done by simp [mcell], hd] at f8
      have h1 := hF.block w.heap.size (by simp) hn0
      have h2 : (w.alloc (.cells infoZero 31)).heap[w.heap.size]? = some (.cells infoZero 31 (0, 0)) := by show (w.heap.push (Obj.cells infoZero 31 (0, 0)))[w.heap.size]? = _; exact Array.getElem?_push_size
      rw [h2] at h1
      have hkz : decide ((k : Int) ≥ 1048576) = false := by have := HKN.out; simp; omega
      have hkw : (k : Int) < 1048576 := by have := HKN.out; omega
      have hws : w.heap.size < w'.heap.size := by have := hF.size; simp at this; omega
      have HF := Lib.hid hFw
      have HB := Lib.hid h1
      clear hk hlt h1 h2
      clear hST hR hd hF hI hFw
      go_wp2_with (go_at_call 32; refine HST.out.mono ?_; rintro e w1 ⟨rfl, hF1⟩; (have hB := (hF1.block w.heap.size hws hn0).trans HB.out); (have hfr : ∀ o, w1.frozen? ⟨w.heap.size, o, none⟩ = false := fun o => by simp [World.frozen?, hB]); (have hbx : ∀ o u, infoZero[o]? = some u → w1.cell? ⟨w.heap.size, o, none⟩ = some u := fun o u hu => by simp [World.cell?, hB, hu]); (have b0 := hbx 0 _ rfl); (have b1 := hbx 1 _ rfl); (have b2 := hbx 2 _ rfl); (have b3 := hbx 3 _ rfl); (have hz := hF1.size); (have hws1 : w.heap.size < w1.heap.size := by omega); (have HF1 := Lib.hid hF1); clear hbx hF1 hB)
      simp only [Exit.jump]
      refine bodyPost_ret (v := .tuple #[.agg infoZero, .int .i64 er]) (by simp [results, Tryz.results20, go_sem, infoZero, *]) rfl ⟨rfl, ?_⟩
      exact ((((HF.out.trans HF1.out).setCell _ _ (.inr (Nat.le_refl _))).setCell _ _ (.inr (Nat.le_refl _))).setCell _ _ (.inr (Nat.le_refl _))).setCell _ _ (.inr (Nat.le_refl _))

end Go.Proofs.YtkhbjhmhdlmmfaaGreat
