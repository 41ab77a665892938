/- Walks: the law on sending: the run that sends nothing, SameInts. -/
import Derived.Test.YtkhbjhmhdlmmfaaGreatSg
import Derived.Test.YtkhbjhmhdlmmfaaGreatYb
import Derived.Deep.DeepCutAuto
import Derived.Deep.QuietTactic
import Derived.BigQuiet
namespace Go.Proofs.YtkhbjhmhdlmmfaaGreat
open Go.RowKit

def noneCode : Nat → Ins := codeOf [⟨20, false, false, 0, 0, 0, 0, 0⟩, ⟨39, false, false, 0, 0, 0, 0, 0⟩]
def noneMs : Nat → Mac
  | 0 => macStart 0
  | 1 => Mac.tick ((macStart 0).setReg 0 (.num 0))
  | _ => Mac.leave (Mac.tick ((macStart 0).setReg 0 (.num 0)))

theorem runs_none (g cap : Nat) (w : World) (hc : CodeAt w g 2 noneCode) :
    Calls Tryz.prog 9 #[.slice (some ⟨g, 0, none⟩) 2 cap, .slice none 0 0] w fun e w' => ∃ p1 m1 c1 p3 c3, e = .returned (.tuple #[.agg #[.int .i64 0, .slice p1 m1 c1, .slice none 0 0, .slice p3 0 c3], .int .i64 0]) ∧ Fr (fun _ => False) w w' := by
  refine (runs_ok g 2 cap noneCode (.slice none 0 0) 0 w hc (by omega) (by omega) (fun j hj => ?_) (fun j hj W => ?_) (fun _ => 0) (.inl ⟨rfl, rfl, rfl⟩) (by decide)
    (fun x v s q w' => x = 0 ∧ q = 0 ∧ ∃ p3 c3, s = .slice p3 0 c3) ?_ ?_).mono ?_
  · match j, hj with | 0, _ => rfl | 1, _ => rfl
  · match j, hj with
    | 0, _ => exact right_wide 0 0 (by decide) (by decide) (by decide) W
    | 1, _ => exact right_exit W
  · rintro x v s q w1 w2 h hf
    exact h
  · intro w0 w1 b gc capc gu capu gm cv hlt hN
    obtain ⟨qb, a, E, hS, hC, hlo⟩ := hN.env (by omega)
    have hz := hN.fr.size
    refine (go_send E rfl 2 (by omega) noneMs (fun _ => 0) (fun _ => 0) hS rfl (fun j hj => ?_) rfl (by omega) (fun j hj W hI => ?_) 0 (fun _ => 0) (by omega) hC).mono ?_
    · match j, hj with | 0, _ => rfl | 1, _ => rfl
    · obtain ⟨p, cp, hSt, ho, hW⟩ := hI
      match j, hj with
      | 0, _ =>
        refine (Env.wide (E.sent _) hSt rfl (by show (0 : Nat) + 1 < 2; omega) (by show (0 : Nat) ≤ 1000000; omega) 0 (by decide) 0 rfl).mono ?_
        rintro e w2 ⟨rfl, hS2, hF2⟩
        exact ⟨rfl, ⟨p, cp, hS2, ownsRow_frS ho hF2 (fun g hg hgb => by rcases hgb with hgb | hgb; have := E.lb; omega; have := E.lq _ hgb; omega), Nat.le_trans hW hF2.size⟩, hF2.mono (fun x _ hx => by rcases hx with hx | hx; exact .inl hx; exact .inr (.inl hx))⟩
      | 1, _ =>
        refine (Env.exit (E.sent _) hSt rfl (by show (1 : Nat) < 2; omega) (by show (1 : Nat) ≤ 1000000; omega) rfl rfl).mono ?_
        rintro e w2 ⟨rfl, hS2, hF2⟩
        exact ⟨rfl, ⟨p, cp, hS2, ownsRow_frS ho hF2 (fun g hg hgb => by rcases hgb with hgb | hgb; have := E.lb; omega; have := E.lq _ hgb; omega), Nat.le_trans hW hF2.size⟩, hF2.mono (fun x _ hx => by rcases hx with hx | hx; exact .inl hx; exact .inr (.inl hx))⟩
    · rintro e w' ⟨p1, m1, c1, p3, c3, rfl, ho, hf⟩
      exact ⟨_, p1, m1, c1, p3, _, c3, 0, rfl, ⟨rfl, rfl, p3, c3, rfl⟩, hN.fr.fresh hf hlo⟩
  · rintro e w' ⟨x, p1, m1, c1, p3, m3, c3, q, rfl, ⟨rfl, rfl, p4, c4, hs⟩, hf⟩
    cases hs
    exact ⟨p1, m1, c1, p3, c3, rfl, hf⟩

theorem owns_cells {w : World} {base : Nat} {v : Value} {n : Nat} {f : Nat → Int} (h : w.ownsRow base 3 1 v n (intsL f n)) (hn : 1 ≤ n) : ∃ g c, v = .slice (some ⟨g, 0, none⟩) n c ∧ ∀ j, j < n → w.cell? ⟨g, j, none⟩ = some (.int .i64 (f j)) := by
  obtain ⟨g, c, rfl, _, _, hc⟩ := owns_ints h hn
  exact ⟨g, c, rfl, hc⟩

set_option maxRecDepth 100000 in
set_option maxHeartbeats 2000000 in
theorem sameInts_ok (v v' : Value) (n base base' : Nat) (f : Nat → Int) (w : World) (h : w.ownsRow base 3 1 v n (intsL f n)) (h' : w.ownsRow base' 3 1 v' n (intsL f n)) (hn : (n : Int) ≤ 1000000) :
    Calls Tryz.prog 13 #[v, v'] w fun e w' => e = .returned (.bool true) ∧ Fr (fun _ => False) w w' := by
  by_cases h0 : n = 0
  · subst h0
    obtain ⟨p, c, rfl⟩ := owns_slice_n h
    obtain ⟨p', c', rfl⟩ := owns_slice_n h'
    clear h h'
    go_enter Tryz.func13, Tryz.ntmps13
    go_wp2
    refine wp_loop_rounds 1 ?_
    rw [rounds_succ]
    go_wp2
    go_ret
    exact ⟨rfl, Fr.refl _ _⟩
  · obtain ⟨g, c, rfl, hx⟩ := owns_cells h (by omega)
    obtain ⟨g', c', rfl, hx'⟩ := owns_cells h' (by omega)
    have HX := Lib.hid hx
    have HX' := Lib.hid hx'
    clear h h' hx hx'
    go_enter Tryz.func13, Tryz.ntmps13
    go_wp2
    go_loopw [5] (fun i wr => ∃ k : Nat, k ≤ n ∧ i = .int .i64 k ∧ Fr (fun _ => False) w wr) (fun i _ => n - (match i with | .int _ q => q | _ => 0).toNat)
    case atStart => exact ⟨0, by omega, rfl, Fr.refl _ _⟩
    case round =>
      obtain ⟨k, hk, rfl, hF⟩ := hrel
      by_cases hlt : k < n
      · have c1 := cell_fr (HX.out k hlt) hF (fun h => h)
        have c2 := cell_fr (HX'.out k hlt) hF (fun h => h)
        have HF := Lib.hid hF
        clear hF
        go_wp2_with fail
        go_quiet (fail)
        go_wp2
        refine ⟨⟨k + 1, by omega, rfl, HF.out.drewN _⟩, by simp; omega⟩
      · have : k = n := by omega
        subst this
        go_wp2
        go_ret
        exact ⟨rfl, hF⟩

end Go.Proofs.YtkhbjhmhdlmmfaaGreat
