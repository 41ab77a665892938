/- Runs that send numbers: plain joining. -/
import Derived.Test.YtkhbjhmhdlmmfaaGreatSe
import Derived.Test.YtkhbjhmhdlmmfaaGreatSf
import Derived.Test.YtkhbjhmhdlmmfaaGreatX
import Derived.Test.YtkhbjhmhdlmmfaaGreatS
namespace Go.Proofs.YtkhbjhmhdlmmfaaGreat
open Go.RowKit

/-- what a run that sends may turn -/
def SC (b : Nat) (qb : Option Nat) (base : Nat) : Nat → Prop := fun x => x = b ∨ qb = some x ∨ base ≤ x

section
variable {w0 W : World} {L : Lay} {b : Nat} {qb : Option Nat} {gc capc gu capu n : Nat} {c : Nat → Ins} {m : Mac} {a : Array Value}
theorem Env.sent (E : Env w0 L b qb gc capc gu capu n c) (v : Value) : Env w0 { L with sent := v } b qb gc capc gu capu n c :=
  { code := E.code, units := E.units, cAt := E.cAt, uAt := E.uAt, map := E.map, n1 := E.n1, n2 := E.n2, n3 := E.n3, q0 := E.q0, q1 := E.q1, q2 := E.q2, q3 := E.q3, lb := E.lb, lq := E.lq, hn := E.hn }
theorem Fr.back {w0 W w' : World} {b base : Nat} {qb : Option Nat} (h : Fr (SB b qb) w0 W) (k : Fr (SC b qb base) W w') (hb : w0.heap.size ≤ base) : Fr (SB b qb) w0 w' := by
  have h1 : Fr (SC b qb base) w0 W := h.mono (fun x _ hx => by rcases hx with hx | hx; exact .inl hx; exact .inr (.inl hx))
  exact (h1.trans k).mono (fun x hx hs => by
    rcases hs with hs | hs | hs
    · exact .inl hs
    · exact .inr hs
    · omega)

theorem Env.emit (E : Env w0 L b qb gc capc gu capu n c) (h : Stands w0 W L b qb m a) (hdone : m.done = false) (hpc : m.pc + 1 < n) (hst : m.steps ≤ 1000000) (hi : c m.pc = ⟨38, false, false, 0, 0, 0, 0, 6⟩)
    (p : Option Addr) (nS cp base : Nat) (sx : Nat → Int) (v : Int) (hL : L.sent = .slice p nS cp) (ho : W.ownsRow base 3 1 (.slice p nS cp) nS (intsL sx nS)) (hb : w0.heap.size ≤ base) (hbw : base ≤ W.heap.size) (h1 : m.reg 1 = .num v) (hv : sx nS = v) (hn : nS < 64) :
    Calls Tryz.prog 32 #[.pointer (some ⟨b, 0, none⟩)] W fun e w' => e = .returned (.int .i64 0) ∧ ∃ p2 c2, Stands w0 w' { L with sent := .slice p2 (nS + 1) c2 } b qb (Mac.tick (m.called (.num 0))) a ∧ w'.ownsRow base 3 1 (.slice p2 (nS + 1) c2) (nS + 1) (intsL sx (nS + 1)) ∧ base ≤ w'.heap.size ∧ Fr (SC b qb base) W w' := by
  have hnn := E.hn
  have hc := (E.cAt.fr h.fr E.sgc) m.pc (by omega)
  rw [hi] at hc
  have hlb := E.lb
  have hbb : b < base := by omega
  have hlt := ho.lt
  have hS : ∀ x, (x = b ∨ (Value.slice p nS cp).ownBlock = some x) → x < W.heap.size := by
    rintro x (rfl | hx)
    · exact h.rep.lt
    · exact (hlt x hx).2
  have hgc : gc < w0.heap.size := World.block_lt_of_cell? _ _ ((E.cAt m.pc (by omega)).1)
  have hgu : gu < w0.heap.size := World.block_lt_of_cell? _ _ (E.uAt 0 (by omega))
  have hgm : L.beg < w0.heap.size := (Array.getElem?_eq_some_iff.1 E.map).1
  have hSu : ¬ (gu = b ∨ (Value.slice p nS cp).ownBlock = some gu) := by
    rintro (hx | hx)
    · exact E.n2 hx
    · have := (hlt _ hx).1; omega
  have hSb : ¬ (L.beg = b ∨ (Value.slice p nS cp).ownBlock = some L.beg) := by
    rintro (hx | hx)
    · exact E.n3 hx
    · have := (hlt _ hx).1; omega
  have hqS : ∀ x, qb = some x → ¬ (x = b ∨ (Value.slice p nS cp).ownBlock = some x) := by
    rintro x hq (hx | hx)
    · exact E.qne x hq hx
    · have := (hlt _ hx).1; have := E.lq x hq; omega
  refine (step_call b L m (m.called (.num 0)) W (fun x => x = b ∨ (Value.slice p nS cp).ownBlock = some x) hS h.rep hdone ⟨38, false, false, 0, 0, 0, 0, 6⟩ n gc capc gu capu (unitsOf c) E.code hc (by rw [beq_eq_false_iff_ne]; omega) (by omega) E.units (cell_fr (E.uAt (m.pc + 1) (by omega)) h.fr E.sgu) (by have := unitsOf_bound c (m.pc + 1); omega) (fun x hx => by have := unitsOf_lt c x (m.pc + 1) hx; omega) (heap_fr E.map h.fr E.sgm) hSu hSb hpc (by omega)
    (fun L' w' => ∃ p2 c2, L' = { L with sent := .slice p2 (nS + 1) c2 } ∧ w'.ownsRow base 3 1 (.slice p2 (nS + 1) c2) (nS + 1) (intsL sx (nS + 1)) ∧ CtxIs w' qb a)
    (fun L' w1 w2 ⟨p2, c2, e, ho2, hx⟩ hf => ⟨p2, c2, e, ownsRow_frS ho2 hf (fun g hg hgb => by omega), hx.fr hf (fun x hx => E.qne x hx)⟩) (by omega) (.inl rfl)
    (fun W' hR hF => ?_) rfl rfl hdone).mono ?_
  · have hz := hF.size
    refine (call_emit b L m v nS sx base W' false false 0 0 0 0 hR h1 p cp hL (ownsRow_fr ho hF) hbb (by omega) hn hv).mono ?_
    rintro e w1 ⟨rfl, p2, c2, ho2, hR2, hF2⟩
    exact ⟨{ L with sent := .slice p2 (nS + 1) c2 }, rfl, rfl, rfl, hR2, ⟨p2, c2, rfl, ho2, (h.ctx.fr hF (fun _ _ h => h)).fr hF2 hqS⟩, hF2⟩
  · rintro e w1 ⟨L', rfl, hR, ⟨p2, c2, rfl, ho2, hx⟩, hF⟩
    have hF' : Fr (SC b qb base) W w1 := hF.mono (fun x _ hs => by
      rcases hs with hs | hs
      · exact .inl hs
      · exact .inr (.inr (hlt x hs).1))
    exact ⟨rfl, p2, c2, ⟨hR, hx, h.fr.back hF' hb⟩, ho2, Nat.le_trans hbw hF.size, hF'⟩

theorem Env.full (E : Env w0 L b qb gc capc gu capu n c) (h : Stands w0 W L b qb m a) (hdone : m.done = false) (hpc : m.pc + 1 < n) (hst : m.steps ≤ 1000000) (hi : c m.pc = ⟨38, false, false, 0, 0, 0, 0, 6⟩)
    (p : Option Addr) (nS cp : Nat) (v : Int) (hL : L.sent = .slice p nS cp) (h1 : m.reg 1 = .num v) (hn : 64 ≤ nS) :
    Calls Tryz.prog 32 #[.pointer (some ⟨b, 0, none⟩)] W fun e w' => e = .returned (.int .i64 0) ∧ Stands w0 w' L b qb (Mac.tick (m.called (.num (-1)))) a ∧ Fr (SB b qb) W w' := by
  have hnn := E.hn
  have hc := (E.cAt.fr h.fr E.sgc) m.pc (by omega)
  rw [hi] at hc
  refine (step_call b L m (m.called (.num (-1))) W (SB b qb) (E.sw h) h.rep hdone ⟨38, false, false, 0, 0, 0, 0, 6⟩ n gc capc gu capu (unitsOf c) E.code hc (by rw [beq_eq_false_iff_ne]; omega) (by omega) E.units (cell_fr (E.uAt (m.pc + 1) (by omega)) h.fr E.sgu) (by have := unitsOf_bound c (m.pc + 1); omega) (fun x hx => by have := unitsOf_lt c x (m.pc + 1) hx; omega) (heap_fr E.map h.fr E.sgm) E.sgu E.sgm hpc (by omega)
    (fun L' w' => L' = L ∧ CtxIs w' qb a)
    (fun L' w1 w2 ⟨e, hx⟩ hf => ⟨e, hx.fr hf (fun x hx => E.qne x hx)⟩) (by omega) (.inl rfl)
    (fun W' hR hF => ?_) rfl rfl hdone).mono ?_
  · refine (call_full b L m v nS W' false false 0 0 0 0 hR h1 p cp hL hn).mono ?_
    rintro e w1 ⟨rfl, hR2, hF2⟩
    exact ⟨L, rfl, rfl, rfl, hR2, ⟨rfl, (h.ctx.fr hF (fun _ _ h => h)).fr hF2 (fun x hx => E.qne x hx)⟩, hF2.mono (fun x _ hx => .inl hx)⟩
  · rintro e w1 ⟨L', rfl, hR, ⟨rfl, hx⟩, hF⟩
    exact ⟨rfl, ⟨hR, hx, h.fr.trans hF⟩, hF⟩

/-- how a run stands that has sent nS numbers -/
def SendI (w0 : World) (L : Lay) (b : Nat) (qb : Option Nat) (a : Array Value) (sx : Nat → Int) (m : Mac) (nS : Nat) (W : World) : Prop :=
  ∃ p cp, Stands w0 W { L with sent := .slice p nS cp } b qb m a ∧ W.ownsRow (w0.heap.size + 1) 3 1 (.slice p nS cp) nS (intsL sx nS) ∧ w0.heap.size + 1 ≤ W.heap.size

theorem owns_rowInts {w : World} {base : Nat} {v : Value} {n : Nat} {f : Nat → Int} (h : w.ownsRow base 3 1 v n (intsL f n)) : RowAt w v n (intsL f n) := by
  rcases h.2 with ⟨rfl, rfl⟩ | ⟨g, cap, cur, rfl, hb, hg, hnc, hm, hcs, htake⟩
  · exact .inl ⟨rfl, rfl, rfl⟩
  · exact .inr ⟨_, _, rfl, fun j u hu => h.cells rfl j u hu⟩

/-- a run that sends -/
theorem go_send (E : Env w0 L b qb gc capc gu capu n c) (hsent : L.sent = .slice none 0 0) (K : Nat) (hK : K < 1048576) (ms : Nat → Mac) (ns : Nat → Nat) (sx : Nat → Int) (h0 : Stands w0 w0 L b qb (ms 0) a) (hn0 : ns 0 = 0)
    (hd : ∀ k, k < K → (ms k).done = false) (hdK : (ms K).done = true) (hnK : ns K ≤ 1000000)
    (hstep : ∀ k, k < K → ∀ W, SendI w0 L b qb a sx (ms k) (ns k) W → Calls Tryz.prog 32 #[.pointer (some ⟨b, 0, none⟩)] W fun e w' => e = .returned (.int .i64 0) ∧ SendI w0 L b qb a sx (ms (k + 1)) (ns (k + 1)) w' ∧ Fr (SC b qb (w0.heap.size + 1)) W w')
    (m : Nat) (cx : Nat → Int) (hm : m ≤ 1000000) (hcx : CtxV L.ctx qb a m cx) :
    Calls Tryz.prog 20 #[.pointer (some ⟨b, 0, none⟩), .int .i64 1048576] w0 fun e w' => ∃ p1 m1 c1 p3 c3, e = .returned (.tuple #[.agg #[.int .i64 ((ms K).reg 0).x, .slice p1 m1 c1, .slice none 0 0, .slice p3 (ns K) c3], .int .i64 0]) ∧
      w'.ownsRow w0.heap.size 3 1 (.slice p3 (ns K) c3) (ns K) (intsL sx (ns K)) ∧ Fr (SB b qb) w0 w' := by
  have hlb := E.lb
  refine (run_done2 b K hK ms w0 (SC b qb (w0.heap.size + 1)) ?_ (fun k W => SendI w0 L b qb a sx (ms k) (ns k) W) (fun o => ?_) (fun k hk W hI _ => ?_) (fun k hk W hI _ => hstep k hk W hI) m cx (ns K) sx hm hnK (fun W hI _ => ?_)).mono ?_
  · rintro (h | h | h)
    · omega
    · have := E.lq _ h; omega
    · omega
  · rw [hn0]
    refine ⟨none, 0, ?_, ?_, by simp⟩
    · have := h0.alloc o
      have e : ({ L with sent := .slice none 0 0 } : Lay) = L := by rw [← hsent]
      rw [e]
      exact this
    · exact World.ownsRow_nil _ _ 3 1
  · obtain ⟨p, cp, hS, _⟩ := hI
    exact ⟨_, hS.rep, hd k hk⟩
  · obtain ⟨p, cp, hS, ho, _⟩ := hI
    exact ⟨_, hS.rep, hdK, hcx.row hS.ctx, owns_rowInts ho⟩
  · rintro e w' ⟨v, s, rfl, hv, hs, hf⟩
    obtain ⟨p1, m1, c1, rfl⟩ := owns_slice hv
    obtain ⟨p3, c3, rfl⟩ := owns_slice_n hs
    exact ⟨p1, m1, c1, p3, c3, rfl, hs, (Fr.refl _ _).back hf (by omega)⟩
end


/-- the program that sends sx 0 .. sx (k - 1) -/
def sendCode (sx : Nat → Int) (k : Nat) (j : Nat) : Ins :=
  if j = 2 * k then ⟨39, false, false, 0, 0, 0, 0, 0⟩ else if j % 2 = 0 then ⟨20, false, false, 0, 1, 0, 0, sx (j / 2)⟩ else ⟨38, false, false, 0, 0, 0, 0, 6⟩
def sendMs (sx : Nat → Int) (k : Nat) : Nat → Mac
  | 0 => macStart 0
  | j + 1 => if j = 2 * k then Mac.leave (sendMs sx k j) else if j % 2 = 0 then Mac.tick ((sendMs sx k j).setReg 1 (.num (sx (j / 2)))) else Mac.tick ((sendMs sx k j).called (.num (if j / 2 < 64 then 0 else -1)))
theorem sendMs_at (sx : Nat → Int) (k : Nat) : ∀ j, j ≤ 2 * k → (sendMs sx k j).pc = j ∧ (sendMs sx k j).steps = j ∧ (sendMs sx k j).done = false := by
  intro j
  induction j with
  | zero => intro _; exact ⟨rfl, rfl, rfl⟩
  | succ j ih =>
    intro hj
    obtain ⟨h1, h2, h3⟩ := ih (by omega)
    rw [sendMs, if_neg (by omega)]
    split
    · exact ⟨by show (sendMs sx k j).pc + 1 = _; rw [h1], by show (sendMs sx k j).steps + 1 = _; rw [h2], h3⟩
    · exact ⟨by show (sendMs sx k j).pc + 1 = _; rw [h1], by show (sendMs sx k j).steps + 1 = _; rw [h2], h3⟩
theorem called_reg0 (m : Mac) (v : Val) : (m.called v).reg 0 = v := rfl
theorem sendMs_even (sx : Nat → Int) (k i : Nat) (hi : i < k) : sendMs sx k (2 * i + 1) = Mac.tick ((sendMs sx k (2 * i)).setReg 1 (.num (sx i))) := by
  rw [sendMs, if_neg (by omega), if_pos (by omega), show 2 * i / 2 = i by omega]
theorem sendMs_odd (sx : Nat → Int) (k i : Nat) (_hi : i < k) : sendMs sx k (2 * i + 1 + 1) = Mac.tick ((sendMs sx k (2 * i + 1)).called (.num (if i < 64 then 0 else -1))) := by
  rw [sendMs, if_neg (by omega), if_neg (by omega), show (2 * i + 1) / 2 = i by omega]
theorem sendMs_last (sx : Nat → Int) (k : Nat) (hk : 1 ≤ k) : (sendMs sx k (2 * k)).reg 0 = .num (if 64 < k then -1 else 0) := by
  obtain ⟨i, rfl⟩ : ∃ i, k = i + 1 := ⟨k - 1, by omega⟩
  rw [show 2 * (i + 1) = 2 * i + 1 + 1 by omega, sendMs_odd sx (i + 1) i (by omega)]
  show Val.num (if i < 64 then 0 else -1) = _
  by_cases h : i < 64
  · rw [if_pos h, if_neg (by omega)]
  · rw [if_neg h, if_pos (by omega)]
def sentOf (j : Nat) : Nat := if j / 2 < 64 then j / 2 else 64

theorem runs_send (first : Nat → Int) (k : Nat) (hk : k < 80) (hk1 : 1 ≤ k) (g cap : Nat) (w : World) (hc : CodeAt w g (2 * k + 1) (sendCode first k)) :
    Calls Tryz.prog 9 #[.slice (some ⟨g, 0, none⟩) (2 * k + 1) cap, .slice none 0 0] w fun e w' => ∃ p1 m1 c1 p3 c3, e = .returned (.tuple #[.agg #[.int .i64 (if 64 < k then -1 else 0), .slice p1 m1 c1, .slice none 0 0, .slice p3 (sentOf (2 * k)) c3], .int .i64 0]) ∧ w'.ownsRow (w.heap.size + 1) 3 1 (.slice p3 (sentOf (2 * k)) c3) (sentOf (2 * k)) (intsL first (sentOf (2 * k))) ∧ Fr (fun _ => False) w w' := by
  refine (runs_ok g (2 * k + 1) cap (sendCode first k) (.slice none 0 0) 0 w hc (by omega) (by omega) (fun j hj => ?_) (fun j hj W => ?_) (fun _ => 0) (.inl ⟨rfl, rfl, rfl⟩) (by decide)
    (fun x v s q w' => x = (if 64 < k then -1 else 0) ∧ q = 0 ∧ ∃ p3 c3, s = .slice p3 (sentOf (2 * k)) c3 ∧ w'.ownsRow (w.heap.size + 1) 3 1 s (sentOf (2 * k)) (intsL first (sentOf (2 * k)))) ?_ ?_).mono ?_
  · unfold sendCode
    split
    · rfl
    · split <;> rfl
  · unfold sendCode
    split
    · exact right_exit W
    · split
      · exact right_wide 1 _ (by decide) (by decide) (by decide) W
      · exact right_call 6 (by decide) (by decide) W
  · rintro x v s q w1 w2 ⟨rfl, rfl, p3, c3, rfl, ho⟩ hf
    exact ⟨rfl, rfl, p3, c3, rfl, ownsRow_frS ho hf (fun g hg h => by omega)⟩
  · intro w0 w1 b gc capc gu capu gm cv hlt hN
    obtain ⟨qb, a, E, hS, hC, hlo⟩ := hN.env (by omega)
    have hz := hN.fr.size
    refine (go_send E rfl (2 * k + 1) (by omega) (sendMs first k) (fun j => sentOf j) first hS rfl (fun j hj => (sendMs_at first k j (by omega)).2.2) ?_ ?_ (fun j hj W hI => ?_) 0 (fun _ => 0) (by omega) hC).mono ?_
    · show (sendMs first k (2 * k + 1)).done = true
      rw [sendMs, if_pos rfl]; rfl
    · show sentOf (2 * k + 1) ≤ 1000000
      unfold sentOf; split <;> omega
    · obtain ⟨p, cp, hSt, ho, hW⟩ := hI
      by_cases he : j = 2 * k
      · subst he
        obtain ⟨e1, e2, e3⟩ := sendMs_at first k (2 * k) (Nat.le_refl _)
        have hn : sentOf (2 * k + 1) = sentOf (2 * k) := by unfold sentOf; rw [show (2 * k + 1) / 2 = 2 * k / 2 by omega]
        have hm : sendMs first k (2 * k + 1) = Mac.leave (sendMs first k (2 * k)) := by rw [sendMs, if_pos rfl]
        show Calls Tryz.prog 32 _ W fun e w' => e = _ ∧ SendI w1 _ b qb a first (sendMs first k (2 * k + 1)) (sentOf (2 * k + 1)) w' ∧ _
        rw [hn, hm]
        refine (Env.exit (E.sent _) hSt e3 (by omega) (by omega) (by rw [sendMs_last first k hk1]; rfl) (by rw [e1]; unfold sendCode; rw [if_pos rfl])).mono ?_
        rintro e w2 ⟨rfl, hS2, hF2⟩
        exact ⟨rfl, ⟨p, cp, hS2, ownsRow_frS ho hF2 (fun g hg hgb => by rcases hgb with hgb | hgb; have := E.lb; omega; have := E.lq _ hgb; omega), Nat.le_trans hW hF2.size⟩, hF2.mono (fun x _ hx => by rcases hx with hx | hx; exact .inl hx; exact .inr (.inl hx))⟩
      · obtain ⟨e1, e2, e3⟩ := sendMs_at first k j (by omega)
        by_cases hp : j % 2 = 0
        · obtain ⟨i, rfl⟩ : ∃ i, j = 2 * i := ⟨j / 2, by omega⟩
          have hn : sentOf (2 * i + 1) = sentOf (2 * i) := by unfold sentOf; rw [show (2 * i + 1) / 2 = 2 * i / 2 by omega]
          show Calls Tryz.prog 32 _ W fun e w' => e = _ ∧ SendI w1 _ b qb a first (sendMs first k (2 * i + 1)) (sentOf (2 * i + 1)) w' ∧ _
          rw [hn, sendMs_even first k i (by omega)]
          refine (Env.wide (E.sent _) hSt e3 (by omega) (by omega) 1 (by decide) (first i) (by rw [e1]; unfold sendCode; rw [if_neg he, if_pos hp, show 2 * i / 2 = i by omega]; rfl)).mono ?_
          rintro e w2 ⟨rfl, hS2, hF2⟩
          exact ⟨rfl, ⟨p, cp, hS2, ownsRow_frS ho hF2 (fun g hg hgb => by rcases hgb with hgb | hgb; have := E.lb; omega; have := E.lq _ hgb; omega), Nat.le_trans hW hF2.size⟩, hF2.mono (fun x _ hx => by rcases hx with hx | hx; exact .inl hx; exact .inr (.inl hx))⟩
        · obtain ⟨i, rfl⟩ : ∃ i, j = 2 * i + 1 := ⟨j / 2, by omega⟩
          have hr1 : (sendMs first k (2 * i + 1)).reg 1 = .num (first i) := by rw [sendMs_even first k i (by omega)]; rfl
          have hci : sendCode first k (sendMs first k (2 * i + 1)).pc = ⟨38, false, false, 0, 0, 0, 0, 6⟩ := by rw [e1]; unfold sendCode; rw [if_neg he, if_neg hp]
          show Calls Tryz.prog 32 _ W fun e w' => e = _ ∧ SendI w1 _ b qb a first (sendMs first k (2 * i + 1 + 1)) (sentOf (2 * i + 1 + 1)) w' ∧ _
          rw [sendMs_odd first k i (by omega)]
          by_cases h64 : i < 64
          · have hn : sentOf (2 * i + 1) = i := by unfold sentOf; rw [show (2 * i + 1) / 2 = i by omega, if_pos h64]
            have hn1 : sentOf (2 * i + 1 + 1) = i + 1 := by unfold sentOf; rw [show (2 * i + 1 + 1) / 2 = i + 1 by omega]; split <;> omega
            rw [hn1, if_pos h64]
            simp only [hn] at hSt ho
            refine (Env.emit (E.sent _) hSt e3 (by omega) (by omega) hci p i cp (w1.heap.size + 1) first (first i) rfl ho (by omega) hW hr1 rfl h64).mono ?_
            rintro e w2 ⟨rfl, p2, c2, hS2, ho2, hb2, hF2⟩
            exact ⟨rfl, ⟨p2, c2, hS2, ho2, hb2⟩, hF2⟩
          · have hn : sentOf (2 * i + 1) = 64 := by unfold sentOf; rw [show (2 * i + 1) / 2 = i by omega, if_neg h64]
            have hn1 : sentOf (2 * i + 1 + 1) = 64 := by unfold sentOf; rw [show (2 * i + 1 + 1) / 2 = i + 1 by omega]; split <;> omega
            rw [hn1, if_neg h64]
            simp only [hn] at hSt ho
            refine (Env.full (E.sent _) hSt e3 (by omega) (by omega) hci p 64 cp (first i) rfl hr1 (by omega)).mono ?_
            rintro e w2 ⟨rfl, hS2, hF2⟩
            exact ⟨rfl, ⟨p, cp, hS2, ownsRow_frS ho hF2 (fun g hg hgb => by rcases hgb with hgb | hgb; have := E.lb; omega; have := E.lq _ hgb; omega), Nat.le_trans hW hF2.size⟩, hF2.mono (fun x _ hx => by rcases hx with hx | hx; exact .inl hx; exact .inr (.inl hx))⟩
    · rintro e w' ⟨p1, m1, c1, p3, c3, rfl, ho, hf⟩
      have hn : sentOf (2 * k + 1) = sentOf (2 * k) := by unfold sentOf; rw [show (2 * k + 1) / 2 = 2 * k / 2 by omega]
      have hm : sendMs first k (2 * k + 1) = Mac.leave (sendMs first k (2 * k)) := by rw [sendMs, if_pos rfl]
      have hx : ((sendMs first k (2 * k + 1)).reg 0).x = if 64 < k then -1 else 0 := by
        rw [hm]
        show ((sendMs first k (2 * k)).reg 0).x = _
        rw [sendMs_last first k hk1]; rfl
      simp only [hn] at ho
      rw [hx, hn]
      exact ⟨_, p1, m1, c1, p3, _, c3, 0, rfl, ⟨rfl, rfl, p3, c3, rfl, ownsRow_base ho (by omega)⟩, hN.fr.fresh hf hlo⟩
  · rintro e w' ⟨x, p1, m1, c1, p3, m3, c3, q, rfl, ⟨rfl, rfl, p4, c4, hs, ho⟩, hf⟩
    cases hs
    exact ⟨p1, m1, c1, p3, c3, rfl, ho, hf⟩

end Go.Proofs.YtkhbjhmhdlmmfaaGreat
