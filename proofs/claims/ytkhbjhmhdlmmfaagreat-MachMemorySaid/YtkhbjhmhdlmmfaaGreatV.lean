/- The steps of a run over the places that New has laid: plain joining of the walks. -/
import Derived.Test.YtkhbjhmhdlmmfaaGreatU
import Derived.Test.YtkhbjhmhdlmmfaaGreatC
import Derived.Test.YtkhbjhmhdlmmfaaGreatD
import Derived.Test.YtkhbjhmhdlmmfaaGreatE
import Derived.Test.YtkhbjhmhdlmmfaaGreatJ
import Derived.Test.YtkhbjhmhdlmmfaaGreatP
import Derived.Test.YtkhbjhmhdlmmfaaGreatKa
import Derived.Test.YtkhbjhmhdlmmfaaGreatKb
import Derived.Test.YtkhbjhmhdlmmfaaGreatKc
namespace Go.Proofs.YtkhbjhmhdlmmfaaGreat
open Go.RowKit

/-- the block of the context, where there is one, and its cells -/
def CtxIs (w : World) (qb : Option Nat) (a : Array Value) : Prop := ∀ bc, qb = some bc → w.heap[bc]? = some (.cells a 5 (0, 0))
/-- what a run may turn -/
def SB (b : Nat) (qb : Option Nat) : Nat → Prop := fun x => x = b ∨ qb = some x
theorem CtxIs.fr {S : Nat → Prop} {w w' : World} {qb : Option Nat} {a : Array Value} (h : CtxIs w qb a) (hf : Fr S w w') (hS : ∀ x, qb = some x → ¬ S x) : CtxIs w' qb a :=
  fun bc hb => heap_fr (h bc hb) hf (hS bc hb)

structure Env (w0 : World) (L : Lay) (b : Nat) (qb : Option Nat) (gc capc gu capu n : Nat) (c : Nat → Ins) : Prop where
  code : L.code = .slice (some ⟨gc, 0, none⟩) n capc
  units : L.units = .slice (some ⟨gu, 0, none⟩) (n + 1) capu
  cAt : CodeAt w0 gc n c
  uAt : ∀ j, j < n + 1 → w0.cell? ⟨gu, j, none⟩ = some (.int .i64 (unitsOf c j))
  map : w0.heap[L.beg]? = some (.map (mapArr (unitsOf c) n) n)
  n1 : gc ≠ b
  n2 : gu ≠ b
  n3 : L.beg ≠ b
  q0 : qb ≠ some b
  q1 : qb ≠ some gc
  q2 : qb ≠ some gu
  q3 : qb ≠ some L.beg
  lb : b < w0.heap.size
  lq : ∀ x, qb = some x → x < w0.heap.size
  hn : (n : Int) ≤ 4096
/-- how the run stands in the world W -/
structure Stands (w0 W : World) (L : Lay) (b : Nat) (qb : Option Nat) (m : Mac) (a : Array Value) : Prop where
  rep : RepF W b (mcell L m)
  ctx : CtxIs W qb a
  fr : Fr (SB b qb) w0 W
def Mac.tick (m : Mac) : Mac := { m with pc := m.pc + 1, steps := m.steps + 1 }
def Mac.leave (m : Mac) : Mac := { m with done := true, steps := m.steps + 1 }

theorem puts_same (m : Mac) (a : Nat) (y : Nat → Int) (k : Nat) : (m.puts a y k).pc = m.pc ∧ (m.puts a y k).steps = m.steps ∧ (m.puts a y k).done = m.done := by
  induction k with
  | zero => exact ⟨rfl, rfl, rfl⟩
  | succ k ih =>
    rw [← ih.1, ← ih.2.1, ← ih.2.2]
    show ((m.puts a y k).put (a + k) (y k)).pc = _ ∧ ((m.puts a y k).put (a + k) (y k)).steps = _ ∧ ((m.puts a y k).put (a + k) (y k)).done = _
    unfold Mac.put
    split <;> exact ⟨rfl, rfl, rfl⟩
theorem puts_reg (m : Mac) (a : Nat) (y : Nat → Int) (k : Nat) : (m.puts a y k).reg = m.reg := by
  induction k with
  | zero => rfl
  | succ k ih =>
    rw [← ih]
    show ((m.puts a y k).put (a + k) (y k)).reg = _
    unfold Mac.put
    split <;> rfl

section
variable {w0 W : World} {L : Lay} {b : Nat} {qb : Option Nat} {gc capc gu capu n : Nat} {c : Nat → Ins} {m : Mac} {a : Array Value}
theorem Env.sw (E : Env w0 L b qb gc capc gu capu n c) (h : Stands w0 W L b qb m a) : ∀ k, SB b qb k → k < W.heap.size := by
  intro k hk
  have := h.fr.size
  rcases hk with rfl | hk
  · have := E.lb; omega
  · have := E.lq k hk; omega
theorem Env.sgc (E : Env w0 L b qb gc capc gu capu n c) : ¬ SB b qb gc := by
  rintro (h | h)
  · exact E.n1 h
  · exact E.q1 h
theorem Env.sgu (E : Env w0 L b qb gc capc gu capu n c) : ¬ SB b qb gu := by
  rintro (h | h)
  · exact E.n2 h
  · exact E.q2 h
theorem Env.sgm (E : Env w0 L b qb gc capc gu capu n c) : ¬ SB b qb L.beg := by
  rintro (h | h)
  · exact E.n3 h
  · exact E.q3 h
theorem Env.qne (E : Env w0 L b qb gc capc gu capu n c) : ∀ x, qb = some x → x ≠ b := by
  rintro x hx rfl
  exact E.q0 hx

theorem Env.ok40 (E : Env w0 L b qb gc capc gu capu n c) (h : Stands w0 W L b qb m a) (hdone : m.done = false) (hpc : m.pc + 1 < n) (hst : m.steps ≤ 1000000) (ho0 : (c m.pc).op ≤ 15) (m' : Mac) (a' : Array Value) (h1 : m'.pc = m.pc) (h2 : m'.steps = m.steps) (h3 : m'.done = false)
    (hdo : ∀ W', RepF W' b (mcell L m) → CtxIs W' qb a → Calls Tryz.prog 40 #[.pointer (some ⟨b, 0, none⟩), (c m.pc).agg] W' fun e w' => e = .returned (.tuple #[.int .i64 0, .int .i64 0]) ∧ RepF w' b (mcell L m') ∧ CtxIs w' qb a' ∧ Fr (SB b qb) W' w') :
    Calls Tryz.prog 32 #[.pointer (some ⟨b, 0, none⟩)] W fun e w' => e = .returned (.int .i64 0) ∧ Stands w0 w' L b qb (m'.tick) a' ∧ Fr (SB b qb) W w' := by
  have hn := E.hn
  have hc := (E.cAt.fr h.fr E.sgc) m.pc (by omega)
  refine (step_ok_40 b L m m' W (SB b qb) (E.sw h) h.rep hdone (c m.pc) n gc capc gu capu (unitsOf c) E.code hc ho0 (by simp; omega) (by simp; omega) (by rw [beq_eq_false_iff_ne]; omega) (by omega) E.units (cell_fr (E.uAt (m.pc + 1) (by omega)) h.fr E.sgu) (by have := unitsOf_bound c (m.pc + 1); omega) (fun x hx => by have := unitsOf_lt c x (m.pc + 1) hx; omega) (heap_fr E.map h.fr E.sgm) E.sgu E.sgm hpc (by omega) (fun w => CtxIs w qb a') (fun w1 w2 hx hf => hx.fr hf (fun x hx => E.qne x hx)) (by omega) (.inl rfl) (fun W' hR hF => hdo W' hR (h.ctx.fr hF (fun _ _ h => h))) h1 h2 h3).mono ?_
  rintro e w1 ⟨rfl, hR, hX, hF⟩
  rw [← h1, ← h2] at hR
  exact ⟨rfl, ⟨hR, hX, h.fr.trans hF⟩, hF⟩


theorem Env.ok42 (E : Env w0 L b qb gc capc gu capu n c) (h : Stands w0 W L b qb m a) (hdone : m.done = false) (hpc : m.pc + 1 < n) (hst : m.steps ≤ 1000000) (hop : (c m.pc).op = 20) (m' : Mac) (a' : Array Value) (h1 : m'.pc = m.pc) (h2 : m'.steps = m.steps) (h3 : m'.done = false)
    (hdo : ∀ W', RepF W' b (mcell L m) → CtxIs W' qb a → Calls Tryz.prog 42 #[.pointer (some ⟨b, 0, none⟩), (c m.pc).agg] W' fun e w' => e = .returned (.tuple #[.int .i64 0, .int .i64 0]) ∧ RepF w' b (mcell L m') ∧ CtxIs w' qb a' ∧ Fr (SB b qb) W' w') :
    Calls Tryz.prog 32 #[.pointer (some ⟨b, 0, none⟩)] W fun e w' => e = .returned (.int .i64 0) ∧ Stands w0 w' L b qb (m'.tick) a' ∧ Fr (SB b qb) W w' := by
  have hn := E.hn
  have hc := (E.cAt.fr h.fr E.sgc) m.pc (by omega)
  rw [hop] at hc
  have hag : (c m.pc).agg = .agg #[.int .i64 20, .bool (c m.pc).nar, .bool (c m.pc).reg, .int .i64 (c m.pc).size, .int .i64 (c m.pc).dst, .int .i64 (c m.pc).src, .int .i64 (c m.pc).off, .int .i64 (c m.pc).imm] := by rw [Ins.agg, hop]
  rw [hag] at hdo
  refine (step_ok_42 b L m m' W (SB b qb) (E.sw h) h.rep hdone (c m.pc) n gc capc gu capu (unitsOf c) E.code hc (by rw [beq_eq_false_iff_ne]; omega) (by omega) E.units (cell_fr (E.uAt (m.pc + 1) (by omega)) h.fr E.sgu) (by have := unitsOf_bound c (m.pc + 1); omega) (fun x hx => by have := unitsOf_lt c x (m.pc + 1) hx; omega) (heap_fr E.map h.fr E.sgm) E.sgu E.sgm hpc (by omega) (fun w => CtxIs w qb a') (fun w1 w2 hx hf => hx.fr hf (fun x hx => E.qne x hx)) (by omega) (.inl rfl) (fun W' hR hF => hdo W' hR (h.ctx.fr hF (fun _ _ h => h))) h1 h2 h3).mono ?_
  rintro e w1 ⟨rfl, hR, hX, hF⟩
  rw [← h1, ← h2] at hR
  exact ⟨rfl, ⟨hR, hX, h.fr.trans hF⟩, hF⟩


theorem Env.ok43 (E : Env w0 L b qb gc capc gu capu n c) (h : Stands w0 W L b qb m a) (hdone : m.done = false) (hpc : m.pc + 1 < n) (hst : m.steps ≤ 1000000) (ho0 : 22 ≤ (c m.pc).op) (ho00 : (c m.pc).op ≤ 23) (m' : Mac) (a' : Array Value) (h1 : m'.pc = m.pc) (h2 : m'.steps = m.steps) (h3 : m'.done = false)
    (hdo : ∀ W', RepF W' b (mcell L m) → CtxIs W' qb a → Calls Tryz.prog 43 #[.pointer (some ⟨b, 0, none⟩), (c m.pc).agg] W' fun e w' => e = .returned (.tuple #[.int .i64 0, .int .i64 0]) ∧ RepF w' b (mcell L m') ∧ CtxIs w' qb a' ∧ Fr (SB b qb) W' w') :
    Calls Tryz.prog 32 #[.pointer (some ⟨b, 0, none⟩)] W fun e w' => e = .returned (.int .i64 0) ∧ Stands w0 w' L b qb (m'.tick) a' ∧ Fr (SB b qb) W w' := by
  have hn := E.hn
  have hc := (E.cAt.fr h.fr E.sgc) m.pc (by omega)
  refine (step_ok_43 b L m m' W (SB b qb) (E.sw h) h.rep hdone (c m.pc) n gc capc gu capu (unitsOf c) E.code hc ho0 ho00 (by simp; omega) (by simp; omega) (by rw [beq_eq_false_iff_ne]; omega) (by omega) E.units (cell_fr (E.uAt (m.pc + 1) (by omega)) h.fr E.sgu) (by have := unitsOf_bound c (m.pc + 1); omega) (fun x hx => by have := unitsOf_lt c x (m.pc + 1) hx; omega) (heap_fr E.map h.fr E.sgm) E.sgu E.sgm hpc (by omega) (fun w => CtxIs w qb a') (fun w1 w2 hx hf => hx.fr hf (fun x hx => E.qne x hx)) (by omega) (.inl rfl) (fun W' hR hF => hdo W' hR (h.ctx.fr hF (fun _ _ h => h))) h1 h2 h3).mono ?_
  rintro e w1 ⟨rfl, hR, hX, hF⟩
  rw [← h1, ← h2] at hR
  exact ⟨rfl, ⟨hR, hX, h.fr.trans hF⟩, hF⟩


theorem Env.ok44 (E : Env w0 L b qb gc capc gu capu n c) (h : Stands w0 W L b qb m a) (hdone : m.done = false) (hpc : m.pc + 1 < n) (hst : m.steps ≤ 1000000) (hop : (c m.pc).op = 24) (m' : Mac) (a' : Array Value) (h1 : m'.pc = m.pc) (h2 : m'.steps = m.steps) (h3 : m'.done = false)
    (hdo : ∀ W', RepF W' b (mcell L m) → CtxIs W' qb a → Calls Tryz.prog 44 #[.pointer (some ⟨b, 0, none⟩), (c m.pc).agg] W' fun e w' => e = .returned (.tuple #[.int .i64 0, .int .i64 0]) ∧ RepF w' b (mcell L m') ∧ CtxIs w' qb a' ∧ Fr (SB b qb) W' w') :
    Calls Tryz.prog 32 #[.pointer (some ⟨b, 0, none⟩)] W fun e w' => e = .returned (.int .i64 0) ∧ Stands w0 w' L b qb (m'.tick) a' ∧ Fr (SB b qb) W w' := by
  have hn := E.hn
  have hc := (E.cAt.fr h.fr E.sgc) m.pc (by omega)
  rw [hop] at hc
  have hag : (c m.pc).agg = .agg #[.int .i64 24, .bool (c m.pc).nar, .bool (c m.pc).reg, .int .i64 (c m.pc).size, .int .i64 (c m.pc).dst, .int .i64 (c m.pc).src, .int .i64 (c m.pc).off, .int .i64 (c m.pc).imm] := by rw [Ins.agg, hop]
  rw [hag] at hdo
  refine (step_ok_44 b L m m' W (SB b qb) (E.sw h) h.rep hdone (c m.pc) n gc capc gu capu (unitsOf c) E.code hc (by rw [beq_eq_false_iff_ne]; omega) (by omega) E.units (cell_fr (E.uAt (m.pc + 1) (by omega)) h.fr E.sgu) (by have := unitsOf_bound c (m.pc + 1); omega) (fun x hx => by have := unitsOf_lt c x (m.pc + 1) hx; omega) (heap_fr E.map h.fr E.sgm) E.sgu E.sgm hpc (by omega) (fun w => CtxIs w qb a') (fun w1 w2 hx hf => hx.fr hf (fun x hx => E.qne x hx)) (by omega) (.inl rfl) (fun W' hR hF => hdo W' hR (h.ctx.fr hF (fun _ _ h => h))) h1 h2 h3).mono ?_
  rintro e w1 ⟨rfl, hR, hX, hF⟩
  rw [← h1, ← h2] at hR
  exact ⟨rfl, ⟨hR, hX, h.fr.trans hF⟩, hF⟩


theorem Env.trap43 (E : Env w0 L b qb gc capc gu capu n c) (h : Stands w0 W L b qb m a) (hdone : m.done = false) (hpc : m.pc + 1 < n) (ho0 : 22 ≤ (c m.pc).op) (ho00 : (c m.pc).op ≤ 23) (er : Int) (her : (er != 0) = true)
    (hdo : ∀ W', RepF W' b (mcell L m) → CtxIs W' qb a → Calls Tryz.prog 43 #[.pointer (some ⟨b, 0, none⟩), (c m.pc).agg] W' fun e w' => e = .returned (.tuple #[.int .i64 0, .int .i64 er]) ∧ Fr (fun _ => False) W' w') :
    Calls Tryz.prog 32 #[.pointer (some ⟨b, 0, none⟩)] W fun e w' => e = .returned (.int .i64 er) ∧ Fr (SB b qb) W w' := by
  have hn := E.hn
  have hc := (E.cAt.fr h.fr E.sgc) m.pc (by omega)
  exact step_trap_43 b L m W (SB b qb) (E.sw h) h.rep hdone (c m.pc) er n gc capc E.code hc ho0 ho00 (by simp; omega) (by simp; omega) (by omega) (by rw [beq_eq_false_iff_ne]; omega) (by omega) (fun W' hR hF => (hdo W' hR (h.ctx.fr hF (fun _ _ h => h))).mono (fun e w1 ⟨h1, h2⟩ => ⟨h1, h2.mono (fun _ _ h => h.elim)⟩)) her


theorem Env.trap44 (E : Env w0 L b qb gc capc gu capu n c) (h : Stands w0 W L b qb m a) (hdone : m.done = false) (hpc : m.pc + 1 < n) (hop : (c m.pc).op = 24) (er : Int) (her : (er != 0) = true)
    (hdo : ∀ W', RepF W' b (mcell L m) → CtxIs W' qb a → Calls Tryz.prog 44 #[.pointer (some ⟨b, 0, none⟩), (c m.pc).agg] W' fun e w' => e = .returned (.tuple #[.int .i64 0, .int .i64 er]) ∧ Fr (fun _ => False) W' w') :
    Calls Tryz.prog 32 #[.pointer (some ⟨b, 0, none⟩)] W fun e w' => e = .returned (.int .i64 er) ∧ Fr (SB b qb) W w' := by
  have hn := E.hn
  have hc := (E.cAt.fr h.fr E.sgc) m.pc (by omega)
  rw [hop] at hc
  have hag : (c m.pc).agg = .agg #[.int .i64 24, .bool (c m.pc).nar, .bool (c m.pc).reg, .int .i64 (c m.pc).size, .int .i64 (c m.pc).dst, .int .i64 (c m.pc).src, .int .i64 (c m.pc).off, .int .i64 (c m.pc).imm] := by rw [Ins.agg, hop]
  rw [hag] at hdo
  exact step_trap_44 b L m W (SB b qb) (E.sw h) h.rep hdone (c m.pc) er n gc capc E.code hc (by omega) (by rw [beq_eq_false_iff_ne]; omega) (by omega) (fun W' hR hF => (hdo W' hR (h.ctx.fr hF (fun _ _ h => h))).mono (fun e w1 ⟨h1, h2⟩ => ⟨h1, h2.mono (fun _ _ h => h.elim)⟩)) her


theorem Env.exit49 (E : Env w0 L b qb gc capc gu capu n c) (h : Stands w0 W L b qb m a) (hdone : m.done = false) (hpc : m.pc < n) (hst : m.steps ≤ 1000000) (hop : (c m.pc).op = 39) (m' : Mac) (a' : Array Value) (h1 : m'.pc = m.pc) (h2 : m'.steps = m.steps) (h3 : m'.done = true)
    (hdo : ∀ W', RepF W' b (mcell L m) → CtxIs W' qb a → Calls Tryz.prog 49 #[.pointer (some ⟨b, 0, none⟩), (c m.pc).agg] W' fun e w' => e = .returned (.tuple #[.int .i64 0, .int .i64 0]) ∧ RepF w' b (mcell L m') ∧ CtxIs w' qb a' ∧ Fr (SB b qb) W' w') :
    Calls Tryz.prog 32 #[.pointer (some ⟨b, 0, none⟩)] W fun e w' => e = .returned (.int .i64 0) ∧ Stands w0 w' L b qb ({ m' with steps := m'.steps + 1 }) a' ∧ Fr (SB b qb) W w' := by
  have hn := E.hn
  have hc := (E.cAt.fr h.fr E.sgc) m.pc (by omega)
  rw [hop] at hc
  have hag : (c m.pc).agg = .agg #[.int .i64 39, .bool (c m.pc).nar, .bool (c m.pc).reg, .int .i64 (c m.pc).size, .int .i64 (c m.pc).dst, .int .i64 (c m.pc).src, .int .i64 (c m.pc).off, .int .i64 (c m.pc).imm] := by rw [Ins.agg, hop]
  rw [hag] at hdo
  refine (step_exit b L m m' W (SB b qb) (E.sw h) h.rep hdone (c m.pc) n gc capc E.code hc (by omega) (fun w => CtxIs w qb a') (fun w1 w2 hx hf => hx.fr hf (fun x hx => E.qne x hx)) (by omega) (.inl rfl) (fun W' hR hF => hdo W' hR (h.ctx.fr hF (fun _ _ h => h))) h1 h2 h3).mono ?_
  rintro e w1 ⟨rfl, hR, hX, hF⟩
  rw [← h2] at hR
  exact ⟨rfl, ⟨hR, hX, h.fr.trans hF⟩, hF⟩


theorem Env.wide (E : Env w0 L b qb gc capc gu capu n c) (h : Stands w0 W L b qb m a) (hdone : m.done = false) (hpc : m.pc + 1 < n) (hst : m.steps ≤ 1000000) (d : Nat) (hd : (d : Int) < 11) (imm : Int)
    (hi : c m.pc = ⟨20, false, false, 0, d, 0, 0, imm⟩) :
    Calls Tryz.prog 32 #[.pointer (some ⟨b, 0, none⟩)] W fun e w' => e = .returned (.int .i64 0) ∧ Stands w0 w' L b qb (Mac.tick (m.setReg d (.num imm))) (a) ∧ Fr (SB b qb) W w' := by
  refine Env.ok42 E h hdone hpc hst (by rw [hi]) (m.setReg d (.num imm)) (a) rfl rfl hdone (fun W' hR hC => ?_)
  rw [hi]
  refine (constant_wide b L m W' hR d hd false false 0 0 0 imm).mono ?_
  rintro e w1 ⟨rfl, hr, hf⟩
  exact ⟨rfl, hr, hC.fr hf (fun x hx => E.qne x hx), hf.mono (fun x _ hx => .inl hx)⟩

theorem Env.movr (E : Env w0 L b qb gc capc gu capu n c) (h : Stands w0 W L b qb m a) (hdone : m.done = false) (hpc : m.pc + 1 < n) (hst : m.steps ≤ 1000000) (d s : Nat) (hd : (d : Int) < 11) (hs : (s : Int) < 11) (hk : ((m.reg s).k == 0) = false)
    (hi : c m.pc = ⟨15, false, true, 0, d, s, 0, 0⟩) :
    Calls Tryz.prog 32 #[.pointer (some ⟨b, 0, none⟩)] W fun e w' => e = .returned (.int .i64 0) ∧ Stands w0 w' L b qb (Mac.tick (m.setReg d (m.reg s))) (a) ∧ Fr (SB b qb) W w' := by
  refine Env.ok40 E h hdone hpc hst (by rw [hi]; show (15 : Int) ≤ 15; decide) (m.setReg d (m.reg s)) (a) rfl rfl hdone (fun W' hR hC => ?_)
  rw [hi]
  refine (arith_mov_reg b L m W' hR d s hd hs hk 0 0 0).mono ?_
  rintro e w1 ⟨rfl, hr, hf⟩
  exact ⟨rfl, hr, hC.fr hf (fun x hx => E.qne x hx), hf.mono (fun x _ hx => .inl hx)⟩

theorem Env.movi (E : Env w0 L b qb gc capc gu capu n c) (h : Stands w0 W L b qb m a) (hdone : m.done = false) (hpc : m.pc + 1 < n) (hst : m.steps ≤ 1000000) (d : Nat) (hd : (d : Int) < 11) (imm : Int)
    (hi : c m.pc = ⟨15, false, false, 0, d, 0, 0, imm⟩) :
    Calls Tryz.prog 32 #[.pointer (some ⟨b, 0, none⟩)] W fun e w' => e = .returned (.int .i64 0) ∧ Stands w0 w' L b qb (Mac.tick (m.setReg d (.num imm))) (a) ∧ Fr (SB b qb) W w' := by
  refine Env.ok40 E h hdone hpc hst (by rw [hi]; show (15 : Int) ≤ 15; decide) (m.setReg d (.num imm)) (a) rfl rfl hdone (fun W' hR hC => ?_)
  rw [hi]
  refine (arith_mov_imm b L m W' hR d hd 0 0 0 imm).mono ?_
  rintro e w1 ⟨rfl, hr, hf⟩
  exact ⟨rfl, hr, hC.fr hf (fun x hx => E.qne x hx), hf.mono (fun x _ hx => .inl hx)⟩

theorem Env.addi (E : Env w0 L b qb gc capc gu capu n c) (h : Stands w0 W L b qb m a) (hdone : m.done = false) (hpc : m.pc + 1 < n) (hst : m.steps ≤ 1000000) (d : Nat) (hd : (d : Int) < 11) (imm k t r x : Int) (hk : m.reg d = ⟨k, t, r, x⟩) (hk2 : 2 ≤ k) (g1 : -2097152 ≤ imm) (g2 : imm ≤ 2097152) (g3 : -1048576 ≤ x + imm) (g4 : x + imm ≤ 1048576)
    (hi : c m.pc = ⟨1, false, false, 0, d, 0, 0, imm⟩) :
    Calls Tryz.prog 32 #[.pointer (some ⟨b, 0, none⟩)] W fun e w' => e = .returned (.int .i64 0) ∧ Stands w0 w' L b qb (Mac.tick (m.setReg d ⟨k, t, r, x + imm⟩)) (a) ∧ Fr (SB b qb) W w' := by
  refine Env.ok40 E h hdone hpc hst (by rw [hi]; show (1 : Int) ≤ 15; decide) (m.setReg d ⟨k, t, r, x + imm⟩) (a) rfl rfl hdone (fun W' hR hC => ?_)
  rw [hi]
  refine (arith_add_imm b L m W' hR d hd k t r x hk hk2 0 0 0 imm g1 g2 g3 g4).mono ?_
  rintro e w1 ⟨rfl, hr, hf⟩
  exact ⟨rfl, hr, hC.fr hf (fun x hx => E.qne x hx), hf.mono (fun x _ hx => .inl hx)⟩

theorem Env.subr (E : Env w0 L b qb gc capc gu capu n c) (h : Stands w0 W L b qb m a) (hdone : m.done = false) (hpc : m.pc + 1 < n) (hst : m.steps ≤ 1000000) (d s : Nat) (hd : (d : Int) < 11) (hs : (s : Int) < 11) (k t r x t' r' x' : Int) (hk : m.reg d = ⟨k, t, r, x⟩) (hk' : m.reg s = ⟨k, t', r', x'⟩) (hk2 : 2 ≤ k) (hk4 : k ≤ 4) (g1 : -1048576 ≤ x) (g2 : x ≤ 1048576) (g3 : -1048576 ≤ x') (g4 : x' ≤ 1048576)
    (hi : c m.pc = ⟨2, false, true, 0, d, s, 0, 0⟩) :
    Calls Tryz.prog 32 #[.pointer (some ⟨b, 0, none⟩)] W fun e w' => e = .returned (.int .i64 0) ∧ Stands w0 w' L b qb (Mac.tick (m.setReg d ⟨1, 0, 0, x - x'⟩)) (a) ∧ Fr (SB b qb) W w' := by
  refine Env.ok40 E h hdone hpc hst (by rw [hi]; show (2 : Int) ≤ 15; decide) (m.setReg d ⟨1, 0, 0, x - x'⟩) (a) rfl rfl hdone (fun W' hR hC => ?_)
  rw [hi]
  refine (arith_sub_reg b L m W' hR d s hd hs k t r x t' r' x' hk hk' hk2 hk4 0 0 0 g1 g2 g3 g4).mono ?_
  rintro e w1 ⟨rfl, hr, hf⟩
  exact ⟨rfl, hr, hC.fr hf (fun x hx => E.qne x hx), hf.mono (fun x _ hx => .inl hx)⟩

theorem Env.storeCtx (E : Env w0 L b qb gc capc gu capu n c) (h : Stands w0 W L b qb m a) (hdone : m.done = false) (hpc : m.pc + 1 < n) (hst : m.steps ≤ 1000000) (d s : Nat) (hd : (d : Int) < 11) (hs : (s : Int) < 11) (n' : Nat) (off ta ra x tb rb xb : Int) (hk : m.reg d = ⟨3, ta, ra, x⟩) (hk' : m.reg s = ⟨1, tb, rb, xb⟩) (at' : Nat) (hxo : x + off = (at' : Int)) (bc len cap : Nat) (hq : qb = some bc) (hL : L.ctx = .slice (some ⟨bc, 0, none⟩) len cap) (hsz : a.size = cap) (hlc : len ≤ cap) (g1 : at' + n' ≤ len) (g2 : 1 ≤ n') (g8 : n' ≤ 8) (g4 : (at' : Int) ≤ 70000)
    (hi : c m.pc = ⟨24, false, true, n', d, s, off, 0⟩) :
    Calls Tryz.prog 32 #[.pointer (some ⟨b, 0, none⟩)] W fun e w' => e = .returned (.int .i64 0) ∧ Stands w0 w' L b qb (Mac.tick (m)) (spliced a at' n' (byteOf xb)) ∧ Fr (SB b qb) W w' := by
  refine Env.ok44 E h hdone hpc hst (by rw [hi]) (m) (spliced a at' n' (byteOf xb)) rfl rfl hdone (fun W' hR hC => ?_)
  rw [hi]
  refine (store_ctx_reg b L m W' hR d s hd hs false off 0 ta ra x hk tb rb xb hk' at' n' bc len cap a hxo hL (hC bc hq) hsz (E.qne bc hq) g1 g2 g8 hlc g4).mono ?_
  rintro e w1 ⟨rfl, hc, hr, hf⟩
  exact ⟨rfl, hr, fun x hx => by rw [hq] at hx; cases hx; exact hc, hf.mono (fun x _ hx => .inr (by rw [hq, hx]))⟩

theorem Env.storeStack (E : Env w0 L b qb gc capc gu capu n c) (h : Stands w0 W L b qb m a) (hdone : m.done = false) (hpc : m.pc + 1 < n) (hst : m.steps ≤ 1000000) (d s : Nat) (hd : (d : Int) < 11) (hs : (s : Int) < 11) (n' : Nat) (off ta ra x tb rb xb : Int) (hk : m.reg d = ⟨2, ta, ra, x⟩) (hk' : m.reg s = ⟨1, tb, rb, xb⟩) (at' : Nat) (hxo : x + off = (at' : Int)) (g1 : at' + n' ≤ 256) (g2 : 1 ≤ n') (g8 : n' ≤ 8)
    (hi : c m.pc = ⟨24, false, true, n', d, s, off, 0⟩) :
    Calls Tryz.prog 32 #[.pointer (some ⟨b, 0, none⟩)] W fun e w' => e = .returned (.int .i64 0) ∧ Stands w0 w' L b qb (Mac.tick (m.puts at' (byteOf xb) n')) (a) ∧ Fr (SB b qb) W w' := by
  refine Env.ok44 E h hdone hpc hst (by rw [hi]) (m.puts at' (byteOf xb) n') (a) (puts_same m _ _ _).1 (puts_same m _ _ _).2.1 ((puts_same m _ _ _).2.2.trans hdone) (fun W' hR hC => ?_)
  rw [hi]
  refine (store_stack_reg b L m W' hR d s hd hs false off 0 ta ra x hk tb rb xb hk' at' n' hxo g1 g2 g8).mono ?_
  rintro e w1 ⟨rfl, hr, hf⟩
  exact ⟨rfl, hr, hC.fr hf (fun x hx => E.qne x hx), hf.mono (fun x _ hx => .inl hx)⟩

theorem Env.storeImm (E : Env w0 L b qb gc capc gu capu n c) (h : Stands w0 W L b qb m a) (hdone : m.done = false) (hpc : m.pc + 1 < n) (hst : m.steps ≤ 1000000) (d : Nat) (hd : (d : Int) < 11) (n' : Nat) (off imm ta ra x : Int) (hk : m.reg d = ⟨2, ta, ra, x⟩) (at' : Nat) (hxo : x + off = (at' : Int)) (g1 : at' + n' ≤ 256) (g2 : 1 ≤ n') (g8 : n' ≤ 8)
    (hi : c m.pc = ⟨24, false, false, n', d, 0, off, imm⟩) :
    Calls Tryz.prog 32 #[.pointer (some ⟨b, 0, none⟩)] W fun e w' => e = .returned (.int .i64 0) ∧ Stands w0 w' L b qb (Mac.tick (m.puts at' (byteOf imm) n')) (a) ∧ Fr (SB b qb) W w' := by
  refine Env.ok44 E h hdone hpc hst (by rw [hi]) (m.puts at' (byteOf imm) n') (a) (puts_same m _ _ _).1 (puts_same m _ _ _).2.1 ((puts_same m _ _ _).2.2.trans hdone) (fun W' hR hC => ?_)
  rw [hi]
  refine (store_stack_imm b L m W' hR d hd false off imm 0 ta ra x hk at' n' hxo g1 g2 g8).mono ?_
  rintro e w1 ⟨rfl, hr, hf⟩
  exact ⟨rfl, hr, hC.fr hf (fun x hx => E.qne x hx), hf.mono (fun x _ hx => .inl hx)⟩

theorem Env.storePtr (E : Env w0 L b qb gc capc gu capu n c) (h : Stands w0 W L b qb m a) (hdone : m.done = false) (hpc : m.pc + 1 < n) (hst : m.steps ≤ 1000000) (d s : Nat) (hd : (d : Int) < 11) (hs : (s : Int) < 11) (off ta ra x kb tb rb xb : Int) (hk : m.reg d = ⟨2, ta, ra, x⟩) (hk' : m.reg s = ⟨kb, tb, rb, xb⟩) (at' : Nat) (ha8 : ((at' : Int) % 8 != 0) = false) (hxo : x + off = (at' : Int)) (kb2 : 2 ≤ kb) (g1 : at' + 8 ≤ 256)
    (hi : c m.pc = ⟨24, false, true, 8, d, s, off, 0⟩) :
    Calls Tryz.prog 32 #[.pointer (some ⟨b, 0, none⟩)] W fun e w' => e = .returned (.int .i64 0) ∧ Stands w0 w' L b qb (Mac.tick (m.setPtr (at' / 8) ⟨kb, tb, rb, xb⟩)) (a) ∧ Fr (SB b qb) W w' := by
  refine Env.ok44 E h hdone hpc hst (by rw [hi]) (m.setPtr (at' / 8) ⟨kb, tb, rb, xb⟩) (a) rfl rfl hdone (fun W' hR hC => ?_)
  rw [hi]
  refine (store_ptr b L m W' hR d s hd hs false off 0 ta ra x hk kb tb rb xb hk' at' ha8 hxo kb2 g1).mono ?_
  rintro e w1 ⟨rfl, hr, hf⟩
  exact ⟨rfl, hr, hC.fr hf (fun x hx => E.qne x hx), hf.mono (fun x _ hx => .inl hx)⟩

theorem Env.loadStack (E : Env w0 L b qb gc capc gu capu n c) (h : Stands w0 W L b qb m a) (hdone : m.done = false) (hpc : m.pc + 1 < n) (hst : m.steps ≤ 1000000) (op : Int) (ho : 22 ≤ op) (ho' : op ≤ 23) (d s : Nat) (hd : (d : Int) < 11) (hs : (s : Int) < 11) (n' : Nat) (off t r x : Int) (hk : m.reg s = ⟨2, t, r, x⟩) (at' : Nat) (hxo : x + off = (at' : Int)) (g2 : at' + n' ≤ 256) (g1 : 1 ≤ n') (g8 : n' ≤ 8) (hP : Plain m op n' at') (hE : rdE m at' n' = 0)
    (hi : c m.pc = ⟨op, false, false, n', d, s, off, 0⟩) :
    Calls Tryz.prog 32 #[.pointer (some ⟨b, 0, none⟩)] W fun e w' => e = .returned (.int .i64 0) ∧ Stands w0 w' L b qb (Mac.tick (m.setReg d (.num (getF (op == 23) (fun j => m.byte (at' + j)) n')))) (a) ∧ Fr (SB b qb) W w' := by
  refine Env.ok43 E h hdone hpc hst (by rw [hi]; simp; omega) (by rw [hi]; simp; omega) (m.setReg d (.num (getF (op == 23) (fun j => m.byte (at' + j)) n'))) (a) rfl rfl hdone (fun W' hR hC => ?_)
  rw [hi]
  refine (load_stack_ok b L m W' hR op d s hd hs false false off 0 t r x hk at' n' hxo g2 g1 g8 hP hE).mono ?_
  rintro e w1 ⟨rfl, hr, hf⟩
  exact ⟨rfl, hr, hC.fr hf (fun x hx => E.qne x hx), hf.mono (fun x _ hx => .inl hx)⟩

theorem Env.loadCtx (E : Env w0 L b qb gc capc gu capu n c) (h : Stands w0 W L b qb m a) (hdone : m.done = false) (hpc : m.pc + 1 < n) (hst : m.steps ≤ 1000000) (op : Int) (ho : 22 ≤ op) (ho' : op ≤ 23) (d s : Nat) (hd : (d : Int) < 11) (hs : (s : Int) < 11) (n' : Nat) (off t r x : Int) (hk : m.reg s = ⟨3, t, r, x⟩) (at' : Nat) (bc len cap : Nat) (hq : qb = some bc) (hL : L.ctx = .slice (some ⟨bc, 0, none⟩) len cap) (hlc : len ≤ cap) (cx : Nat → Int) (hcx : ∀ j, j < len → a[j]? = some (.int .u8 (cx j))) (hxo : x + off = (at' : Int)) (g2 : at' + n' ≤ len) (g1 : 1 ≤ n') (g8 : n' ≤ 8) (g4 : (at' : Int) ≤ 70000)
    (hi : c m.pc = ⟨op, false, false, n', d, s, off, 0⟩) :
    Calls Tryz.prog 32 #[.pointer (some ⟨b, 0, none⟩)] W fun e w' => e = .returned (.int .i64 0) ∧ Stands w0 w' L b qb (Mac.tick (m.setReg d (.num (getF (op == 23) (fun j => cx (at' + j)) n')))) (a) ∧ Fr (SB b qb) W w' := by
  refine Env.ok43 E h hdone hpc hst (by rw [hi]; simp; omega) (by rw [hi]; simp; omega) (m.setReg d (.num (getF (op == 23) (fun j => cx (at' + j)) n'))) (a) rfl rfl hdone (fun W' hR hC => ?_)
  rw [hi]
  refine (load_ctx_ok b L m W' hR op d s hd hs false false off 0 t r x hk at' n' len cap bc cx ⟨hL, hlc, fun j hj => by simp [World.cell?, hC bc hq, hcx j hj]⟩ hxo g2 g1 g8 g4).mono ?_
  rintro e w1 ⟨rfl, hr, hf⟩
  exact ⟨rfl, hr, hC.fr hf (fun x hx => E.qne x hx), hf.mono (fun x _ hx => .inl hx)⟩

theorem Env.loadPtr (E : Env w0 L b qb gc capc gu capu n c) (h : Stands w0 W L b qb m a) (hdone : m.done = false) (hpc : m.pc + 1 < n) (hst : m.steps ≤ 1000000) (d s : Nat) (hd : (d : Int) < 11) (hs : (s : Int) < 11) (off t r x : Int) (hk : m.reg s = ⟨2, t, r, x⟩) (at' : Nat) (hxo : x + off = (at' : Int)) (g1 : at' + 8 ≤ 256) (ha8 : ((at' : Int) % 8 == 0) = true) (kp tp rp xp : Int) (hp : m.ptr (at' / 8) = ⟨kp, tp, rp, xp⟩) (kp2 : 2 ≤ kp)
    (hi : c m.pc = ⟨22, false, false, 8, d, s, off, 0⟩) :
    Calls Tryz.prog 32 #[.pointer (some ⟨b, 0, none⟩)] W fun e w' => e = .returned (.int .i64 0) ∧ Stands w0 w' L b qb (Mac.tick (m.setReg d ⟨kp, tp, rp, xp⟩)) (a) ∧ Fr (SB b qb) W w' := by
  refine Env.ok43 E h hdone hpc hst (by rw [hi]; simp) (by rw [hi]; simp) (m.setReg d ⟨kp, tp, rp, xp⟩) (a) rfl rfl hdone (fun W' hR hC => ?_)
  rw [hi]
  refine (load_ptr b L m W' hR d s hd hs false false off 0 t r x hk at' hxo g1 ha8 kp tp rp xp hp kp2).mono ?_
  rintro e w1 ⟨rfl, hr, hf⟩
  exact ⟨rfl, hr, hC.fr hf (fun x hx => E.qne x hx), hf.mono (fun x _ hx => .inl hx)⟩

theorem Env.exit (E : Env w0 L b qb gc capc gu capu n c) (h : Stands w0 W L b qb m a) (hdone : m.done = false) (hpc : m.pc < n) (hst : m.steps ≤ 1000000) (hk : (m.reg 0).k = 1)
    (hi : c m.pc = ⟨39, false, false, 0, 0, 0, 0, 0⟩) :
    Calls Tryz.prog 32 #[.pointer (some ⟨b, 0, none⟩)] W fun e w' => e = .returned (.int .i64 0) ∧ Stands w0 w' L b qb (Mac.leave m) (a) ∧ Fr (SB b qb) W w' := by
  refine Env.exit49 E h hdone hpc hst (by rw [hi]) ({ m with done := true }) (a) rfl rfl rfl (fun W' hR hC => ?_)
  rw [hi]
  refine (leave_num b L m W' hR _ hk).mono ?_
  rintro e w1 ⟨rfl, hr, hf⟩
  exact ⟨rfl, hr, hC.fr hf (fun x hx => E.qne x hx), hf.mono (fun x _ hx => .inl hx)⟩

theorem Env.loadStackTrap (E : Env w0 L b qb gc capc gu capu n c) (h : Stands w0 W L b qb m a) (hdone : m.done = false) (hpc : m.pc + 1 < n) (op : Int) (ho : 22 ≤ op) (ho' : op ≤ 23) (d s : Nat) (hs : (s : Int) < 11) (n' : Nat) (off t r x : Int) (hk : m.reg s = ⟨2, t, r, x⟩) (at' : Nat) (hxo : x + off = (at' : Int)) (g1 : at' + n' ≤ 256) (g3 : ((n' : Int) == 0) = false) (hP : Plain m op n' at') (hE : (rdE m at' n' != 0) = true)
    (hi : c m.pc = ⟨op, false, false, n', d, s, off, 0⟩) :
    Calls Tryz.prog 32 #[.pointer (some ⟨b, 0, none⟩)] W fun e w' => e = .returned (.int .i64 (rdE m at' n')) ∧ Fr (SB b qb) W w' := by
  refine Env.trap43 E h hdone hpc (by rw [hi]; simp; omega) (by rw [hi]; simp; omega) (rdE m at' n') (by exact hE) (fun W' hR hC => ?_)
  rw [hi]
  exact load_stack_trap b L m W' hR op d s hs false false off 0 t r x hk at' n' hxo g1 g3 hP hE

theorem Env.loadOutCtx (E : Env w0 L b qb gc capc gu capu n c) (h : Stands w0 W L b qb m a) (hdone : m.done = false) (hpc : m.pc + 1 < n) (op : Int) (ho : 22 ≤ op) (ho' : op ≤ 23) (d s : Nat) (hs : (s : Int) < 11) (sz off t r x : Int) (ad : Option Addr) (len cap : Nat) (hL : L.ctx = .slice ad len cap) (hk : m.reg s = ⟨3, t, r, x⟩) (g1 : 0 ≤ x + off) (g2 : x + off ≤ 1000000) (g3 : 0 ≤ sz) (g4 : sz ≤ 8) (g5 : (len : Int) < x + off + sz)
    (hi : c m.pc = ⟨op, false, false, sz, d, s, off, 0⟩) :
    Calls Tryz.prog 32 #[.pointer (some ⟨b, 0, none⟩)] W fun e w' => e = .returned (.int .i64 (81)) ∧ Fr (SB b qb) W w' := by
  refine Env.trap43 E h hdone hpc (by rw [hi]; simp; omega) (by rw [hi]; simp; omega) (81) (by decide) (fun W' hR hC => ?_)
  rw [hi]
  exact load_out_ctx b L m W' hR op d s hs false false sz off 0 ad len cap hL t r x hk g1 g2 g3 g4 g5

theorem Env.loadOutStack (E : Env w0 L b qb gc capc gu capu n c) (h : Stands w0 W L b qb m a) (hdone : m.done = false) (hpc : m.pc + 1 < n) (op : Int) (ho : 22 ≤ op) (ho' : op ≤ 23) (d s : Nat) (hs : (s : Int) < 11) (sz off t r x : Int) (hk : m.reg s = ⟨2, t, r, x⟩) (g1 : 0 ≤ x + off) (g2 : x + off ≤ 1000000) (g3 : 0 ≤ sz) (g4 : sz ≤ 8) (g5 : 256 < x + off + sz)
    (hi : c m.pc = ⟨op, false, false, sz, d, s, off, 0⟩) :
    Calls Tryz.prog 32 #[.pointer (some ⟨b, 0, none⟩)] W fun e w' => e = .returned (.int .i64 (81)) ∧ Fr (SB b qb) W w' := by
  refine Env.trap43 E h hdone hpc (by rw [hi]; simp; omega) (by rw [hi]; simp; omega) (81) (by decide) (fun W' hR hC => ?_)
  rw [hi]
  exact load_out_stack b L m W' hR op d s hs false false sz off 0 t r x hk g1 g2 g3 g4 g5

theorem Env.storeOutCtx (E : Env w0 L b qb gc capc gu capu n c) (h : Stands w0 W L b qb m a) (hdone : m.done = false) (hpc : m.pc + 1 < n) (d s : Nat) (hd : (d : Int) < 11) (hs : (s : Int) < 11) (n' : Nat) (off ta ra x kb tb rb xb : Int) (hk : m.reg d = ⟨3, ta, ra, x⟩) (hk' : m.reg s = ⟨kb, tb, rb, xb⟩) (ad : Option Addr) (len cap : Nat) (hL : L.ctx = .slice ad len cap) (kb0 : (kb == 0) = false) (g1 : 0 ≤ x + off) (g2 : x + off ≤ 100000) (g8 : n' ≤ 8) (g5 : (len : Int) < x + off + n')
    (hi : c m.pc = ⟨24, false, true, n', d, s, off, 0⟩) :
    Calls Tryz.prog 32 #[.pointer (some ⟨b, 0, none⟩)] W fun e w' => e = .returned (.int .i64 (81)) ∧ Fr (SB b qb) W w' := by
  refine Env.trap44 E h hdone hpc (by rw [hi]) (81) (by decide) (fun W' hR hC => ?_)
  rw [hi]
  exact store_out_ctx b L m W' hR d s hd hs false off 0 ta ra x hk kb tb rb xb hk' n' ad len cap hL kb0 g1 g2 g8 g5

theorem Env.storeOutStack (E : Env w0 L b qb gc capc gu capu n c) (h : Stands w0 W L b qb m a) (hdone : m.done = false) (hpc : m.pc + 1 < n) (d s : Nat) (hd : (d : Int) < 11) (hs : (s : Int) < 11) (n' : Nat) (off ta ra x kb tb rb xb : Int) (hk : m.reg d = ⟨2, ta, ra, x⟩) (hk' : m.reg s = ⟨kb, tb, rb, xb⟩) (kb0 : (kb == 0) = false) (g1 : 0 ≤ x + off) (g2 : x + off ≤ 100000) (g8 : n' ≤ 8) (g5 : 256 < x + off + n')
    (hi : c m.pc = ⟨24, false, true, n', d, s, off, 0⟩) :
    Calls Tryz.prog 32 #[.pointer (some ⟨b, 0, none⟩)] W fun e w' => e = .returned (.int .i64 (81)) ∧ Fr (SB b qb) W w' := by
  refine Env.trap44 E h hdone hpc (by rw [hi]) (81) (by decide) (fun W' hR hC => ?_)
  rw [hi]
  exact store_out_stack b L m W' hR d s hd hs false off 0 ta ra x hk kb tb rb xb hk' n' kb0 g1 g2 g8 g5

theorem Env.leakCtx (E : Env w0 L b qb gc capc gu capu n c) (h : Stands w0 W L b qb m a) (hdone : m.done = false) (hpc : m.pc + 1 < n) (d s : Nat) (hd : (d : Int) < 11) (hs : (s : Int) < 11) (n' : Nat) (off ta ra x kb tb rb xb : Int) (hk : m.reg d = ⟨3, ta, ra, x⟩) (hk' : m.reg s = ⟨kb, tb, rb, xb⟩) (at' : Nat) (ad : Option Addr) (len cap : Nat) (hL : L.ctx = .slice ad len cap) (g4 : (at' : Int) ≤ 70000) (hxo : x + off = (at' : Int)) (kb2 : 2 ≤ kb) (g8 : n' ≤ 8) (g1 : at' + n' ≤ len)
    (hi : c m.pc = ⟨24, false, true, n', d, s, off, 0⟩) :
    Calls Tryz.prog 32 #[.pointer (some ⟨b, 0, none⟩)] W fun e w' => e = .returned (.int .i64 (86)) ∧ Fr (SB b qb) W w' := by
  refine Env.trap44 E h hdone hpc (by rw [hi]) (86) (by decide) (fun W' hR hC => ?_)
  rw [hi]
  exact store_leak_ctx b L m W' hR d s hd hs false off 0 ta ra x hk kb tb rb xb hk' at' n' ad len cap hL g4 hxo kb2 g8 g1

theorem Env.leakStack (E : Env w0 L b qb gc capc gu capu n c) (h : Stands w0 W L b qb m a) (hdone : m.done = false) (hpc : m.pc + 1 < n) (d s : Nat) (hd : (d : Int) < 11) (hs : (s : Int) < 11) (off ta ra x kb tb rb xb : Int) (hk : m.reg d = ⟨2, ta, ra, x⟩) (hk' : m.reg s = ⟨kb, tb, rb, xb⟩) (at' : Nat) (ha8 : ((at' : Int) % 8 != 0) = true) (hxo : x + off = (at' : Int)) (kb2 : 2 ≤ kb) (g1 : at' + 8 ≤ 256)
    (hi : c m.pc = ⟨24, false, true, 8, d, s, off, 0⟩) :
    Calls Tryz.prog 32 #[.pointer (some ⟨b, 0, none⟩)] W fun e w' => e = .returned (.int .i64 (86)) ∧ Fr (SB b qb) W w' := by
  refine Env.trap44 E h hdone hpc (by rw [hi]) (86) (by decide) (fun W' hR hC => ?_)
  rw [hi]
  exact store_leak_stack b L m W' hR d s hd hs false off 0 ta ra x hk kb tb rb xb hk' at' ha8 hxo kb2 g1


end

end Go.Proofs.YtkhbjhmhdlmmfaaGreat
