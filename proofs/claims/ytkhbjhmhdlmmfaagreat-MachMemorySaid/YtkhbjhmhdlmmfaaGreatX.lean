/- A whole run, from New's places to what Run hands back: plain joining. -/
import Derived.Test.YtkhbjhmhdlmmfaaGreatV
import Derived.Test.YtkhbjhmhdlmmfaaGreatW
namespace Go.Proofs.YtkhbjhmhdlmmfaaGreat
open Go.RowKit

/-- the context sa the machine holds it: none, or m bytes in its own block -/
def CtxV (v : Value) (qb : Option Nat) (a : Array Value) (m : Nat) (cx : Nat → Int) : Prop :=
  (qb = none ∧ v = .slice none 0 0 ∧ m = 0) ∨ ∃ bc cap, qb = some bc ∧ v = .slice (some ⟨bc, 0, none⟩) m cap ∧ a.size = cap ∧ m ≤ cap ∧ ∀ j, j < m → a[j]? = some (.int .u8 (cx j))
def layAt (gc n capc gu capu gm : Nat) (cv : Value) : Lay := { layNew gc n capc gu capu gm with ctx := cv }

theorem NewAt.env {w0 w1 : World} {b gc capc gu capu gm n : Nat} {c : Nat → Ins} {cv : Value} {m : Nat} {cx : Nat → Int} (h : NewAt w0 w1 b gc capc gu capu gm n c cv m cx) (hn : (n : Int) ≤ 4096) :
    ∃ qb a, Env w1 (layAt gc n capc gu capu gm cv) b qb gc capc gu capu n c ∧ Stands w1 w1 (layAt gc n capc gu capu gm cv) b qb (macStart m) a ∧ CtxV cv qb a m cx ∧ (∀ x, SB b qb x → w0.heap.size ≤ x) := by
  have o2 := h.o2
  have o3 := h.o3
  have o5 := h.o5
  have lo := h.lo1
  rcases h.ctx.2 with ⟨rfl, rfl⟩ | ⟨g, cap, cur, rfl, hb, hg, hnc, hm, hcs, htake⟩
  · refine ⟨none, #[], ?_, ⟨h.rep, fun _ hb => (by cases hb), Fr.refl _ _⟩, .inl ⟨rfl, rfl, rfl⟩, ?_⟩
    · exact { code := rfl, units := rfl, cAt := h.code, uAt := h.units, map := h.map, n1 := by omega, n2 := by omega, n3 := by show gm ≠ b; omega, q0 := by simp, q1 := by simp, q2 := by simp, q3 := by simp, lb := h.rep.lt, lq := fun _ hx => (by cases hx), hn := hn }
    · rintro x (rfl | hx)
      · omega
      · cases hx
  · have hlt : g < w1.heap.size := (Array.getElem?_eq_some_iff.1 hg).1
    refine ⟨some g, cur, ?_, ⟨h.rep, fun bc hbc => by cases hbc; exact hg, Fr.refl _ _⟩, .inr ⟨g, cap, rfl, rfl, by omega, hnc, fun j hj => ?_⟩, ?_⟩
    · exact { code := rfl, units := rfl, cAt := h.code, uAt := h.units, map := h.map, n1 := by omega, n2 := by omega, n3 := by show gm ≠ b; omega, q0 := by simp; omega, q1 := by simp; omega, q2 := by simp; omega, q3 := by show some g ≠ some gm; simp; omega, lb := h.rep.lt, lq := fun _ hx => (by cases hx; exact hlt), hn := hn }
    · have := congrArg (fun l : List Value => l[j]?) htake
      simp only [Nat.mul_one] at this
      rw [List.getElem?_take, if_pos hj, bytesL_get cx m j hj] at this
      simpa using this
    · rintro x (rfl | hx)
      · omega
      · cases hx; omega

section
variable {w0 : World} {L : Lay} {b : Nat} {qb : Option Nat} {gc capc gu capu n : Nat} {c : Nat → Ins}
theorem Stands.alloc {m : Mac} {a : Array Value} {W : World} (h : Stands w0 W L b qb m a) (o : Obj) : Stands w0 (W.alloc o) L b qb m a :=
  ⟨h.rep.alloc o, h.ctx.fr ((Fr.refl (fun _ => False) W).alloc o) (fun _ _ h => h), h.fr.alloc o⟩
theorem CtxV.row {W : World} {v : Value} {a : Array Value} {m : Nat} {cx : Nat → Int} (h : CtxV v qb a m cx) (hW : CtxIs W qb a) : RowAt W v m (bytesL cx m) := by
  rcases h with ⟨_, rfl, rfl⟩ | ⟨bc, cap, rfl, rfl, hs, hl, hx⟩
  · exact .inl ⟨rfl, rfl, rfl⟩
  · refine .inr ⟨_, _, rfl, fun j u hu => ?_⟩
    have hj : j < m := by simpa [bytesL] using (List.getElem?_eq_some_iff.1 hu).1
    rw [bytesL_get cx m j hj] at hu
    cases hu
    rw [Addr.add_lit, Nat.zero_add]
    simp [World.cell?, hW bc rfl, hx j hj]

/-- a run that comes to its end -/
theorem go_done (E : Env w0 L b qb gc capc gu capu n c) (hsent : L.sent = .slice none 0 0) (K : Nat) (hK : K < 1048576) (ms : Nat → Mac) (sa : Nat → Array Value) (h0 : Stands w0 w0 L b qb (ms 0) (sa 0))
    (hd : ∀ k, k < K → (ms k).done = false) (hdK : (ms K).done = true)
    (hstep : ∀ k, k < K → ∀ W, Stands w0 W L b qb (ms k) (sa k) → Calls Tryz.prog 32 #[.pointer (some ⟨b, 0, none⟩)] W fun e w' => e = .returned (.int .i64 0) ∧ Stands w0 w' L b qb (ms (k + 1)) (sa (k + 1)) ∧ Fr (SB b qb) W w')
    (m : Nat) (cx : Nat → Int) (hm : m ≤ 1000000) (hcx : CtxV L.ctx qb (sa K) m cx) :
    Calls Tryz.prog 20 #[.pointer (some ⟨b, 0, none⟩), .int .i64 1048576] w0 fun e w' => ∃ p1 m1 c1 p3 m3 c3, e = .returned (.tuple #[.agg #[.int .i64 ((ms K).reg 0).x, .slice p1 m1 c1, .slice none 0 0, .slice p3 m3 c3], .int .i64 0]) ∧
      w'.ownsRow w0.heap.size 5 1 (.slice p1 m1 c1) m (bytesL cx m) ∧ Fr (SB b qb) w0 w' := by
  refine (run_done b K hK ms (fun _ => L) w0 (SB b qb) ?_ (fun k W => Stands w0 W L b qb (ms k) (sa k)) (fun o => h0.alloc o) (fun k hk W hI _ => ⟨hI.rep, hd k hk⟩) (fun k hk W hI _ => hstep k hk W hI) m cx 0 (fun _ => 0) hm (by omega) (fun W hI _ => ⟨hI.rep, hdK, hcx.row hI.ctx, .inl ⟨rfl, rfl, hsent⟩⟩)).mono ?_
  · rintro k (rfl | hk)
    · exact E.lb
    · exact E.lq k hk
  · rintro e w' ⟨v, s, rfl, hv, hs, hf⟩
    obtain ⟨p1, m1, c1, rfl⟩ := owns_slice hv
    obtain ⟨p3, m3, c3, rfl⟩ := owns_slice hs
    exact ⟨p1, m1, c1, p3, m3, c3, rfl, hv, hf⟩

/-- a run that traps -/
theorem go_trap (E : Env w0 L b qb gc capc gu capu n c) (K : Nat) (hK : K < 1048576) (ms : Nat → Mac) (sa : Nat → Array Value) (h0 : Stands w0 w0 L b qb (ms 0) (sa 0))
    (hd : ∀ k, k ≤ K → (ms k).done = false)
    (hstep : ∀ k, k < K → ∀ W, Stands w0 W L b qb (ms k) (sa k) → Calls Tryz.prog 32 #[.pointer (some ⟨b, 0, none⟩)] W fun e w' => e = .returned (.int .i64 0) ∧ Stands w0 w' L b qb (ms (k + 1)) (sa (k + 1)) ∧ Fr (SB b qb) W w')
    (er : Int) (her : (er != 0) = true) (hlast : ∀ W, Stands w0 W L b qb (ms K) (sa K) → Calls Tryz.prog 32 #[.pointer (some ⟨b, 0, none⟩)] W fun e w' => e = .returned (.int .i64 er) ∧ Fr (SB b qb) W w') :
    Calls Tryz.prog 20 #[.pointer (some ⟨b, 0, none⟩), .int .i64 1048576] w0 fun e w' => e = .returned (.tuple #[.agg infoZero, .int .i64 er]) ∧ Fr (SB b qb) w0 w' := by
  refine run_trap b K hK ms (fun _ => L) w0 (SB b qb) ?_ (fun k W => Stands w0 W L b qb (ms k) (sa k)) (fun o => h0.alloc o) (fun k hk W hI _ => ⟨hI.rep, hd k (by omega)⟩) (fun k hk W hI _ => hstep k hk W hI) er her (fun W hI _ => ⟨hI.rep, hd K (by omega), hlast W hI⟩)
  rintro k (rfl | hk)
  · exact E.lb
  · exact E.lq k hk
theorem Env.exitPtr (E : Env w0 L b qb gc capc gu capu n c) {m : Mac} {a : Array Value} {W : World} (h : Stands w0 W L b qb m a) (hdone : m.done = false) (hpc : m.pc < n) (k t r x : Int) (hk : m.reg 0 = ⟨k, t, r, x⟩) (hk1 : (k == 1) = false) (hi : c m.pc = ⟨39, false, false, 0, 0, 0, 0, 0⟩) :
    Calls Tryz.prog 32 #[.pointer (some ⟨b, 0, none⟩)] W fun e w' => e = .returned (.int .i64 86) ∧ Fr (SB b qb) W w' := by
  have hc := (E.cAt.fr h.fr E.sgc) m.pc hpc
  rw [hi] at hc
  exact step_trap_49 b L m W (SB b qb) (E.sw h) h.rep hdone ⟨39, false, false, 0, 0, 0, 0, 0⟩ 86 n gc capc E.code hc (by omega) (fun W' hR _ => (leave_ptr b L m W' hR _ k t r x hk hk1).mono (fun e w1 ⟨h1, h2⟩ => ⟨h1, h2.mono (fun _ _ h => h.elim)⟩)) (by decide)
end

/-- a run of the law that comes to its end -/
theorem runs_done (g n cap : Nat) (c : Nat → Ins) (v : Value) (m : Nat) (w : World) (hc : CodeAt w g n c) (hn : (n : Int) ≤ 4096) (hn1 : 1 ≤ n)
    (hop : ∀ k, k < n → ((c k).op == 21) = false)
    (hg : ∀ k, k < n → ∀ W, Calls Tryz.prog 39 #[(c k).agg] W fun e w' => e = .returned (.int .i64 0) ∧ Fr (fun _ => False) W w')
    (cx : Nat → Int) (hx : RowAt w v m (bytesL cx m)) (hm : (m : Int) ≤ 65535) (x : Int) (cx' : Nat → Int)
    (hgo : ∀ w1 b qb a gc capc gu capu gm cv, Env w1 (layAt gc n capc gu capu gm cv) b qb gc capc gu capu n c → Stands w1 w1 (layAt gc n capc gu capu gm cv) b qb (macStart m) a → CtxV cv qb a m cx →
      Calls Tryz.prog 20 #[.pointer (some ⟨b, 0, none⟩), .int .i64 1048576] w1 fun e w' => ∃ p1 m1 c1 p3 m3 c3, e = .returned (.tuple #[.agg #[.int .i64 x, .slice p1 m1 c1, .slice none 0 0, .slice p3 m3 c3], .int .i64 0]) ∧ w'.ownsRow w1.heap.size 5 1 (.slice p1 m1 c1) m (bytesL cx' m) ∧ Fr (SB b qb) w1 w') :
    Calls Tryz.prog 9 #[.slice (some ⟨g, 0, none⟩) n cap, v] w fun e w' => ∃ p1 m1 c1 p3 m3 c3, e = .returned (.tuple #[.agg #[.int .i64 x, .slice p1 m1 c1, .slice none 0 0, .slice p3 m3 c3], .int .i64 0]) ∧ w'.ownsRow (w.heap.size + 1) 5 1 (.slice p1 m1 c1) m (bytesL cx' m) ∧ Fr (fun _ => False) w w' := by
  refine (runs_ok g n cap c v m w hc hn hn1 hop hg cx hx hm (fun y v s q w' => y = x ∧ q = 0 ∧ w'.ownsRow (w.heap.size + 1) 5 1 v m (bytesL cx' m)) ?_ ?_).mono ?_
  · rintro y v s q w1 w2 ⟨rfl, rfl, h3⟩ hf
    exact ⟨rfl, rfl, ownsRow_frS h3 hf (fun k hk => by omega)⟩
  · intro w0 w1 b gc capc gu capu gm cv hlt hN
    obtain ⟨qb, a, hE, hS, hC, hlo⟩ := hN.env hn
    refine (hgo w1 b qb a gc capc gu capu gm cv hE hS hC).mono ?_
    rintro e w' ⟨p1, m1, c1, p3, m3, c3, rfl, ho, hf⟩
    have hz := hN.fr.size
    exact ⟨x, p1, m1, c1, p3, m3, c3, 0, rfl, ⟨rfl, rfl, ownsRow_base ho (by omega)⟩, hN.fr.fresh hf hlo⟩
  · rintro e w' ⟨y, p1, m1, c1, p3, m3, c3, q, rfl, ⟨rfl, rfl, ho⟩, hf⟩
    exact ⟨p1, m1, c1, p3, m3, c3, rfl, ho, hf⟩

/-- a run of the law that traps -/
theorem runs_trap (g n cap : Nat) (c : Nat → Ins) (v : Value) (m : Nat) (w : World) (hc : CodeAt w g n c) (hn : (n : Int) ≤ 4096) (hn1 : 1 ≤ n)
    (hop : ∀ k, k < n → ((c k).op == 21) = false)
    (hg : ∀ k, k < n → ∀ W, Calls Tryz.prog 39 #[(c k).agg] W fun e w' => e = .returned (.int .i64 0) ∧ Fr (fun _ => False) W w')
    (cx : Nat → Int) (hx : RowAt w v m (bytesL cx m)) (hm : (m : Int) ≤ 65535) (er : Int)
    (hgo : ∀ w1 b qb a gc capc gu capu gm cv, Env w1 (layAt gc n capc gu capu gm cv) b qb gc capc gu capu n c → Stands w1 w1 (layAt gc n capc gu capu gm cv) b qb (macStart m) a → CtxV cv qb a m cx →
      Calls Tryz.prog 20 #[.pointer (some ⟨b, 0, none⟩), .int .i64 1048576] w1 fun e w' => e = .returned (.tuple #[.agg infoZero, .int .i64 er]) ∧ Fr (SB b qb) w1 w') :
    Calls Tryz.prog 9 #[.slice (some ⟨g, 0, none⟩) n cap, v] w fun e w' => e = .returned (.tuple #[.agg infoZero, .int .i64 er]) ∧ Fr (fun _ => False) w w' := by
  refine (runs_ok g n cap c v m w hc hn hn1 hop hg cx hx hm (fun y v s q _ => y = 0 ∧ v = .slice none 0 0 ∧ s = .slice none 0 0 ∧ q = er) ?_ ?_).mono ?_
  · rintro y v s q w1 w2 h _
    exact h
  · intro w0 w1 b gc capc gu capu gm cv hlt hN
    obtain ⟨qb, a, hE, hS, hC, hlo⟩ := hN.env hn
    refine (hgo w1 b qb a gc capc gu capu gm cv hE hS hC).mono ?_
    rintro e w' ⟨rfl, hf⟩
    exact ⟨0, none, 0, 0, none, 0, 0, er, rfl, ⟨rfl, rfl, rfl, rfl⟩, hN.fr.fresh hf hlo⟩
  · rintro e w' ⟨y, p1, m1, c1, p3, m3, c3, q, rfl, ⟨rfl, h1, h2, rfl⟩, hf⟩
    rw [h1, h2]
    exact ⟨rfl, hf⟩

end Go.Proofs.YtkhbjhmhdlmmfaaGreat
