/- The runs of the law on pointers: what each comes to. -/
import Derived.Test.YtkhbjhmhdlmmfaaGreatX
namespace Go.Proofs.YtkhbjhmhdlmmfaaGreat
open Go.RowKit

def codeOf (l : List Ins) (k : Nat) : Ins := l.getD k ⟨0, false, false, 0, 0, 0, 0, 0⟩

-- what writing bytes leaves
theorem put_at (m : Mac) (p : Nat) (c : Int) : (m.put p c).wr p = true ∧ (m.put p c).byte p = c ∧ ((m.put p c).ptr (p / 8)).k = 0 := by
  unfold Mac.put
  split
  · rename_i h
    exact ⟨by simp [Mac.setByte], by simp [Mac.setByte], h⟩
  · exact ⟨by simp [Mac.setByte], by simp [Mac.setByte], by simp [Mac.setByte, Mac.clear, Val.zero]⟩
theorem put_other (m : Mac) (p : Nat) (c : Int) (x : Nat) (hx : x ≠ p) (h0 : (m.ptr (x / 8)).k = 0) : (m.put p c).wr x = m.wr x ∧ (m.put p c).byte x = m.byte x := by
  unfold Mac.put
  split
  · simp [Mac.setByte, hx]
  · rename_i h
    have : x / 8 ≠ p / 8 := fun e => h (e ▸ h0)
    simp [Mac.setByte, Mac.clear, hx, this]
theorem put_ptr (m : Mac) (p : Nat) (c : Int) (q : Nat) (h0 : (m.ptr q).k = 0) : ((m.put p c).ptr q).k = 0 := by
  unfold Mac.put
  split
  · exact h0
  · by_cases e : q = p / 8
    · simp [Mac.setByte, Mac.clear, e, Val.zero]
    · simp [Mac.setByte, Mac.clear, e, h0]
theorem put_wr_false (m : Mac) (p : Nat) (c : Int) (x : Nat) (hx : x ≠ p) (h0 : m.wr x = false) : (m.put p c).wr x = false := by
  unfold Mac.put
  split
  · simp [Mac.setByte, hx, h0]
  · simp [Mac.setByte, Mac.clear, hx, h0]
theorem puts_at (m : Mac) (a : Nat) (y : Nat → Int) (k : Nat) : ∀ j, j < k → (m.puts a y k).wr (a + j) = true ∧ (m.puts a y k).byte (a + j) = y j ∧ ((m.puts a y k).ptr ((a + j) / 8)).k = 0 := by
  induction k with
  | zero => intro j hj; omega
  | succ k ih =>
    intro j hj
    show ((m.puts a y k).put (a + k) (y k)).wr (a + j) = true ∧ ((m.puts a y k).put (a + k) (y k)).byte (a + j) = y j ∧ (((m.puts a y k).put (a + k) (y k)).ptr ((a + j) / 8)).k = 0
    by_cases e : j = k
    · subst e; exact put_at _ _ _
    · obtain ⟨h1, h2, h3⟩ := ih j (by omega)
      obtain ⟨g1, g2⟩ := put_other (m.puts a y k) (a + k) (y k) (a + j) (by omega) h3
      exact ⟨g1.trans h1, g2.trans h2, put_ptr _ _ _ _ h3⟩
theorem puts_wr_false (m : Mac) (a : Nat) (y : Nat → Int) (k : Nat) (x : Nat) (hx : x < a ∨ a + k ≤ x) (h0 : m.wr x = false) : (m.puts a y k).wr x = false := by
  induction k with
  | zero => exact h0
  | succ k ih => exact put_wr_false _ _ _ _ (by omega) (ih (by omega))
theorem puts_ptr (m : Mac) (a : Nat) (y : Nat → Int) (k : Nat) (q : Nat) (h0 : (m.ptr q).k = 0) : ((m.puts a y k).ptr q).k = 0 := by
  induction k with
  | zero => exact h0
  | succ k ih => exact put_ptr _ _ _ _ ih
theorem rdE_puts (m : Mac) (a : Nat) (y : Nat → Int) (k : Nat) : rdE (m.puts a y k) a k = 0 := by
  unfold rdE
  have h1 : ((List.range k).any fun i => ((m.puts a y k).ptr ((a + i) / 8)).k != 0) = false := by
    rw [List.any_eq_false]
    intro i hi
    have := (puts_at m a y k i (List.mem_range.1 hi)).2.2
    simp [this]
  rw [h1]
  unfold rdM
  rw [if_neg (by simp), if_pos]
  rw [List.all_eq_true]
  intro i hi
  exact (puts_at m a y k i (List.mem_range.1 hi)).1
theorem rdE_un (m : Mac) (a k : Nat) (hp : ∀ i, i < k → (m.ptr ((a + i) / 8)).k = 0) (j : Nat) (hj : j < k) (hw : m.wr (a + j) = false) : rdE m a k = 82 := by
  unfold rdE
  have h1 : ((List.range k).any fun i => (m.ptr ((a + i) / 8)).k != 0) = false := by
    rw [List.any_eq_false]
    intro i hi
    simp [hp i (List.mem_range.1 hi)]
  rw [h1]
  unfold rdM
  rw [if_neg (by simp), if_neg]
  rw [List.all_eq_true]
  intro h
  have := h j (List.mem_range.2 hj)
  rw [hw] at this
  cases this
theorem rdE_held (m : Mac) (a k : Nat) (j : Nat) (hj : j < k) (hp : (m.ptr ((a + j) / 8)).k ≠ 0) : rdE m a k = 80 := by
  unfold rdE
  rw [if_pos]
  rw [List.any_eq_true]
  exact ⟨j, List.mem_range.2 hj, by simp [hp]⟩
theorem accF_congr (x y : Nat → Int) (k : Nat) (h : ∀ j, j < k → x j = y j) : accF x k = accF y k := by
  induction k with
  | zero => rfl
  | succ k ih => rw [accF, accF, ih (fun j hj => h j (by omega)), h k (by omega)]
theorem getF_congr (sg : Bool) (x y : Nat → Int) (k : Nat) (h : ∀ j, j < k → x j = y j) : getF sg x k = getF sg y k := by
  unfold getF; rw [accF_congr x y k h]
theorem get77 (k : Nat) (hk : k = 1 ∨ k = 2 ∨ k = 4) : getF false (byteOf 77) k = 77 := by
  rcases hk with rfl | rfl | rfl <;> decide +kernel

-- the states that the runs go through
def rv (dd : Int) (r : Nat) : Val := if r = 1 then ⟨3, 0, 0, 0⟩ else if r = 10 then ⟨2, 0, 0, 256⟩ else ⟨2, 0, 0, 256 + -dd⟩
theorem rv_k (dd : Int) (r : Nat) : 2 ≤ (rv dd r).k ∧ (rv dd r).k ≤ 3 := by
  unfold rv
  by_cases h : r = 1
  · simp [h]
  · by_cases h2 : r = 10 <;> simp [h, h2]
theorem rv_x (dd : Int) (r : Nat) (h0 : 0 ≤ dd) (h1 : dd ≤ 999) : -1000 ≤ (rv dd r).x ∧ (rv dd r).x ≤ 1000 := by
  unfold rv
  by_cases h : r = 1
  · simp [h]
  · by_cases h2 : r = 10 <;> simp [h, h2] <;> omega
def q1 (m : Nat) : Mac := ((macStart m).setReg 4 ⟨2, 0, 0, 256⟩).tick
def q2 (m : Nat) (dd : Int) : Mac := ((q1 m).setReg 4 ⟨2, 0, 0, 256 + -dd⟩).tick
theorem q2_reg (m : Nat) (dd : Int) (r : Nat) (hr : r = 1 ∨ r = 10 ∨ r = 4) : (q2 m dd).reg r = rv dd r := by rcases hr with rfl | rfl | rfl <;> rfl
def q3 (m : Nat) (dd : Int) (r i : Nat) : Mac := ((q2 m dd).setPtr (8 * i / 8) (rv dd r)).tick
theorem q3_ptr (m : Nat) (dd : Int) (r i : Nat) : (q3 m dd r i).ptr i = rv dd r := by
  show (if i = 8 * i / 8 then rv dd r else _) = _
  rw [if_pos (by omega)]
theorem q3_wr (m : Nat) (dd : Int) (r i x : Nat) (hx : x / 8 = i) : (q3 m dd r i).wr x = false := by
  show (if x / 8 = 8 * i / 8 then false else _) = _
  rw [if_pos (by omega)]

def codeA (off dd : Int) (r : Nat) : Nat → Ins := codeOf [⟨15, false, true, 0, 4, 10, 0, 0⟩, ⟨1, false, false, 0, 4, 0, 0, -dd⟩, ⟨24, false, true, 8, 10, r, off, 0⟩, ⟨22, false, false, 8, 5, 10, off, 0⟩, ⟨2, false, true, 0, 5, r, 0, 0⟩, ⟨15, false, true, 0, 0, 5, 0, 0⟩, ⟨39, false, false, 0, 0, 0, 0, 0⟩]
set_option maxRecDepth 10000 in
theorem ptrA (off dd : Int) (i r : Nat) (hr : r = 1 ∨ r = 10 ∨ r = 4) (hd0 : 0 ≤ dd) (hd1 : dd ≤ 999) (hoff : off = 8 * (i : Int) - 256) (hi : i < 32) (m : Nat) (hm : m ≤ 1000000) (cx : Nat → Int) {w1 : World} {b : Nat} {qb : Option Nat} {a : Array Value} {gc capc gu capu gm : Nat} {cv : Value} (E : Env w1 (layAt gc 7 capc gu capu gm cv) b qb gc capc gu capu 7 (codeA off dd r)) (h0 : Stands w1 w1 (layAt gc 7 capc gu capu gm cv) b qb (macStart m) a) (hC : CtxV cv qb a m cx) :
    Calls Tryz.prog 20 #[.pointer (some ⟨b, 0, none⟩), .int .i64 1048576] w1 fun e w' => ∃ p1 m1 c1 p3 m3 c3, e = .returned (.tuple #[.agg #[.int .i64 0, .slice p1 m1 c1, .slice none 0 0, .slice p3 m3 c3], .int .i64 0]) ∧ w'.ownsRow w1.heap.size 5 1 (.slice p1 m1 c1) m (bytesL cx m) ∧ Fr (SB b qb) w1 w' := by
  have hgo := go_done E rfl 7 (by decide) (fun k => match k with | 0 => macStart m | 1 => q1 m | 2 => q2 m dd | 3 => q3 m dd r i | 4 => ((q3 m dd r i).setReg 5 (rv dd r)).tick | 5 => ((((q3 m dd r i).setReg 5 (rv dd r)).tick).setReg 5 ⟨1, 0, 0, (rv dd r).x - (rv dd r).x⟩).tick | 6 => ((((((q3 m dd r i).setReg 5 (rv dd r)).tick).setReg 5 ⟨1, 0, 0, (rv dd r).x - (rv dd r).x⟩).tick).setReg 0 ⟨1, 0, 0, (rv dd r).x - (rv dd r).x⟩).tick | _ => Mac.leave (((((((q3 m dd r i).setReg 5 (rv dd r)).tick).setReg 5 ⟨1, 0, 0, (rv dd r).x - (rv dd r).x⟩).tick).setReg 0 ⟨1, 0, 0, (rv dd r).x - (rv dd r).x⟩).tick)) (fun _ => a) h0 (fun k hk => by match k, hk with | 0, _ => rfl | 1, _ => rfl | 2, _ => rfl | 3, _ => rfl | 4, _ => rfl | 5, _ => rfl | 6, _ => rfl) rfl (fun k hk W hS => by
    match k, hk with
    | 0, _ => exact E.movr hS rfl (show 0 + 1 < 7 by decide) (show (0 : Nat) ≤ 1000000 by decide) 4 10 (by decide) (by decide) rfl rfl
    | 1, _ => exact E.addi hS rfl (show 1 + 1 < 7 by decide) (show (1 : Nat) ≤ 1000000 by decide) 4 (by decide) (-dd) 2 0 0 256 rfl (by decide) (by omega) (by omega) (by omega) (by omega) rfl
    | 2, _ => exact E.storePtr hS rfl (show 2 + 1 < 7 by decide) (show (2 : Nat) ≤ 1000000 by decide) 10 r (by decide) (by omega) off 0 0 256 (rv dd r).k (rv dd r).t (rv dd r).r (rv dd r).x rfl (q2_reg m dd r hr) (8 * i) (by simp) (by omega) (rv_k dd r).1 (by omega) rfl
    | 3, _ => exact E.loadPtr hS rfl (show 3 + 1 < 7 by decide) (show (3 : Nat) ≤ 1000000 by decide) 5 10 (by decide) (by decide) off 0 0 256 rfl (8 * i) (by omega) (by omega) (by simp) (rv dd r).k (rv dd r).t (rv dd r).r (rv dd r).x (if_pos rfl) (rv_k dd r).1 rfl
    | 4, _ => exact E.subr hS rfl (show 4 + 1 < 7 by decide) (show (4 : Nat) ≤ 1000000 by decide) 5 r (by decide) (by omega) (rv dd r).k (rv dd r).t (rv dd r).r (rv dd r).x (rv dd r).t (rv dd r).r (rv dd r).x rfl (by rcases hr with rfl | rfl | rfl <;> rfl) (rv_k dd r).1 (by have := (rv_k dd r).2; omega) (by have := rv_x dd r hd0 hd1; omega) (by have := rv_x dd r hd0 hd1; omega) (by have := rv_x dd r hd0 hd1; omega) (by have := rv_x dd r hd0 hd1; omega) rfl
    | 5, _ => exact E.movr hS rfl (show 5 + 1 < 7 by decide) (show (5 : Nat) ≤ 1000000 by decide) 0 5 (by decide) (by decide) rfl rfl
    | 6, _ => exact E.exit hS rfl (show 6 < 7 by decide) (show (6 : Nat) ≤ 1000000 by decide) rfl rfl) m cx hm hC
  refine hgo.mono ?_
  rintro e w' ⟨p1, m1, c1, p3, m3, c3, he, ho, hf⟩
  refine ⟨p1, m1, c1, p3, m3, c3, ?_, ho, hf⟩
  rw [he]
  exact congrArg (fun z : Int => Ending.returned (Value.tuple #[Value.agg #[Value.int .i64 z, Value.slice p1 m1 c1, Value.slice none 0 0, Value.slice p3 m3 c3], Value.int .i64 0])) (Int.sub_self (rv dd r).x)

def codeB (off dd : Int) (r : Nat) (s o : Nat) : Nat → Ins := codeOf [⟨15, false, true, 0, 4, 10, 0, 0⟩, ⟨1, false, false, 0, 4, 0, 0, -dd⟩, ⟨24, false, true, 8, 10, r, off, 0⟩, ⟨24, false, false, s, 10, 0, off + (o : Int), 77⟩, ⟨22, false, false, s, 0, 10, off + (o : Int), 0⟩, ⟨39, false, false, 0, 0, 0, 0, 0⟩]
set_option maxRecDepth 10000 in
theorem ptrB (off dd : Int) (i r : Nat) (hr : r = 1 ∨ r = 10 ∨ r = 4) (hd0 : 0 ≤ dd) (hd1 : dd ≤ 999) (hoff : off = 8 * (i : Int) - 256) (hi : i < 32) (s o : Nat) (hs : s = 1 ∨ s = 2 ∨ s = 4) (hos : o + s ≤ 8) (m : Nat) (hm : m ≤ 1000000) (cx : Nat → Int) {w1 : World} {b : Nat} {qb : Option Nat} {a : Array Value} {gc capc gu capu gm : Nat} {cv : Value} (E : Env w1 (layAt gc 6 capc gu capu gm cv) b qb gc capc gu capu 6 (codeB off dd r s o)) (h0 : Stands w1 w1 (layAt gc 6 capc gu capu gm cv) b qb (macStart m) a) (hC : CtxV cv qb a m cx) :
    Calls Tryz.prog 20 #[.pointer (some ⟨b, 0, none⟩), .int .i64 1048576] w1 fun e w' => ∃ p1 m1 c1 p3 m3 c3, e = .returned (.tuple #[.agg #[.int .i64 77, .slice p1 m1 c1, .slice none 0 0, .slice p3 m3 c3], .int .i64 0]) ∧ w'.ownsRow w1.heap.size 5 1 (.slice p1 m1 c1) m (bytesL cx m) ∧ Fr (SB b qb) w1 w' := by
  have hgo := go_done E rfl 6 (by decide) (fun k => match k with | 0 => macStart m | 1 => q1 m | 2 => q2 m dd | 3 => q3 m dd r i | 4 => ((q3 m dd r i).puts (8 * i + o) (byteOf 77) s).tick | 5 => ((((q3 m dd r i).puts (8 * i + o) (byteOf 77) s).tick).setReg 0 (.num (getF ((22 : Int) == 23) (fun j => (((q3 m dd r i).puts (8 * i + o) (byteOf 77) s).tick).byte (8 * i + o + j)) s))).tick | _ => Mac.leave (((((q3 m dd r i).puts (8 * i + o) (byteOf 77) s).tick).setReg 0 (.num (getF ((22 : Int) == 23) (fun j => (((q3 m dd r i).puts (8 * i + o) (byteOf 77) s).tick).byte (8 * i + o + j)) s))).tick)) (fun _ => a) h0 (fun k hk => by match k, hk with | 0, _ => rfl | 1, _ => rfl | 2, _ => rfl | 3, _ => rfl | 4, _ => exact ((puts_same (q3 m dd r i) (8 * i + o) (byteOf 77) s).2.2.trans rfl) | 5, _ => exact ((puts_same (q3 m dd r i) (8 * i + o) (byteOf 77) s).2.2.trans rfl)) rfl (fun k hk W hS => by
    match k, hk with
    | 0, _ => exact E.movr hS rfl (show 0 + 1 < 6 by decide) (show (0 : Nat) ≤ 1000000 by decide) 4 10 (by decide) (by decide) rfl rfl
    | 1, _ => exact E.addi hS rfl (show 1 + 1 < 6 by decide) (show (1 : Nat) ≤ 1000000 by decide) 4 (by decide) (-dd) 2 0 0 256 rfl (by decide) (by omega) (by omega) (by omega) (by omega) rfl
    | 2, _ => exact E.storePtr hS rfl (show 2 + 1 < 6 by decide) (show (2 : Nat) ≤ 1000000 by decide) 10 r (by decide) (by omega) off 0 0 256 (rv dd r).k (rv dd r).t (rv dd r).r (rv dd r).x rfl (q2_reg m dd r hr) (8 * i) (by simp) (by omega) (rv_k dd r).1 (by omega) rfl
    | 3, _ => exact E.storeImm hS rfl (show 3 + 1 < 6 by decide) (show (3 : Nat) ≤ 1000000 by decide) 10 (by decide) s (off + (o : Int)) 77 0 0 256 rfl (8 * i + o) (by omega) (by omega) (by omega) (by omega) rfl
    | 4, _ => exact (by
        have hS : Stands w1 W (layAt gc 6 capc gu capu gm cv) b qb (((q3 m dd r i).puts (8 * i + o) (byteOf 77) s).tick) a := hS
        exact E.loadStack hS ((puts_same (q3 m dd r i) (8 * i + o) (byteOf 77) s).2.2.trans rfl) (by rw [show (((q3 m dd r i).puts (8 * i + o) (byteOf 77) s).tick).pc = 4 from congrArg (· + 1) ((puts_same (q3 m dd r i) (8 * i + o) (byteOf 77) s).1.trans rfl)]; decide) (by rw [show (((q3 m dd r i).puts (8 * i + o) (byteOf 77) s).tick).steps = 4 from congrArg (· + 1) ((puts_same (q3 m dd r i) (8 * i + o) (byteOf 77) s).2.1.trans rfl)]; decide) 22 (by decide) (by decide) 0 10 (by decide) (by decide) s (off + (o : Int)) 0 0 256 ((congrFun (puts_reg (q3 m dd r i) (8 * i + o) (byteOf 77) s) 10).trans rfl) (8 * i + o) (by omega) (by omega) (by omega) (by omega) (.inr ⟨rfl, .inl (by rw [beq_eq_false_iff_ne]; omega)⟩) (rdE_puts (q3 m dd r i) (8 * i + o) (byteOf 77) s) (by rw [show (((q3 m dd r i).puts (8 * i + o) (byteOf 77) s).tick).pc = 4 from congrArg (· + 1) ((puts_same (q3 m dd r i) (8 * i + o) (byteOf 77) s).1.trans rfl)]; rfl))
    | 5, _ => exact (by
        have hS : Stands w1 W (layAt gc 6 capc gu capu gm cv) b qb (((((q3 m dd r i).puts (8 * i + o) (byteOf 77) s).tick).setReg 0 (.num (getF ((22 : Int) == 23) (fun j => (((q3 m dd r i).puts (8 * i + o) (byteOf 77) s).tick).byte (8 * i + o + j)) s))).tick) a := hS
        exact E.exit hS ((puts_same (q3 m dd r i) (8 * i + o) (byteOf 77) s).2.2.trans rfl) (by rw [show (((((q3 m dd r i).puts (8 * i + o) (byteOf 77) s).tick).setReg 0 (.num (getF ((22 : Int) == 23) (fun j => (((q3 m dd r i).puts (8 * i + o) (byteOf 77) s).tick).byte (8 * i + o + j)) s))).tick).pc = 5 from congrArg (· + 1 + 1) ((puts_same (q3 m dd r i) (8 * i + o) (byteOf 77) s).1.trans rfl)]; decide) (by rw [show (((((q3 m dd r i).puts (8 * i + o) (byteOf 77) s).tick).setReg 0 (.num (getF ((22 : Int) == 23) (fun j => (((q3 m dd r i).puts (8 * i + o) (byteOf 77) s).tick).byte (8 * i + o + j)) s))).tick).steps = 5 from congrArg (· + 1 + 1) ((puts_same (q3 m dd r i) (8 * i + o) (byteOf 77) s).2.1.trans rfl)]; decide) rfl (by rw [show (((((q3 m dd r i).puts (8 * i + o) (byteOf 77) s).tick).setReg 0 (.num (getF ((22 : Int) == 23) (fun j => (((q3 m dd r i).puts (8 * i + o) (byteOf 77) s).tick).byte (8 * i + o + j)) s))).tick).pc = 5 from congrArg (· + 1 + 1) ((puts_same (q3 m dd r i) (8 * i + o) (byteOf 77) s).1.trans rfl)]; rfl))) m cx hm hC
  refine hgo.mono ?_
  rintro e w' ⟨p1, m1, c1, p3, m3, c3, he, ho, hf⟩
  refine ⟨p1, m1, c1, p3, m3, c3, ?_, ho, hf⟩
  rw [he]
  exact congrArg (fun z : Int => Ending.returned (Value.tuple #[Value.agg #[Value.int .i64 z, Value.slice p1 m1 c1, Value.slice none 0 0, Value.slice p3 m3 c3], Value.int .i64 0])) (show getF ((22 : Int) == 23) (fun j => (((q3 m dd r i).puts (8 * i + o) (byteOf 77) s).tick).byte (8 * i + o + j)) s = 77 from (getF_congr false _ (byteOf 77) s (fun j hj => (puts_at (q3 m dd r i) (8 * i + o) (byteOf 77) s j hj).2.1)).trans (get77 s hs))

def codeC (off dd : Int) (r : Nat) (s o t : Nat) : Nat → Ins := codeOf [⟨15, false, true, 0, 4, 10, 0, 0⟩, ⟨1, false, false, 0, 4, 0, 0, -dd⟩, ⟨24, false, true, 8, 10, r, off, 0⟩, ⟨24, false, false, s, 10, 0, off + (o : Int), 77⟩, ⟨22, false, false, 1, 0, 10, off + (t : Int), 0⟩, ⟨39, false, false, 0, 0, 0, 0, 0⟩]
set_option maxRecDepth 10000 in
theorem ptrC (off dd : Int) (i r : Nat) (hr : r = 1 ∨ r = 10 ∨ r = 4) (hd0 : 0 ≤ dd) (hd1 : dd ≤ 999) (hoff : off = 8 * (i : Int) - 256) (hi : i < 32) (s o t : Nat) (hs : s = 1 ∨ s = 2 ∨ s = 4) (hos : o + s ≤ 8) (ht : t < 8) (hts : t < o ∨ o + s ≤ t) (m : Nat) (_hm : m ≤ 1000000) (cx : Nat → Int) {w1 : World} {b : Nat} {qb : Option Nat} {a : Array Value} {gc capc gu capu gm : Nat} {cv : Value} (E : Env w1 (layAt gc 6 capc gu capu gm cv) b qb gc capc gu capu 6 (codeC off dd r s o t)) (h0 : Stands w1 w1 (layAt gc 6 capc gu capu gm cv) b qb (macStart m) a) (_hC : CtxV cv qb a m cx) :
    Calls Tryz.prog 20 #[.pointer (some ⟨b, 0, none⟩), .int .i64 1048576] w1 fun e w' => e = .returned (.tuple #[.agg infoZero, .int .i64 82]) ∧ Fr (SB b qb) w1 w' := by
  exact go_trap E 4 (by decide) (fun k => match k with | 0 => macStart m | 1 => q1 m | 2 => q2 m dd | 3 => q3 m dd r i | _ => ((q3 m dd r i).puts (8 * i + o) (byteOf 77) s).tick) (fun _ => a) h0 (fun k hk => by match k, hk with | 0, _ => rfl | 1, _ => rfl | 2, _ => rfl | 3, _ => rfl | 4, _ => exact ((puts_same (q3 m dd r i) (8 * i + o) (byteOf 77) s).2.2.trans rfl)) (fun k hk W hS => by
    match k, hk with
    | 0, _ => exact E.movr hS rfl (show 0 + 1 < 6 by decide) (show (0 : Nat) ≤ 1000000 by decide) 4 10 (by decide) (by decide) rfl rfl
    | 1, _ => exact E.addi hS rfl (show 1 + 1 < 6 by decide) (show (1 : Nat) ≤ 1000000 by decide) 4 (by decide) (-dd) 2 0 0 256 rfl (by decide) (by omega) (by omega) (by omega) (by omega) rfl
    | 2, _ => exact E.storePtr hS rfl (show 2 + 1 < 6 by decide) (show (2 : Nat) ≤ 1000000 by decide) 10 r (by decide) (by omega) off 0 0 256 (rv dd r).k (rv dd r).t (rv dd r).r (rv dd r).x rfl (q2_reg m dd r hr) (8 * i) (by simp) (by omega) (rv_k dd r).1 (by omega) rfl
    | 3, _ => exact E.storeImm hS rfl (show 3 + 1 < 6 by decide) (show (3 : Nat) ≤ 1000000 by decide) 10 (by decide) s (off + (o : Int)) 77 0 0 256 rfl (8 * i + o) (by omega) (by omega) (by omega) (by omega) rfl) 82 (by decide) (fun W hS => by
    have hS : Stands w1 W (layAt gc 6 capc gu capu gm cv) b qb (((q3 m dd r i).puts (8 * i + o) (byteOf 77) s).tick) a := hS
    have h82 := (rdE_un (((q3 m dd r i).puts (8 * i + o) (byteOf 77) s).tick) (8 * i + t) 1 (fun j hj => by have h := (puts_at (q3 m dd r i) (8 * i + o) (byteOf 77) s 0 (by omega)).2.2; rw [show (8 * i + o + 0) / 8 = (8 * i + t + j) / 8 by omega] at h; exact h) 0 (by decide) (puts_wr_false (q3 m dd r i) (8 * i + o) (byteOf 77) s (8 * i + t + 0) (by omega) (q3_wr m dd r i (8 * i + t + 0) (by omega))))
    have := E.loadStackTrap hS ((puts_same (q3 m dd r i) (8 * i + o) (byteOf 77) s).2.2.trans rfl) (by rw [show (((q3 m dd r i).puts (8 * i + o) (byteOf 77) s).tick).pc = 4 from congrArg (· + 1) ((puts_same (q3 m dd r i) (8 * i + o) (byteOf 77) s).1.trans rfl)]; decide) 22 (by decide) (by decide) 0 10 (by decide) 1 (off + (t : Int)) 0 0 256 ((congrFun (puts_reg (q3 m dd r i) (8 * i + o) (byteOf 77) s) 10).trans rfl) (8 * i + t) (by omega) (by omega) (by decide) (.inr ⟨rfl, .inl (by decide)⟩) (by rw [h82]; decide) (by rw [show (((q3 m dd r i).puts (8 * i + o) (byteOf 77) s).tick).pc = 4 from congrArg (· + 1) ((puts_same (q3 m dd r i) (8 * i + o) (byteOf 77) s).1.trans rfl)]; rfl)
    rwa [h82] at this)

def codeD (off dd : Int) (r : Nat) (s o t : Nat) : Nat → Ins := codeOf [⟨15, false, true, 0, 4, 10, 0, 0⟩, ⟨1, false, false, 0, 4, 0, 0, -dd⟩, ⟨24, false, true, 8, 10, r, off, 0⟩, ⟨22, false, false, s, 0, 10, off + (o : Int), 0⟩, ⟨22, false, false, 1, 0, 10, off + (t : Int), 0⟩, ⟨39, false, false, 0, 0, 0, 0, 0⟩]
set_option maxRecDepth 10000 in
theorem ptrD (off dd : Int) (i r : Nat) (hr : r = 1 ∨ r = 10 ∨ r = 4) (hd0 : 0 ≤ dd) (hd1 : dd ≤ 999) (hoff : off = 8 * (i : Int) - 256) (hi : i < 32) (s o t : Nat) (hs : s = 1 ∨ s = 2 ∨ s = 4) (hos : o + s ≤ 8) (m : Nat) (_hm : m ≤ 1000000) (cx : Nat → Int) {w1 : World} {b : Nat} {qb : Option Nat} {a : Array Value} {gc capc gu capu gm : Nat} {cv : Value} (E : Env w1 (layAt gc 6 capc gu capu gm cv) b qb gc capc gu capu 6 (codeD off dd r s o t)) (h0 : Stands w1 w1 (layAt gc 6 capc gu capu gm cv) b qb (macStart m) a) (_hC : CtxV cv qb a m cx) :
    Calls Tryz.prog 20 #[.pointer (some ⟨b, 0, none⟩), .int .i64 1048576] w1 fun e w' => e = .returned (.tuple #[.agg infoZero, .int .i64 80]) ∧ Fr (SB b qb) w1 w' := by
  exact go_trap E 3 (by decide) (fun k => match k with | 0 => macStart m | 1 => q1 m | 2 => q2 m dd | _ => q3 m dd r i) (fun _ => a) h0 (fun k hk => by match k, hk with | 0, _ => rfl | 1, _ => rfl | 2, _ => rfl | 3, _ => rfl) (fun k hk W hS => by
    match k, hk with
    | 0, _ => exact E.movr hS rfl (show 0 + 1 < 6 by decide) (show (0 : Nat) ≤ 1000000 by decide) 4 10 (by decide) (by decide) rfl rfl
    | 1, _ => exact E.addi hS rfl (show 1 + 1 < 6 by decide) (show (1 : Nat) ≤ 1000000 by decide) 4 (by decide) (-dd) 2 0 0 256 rfl (by decide) (by omega) (by omega) (by omega) (by omega) rfl
    | 2, _ => exact E.storePtr hS rfl (show 2 + 1 < 6 by decide) (show (2 : Nat) ≤ 1000000 by decide) 10 r (by decide) (by omega) off 0 0 256 (rv dd r).k (rv dd r).t (rv dd r).r (rv dd r).x rfl (q2_reg m dd r hr) (8 * i) (by simp) (by omega) (rv_k dd r).1 (by omega) rfl) 80 (by decide) (fun W hS => by
    have hS : Stands w1 W (layAt gc 6 capc gu capu gm cv) b qb (q3 m dd r i) a := hS
    have h80 := (rdE_held (q3 m dd r i) (8 * i + o) s 0 (by omega) (by rw [show (8 * i + o + 0) / 8 = i by omega, q3_ptr]; have := (rv_k dd r).1; omega))
    have := E.loadStackTrap hS rfl (show 3 + 1 < 6 by decide)  22 (by decide) (by decide) 0 10 (by decide) s (off + (o : Int)) 0 0 256 rfl (8 * i + o) (by omega) (by omega) (by rw [beq_eq_false_iff_ne]; omega) (.inr ⟨rfl, .inl (by rw [beq_eq_false_iff_ne]; omega)⟩) (by rw [h80]; decide) rfl
    rwa [h80] at this)

def codeH (off dd : Int) (r : Nat) (t : Nat) : Nat → Ins := codeOf [⟨15, false, true, 0, 4, 10, 0, 0⟩, ⟨1, false, false, 0, 4, 0, 0, -dd⟩, ⟨24, false, true, 8, 10, r, off, 0⟩, ⟨22, false, false, 8, 0, 10, off - 4, 0⟩, ⟨22, false, false, 1, 0, 10, off + (t : Int), 0⟩, ⟨39, false, false, 0, 0, 0, 0, 0⟩]
set_option maxRecDepth 10000 in
theorem ptrH (off dd : Int) (i r : Nat) (hr : r = 1 ∨ r = 10 ∨ r = 4) (hd0 : 0 ≤ dd) (hd1 : dd ≤ 999) (hoff : off = 8 * (i : Int) - 256) (hi : i < 32) (t : Nat) (hi0 : 1 ≤ i) (m : Nat) (_hm : m ≤ 1000000) (cx : Nat → Int) {w1 : World} {b : Nat} {qb : Option Nat} {a : Array Value} {gc capc gu capu gm : Nat} {cv : Value} (E : Env w1 (layAt gc 6 capc gu capu gm cv) b qb gc capc gu capu 6 (codeH off dd r t)) (h0 : Stands w1 w1 (layAt gc 6 capc gu capu gm cv) b qb (macStart m) a) (_hC : CtxV cv qb a m cx) :
    Calls Tryz.prog 20 #[.pointer (some ⟨b, 0, none⟩), .int .i64 1048576] w1 fun e w' => e = .returned (.tuple #[.agg infoZero, .int .i64 80]) ∧ Fr (SB b qb) w1 w' := by
  exact go_trap E 3 (by decide) (fun k => match k with | 0 => macStart m | 1 => q1 m | 2 => q2 m dd | _ => q3 m dd r i) (fun _ => a) h0 (fun k hk => by match k, hk with | 0, _ => rfl | 1, _ => rfl | 2, _ => rfl | 3, _ => rfl) (fun k hk W hS => by
    match k, hk with
    | 0, _ => exact E.movr hS rfl (show 0 + 1 < 6 by decide) (show (0 : Nat) ≤ 1000000 by decide) 4 10 (by decide) (by decide) rfl rfl
    | 1, _ => exact E.addi hS rfl (show 1 + 1 < 6 by decide) (show (1 : Nat) ≤ 1000000 by decide) 4 (by decide) (-dd) 2 0 0 256 rfl (by decide) (by omega) (by omega) (by omega) (by omega) rfl
    | 2, _ => exact E.storePtr hS rfl (show 2 + 1 < 6 by decide) (show (2 : Nat) ≤ 1000000 by decide) 10 r (by decide) (by omega) off 0 0 256 (rv dd r).k (rv dd r).t (rv dd r).r (rv dd r).x rfl (q2_reg m dd r hr) (8 * i) (by simp) (by omega) (rv_k dd r).1 (by omega) rfl) 80 (by decide) (fun W hS => by
    have hS : Stands w1 W (layAt gc 6 capc gu capu gm cv) b qb (q3 m dd r i) a := hS
    have h80 := (rdE_held (q3 m dd r i) (8 * i - 4) 8 4 (by decide) (by rw [show (8 * i - 4 + 4) / 8 = i by omega, q3_ptr]; have := (rv_k dd r).1; omega))
    have := E.loadStackTrap hS rfl (show 3 + 1 < 6 by decide)  22 (by decide) (by decide) 0 10 (by decide) 8 (off - 4) 0 0 256 rfl (8 * i - 4) (by omega) (by omega) (by decide) (.inr ⟨rfl, .inr ⟨rfl, .inl (by rw [beq_eq_false_iff_ne]; omega)⟩⟩) (by rw [h80]; decide) rfl
    rwa [h80] at this)

def codeE (dd : Int) (r x : Nat) : Nat → Ins := codeOf [⟨15, false, true, 0, 4, 10, 0, 0⟩, ⟨1, false, false, 0, 4, 0, 0, -dd⟩, ⟨24, false, true, 8, 10, r, -9 - (x : Int), 0⟩, ⟨15, false, false, 0, 0, 0, 0, 1⟩, ⟨39, false, false, 0, 0, 0, 0, 0⟩]
set_option maxRecDepth 10000 in
theorem ptrE (dd : Int) (r : Nat) (hr : r = 1 ∨ r = 10 ∨ r = 4) (hd0 : 0 ≤ dd) (hd1 : dd ≤ 999) (x : Nat) (hx : x ≤ 63) (hal : (247 - x) % 8 = 0) (m : Nat) (hm : m ≤ 1000000) (cx : Nat → Int) {w1 : World} {b : Nat} {qb : Option Nat} {a : Array Value} {gc capc gu capu gm : Nat} {cv : Value} (E : Env w1 (layAt gc 5 capc gu capu gm cv) b qb gc capc gu capu 5 (codeE dd r x)) (h0 : Stands w1 w1 (layAt gc 5 capc gu capu gm cv) b qb (macStart m) a) (hC : CtxV cv qb a m cx) :
    Calls Tryz.prog 20 #[.pointer (some ⟨b, 0, none⟩), .int .i64 1048576] w1 fun e w' => ∃ p1 m1 c1 p3 m3 c3, e = .returned (.tuple #[.agg #[.int .i64 1, .slice p1 m1 c1, .slice none 0 0, .slice p3 m3 c3], .int .i64 0]) ∧ w'.ownsRow w1.heap.size 5 1 (.slice p1 m1 c1) m (bytesL cx m) ∧ Fr (SB b qb) w1 w' := by
  have hgo := go_done E rfl 5 (by decide) (fun k => match k with | 0 => macStart m | 1 => q1 m | 2 => q2 m dd | 3 => ((q2 m dd).setPtr ((247 - x) / 8) (rv dd r)).tick | 4 => ((((q2 m dd).setPtr ((247 - x) / 8) (rv dd r)).tick).setReg 0 (.num 1)).tick | _ => Mac.leave (((((q2 m dd).setPtr ((247 - x) / 8) (rv dd r)).tick).setReg 0 (.num 1)).tick)) (fun _ => a) h0 (fun k hk => by match k, hk with | 0, _ => rfl | 1, _ => rfl | 2, _ => rfl | 3, _ => rfl | 4, _ => rfl) rfl (fun k hk W hS => by
    match k, hk with
    | 0, _ => exact E.movr hS rfl (show 0 + 1 < 5 by decide) (show (0 : Nat) ≤ 1000000 by decide) 4 10 (by decide) (by decide) rfl rfl
    | 1, _ => exact E.addi hS rfl (show 1 + 1 < 5 by decide) (show (1 : Nat) ≤ 1000000 by decide) 4 (by decide) (-dd) 2 0 0 256 rfl (by decide) (by omega) (by omega) (by omega) (by omega) rfl
    | 2, _ => exact E.storePtr hS rfl (show 2 + 1 < 5 by decide) (show (2 : Nat) ≤ 1000000 by decide) 10 r (by decide) (by omega) (-9 - (x : Int)) 0 0 256 (rv dd r).k (rv dd r).t (rv dd r).r (rv dd r).x rfl (q2_reg m dd r hr) (247 - x) (by simp; omega) (by omega) (rv_k dd r).1 (by omega) rfl
    | 3, _ => exact E.movi hS rfl (show 3 + 1 < 5 by decide) (show (3 : Nat) ≤ 1000000 by decide) 0 (by decide) 1 rfl
    | 4, _ => exact E.exit hS rfl (show 4 < 5 by decide) (show (4 : Nat) ≤ 1000000 by decide) rfl rfl) m cx hm hC
  refine hgo.mono ?_
  rintro e w' ⟨p1, m1, c1, p3, m3, c3, he, ho, hf⟩
  refine ⟨p1, m1, c1, p3, m3, c3, ?_, ho, hf⟩
  rw [he]
  exact congrArg (fun z : Int => Ending.returned (Value.tuple #[Value.agg #[Value.int .i64 z, Value.slice p1 m1 c1, Value.slice none 0 0, Value.slice p3 m3 c3], Value.int .i64 0])) rfl

set_option maxRecDepth 10000 in
theorem ptrE2 (dd : Int) (r : Nat) (hr : r = 1 ∨ r = 10 ∨ r = 4) (hd0 : 0 ≤ dd) (hd1 : dd ≤ 999) (x : Nat) (hx : x ≤ 63) (hal : (247 - x) % 8 ≠ 0) (m : Nat) (_hm : m ≤ 1000000) (cx : Nat → Int) {w1 : World} {b : Nat} {qb : Option Nat} {a : Array Value} {gc capc gu capu gm : Nat} {cv : Value} (E : Env w1 (layAt gc 5 capc gu capu gm cv) b qb gc capc gu capu 5 (codeE dd r x)) (h0 : Stands w1 w1 (layAt gc 5 capc gu capu gm cv) b qb (macStart m) a) (_hC : CtxV cv qb a m cx) :
    Calls Tryz.prog 20 #[.pointer (some ⟨b, 0, none⟩), .int .i64 1048576] w1 fun e w' => e = .returned (.tuple #[.agg infoZero, .int .i64 86]) ∧ Fr (SB b qb) w1 w' := by
  exact go_trap E 2 (by decide) (fun k => match k with | 0 => macStart m | 1 => q1 m | _ => q2 m dd) (fun _ => a) h0 (fun k hk => by match k, hk with | 0, _ => rfl | 1, _ => rfl | 2, _ => rfl) (fun k hk W hS => by
    match k, hk with
    | 0, _ => exact E.movr hS rfl (show 0 + 1 < 5 by decide) (show (0 : Nat) ≤ 1000000 by decide) 4 10 (by decide) (by decide) rfl rfl
    | 1, _ => exact E.addi hS rfl (show 1 + 1 < 5 by decide) (show (1 : Nat) ≤ 1000000 by decide) 4 (by decide) (-dd) 2 0 0 256 rfl (by decide) (by omega) (by omega) (by omega) (by omega) rfl) 86 (by decide) (fun W hS => E.leakStack hS rfl (show 2 + 1 < 5 by decide) 10 r (by decide) (by omega) (-9 - (x : Int)) 0 0 256 (rv dd r).k (rv dd r).t (rv dd r).r (rv dd r).x rfl (q2_reg m dd r hr) (247 - x) (by simp; omega) (by omega) (rv_k dd r).1 (by omega) rfl)

def codeF (dd : Int) (r x : Nat) : Nat → Ins := codeOf [⟨15, false, true, 0, 4, 10, 0, 0⟩, ⟨1, false, false, 0, 4, 0, 0, -dd⟩, ⟨24, false, true, 8, 1, r, x, 0⟩, ⟨15, false, false, 0, 0, 0, 0, 1⟩, ⟨39, false, false, 0, 0, 0, 0, 0⟩]
set_option maxRecDepth 10000 in
theorem ptrF (dd : Int) (r : Nat) (hr : r = 1 ∨ r = 10 ∨ r = 4) (hd0 : 0 ≤ dd) (hd1 : dd ≤ 999) (x : Nat) (hx : x ≤ 7) (m : Nat) (hmx : x + 8 ≤ m) (_hm : m ≤ 1000000) (cx : Nat → Int) {w1 : World} {b : Nat} {qb : Option Nat} {a : Array Value} {gc capc gu capu gm : Nat} {cv : Value} (E : Env w1 (layAt gc 5 capc gu capu gm cv) b qb gc capc gu capu 5 (codeF dd r x)) (h0 : Stands w1 w1 (layAt gc 5 capc gu capu gm cv) b qb (macStart m) a) (hC : CtxV cv qb a m cx) :
    Calls Tryz.prog 20 #[.pointer (some ⟨b, 0, none⟩), .int .i64 1048576] w1 fun e w' => e = .returned (.tuple #[.agg infoZero, .int .i64 86]) ∧ Fr (SB b qb) w1 w' := by
  exact go_trap E 2 (by decide) (fun k => match k with | 0 => macStart m | 1 => q1 m | _ => q2 m dd) (fun _ => a) h0 (fun k hk => by match k, hk with | 0, _ => rfl | 1, _ => rfl | 2, _ => rfl) (fun k hk W hS => by
    match k, hk with
    | 0, _ => exact E.movr hS rfl (show 0 + 1 < 5 by decide) (show (0 : Nat) ≤ 1000000 by decide) 4 10 (by decide) (by decide) rfl rfl
    | 1, _ => exact E.addi hS rfl (show 1 + 1 < 5 by decide) (show (1 : Nat) ≤ 1000000 by decide) 4 (by decide) (-dd) 2 0 0 256 rfl (by decide) (by omega) (by omega) (by omega) (by omega) rfl) 86 (by decide) (fun W hS => by
    rcases hC with ⟨_, _, h0⟩ | ⟨bc, capC, _, hL, _, _, _⟩
    · omega
    · exact E.leakCtx hS rfl (show 2 + 1 < 5 by decide) 1 r (by decide) (by omega) 8 x 0 0 0 (rv dd r).k (rv dd r).t (rv dd r).r (rv dd r).x rfl (q2_reg m dd r hr) x (some ⟨bc, 0, none⟩) m capC hL (by omega) (by omega) (rv_k dd r).1 (by decide) (by omega) rfl)

set_option maxRecDepth 10000 in
theorem ptrG (dd : Int) (r : Nat) (hr : r = 1 ∨ r = 10 ∨ r = 4) (hd0 : 0 ≤ dd) (hd1 : dd ≤ 999) (x : Nat) (hx : x ≤ 7) (m : Nat) (hmx : m = x + 7) (_hm : m ≤ 1000000) (cx : Nat → Int) {w1 : World} {b : Nat} {qb : Option Nat} {a : Array Value} {gc capc gu capu gm : Nat} {cv : Value} (E : Env w1 (layAt gc 5 capc gu capu gm cv) b qb gc capc gu capu 5 (codeF dd r x)) (h0 : Stands w1 w1 (layAt gc 5 capc gu capu gm cv) b qb (macStart m) a) (hC : CtxV cv qb a m cx) :
    Calls Tryz.prog 20 #[.pointer (some ⟨b, 0, none⟩), .int .i64 1048576] w1 fun e w' => e = .returned (.tuple #[.agg infoZero, .int .i64 81]) ∧ Fr (SB b qb) w1 w' := by
  exact go_trap E 2 (by decide) (fun k => match k with | 0 => macStart m | 1 => q1 m | _ => q2 m dd) (fun _ => a) h0 (fun k hk => by match k, hk with | 0, _ => rfl | 1, _ => rfl | 2, _ => rfl) (fun k hk W hS => by
    match k, hk with
    | 0, _ => exact E.movr hS rfl (show 0 + 1 < 5 by decide) (show (0 : Nat) ≤ 1000000 by decide) 4 10 (by decide) (by decide) rfl rfl
    | 1, _ => exact E.addi hS rfl (show 1 + 1 < 5 by decide) (show (1 : Nat) ≤ 1000000 by decide) 4 (by decide) (-dd) 2 0 0 256 rfl (by decide) (by omega) (by omega) (by omega) (by omega) rfl) 81 (by decide) (fun W hS => by
    rcases hC with ⟨_, _, h0⟩ | ⟨bc, capC, _, hL, _, _, _⟩
    · omega
    · exact E.storeOutCtx hS rfl (show 2 + 1 < 5 by decide) 1 r (by decide) (by omega) 8 x 0 0 0 (rv dd r).k (rv dd r).t (rv dd r).r (rv dd r).x rfl (q2_reg m dd r hr) (some ⟨bc, 0, none⟩) m capC hL (by rw [beq_eq_false_iff_ne]; have := (rv_k dd r).1; omega) (by omega) (by omega) (by decide) (by omega) rfl)

def codeI (dd : Int) (r : Nat) : Nat → Ins := codeOf [⟨15, false, true, 0, 4, 10, 0, 0⟩, ⟨1, false, false, 0, 4, 0, 0, -dd⟩, ⟨15, false, true, 0, 0, r, 0, 0⟩, ⟨39, false, false, 0, 0, 0, 0, 0⟩]
set_option maxRecDepth 10000 in
theorem ptrI (dd : Int) (r : Nat) (hr : r = 1 ∨ r = 10 ∨ r = 4) (hd0 : 0 ≤ dd) (hd1 : dd ≤ 999) (m : Nat) (_hm : m ≤ 1000000) (cx : Nat → Int) {w1 : World} {b : Nat} {qb : Option Nat} {a : Array Value} {gc capc gu capu gm : Nat} {cv : Value} (E : Env w1 (layAt gc 4 capc gu capu gm cv) b qb gc capc gu capu 4 (codeI dd r)) (h0 : Stands w1 w1 (layAt gc 4 capc gu capu gm cv) b qb (macStart m) a) (_hC : CtxV cv qb a m cx) :
    Calls Tryz.prog 20 #[.pointer (some ⟨b, 0, none⟩), .int .i64 1048576] w1 fun e w' => e = .returned (.tuple #[.agg infoZero, .int .i64 86]) ∧ Fr (SB b qb) w1 w' := by
  exact go_trap E 3 (by decide) (fun k => match k with | 0 => macStart m | 1 => q1 m | 2 => q2 m dd | _ => ((q2 m dd).setReg 0 (rv dd r)).tick) (fun _ => a) h0 (fun k hk => by match k, hk with | 0, _ => rfl | 1, _ => rfl | 2, _ => rfl | 3, _ => rfl) (fun k hk W hS => by
    match k, hk with
    | 0, _ => exact E.movr hS rfl (show 0 + 1 < 4 by decide) (show (0 : Nat) ≤ 1000000 by decide) 4 10 (by decide) (by decide) rfl rfl
    | 1, _ => exact E.addi hS rfl (show 1 + 1 < 4 by decide) (show (1 : Nat) ≤ 1000000 by decide) 4 (by decide) (-dd) 2 0 0 256 rfl (by decide) (by omega) (by omega) (by omega) (by omega) rfl
    | 2, _ => exact (by
      have hS : Stands w1 W (layAt gc 4 capc gu capu gm cv) b qb (q2 m dd) a := hS
      have := E.movr hS rfl (show 2 + 1 < 4 by decide) (show (2 : Nat) ≤ 1000000 by decide) 0 r (by decide) (by omega) (by rw [q2_reg m dd r hr, beq_eq_false_iff_ne]; have := (rv_k dd r).1; omega) rfl
      rwa [q2_reg m dd r hr] at this)) 86 (by decide) (fun W hS => E.exitPtr hS rfl (show 3 < 4 by decide) (rv dd r).k (rv dd r).t (rv dd r).r (rv dd r).x rfl (by rw [beq_eq_false_iff_ne]; have := (rv_k dd r).1; omega) rfl)

end Go.Proofs.YtkhbjhmhdlmmfaaGreat
