/- The runs of the law on memory: what each comes to. -/
import Derived.Test.YtkhbjhmhdlmmfaaGreatYb
namespace Go.Proofs.YtkhbjhmhdlmmfaaGreat
open Go.RowKit

def mm1 (m : Nat) (v : Int) : Mac := ((macStart m).setReg 3 (.num v)).tick
def mm2 (m : Nat) (v : Int) : Mac := ((mm1 m v).setReg 4 ⟨3, 0, 0, 0⟩).tick
/-- the bytes of the context behind the store -/
def cxPut (cx : Nat → Int) (t k : Nat) (v : Int) (j : Nat) : Int := if t ≤ j ∧ j < t + k then byteOf v (j - t) else cx j
theorem cxPut_at (cx : Nat → Int) (t k : Nat) (v : Int) (j : Nat) (h : j < k) : cxPut cx t k v (t + j) = byteOf v j := by
  unfold cxPut
  rw [if_pos (by omega), Nat.add_sub_cancel_left]
theorem cxPut_arr {a : Array Value} {cx : Nat → Int} {m t k : Nat} (v : Int) (h : ∀ j, j < m → a[j]? = some (.int .u8 (cx j))) (hk : t + k ≤ m) (hm : m ≤ a.size) : ∀ j, j < m → (spliced a t k (byteOf v))[j]? = some (.int .u8 (cxPut cx t k v j)) := by
  intro j hj
  rw [spliced_get a t k (byteOf v) (by omega) j]
  unfold cxPut
  by_cases h1 : t ≤ j ∧ j < t + k
  · rw [if_pos h1, if_pos h1]
  · rw [if_neg h1, if_neg h1]; exact h j hj

def codeM (v : Int) (k t : Nat) : Nat → Ins := codeOf [⟨20, false, false, 0, 3, 0, 0, v⟩, ⟨15, false, true, 0, 4, 1, 0, 0⟩, ⟨24, false, true, k, 4, 3, t, 0⟩, ⟨22, false, false, k, 0, 4, t, 0⟩, ⟨39, false, false, 0, 0, 0, 0, 0⟩]
set_option maxRecDepth 10000 in
theorem memA (v : Int) (k t : Nat) (hk1 : 1 ≤ k) (hk8 : k ≤ 8) (m : Nat) (ht : t + k ≤ m) (hm : m ≤ 1000) (cx : Nat → Int) {w1 : World} {b : Nat} {qb : Option Nat} {a : Array Value} {gc capc gu capu gm : Nat} {cv : Value} (E : Env w1 (layAt gc 5 capc gu capu gm cv) b qb gc capc gu capu 5 (codeM v k t)) (h0 : Stands w1 w1 (layAt gc 5 capc gu capu gm cv) b qb (macStart m) a) (hC : CtxV cv qb a m cx) :
    Calls Tryz.prog 20 #[.pointer (some ⟨b, 0, none⟩), .int .i64 1048576] w1 fun e w' => ∃ p1 m1 c1 p3 m3 c3, e = .returned (.tuple #[.agg #[.int .i64 (getF false (byteOf v) k), .slice p1 m1 c1, .slice none 0 0, .slice p3 m3 c3], .int .i64 0]) ∧ w'.ownsRow w1.heap.size 5 1 (.slice p1 m1 c1) m (bytesL (cxPut cx t k v) m) ∧ Fr (SB b qb) w1 w' := by
  rcases hC with ⟨_, _, h0m⟩ | ⟨bc, cap, hq, hL, hsz, hmc, hx⟩
  · omega
  have hx2 := cxPut_arr v hx ht (by omega)
  have hgo := go_done E rfl 5 (by decide) (fun j => match j with | 0 => macStart m | 1 => mm1 m v | 2 => mm2 m v | 3 => (mm2 m v).tick | 4 => (((mm2 m v).tick).setReg 0 (.num (getF ((22 : Int) == 23) (fun j => cxPut cx t k v (t + j)) k))).tick | _ => Mac.leave ((((mm2 m v).tick).setReg 0 (.num (getF ((22 : Int) == 23) (fun j => cxPut cx t k v (t + j)) k))).tick)) (fun j => if j < 3 then a else spliced a t k (byteOf v)) h0 (fun j hj => by match j, hj with | 0, _ => rfl | 1, _ => rfl | 2, _ => rfl | 3, _ => rfl | 4, _ => rfl) rfl (fun j hj W hS => by
    match j, hj with
    | 0, _ => exact E.wide hS rfl (show 0 + 1 < 5 by decide) (show (0 : Nat) ≤ 1000000 by decide) 3 (by decide) v rfl
    | 1, _ => exact E.movr hS rfl (show 1 + 1 < 5 by decide) (show (1 : Nat) ≤ 1000000 by decide) 4 1 (by decide) (by decide) rfl rfl
    | 2, _ => exact E.storeCtx hS rfl (show 2 + 1 < 5 by decide) (show (2 : Nat) ≤ 1000000 by decide) 4 3 (by decide) (by decide) k t 0 0 0 0 0 v rfl rfl t (by omega) bc m cap hq hL hsz hmc ht hk1 hk8 (by omega) rfl
    | 3, _ => exact E.loadCtx hS rfl (show 3 + 1 < 5 by decide) (show (3 : Nat) ≤ 1000000 by decide) 22 (by decide) (by decide) 0 4 (by decide) (by decide) k t 0 0 0 rfl t bc m cap hq hL hmc (cxPut cx t k v) hx2 (by omega) ht hk1 hk8 (by omega) rfl
    | 4, _ => exact E.exit hS rfl (show 4 < 5 by decide) (show (4 : Nat) ≤ 1000000 by decide) rfl rfl) m (cxPut cx t k v) (by omega) (.inr ⟨bc, cap, hq, hL, by show (spliced a t k (byteOf v)).size = cap; rw [spliced_size a t k _ (by omega)]; exact hsz, hmc, hx2⟩)
  refine hgo.mono ?_
  rintro e w' ⟨p1, m1, c1, p3, m3, c3, he, ho, hf⟩
  refine ⟨p1, m1, c1, p3, m3, c3, ?_, ho, hf⟩
  rw [he]
  exact congrArg (fun z : Int => Ending.returned (Value.tuple #[Value.agg #[Value.int .i64 z, Value.slice p1 m1 c1, Value.slice none 0 0, Value.slice p3 m3 c3], Value.int .i64 0])) (getF_congr false _ (byteOf v) k (fun j hj => cxPut_at cx t k v j hj))

set_option maxRecDepth 10000 in
theorem memB (v : Int) (k t : Nat) (hk8 : k ≤ 8) (m : Nat) (ht : m < t + k) (ht2 : t ≤ 1000) (hm1 : 1 ≤ m) (cx : Nat → Int) {w1 : World} {b : Nat} {qb : Option Nat} {a : Array Value} {gc capc gu capu gm : Nat} {cv : Value} (E : Env w1 (layAt gc 5 capc gu capu gm cv) b qb gc capc gu capu 5 (codeM v k t)) (h0 : Stands w1 w1 (layAt gc 5 capc gu capu gm cv) b qb (macStart m) a) (hC : CtxV cv qb a m cx) :
    Calls Tryz.prog 20 #[.pointer (some ⟨b, 0, none⟩), .int .i64 1048576] w1 fun e w' => e = .returned (.tuple #[.agg infoZero, .int .i64 81]) ∧ Fr (SB b qb) w1 w' := by
  rcases hC with ⟨_, _, h0m⟩ | ⟨bc, cap, hq, hL, hsz, hmc, hx⟩
  · omega
  exact go_trap E 2 (by decide) (fun j => match j with | 0 => macStart m | 1 => mm1 m v | _ => mm2 m v) (fun _ => a) h0 (fun j hj => by match j, hj with | 0, _ => rfl | 1, _ => rfl | 2, _ => rfl) (fun j hj W hS => by
    match j, hj with
    | 0, _ => exact E.wide hS rfl (show 0 + 1 < 5 by decide) (show (0 : Nat) ≤ 1000000 by decide) 3 (by decide) v rfl
    | 1, _ => exact E.movr hS rfl (show 1 + 1 < 5 by decide) (show (1 : Nat) ≤ 1000000 by decide) 4 1 (by decide) (by decide) rfl rfl) 81 (by decide) (fun W hS => E.storeOutCtx hS rfl (show 2 + 1 < 5 by decide) 4 3 (by decide) (by decide) k t 0 0 0 1 0 0 v rfl rfl (some ⟨bc, 0, none⟩) m cap hL (by decide) (by omega) (by omega) hk8 (by omega) rfl)

def codeN (v : Int) (k : Nat) (op off off2 : Int) : Nat → Ins := codeOf [⟨20, false, false, 0, 3, 0, 0, v⟩, ⟨24, false, true, k, 10, 3, off, 0⟩, ⟨op, false, false, k, 0, 10, off2, 0⟩, ⟨39, false, false, 0, 0, 0, 0, 0⟩]
def mn2 (m : Nat) (v : Int) (s k : Nat) : Mac := ((mm1 m v).puts s (byteOf v) k).tick
theorem mn2_same (m : Nat) (v : Int) (s k : Nat) : (mn2 m v s k).pc = 2 ∧ (mn2 m v s k).steps = 2 ∧ (mn2 m v s k).done = false := by
  obtain ⟨h1, h2, h3⟩ := puts_same (mm1 m v) s (byteOf v) k
  exact ⟨congrArg (· + 1) h1, congrArg (· + 1) h2, h3⟩
theorem mn2_reg (m : Nat) (v : Int) (s k r : Nat) : (mn2 m v s k).reg r = (mm1 m v).reg r := congrFun (puts_reg (mm1 m v) s (byteOf v) k) r
theorem mn2_ptr (m : Nat) (v : Int) (s k q : Nat) : ((mn2 m v s k).ptr q).k = 0 := puts_ptr (mm1 m v) s (byteOf v) k q rfl
theorem mn2_plain (m : Nat) (v : Int) (s k n a : Nat) (op : Int) (hop : op = 22 ∨ op = 23) : Plain (mn2 m v s k) op n a := by
  rcases hop with rfl | rfl
  · by_cases h8 : n = 8
    · subst h8
      by_cases ha : (a : Int) % 8 = 0
      · exact .inr ⟨rfl, .inr ⟨rfl, .inr ⟨by rw [beq_iff_eq]; exact ha, mn2_ptr m v s k _⟩⟩⟩
      · exact .inr ⟨rfl, .inr ⟨rfl, .inl (by rw [beq_eq_false_iff_ne]; exact ha)⟩⟩
    · exact .inr ⟨rfl, .inl (by rw [beq_eq_false_iff_ne]; omega)⟩
  · exact .inl rfl

set_option maxRecDepth 10000 in
theorem memC (v : Int) (k s : Nat) (op : Int) (hop : op = 22 ∨ op = 23) (hk1 : 1 ≤ k) (hk8 : k ≤ 8) (hs : s + k ≤ 256) (m : Nat) (hm : m ≤ 1000) (cx : Nat → Int) {w1 : World} {b : Nat} {qb : Option Nat} {a : Array Value} {gc capc gu capu gm : Nat} {cv : Value} (E : Env w1 (layAt gc 4 capc gu capu gm cv) b qb gc capc gu capu 4 (codeN v k op ((s : Int) - 256) ((s : Int) - 256))) (h0 : Stands w1 w1 (layAt gc 4 capc gu capu gm cv) b qb (macStart m) a) (hC : CtxV cv qb a m cx) :
    Calls Tryz.prog 20 #[.pointer (some ⟨b, 0, none⟩), .int .i64 1048576] w1 fun e w' => ∃ p1 m1 c1 p3 m3 c3, e = .returned (.tuple #[.agg #[.int .i64 (getF (op == 23) (byteOf v) k), .slice p1 m1 c1, .slice none 0 0, .slice p3 m3 c3], .int .i64 0]) ∧ w'.ownsRow w1.heap.size 5 1 (.slice p1 m1 c1) m (bytesL cx m) ∧ Fr (SB b qb) w1 w' := by
  obtain ⟨q1, q2, q3⟩ := mn2_same m v s k
  have hgo := go_done E rfl 4 (by decide) (fun j => match j with | 0 => macStart m | 1 => mm1 m v | 2 => mn2 m v s k | 3 => ((mn2 m v s k).setReg 0 (.num (getF (op == 23) (fun j => (mn2 m v s k).byte (s + j)) k))).tick | _ => Mac.leave (((mn2 m v s k).setReg 0 (.num (getF (op == 23) (fun j => (mn2 m v s k).byte (s + j)) k))).tick)) (fun _ => a) h0 (fun j hj => by match j, hj with | 0, _ => rfl | 1, _ => rfl | 2, _ => exact q3 | 3, _ => exact q3) rfl (fun j hj W hS => by
    match j, hj with
    | 0, _ => exact E.wide hS rfl (show 0 + 1 < 4 by decide) (show (0 : Nat) ≤ 1000000 by decide) 3 (by decide) v rfl
    | 1, _ => exact E.storeStack hS rfl (show 1 + 1 < 4 by decide) (show (1 : Nat) ≤ 1000000 by decide) 10 3 (by decide) (by decide) k ((s : Int) - 256) 0 0 256 0 0 v rfl rfl s (by omega) hs hk1 hk8 rfl
    | 2, _ => exact (by
        have hS : Stands w1 W (layAt gc 4 capc gu capu gm cv) b qb (mn2 m v s k) a := hS
        exact E.loadStack hS q3 (by rw [q1]; decide) (by rw [q2]; decide) op (by omega) (by omega) 0 10 (by decide) (by decide) k ((s : Int) - 256) 0 0 256 ((mn2_reg m v s k 10).trans rfl) s (by omega) hs hk1 hk8 (mn2_plain m v s k k s op hop) (rdE_puts (mm1 m v) s (byteOf v) k) (by rw [q1]; rfl))
    | 3, _ => exact (by
        have hS : Stands w1 W (layAt gc 4 capc gu capu gm cv) b qb (((mn2 m v s k).setReg 0 (.num (getF (op == 23) (fun j => (mn2 m v s k).byte (s + j)) k))).tick) a := hS
        have e1 : (((mn2 m v s k).setReg 0 (.num (getF (op == 23) (fun j => (mn2 m v s k).byte (s + j)) k))).tick).pc = 3 := congrArg (· + 1) q1
        have e2 : (((mn2 m v s k).setReg 0 (.num (getF (op == 23) (fun j => (mn2 m v s k).byte (s + j)) k))).tick).steps = 3 := congrArg (· + 1) q2
        exact E.exit hS q3 (by rw [e1]; decide) (by rw [e2]; decide) rfl (by rw [e1]; rfl))) m cx (by omega) hC
  refine hgo.mono ?_
  rintro e w' ⟨p1, m1, c1, p3, m3, c3, he, ho, hf⟩
  refine ⟨p1, m1, c1, p3, m3, c3, ?_, ho, hf⟩
  rw [he]
  exact congrArg (fun z : Int => Ending.returned (Value.tuple #[Value.agg #[Value.int .i64 z, Value.slice p1 m1 c1, Value.slice none 0 0, Value.slice p3 m3 c3], Value.int .i64 0])) (getF_congr (op == 23) _ (byteOf v) k (fun j hj => (puts_at (mm1 m v) s (byteOf v) k j hj).2.1))

set_option maxRecDepth 10000 in
theorem memD (v : Int) (k s : Nat) (op : Int) (hk8 : k ≤ 8) (hs : 256 < s + k) (hs2 : s ≤ 256) (m : Nat) {w1 : World} {b : Nat} {qb : Option Nat} {a : Array Value} {gc capc gu capu gm : Nat} {cv : Value} (E : Env w1 (layAt gc 4 capc gu capu gm cv) b qb gc capc gu capu 4 (codeN v k op ((s : Int) - 256) ((s : Int) - 256))) (h0 : Stands w1 w1 (layAt gc 4 capc gu capu gm cv) b qb (macStart m) a) :
    Calls Tryz.prog 20 #[.pointer (some ⟨b, 0, none⟩), .int .i64 1048576] w1 fun e w' => e = .returned (.tuple #[.agg infoZero, .int .i64 81]) ∧ Fr (SB b qb) w1 w' := by
  exact go_trap E 1 (by decide) (fun j => match j with | 0 => macStart m | _ => mm1 m v) (fun _ => a) h0 (fun j hj => by match j, hj with | 0, _ => rfl | 1, _ => rfl) (fun j hj W hS => by
    match j, hj with
    | 0, _ => exact E.wide hS rfl (show 0 + 1 < 4 by decide) (show (0 : Nat) ≤ 1000000 by decide) 3 (by decide) v rfl) 81 (by decide) (fun W hS => E.storeOutStack hS rfl (show 1 + 1 < 4 by decide) 10 3 (by decide) (by decide) k ((s : Int) - 256) 0 0 256 1 0 0 v rfl rfl (by decide) (by omega) (by omega) hk8 (by omega) rfl)

set_option maxRecDepth 10000 in
/-- a load from a place before the one that was written -/
theorem memE (v : Int) (k s : Nat) (op : Int) (hop : op = 22 ∨ op = 23) (hk1 : 1 ≤ k) (hk8 : k ≤ 8) (hs : s + k ≤ 256) (hs1 : 1 ≤ s) (m : Nat) {w1 : World} {b : Nat} {qb : Option Nat} {a : Array Value} {gc capc gu capu gm : Nat} {cv : Value} (E : Env w1 (layAt gc 4 capc gu capu gm cv) b qb gc capc gu capu 4 (codeN v k op ((s : Int) - 256) ((s : Int) - 257))) (h0 : Stands w1 w1 (layAt gc 4 capc gu capu gm cv) b qb (macStart m) a) :
    Calls Tryz.prog 20 #[.pointer (some ⟨b, 0, none⟩), .int .i64 1048576] w1 fun e w' => e = .returned (.tuple #[.agg infoZero, .int .i64 82]) ∧ Fr (SB b qb) w1 w' := by
  obtain ⟨q1, q2, q3⟩ := mn2_same m v s k
  exact go_trap E 2 (by decide) (fun j => match j with | 0 => macStart m | 1 => mm1 m v | _ => mn2 m v s k) (fun _ => a) h0 (fun j hj => by match j, hj with | 0, _ => rfl | 1, _ => rfl | 2, _ => exact q3) (fun j hj W hS => by
    match j, hj with
    | 0, _ => exact E.wide hS rfl (show 0 + 1 < 4 by decide) (show (0 : Nat) ≤ 1000000 by decide) 3 (by decide) v rfl
    | 1, _ => exact E.storeStack hS rfl (show 1 + 1 < 4 by decide) (show (1 : Nat) ≤ 1000000 by decide) 10 3 (by decide) (by decide) k ((s : Int) - 256) 0 0 256 0 0 v rfl rfl s (by omega) hs hk1 hk8 rfl) 82 (by decide) (fun W hS => by
    have hS : Stands w1 W (layAt gc 4 capc gu capu gm cv) b qb (mn2 m v s k) a := hS
    have h82 := rdE_un (mn2 m v s k) (s - 1) k (fun i _ => mn2_ptr m v s k _) 0 (by omega) (puts_wr_false (mm1 m v) s (byteOf v) k (s - 1 + 0) (by omega) rfl)
    have := E.loadStackTrap hS q3 (by rw [q1]; decide) op (by omega) (by omega) 0 10 (by decide) k ((s : Int) - 257) 0 0 256 ((mn2_reg m v s k 10).trans rfl) (s - 1) (by omega) (by omega) (by rw [beq_eq_false_iff_ne]; omega) (mn2_plain m v s k k (s - 1) op hop) (by rw [h82]; decide) (by rw [q1]; rfl)
    rwa [h82] at this)

set_option maxRecDepth 10000 in
/-- a load from beyond the stack -/
theorem memF (v : Int) (k : Nat) (op : Int) (hop : op = 22 ∨ op = 23) (hk1 : 1 ≤ k) (hk8 : k ≤ 8) (m : Nat) {w1 : World} {b : Nat} {qb : Option Nat} {a : Array Value} {gc capc gu capu gm : Nat} {cv : Value} (E : Env w1 (layAt gc 4 capc gu capu gm cv) b qb gc capc gu capu 4 (codeN v k op (((0 : Nat) : Int) - 256) 1)) (h0 : Stands w1 w1 (layAt gc 4 capc gu capu gm cv) b qb (macStart m) a) :
    Calls Tryz.prog 20 #[.pointer (some ⟨b, 0, none⟩), .int .i64 1048576] w1 fun e w' => e = .returned (.tuple #[.agg infoZero, .int .i64 81]) ∧ Fr (SB b qb) w1 w' := by
  obtain ⟨q1, q2, q3⟩ := mn2_same m v 0 k
  exact go_trap E 2 (by decide) (fun j => match j with | 0 => macStart m | 1 => mm1 m v | _ => mn2 m v 0 k) (fun _ => a) h0 (fun j hj => by match j, hj with | 0, _ => rfl | 1, _ => rfl | 2, _ => exact q3) (fun j hj W hS => by
    match j, hj with
    | 0, _ => exact E.wide hS rfl (show 0 + 1 < 4 by decide) (show (0 : Nat) ≤ 1000000 by decide) 3 (by decide) v rfl
    | 1, _ => exact E.storeStack hS rfl (show 1 + 1 < 4 by decide) (show (1 : Nat) ≤ 1000000 by decide) 10 3 (by decide) (by decide) k (((0 : Nat) : Int) - 256) 0 0 256 0 0 v rfl rfl 0 (by omega) (by omega) hk1 hk8 rfl) 81 (by decide) (fun W hS => by
    have hS : Stands w1 W (layAt gc 4 capc gu capu gm cv) b qb (mn2 m v 0 k) a := hS
    exact E.loadOutStack hS q3 (by rw [q1]; decide) op (by omega) (by omega) 0 10 (by decide) k 1 0 0 256 ((mn2_reg m v 0 k 10).trans rfl) (by omega) (by omega) (by omega) (by omega) (by omega) (by rw [q1]; rfl))

end Go.Proofs.YtkhbjhmhdlmmfaaGreat
