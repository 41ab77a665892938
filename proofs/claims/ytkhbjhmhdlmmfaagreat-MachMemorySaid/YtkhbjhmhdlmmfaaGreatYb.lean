/- The runs of the law on pointers, as calls. -/
import Derived.Test.YtkhbjhmhdlmmfaaGreatZ
import Derived.Test.YtkhbjhmhdlmmfaaGreatS
namespace Go.Proofs.YtkhbjhmhdlmmfaaGreat
open Go.RowKit

set_option maxRecDepth 10000 in
theorem callA (off dd : Int) (i r : Nat) (hr : r = 1 ∨ r = 10 ∨ r = 4) (hd0 : 0 ≤ dd) (hd1 : dd ≤ 999) (hoff : off = 8 * (i : Int) - 256) (hi : i < 32) (m : Nat) (hm : (m : Int) ≤ 65535) (cx : Nat → Int) (g cap : Nat) (v : Value) (w : World) (hc : CodeRow w g 7 (codeA off dd r)) (hx : RowAt w v m (bytesL cx m)) :
    Calls Tryz.prog 9 #[.slice (some ⟨g, 0, none⟩) 7 cap, v] w fun e w' => ∃ p1 m1 c1 p3 m3 c3, e = .returned (.tuple #[.agg #[.int .i64 0, .slice p1 m1 c1, .slice none 0 0, .slice p3 m3 c3], .int .i64 0]) ∧ Fr (fun _ => False) w w' := by
  refine (runs_done g 7 cap (codeA off dd r) v m w hc.2 (by decide) (by decide) (fun k hk => by match k, hk with | 0, _ => rfl | 1, _ => rfl | 2, _ => rfl | 3, _ => rfl | 4, _ => rfl | 5, _ => rfl | 6, _ => rfl) (fun k hk W => by
    match k, hk with
    | 0, _ => exact right_movr 4 10 (by decide) (by decide) (by decide) (by decide) (by decide) W
    | 1, _ => exact right_addi 4 (-dd) (by decide) (by decide) (by decide) (decide_eq_false (by omega)) (decide_eq_false (by omega)) W
    | 2, _ => exact right_stor8 10 r off (by decide) (by decide) (decide_eq_true (by omega)) (decide_eq_true (by omega)) (decide_eq_false (by omega)) (decide_eq_false (by omega)) W
    | 3, _ => exact right_load8 5 10 off (by decide) (by decide) (by decide) (by decide) (by decide) (decide_eq_false (by omega)) (decide_eq_false (by omega)) W
    | 4, _ => exact right_subr 5 r (by decide) (by decide) (by decide) (decide_eq_true (by omega)) (decide_eq_true (by omega)) W
    | 5, _ => exact right_movr 0 5 (by decide) (by decide) (by decide) (by decide) (by decide) W
    | 6, _ => exact right_exit W) cx hx hm 0 cx (fun w1 b qb a gc capc gu capu gm cv E h0 hC => ptrA off dd i r hr hd0 hd1 hoff hi m (by omega) cx E h0 hC)).mono ?_
  rintro e w' ⟨p1, m1, c1, p3, m3, c3, he, _, hf⟩
  exact ⟨p1, m1, c1, p3, m3, c3, he, hf⟩

set_option maxRecDepth 10000 in
theorem callB (off dd : Int) (i r : Nat) (hr : r = 1 ∨ r = 10 ∨ r = 4) (hd0 : 0 ≤ dd) (hd1 : dd ≤ 999) (hoff : off = 8 * (i : Int) - 256) (hi : i < 32) (s o : Nat) (hs : s = 1 ∨ s = 2 ∨ s = 4) (hos : o + s ≤ 8)  (m : Nat) (hm : (m : Int) ≤ 65535) (cx : Nat → Int) (g cap : Nat) (v : Value) (w : World) (hc : CodeRow w g 6 (codeB off dd r s o)) (hx : RowAt w v m (bytesL cx m)) :
    Calls Tryz.prog 9 #[.slice (some ⟨g, 0, none⟩) 6 cap, v] w fun e w' => ∃ p1 m1 c1 p3 m3 c3, e = .returned (.tuple #[.agg #[.int .i64 77, .slice p1 m1 c1, .slice none 0 0, .slice p3 m3 c3], .int .i64 0]) ∧ Fr (fun _ => False) w w' := by
  refine (runs_done g 6 cap (codeB off dd r s o) v m w hc.2 (by decide) (by decide) (fun k hk => by match k, hk with | 0, _ => rfl | 1, _ => rfl | 2, _ => rfl | 3, _ => rfl | 4, _ => rfl | 5, _ => rfl) (fun k hk W => by
    match k, hk with
    | 0, _ => exact right_movr 4 10 (by decide) (by decide) (by decide) (by decide) (by decide) W
    | 1, _ => exact right_addi 4 (-dd) (by decide) (by decide) (by decide) (decide_eq_false (by omega)) (decide_eq_false (by omega)) W
    | 2, _ => exact right_stor8 10 r off (by decide) (by decide) (decide_eq_true (by omega)) (decide_eq_true (by omega)) (decide_eq_false (by omega)) (decide_eq_false (by omega)) W
    | 3, _ => exact (by rcases hs with rfl | rfl | rfl; exact right_stoi1 10 (off + (o : Int)) 77 (by decide) (by decide) (decide_eq_false (by omega)) (decide_eq_false (by omega)) (by decide) (by decide) W; exact right_stoi2 10 (off + (o : Int)) 77 (by decide) (by decide) (decide_eq_false (by omega)) (decide_eq_false (by omega)) (by decide) (by decide) W; exact right_stoi4 10 (off + (o : Int)) 77 (by decide) (by decide) (decide_eq_false (by omega)) (decide_eq_false (by omega)) (by decide) (by decide) W)
    | 4, _ => exact (by rcases hs with rfl | rfl | rfl; exact right_load1 0 10 (off + (o : Int)) (by decide) (by decide) (by decide) (by decide) (by decide) (decide_eq_false (by omega)) (decide_eq_false (by omega)) W; exact right_load2 0 10 (off + (o : Int)) (by decide) (by decide) (by decide) (by decide) (by decide) (decide_eq_false (by omega)) (decide_eq_false (by omega)) W; exact right_load4 0 10 (off + (o : Int)) (by decide) (by decide) (by decide) (by decide) (by decide) (decide_eq_false (by omega)) (decide_eq_false (by omega)) W)
    | 5, _ => exact right_exit W) cx hx hm 77 cx (fun w1 b qb a gc capc gu capu gm cv E h0 hC => ptrB off dd i r hr hd0 hd1 hoff hi s o hs hos m (by omega) cx E h0 hC)).mono ?_
  rintro e w' ⟨p1, m1, c1, p3, m3, c3, he, _, hf⟩
  exact ⟨p1, m1, c1, p3, m3, c3, he, hf⟩

set_option maxRecDepth 10000 in
theorem callC (off dd : Int) (i r : Nat) (hr : r = 1 ∨ r = 10 ∨ r = 4) (hd0 : 0 ≤ dd) (hd1 : dd ≤ 999) (hoff : off = 8 * (i : Int) - 256) (hi : i < 32) (s o t : Nat) (hs : s = 1 ∨ s = 2 ∨ s = 4) (hos : o + s ≤ 8) (ht : t < 8) (hts : t < o ∨ o + s ≤ t)  (m : Nat) (hm : (m : Int) ≤ 65535) (cx : Nat → Int) (g cap : Nat) (v : Value) (w : World) (hc : CodeRow w g 6 (codeC off dd r s o t)) (hx : RowAt w v m (bytesL cx m)) :
    Calls Tryz.prog 9 #[.slice (some ⟨g, 0, none⟩) 6 cap, v] w fun e w' => e = .returned (.tuple #[.agg infoZero, .int .i64 82]) ∧ Fr (fun _ => False) w w' := by
  exact runs_trap g 6 cap (codeC off dd r s o t) v m w hc.2 (by decide) (by decide) (fun k hk => by match k, hk with | 0, _ => rfl | 1, _ => rfl | 2, _ => rfl | 3, _ => rfl | 4, _ => rfl | 5, _ => rfl) (fun k hk W => by
    match k, hk with
    | 0, _ => exact right_movr 4 10 (by decide) (by decide) (by decide) (by decide) (by decide) W
    | 1, _ => exact right_addi 4 (-dd) (by decide) (by decide) (by decide) (decide_eq_false (by omega)) (decide_eq_false (by omega)) W
    | 2, _ => exact right_stor8 10 r off (by decide) (by decide) (decide_eq_true (by omega)) (decide_eq_true (by omega)) (decide_eq_false (by omega)) (decide_eq_false (by omega)) W
    | 3, _ => exact (by rcases hs with rfl | rfl | rfl; exact right_stoi1 10 (off + (o : Int)) 77 (by decide) (by decide) (decide_eq_false (by omega)) (decide_eq_false (by omega)) (by decide) (by decide) W; exact right_stoi2 10 (off + (o : Int)) 77 (by decide) (by decide) (decide_eq_false (by omega)) (decide_eq_false (by omega)) (by decide) (by decide) W; exact right_stoi4 10 (off + (o : Int)) 77 (by decide) (by decide) (decide_eq_false (by omega)) (decide_eq_false (by omega)) (by decide) (by decide) W)
    | 4, _ => exact right_load1 0 10 (off + (t : Int)) (by decide) (by decide) (by decide) (by decide) (by decide) (decide_eq_false (by omega)) (decide_eq_false (by omega)) W
    | 5, _ => exact right_exit W) cx hx hm 82 (fun w1 b qb a gc capc gu capu gm cv E h0 hC => ptrC off dd i r hr hd0 hd1 hoff hi s o t hs hos ht hts m (by omega) cx E h0 hC)

set_option maxRecDepth 10000 in
theorem callD (off dd : Int) (i r : Nat) (hr : r = 1 ∨ r = 10 ∨ r = 4) (hd0 : 0 ≤ dd) (hd1 : dd ≤ 999) (hoff : off = 8 * (i : Int) - 256) (hi : i < 32) (s o t : Nat) (hs : s = 1 ∨ s = 2 ∨ s = 4) (hos : o + s ≤ 8) (ht : t < 8)  (m : Nat) (hm : (m : Int) ≤ 65535) (cx : Nat → Int) (g cap : Nat) (v : Value) (w : World) (hc : CodeRow w g 6 (codeD off dd r s o t)) (hx : RowAt w v m (bytesL cx m)) :
    Calls Tryz.prog 9 #[.slice (some ⟨g, 0, none⟩) 6 cap, v] w fun e w' => e = .returned (.tuple #[.agg infoZero, .int .i64 80]) ∧ Fr (fun _ => False) w w' := by
  exact runs_trap g 6 cap (codeD off dd r s o t) v m w hc.2 (by decide) (by decide) (fun k hk => by match k, hk with | 0, _ => rfl | 1, _ => rfl | 2, _ => rfl | 3, _ => rfl | 4, _ => rfl | 5, _ => rfl) (fun k hk W => by
    match k, hk with
    | 0, _ => exact right_movr 4 10 (by decide) (by decide) (by decide) (by decide) (by decide) W
    | 1, _ => exact right_addi 4 (-dd) (by decide) (by decide) (by decide) (decide_eq_false (by omega)) (decide_eq_false (by omega)) W
    | 2, _ => exact right_stor8 10 r off (by decide) (by decide) (decide_eq_true (by omega)) (decide_eq_true (by omega)) (decide_eq_false (by omega)) (decide_eq_false (by omega)) W
    | 3, _ => exact (by rcases hs with rfl | rfl | rfl; exact right_load1 0 10 (off + (o : Int)) (by decide) (by decide) (by decide) (by decide) (by decide) (decide_eq_false (by omega)) (decide_eq_false (by omega)) W; exact right_load2 0 10 (off + (o : Int)) (by decide) (by decide) (by decide) (by decide) (by decide) (decide_eq_false (by omega)) (decide_eq_false (by omega)) W; exact right_load4 0 10 (off + (o : Int)) (by decide) (by decide) (by decide) (by decide) (by decide) (decide_eq_false (by omega)) (decide_eq_false (by omega)) W)
    | 4, _ => exact right_load1 0 10 (off + (t : Int)) (by decide) (by decide) (by decide) (by decide) (by decide) (decide_eq_false (by omega)) (decide_eq_false (by omega)) W
    | 5, _ => exact right_exit W) cx hx hm 80 (fun w1 b qb a gc capc gu capu gm cv E h0 hC => ptrD off dd i r hr hd0 hd1 hoff hi s o t hs hos m (by omega) cx E h0 hC)

set_option maxRecDepth 10000 in
theorem callH (off dd : Int) (i r : Nat) (hr : r = 1 ∨ r = 10 ∨ r = 4) (hd0 : 0 ≤ dd) (hd1 : dd ≤ 999) (hoff : off = 8 * (i : Int) - 256) (hi : i < 32) (t : Nat) (hi0 : 1 ≤ i) (ht : t < 8)  (m : Nat) (hm : (m : Int) ≤ 65535) (cx : Nat → Int) (g cap : Nat) (v : Value) (w : World) (hc : CodeRow w g 6 (codeH off dd r t)) (hx : RowAt w v m (bytesL cx m)) :
    Calls Tryz.prog 9 #[.slice (some ⟨g, 0, none⟩) 6 cap, v] w fun e w' => e = .returned (.tuple #[.agg infoZero, .int .i64 80]) ∧ Fr (fun _ => False) w w' := by
  exact runs_trap g 6 cap (codeH off dd r t) v m w hc.2 (by decide) (by decide) (fun k hk => by match k, hk with | 0, _ => rfl | 1, _ => rfl | 2, _ => rfl | 3, _ => rfl | 4, _ => rfl | 5, _ => rfl) (fun k hk W => by
    match k, hk with
    | 0, _ => exact right_movr 4 10 (by decide) (by decide) (by decide) (by decide) (by decide) W
    | 1, _ => exact right_addi 4 (-dd) (by decide) (by decide) (by decide) (decide_eq_false (by omega)) (decide_eq_false (by omega)) W
    | 2, _ => exact right_stor8 10 r off (by decide) (by decide) (decide_eq_true (by omega)) (decide_eq_true (by omega)) (decide_eq_false (by omega)) (decide_eq_false (by omega)) W
    | 3, _ => exact right_load8 0 10 (off - 4) (by decide) (by decide) (by decide) (by decide) (by decide) (decide_eq_false (by omega)) (decide_eq_false (by omega)) W
    | 4, _ => exact right_load1 0 10 (off + (t : Int)) (by decide) (by decide) (by decide) (by decide) (by decide) (decide_eq_false (by omega)) (decide_eq_false (by omega)) W
    | 5, _ => exact right_exit W) cx hx hm 80 (fun w1 b qb a gc capc gu capu gm cv E h0 hC => ptrH off dd i r hr hd0 hd1 hoff hi t hi0 m (by omega) cx E h0 hC)

set_option maxRecDepth 10000 in
theorem callE (dd : Int) (r : Nat) (hr : r = 1 ∨ r = 10 ∨ r = 4) (hd0 : 0 ≤ dd) (hd1 : dd ≤ 999) (x : Nat) (hx6 : x ≤ 63) (hal : (247 - x) % 8 = 0)  (m : Nat) (hm : (m : Int) ≤ 65535) (cx : Nat → Int) (g cap : Nat) (v : Value) (w : World) (hc : CodeRow w g 5 (codeE dd r x)) (hx : RowAt w v m (bytesL cx m)) :
    Calls Tryz.prog 9 #[.slice (some ⟨g, 0, none⟩) 5 cap, v] w fun e w' => ∃ p1 m1 c1 p3 m3 c3, e = .returned (.tuple #[.agg #[.int .i64 1, .slice p1 m1 c1, .slice none 0 0, .slice p3 m3 c3], .int .i64 0]) ∧ Fr (fun _ => False) w w' := by
  refine (runs_done g 5 cap (codeE dd r x) v m w hc.2 (by decide) (by decide) (fun k hk => by match k, hk with | 0, _ => rfl | 1, _ => rfl | 2, _ => rfl | 3, _ => rfl | 4, _ => rfl) (fun k hk W => by
    match k, hk with
    | 0, _ => exact right_movr 4 10 (by decide) (by decide) (by decide) (by decide) (by decide) W
    | 1, _ => exact right_addi 4 (-dd) (by decide) (by decide) (by decide) (decide_eq_false (by omega)) (decide_eq_false (by omega)) W
    | 2, _ => exact right_stor8 10 r (-9 - (x : Int)) (by decide) (by decide) (decide_eq_true (by omega)) (decide_eq_true (by omega)) (decide_eq_false (by omega)) (decide_eq_false (by omega)) W
    | 3, _ => exact right_movi 0 1 (by decide) (by decide) (by decide) (by decide) (by decide) W
    | 4, _ => exact right_exit W) cx hx hm 1 cx (fun w1 b qb a gc capc gu capu gm cv E h0 hC => ptrE dd r hr hd0 hd1 x hx6 hal m (by omega) cx E h0 hC)).mono ?_
  rintro e w' ⟨p1, m1, c1, p3, m3, c3, he, _, hf⟩
  exact ⟨p1, m1, c1, p3, m3, c3, he, hf⟩

set_option maxRecDepth 10000 in
theorem callE2 (dd : Int) (r : Nat) (hr : r = 1 ∨ r = 10 ∨ r = 4) (hd0 : 0 ≤ dd) (hd1 : dd ≤ 999) (x : Nat) (hx6 : x ≤ 63) (hal : (247 - x) % 8 ≠ 0)  (m : Nat) (hm : (m : Int) ≤ 65535) (cx : Nat → Int) (g cap : Nat) (v : Value) (w : World) (hc : CodeRow w g 5 (codeE dd r x)) (hx : RowAt w v m (bytesL cx m)) :
    Calls Tryz.prog 9 #[.slice (some ⟨g, 0, none⟩) 5 cap, v] w fun e w' => e = .returned (.tuple #[.agg infoZero, .int .i64 86]) ∧ Fr (fun _ => False) w w' := by
  exact runs_trap g 5 cap (codeE dd r x) v m w hc.2 (by decide) (by decide) (fun k hk => by match k, hk with | 0, _ => rfl | 1, _ => rfl | 2, _ => rfl | 3, _ => rfl | 4, _ => rfl) (fun k hk W => by
    match k, hk with
    | 0, _ => exact right_movr 4 10 (by decide) (by decide) (by decide) (by decide) (by decide) W
    | 1, _ => exact right_addi 4 (-dd) (by decide) (by decide) (by decide) (decide_eq_false (by omega)) (decide_eq_false (by omega)) W
    | 2, _ => exact right_stor8 10 r (-9 - (x : Int)) (by decide) (by decide) (decide_eq_true (by omega)) (decide_eq_true (by omega)) (decide_eq_false (by omega)) (decide_eq_false (by omega)) W
    | 3, _ => exact right_movi 0 1 (by decide) (by decide) (by decide) (by decide) (by decide) W
    | 4, _ => exact right_exit W) cx hx hm 86 (fun w1 b qb a gc capc gu capu gm cv E h0 hC => ptrE2 dd r hr hd0 hd1 x hx6 hal m (by omega) cx E h0 hC)

set_option maxRecDepth 10000 in
theorem callF (dd : Int) (r : Nat) (hr : r = 1 ∨ r = 10 ∨ r = 4) (hd0 : 0 ≤ dd) (hd1 : dd ≤ 999) (x : Nat) (hx7 : x ≤ 7)  (m : Nat) (hm : (m : Int) ≤ 65535) (hmx : x + 8 ≤ m) (cx : Nat → Int) (g cap : Nat) (v : Value) (w : World) (hc : CodeRow w g 5 (codeF dd r x)) (hx : RowAt w v m (bytesL cx m)) :
    Calls Tryz.prog 9 #[.slice (some ⟨g, 0, none⟩) 5 cap, v] w fun e w' => e = .returned (.tuple #[.agg infoZero, .int .i64 86]) ∧ Fr (fun _ => False) w w' := by
  exact runs_trap g 5 cap (codeF dd r x) v m w hc.2 (by decide) (by decide) (fun k hk => by match k, hk with | 0, _ => rfl | 1, _ => rfl | 2, _ => rfl | 3, _ => rfl | 4, _ => rfl) (fun k hk W => by
    match k, hk with
    | 0, _ => exact right_movr 4 10 (by decide) (by decide) (by decide) (by decide) (by decide) W
    | 1, _ => exact right_addi 4 (-dd) (by decide) (by decide) (by decide) (decide_eq_false (by omega)) (decide_eq_false (by omega)) W
    | 2, _ => exact right_stor8 1 r x (by decide) (by decide) (decide_eq_true (by omega)) (decide_eq_true (by omega)) (decide_eq_false (by omega)) (decide_eq_false (by omega)) W
    | 3, _ => exact right_movi 0 1 (by decide) (by decide) (by decide) (by decide) (by decide) W
    | 4, _ => exact right_exit W) cx hx hm 86 (fun w1 b qb a gc capc gu capu gm cv E h0 hC => ptrF dd r hr hd0 hd1 x hx7 m hmx (by omega) cx E h0 hC)

set_option maxRecDepth 10000 in
theorem callG (dd : Int) (r : Nat) (hr : r = 1 ∨ r = 10 ∨ r = 4) (hd0 : 0 ≤ dd) (hd1 : dd ≤ 999) (x : Nat) (hx7 : x ≤ 7)  (m : Nat) (hm : (m : Int) ≤ 65535) (hmx : m = x + 7) (cx : Nat → Int) (g cap : Nat) (v : Value) (w : World) (hc : CodeRow w g 5 (codeF dd r x)) (hx : RowAt w v m (bytesL cx m)) :
    Calls Tryz.prog 9 #[.slice (some ⟨g, 0, none⟩) 5 cap, v] w fun e w' => e = .returned (.tuple #[.agg infoZero, .int .i64 81]) ∧ Fr (fun _ => False) w w' := by
  exact runs_trap g 5 cap (codeF dd r x) v m w hc.2 (by decide) (by decide) (fun k hk => by match k, hk with | 0, _ => rfl | 1, _ => rfl | 2, _ => rfl | 3, _ => rfl | 4, _ => rfl) (fun k hk W => by
    match k, hk with
    | 0, _ => exact right_movr 4 10 (by decide) (by decide) (by decide) (by decide) (by decide) W
    | 1, _ => exact right_addi 4 (-dd) (by decide) (by decide) (by decide) (decide_eq_false (by omega)) (decide_eq_false (by omega)) W
    | 2, _ => exact right_stor8 1 r x (by decide) (by decide) (decide_eq_true (by omega)) (decide_eq_true (by omega)) (decide_eq_false (by omega)) (decide_eq_false (by omega)) W
    | 3, _ => exact right_movi 0 1 (by decide) (by decide) (by decide) (by decide) (by decide) W
    | 4, _ => exact right_exit W) cx hx hm 81 (fun w1 b qb a gc capc gu capu gm cv E h0 hC => ptrG dd r hr hd0 hd1 x hx7 m hmx (by omega) cx E h0 hC)

set_option maxRecDepth 10000 in
theorem callI (dd : Int) (r : Nat) (hr : r = 1 ∨ r = 10 ∨ r = 4) (hd0 : 0 ≤ dd) (hd1 : dd ≤ 999)  (m : Nat) (hm : (m : Int) ≤ 65535) (cx : Nat → Int) (g cap : Nat) (v : Value) (w : World) (hc : CodeRow w g 4 (codeI dd r)) (hx : RowAt w v m (bytesL cx m)) :
    Calls Tryz.prog 9 #[.slice (some ⟨g, 0, none⟩) 4 cap, v] w fun e w' => e = .returned (.tuple #[.agg infoZero, .int .i64 86]) ∧ Fr (fun _ => False) w w' := by
  exact runs_trap g 4 cap (codeI dd r) v m w hc.2 (by decide) (by decide) (fun k hk => by match k, hk with | 0, _ => rfl | 1, _ => rfl | 2, _ => rfl | 3, _ => rfl) (fun k hk W => by
    match k, hk with
    | 0, _ => exact right_movr 4 10 (by decide) (by decide) (by decide) (by decide) (by decide) W
    | 1, _ => exact right_addi 4 (-dd) (by decide) (by decide) (by decide) (decide_eq_false (by omega)) (decide_eq_false (by omega)) W
    | 2, _ => exact right_movr 0 r (by decide) (by decide) (by decide) (decide_eq_true (by omega)) (decide_eq_true (by omega)) W
    | 3, _ => exact right_exit W) cx hx hm 86 (fun w1 b qb a gc capc gu capu gm cv E h0 hC => ptrI dd r hr hd0 hd1 m (by omega) cx E h0 hC)

end Go.Proofs.YtkhbjhmhdlmmfaaGreat
