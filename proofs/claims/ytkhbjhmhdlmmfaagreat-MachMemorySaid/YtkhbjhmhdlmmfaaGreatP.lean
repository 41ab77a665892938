/- Walks: loads: a pointer that stands in a slot; of the context. -/
import Derived.Test.YtkhbjhmhdlmmfaaGreatI
namespace Go.Proofs.YtkhbjhmhdlmmfaaGreat
open Go.RowKit

set_option maxRecDepth 100000 in
set_option maxHeartbeats 4000000 in
theorem load_ptr (b : Nat) (L : Lay) (m : Mac) (w : World) (hR : RepF w b (mcell L m)) (d s : Nat) (hd : (d : Int) < 11) (hs : (s : Int) < 11) (nar reg : Bool) (off imm : Int)
    (t r x : Int) (hk : m.reg s = ⟨2, t, r, x⟩) (a : Nat) (hxo : x + off = (a : Int)) (g1 : a + 8 ≤ 256) (ha8 : ((a : Int) % 8 == 0) = true) (kp tp rp xp : Int) (hp : m.ptr (a / 8) = ⟨kp, tp, rp, xp⟩) (kp2 : 2 ≤ kp) :
    Calls Tryz.prog 43 #[.pointer (some ⟨b, 0, none⟩), .agg #[.int .i64 22, .bool nar, .bool reg, .int .i64 8, .int .i64 d, .int .i64 s, .int .i64 off, .int .i64 imm]] w fun e w' =>
      e = .returned (.tuple #[.int .i64 0, .int .i64 0]) ∧ RepF w' b (mcell L (m.setReg d ⟨kp, tp, rp, xp⟩)) ∧ Fr (· = b) w w' := by
  have H := Lib.hid hR
  have hb := hR.lt
  have hf := hR.frozen
  obtain ⟨h0, h1, h2, h3⟩ := hR.reg s (by omega)
  rw [hk] at h0 h1 h2 h3
  obtain ⟨q0, q1, q2, q3⟩ := hR.reg d (by omega)
  obtain ⟨p0, p1, p2, p3⟩ := hR.ptrAt (a / 8) (by omega)
  rw [hp] at p0 p1 p2 p3
  have ga : (a : Int) ≤ 256 := by omega
  have gq : (a : Int) / 8 < 32 := by omega
  have g5' : decide ((a : Int) + 8 ≤ 256) = true := by simp; omega
  have HS := Lib.hid (hR.setReg d (by omega) ⟨kp, tp, rp, xp⟩)
  have hb1 : b < w.heap.size + 1 := by omega
  have hb2 : b < w.heap.size + 1 + 1 := by omega
  have hb3 : b < w.heap.size + 1 + 1 + 1 := by omega
  have hb4 : b < w.heap.size + 1 + 1 + 1 + 1 := by omega
  have hb5 : b < w.heap.size + 1 + 1 + 1 + 1 + 1 := by omega
  have hb6 : b < w.heap.size + 1 + 1 + 1 + 1 + 1 + 1 := by omega
  have hb7 : b < w.heap.size + 1 + 1 + 1 + 1 + 1 + 1 + 1 := by omega
  have hb8 : b < w.heap.size + 1 + 1 + 1 + 1 + 1 + 1 + 1 + 1 := by omega
  have hb9 : b < w.heap.size + 1 + 1 + 1 + 1 + 1 + 1 + 1 + 1 + 1 := by omega
  have hb10 : b < w.heap.size + 1 + 1 + 1 + 1 + 1 + 1 + 1 + 1 + 1 + 1 := by omega
  clear hR hk hp
  go_enter Tryz.func43, Tryz.ntmps43
  go_wp2_with fail
  go_region
  go_wp2_with (go_at_call 62; refine (pointer_any _ _ _ _ _).mono ?_; rintro e w1 ⟨rfl, rfl⟩)
  go_region_held3 (fun w' => w'.cell? ⟨w.heap.size + 1, 0, none⟩ = some (.int .i64 2) ∧ w'.cell? ⟨w.heap.size + 1, 1, none⟩ = some (.int .i64 t) ∧ w'.cell? ⟨w.heap.size + 1, 2, none⟩ = some (.int .i64 r) ∧ w'.cell? ⟨w.heap.size + 1, 3, none⟩ = some (.int .i64 x) ∧ w'.cell? ⟨w.heap.size, 0, none⟩ = some (.int .i64 22) ∧ w'.cell? ⟨w.heap.size, 1, none⟩ = some (.bool nar) ∧ w'.cell? ⟨w.heap.size, 2, none⟩ = some (.bool reg) ∧ w'.cell? ⟨w.heap.size, 3, none⟩ = some (.int .i64 8) ∧ w'.cell? ⟨w.heap.size, 4, none⟩ = some (.int .i64 d) ∧ w'.cell? ⟨w.heap.size, 5, none⟩ = some (.int .i64 s) ∧ w'.cell? ⟨w.heap.size, 6, none⟩ = some (.int .i64 off) ∧ w'.cell? ⟨w.heap.size, 7, none⟩ = some (.int .i64 imm)) (simp [go_sem, *])
    (first | (go_at_call 63; refine (within_stack _ _ _ _ _ _ _ (by omega) (by omega) (by omega) (by omega)).mono ?_; rintro e w1 ⟨rfl, rfl⟩) | fail)
  go_wp2_with (go_at_call 62; refine (pointer_any _ _ _ _ _).mono ?_; rintro e w1 ⟨rfl, rfl⟩)
  go_region
  go_wp2_with fail
  refine bodyPost_ret (v := .tuple #[.int .i64 0, .int .i64 0]) (by simp [results, Tryz.results43, go_sem]) rfl ⟨rfl, ?_, ?_⟩
  · repeat (first | with_reducible refine RepF.drew ?_ | with_reducible refine RepF.alloc ?_ _)
    exact HS.out
  · repeat (first | with_reducible exact Fr.refl _ _ | with_reducible refine Fr.drew ?_ | with_reducible refine Fr.alloc ?_ _ | with_reducible refine Fr.setCell ?_ _ _ (.inl rfl))

/-- the context's bytes, where its slice has elements -/
structure CtxAt (w : World) (v : Value) (len cap bc : Nat) (cx : Nat → Int) : Prop where
  val : v = .slice (some ⟨bc, 0, none⟩) len cap
  le : len ≤ cap
  cells : ∀ j, j < len → w.cell? ⟨bc, j, none⟩ = some (.int .u8 (cx j))

theorem CtxAt.alloc {w : World} {v : Value} {len cap bc : Nat} {cx : Nat → Int} (h : CtxAt w v len cap bc cx) (o : Obj) : CtxAt (w.alloc o) v len cap bc cx :=
  ⟨h.val, h.le, fun j hj => by
    have hb := World.block_lt_of_cell? w _ (h.cells j hj)
    rw [World.cell?_alloc_past _ _ _ hb]; exact h.cells j hj⟩
theorem CtxAt.drew {w : World} {v : Value} {len cap bc : Nat} {cx : Nat → Int} (h : CtxAt w v len cap bc cx) : CtxAt w.drew v len cap bc cx := ⟨h.val, h.le, h.cells⟩

theorem readC (b : Nat) (L : Lay) (m : Mac) (w : World) (len cap bc : Nat) (cx : Nat → Int) (hR : RepF w b (mcell L m)) (hC : CtxAt w L.ctx len cap bc cx)
    (t r x : Int) (a n : Nat) (h : a + n ≤ len) (hcap : ((a + n : Nat) : Int) ≤ 100000) :
    Calls Tryz.prog 84 #[.pointer (some ⟨b, 0, none⟩), .agg #[.int .i64 3, .int .i64 t, .int .i64 r, .int .i64 x], .int .i64 a, .int .i64 n] w fun e w' =>
      ∃ v, e = .returned v ∧ w'.ownsRow w.heap.size 5 1 v n (bytesL (fun j => cx (a + j)) n) ∧ Fr (fun _ => False) w w' :=
  read_ctx b bc len cap cx w hR.lt (by rw [hR.ctxAt, hC.val]) hC.cells t r x a n h hC.le hcap

set_option maxRecDepth 100000 in
set_option maxHeartbeats 1000000 in
theorem getm_ctx (b : Nat) (L : Lay) (m : Mac) (w : World) (len cap bc : Nat) (cx : Nat → Int) (hR : RepF w b (mcell L m)) (hC : CtxAt w L.ctx len cap bc cx) (t r x : Int) (a n : Nat) (h : a + n ≤ len) (hcap : ((a + n : Nat) : Int) ≤ 100000) (h1 : 1 ≤ n) (h8 : n ≤ 8) (sg : Bool) :
    Calls Tryz.prog 65 #[.pointer (some ⟨b, 0, none⟩), .agg #[.int .i64 3, .int .i64 t, .int .i64 r, .int .i64 x], .int .i64 a, .int .i64 n, .bool sg] w fun e w' =>
      e = .returned (.int .i64 (getF sg (fun j => cx (a + j)) n)) ∧ Fr (fun _ => False) w w' := by
  have H := Lib.hid hR
  have HC := Lib.hid hC
  have H1 := Lib.hid h1
  have H8 := Lib.hid h8
  have HH := Lib.hid h
  have HCAP := Lib.hid hcap
  clear hR hC h1 h8 h hcap
  go_enter Tryz.func65, Tryz.ntmps65
  go_wp2_with fail
  refine (readC b L m _ len cap bc cx (H.out.alloc _) (HC.out.alloc _) _ _ _ a n HH.out HCAP.out).mono ?_
  rintro e w1 ⟨v, rfl, ho, hF⟩
  obtain ⟨g, c, hv, hbg, hg, hcell⟩ := owns_form ho H1.out
  rw [hv]
  have HF := Lib.hid hF
  have HCE := Lib.hid hcell
  clear ho hF hcell hv
  go_wp2_with (go_at_call 11; refine (get_any _ _ _ _ _ (fun j => cx (a + j)) _ H1.out H8.out ?_).mono ?_; (intro j hj; rw [Nat.zero_add]; exact HCE.out j hj); rintro e w2 ⟨rfl, rfl⟩)
  go_ret
  exact ⟨rfl, Fr.ends ((Fr.refl _ _).alloc _) HF.out⟩

set_option maxRecDepth 100000 in
set_option maxHeartbeats 4000000 in
theorem load_ctx_ok (b : Nat) (L : Lay) (m : Mac) (w : World) (hR : RepF w b (mcell L m)) (op : Int) (d s : Nat) (hd : (d : Int) < 11) (hs : (s : Int) < 11) (nar reg : Bool) (off imm : Int)
    (t r x : Int) (hk : m.reg s = ⟨3, t, r, x⟩) (a n len cap bc : Nat) (cx : Nat → Int) (hC : CtxAt w L.ctx len cap bc cx) (hxo : x + off = (a : Int)) (g2 : a + n ≤ len) (g1 : 1 ≤ n) (g8 : n ≤ 8) (g4 : (a : Int) ≤ 70000) :
    Calls Tryz.prog 43 #[.pointer (some ⟨b, 0, none⟩), .agg #[.int .i64 op, .bool nar, .bool reg, .int .i64 n, .int .i64 d, .int .i64 s, .int .i64 off, .int .i64 imm]] w fun e w' =>
      e = .returned (.tuple #[.int .i64 0, .int .i64 0]) ∧ RepF w' b (mcell L (m.setReg d (.num (getF (op == 23) (fun j => cx (a + j)) n)))) ∧ Fr (· = b) w w' := by
  have H := Lib.hid hR
  have HC := Lib.hid hC
  have HL := Lib.hid hC.val
  have hb := hR.lt
  have hf := hR.frozen
  obtain ⟨h0, h1, h2, h3⟩ := hR.reg s (by omega)
  rw [hk] at h0 h1 h2 h3
  obtain ⟨q0, q1, q2, q3⟩ := hR.reg d (by omega)
  have g5' : decide ((a : Int) + (n : Int) ≤ (len : Int)) = true := by simp; omega
  have G1 := Lib.hid g2
  have HCAP := Lib.hid (show ((a + n : Nat) : Int) ≤ 100000 by omega)
  have hb1 : b < w.heap.size + 1 := by omega
  have hb2 : b < w.heap.size + 1 + 1 := by omega
  have hb3 : b < w.heap.size + 1 + 1 + 1 := by omega
  have hb4 : b < w.heap.size + 1 + 1 + 1 + 1 := by omega
  have hb5 : b < w.heap.size + 1 + 1 + 1 + 1 + 1 := by omega
  have hb6 : b < w.heap.size + 1 + 1 + 1 + 1 + 1 + 1 := by omega
  have hb7 : b < w.heap.size + 1 + 1 + 1 + 1 + 1 + 1 + 1 := by omega
  have hb8 : b < w.heap.size + 1 + 1 + 1 + 1 + 1 + 1 + 1 + 1 := by omega
  have hb9 : b < w.heap.size + 1 + 1 + 1 + 1 + 1 + 1 + 1 + 1 + 1 := by omega
  have hb10 : b < w.heap.size + 1 + 1 + 1 + 1 + 1 + 1 + 1 + 1 + 1 + 1 := by omega
  clear hR hk g2 hC
  go_enter Tryz.func43, Tryz.ntmps43
  go_wp2_with fail
  go_region
  go_wp2_with (go_at_call 62; refine (pointer_any _ _ _ _ _).mono ?_; rintro e w1 ⟨rfl, rfl⟩)
  go_region_held3 (fun w' => w'.cell? ⟨w.heap.size + 1, 0, none⟩ = some (.int .i64 3) ∧ w'.cell? ⟨w.heap.size + 1, 1, none⟩ = some (.int .i64 t) ∧ w'.cell? ⟨w.heap.size + 1, 2, none⟩ = some (.int .i64 r) ∧ w'.cell? ⟨w.heap.size + 1, 3, none⟩ = some (.int .i64 x) ∧ w'.cell? ⟨w.heap.size, 0, none⟩ = some (.int .i64 op) ∧ w'.cell? ⟨w.heap.size, 1, none⟩ = some (.bool nar) ∧ w'.cell? ⟨w.heap.size, 2, none⟩ = some (.bool reg) ∧ w'.cell? ⟨w.heap.size, 3, none⟩ = some (.int .i64 n) ∧ w'.cell? ⟨w.heap.size, 4, none⟩ = some (.int .i64 d) ∧ w'.cell? ⟨w.heap.size, 5, none⟩ = some (.int .i64 s) ∧ w'.cell? ⟨w.heap.size, 6, none⟩ = some (.int .i64 off) ∧ w'.cell? ⟨w.heap.size, 7, none⟩ = some (.int .i64 imm)) (simp [go_sem, *])
    (first | (go_at_call 63; refine (within_ctxR b L m _ len cap HL.out _ _ _ _ _ _ (by omega) (by omega) (by omega) (by omega) ?_).mono ?_; (repeat (first | with_reducible exact H.out | with_reducible refine RepF.drew ?_ | with_reducible refine RepF.alloc ?_ _)); rintro e w1 ⟨rfl, rfl⟩) | fail)
  go_wp2_with fail
  go_region_held3 (fun w' => w'.cell? ⟨w.heap.size + 1, 0, none⟩ = some (.int .i64 3) ∧ w'.cell? ⟨w.heap.size + 1, 1, none⟩ = some (.int .i64 t) ∧ w'.cell? ⟨w.heap.size + 1, 2, none⟩ = some (.int .i64 r) ∧ w'.cell? ⟨w.heap.size + 1, 3, none⟩ = some (.int .i64 x) ∧ w'.cell? ⟨w.heap.size, 0, none⟩ = some (.int .i64 op) ∧ w'.cell? ⟨w.heap.size, 1, none⟩ = some (.bool nar) ∧ w'.cell? ⟨w.heap.size, 2, none⟩ = some (.bool reg) ∧ w'.cell? ⟨w.heap.size, 3, none⟩ = some (.int .i64 n) ∧ w'.cell? ⟨w.heap.size, 4, none⟩ = some (.int .i64 d) ∧ w'.cell? ⟨w.heap.size, 5, none⟩ = some (.int .i64 s) ∧ w'.cell? ⟨w.heap.size, 6, none⟩ = some (.int .i64 off) ∧ w'.cell? ⟨w.heap.size, 7, none⟩ = some (.int .i64 imm)) (simp [go_sem, *])
    (first | (go_at_call 64; refine (readable_ctx _ _ _ _ _ _ _).mono ?_; rintro e w1 ⟨rfl, rfl⟩) | fail)
  go_wp2_with fail
  go_region_held3 (fun w' => w'.cell? ⟨w.heap.size + 1, 0, none⟩ = some (.int .i64 3) ∧ w'.cell? ⟨w.heap.size + 1, 1, none⟩ = some (.int .i64 t) ∧ w'.cell? ⟨w.heap.size + 1, 2, none⟩ = some (.int .i64 r) ∧ w'.cell? ⟨w.heap.size + 1, 3, none⟩ = some (.int .i64 x) ∧ w'.cell? ⟨w.heap.size, 0, none⟩ = some (.int .i64 op) ∧ w'.cell? ⟨w.heap.size, 1, none⟩ = some (.bool nar) ∧ w'.cell? ⟨w.heap.size, 2, none⟩ = some (.bool reg) ∧ w'.cell? ⟨w.heap.size, 3, none⟩ = some (.int .i64 n) ∧ w'.cell? ⟨w.heap.size, 4, none⟩ = some (.int .i64 d) ∧ w'.cell? ⟨w.heap.size, 5, none⟩ = some (.int .i64 s) ∧ w'.cell? ⟨w.heap.size, 6, none⟩ = some (.int .i64 off) ∧ w'.cell? ⟨w.heap.size, 7, none⟩ = some (.int .i64 imm)) (simp [go_sem, *])
    (first
      | (go_at_call 65; refine (getm_ctx b L m _ len cap bc cx ?_ ?_ _ _ _ a n G1.out HCAP.out g1 g8 _).mono ?_; (repeat (first | with_reducible exact H.out | with_reducible refine RepF.drew ?_ | with_reducible refine RepF.alloc ?_ _)); (repeat (first | with_reducible exact HC.out | with_reducible refine CtxAt.drew ?_ | with_reducible refine CtxAt.alloc ?_ _)); rintro e w1 ⟨rfl, hF1⟩; (have hk1 := fcell hF1); (have hz1 := hF1.size); (simp [go_sem] at hz1); (have hza : w.heap.size < w1.heap.size := by omega); (have hzb : w.heap.size + 1 < w1.heap.size := by omega); (have hbz : b < w1.heap.size := by omega); (have hf1 := (RepF.fr (b := b) (f := mcell L m) (by repeat (first | with_reducible exact H.out | with_reducible refine RepF.drew ?_ | with_reducible refine RepF.alloc ?_ _)) hF1 (fun h => h)).frozen); (have HR1 := Lib.hid (RepF.fr (b := b) (f := mcell L m) (by repeat (first | with_reducible exact H.out | with_reducible refine RepF.drew ?_ | with_reducible refine RepF.alloc ?_ _)) hF1 (fun h => h))); obtain ⟨e0, e1, e2, e3⟩ := HR1.out.reg d (by omega); (have HF1 := Lib.hid hF1); clear hF1)
      | (go_at_call 30; refine (number_any _ _).mono ?_; rintro e w2 ⟨rfl, rfl⟩)
      | fail)
  all_goals
    go_wp2_with fail
    refine bodyPost_ret (v := .tuple #[.int .i64 0, .int .i64 0]) (by simp [results, Tryz.results43, go_sem]) rfl ⟨rfl, ?_, ?_⟩
    · have hs1 := HR1.out.setReg d (by omega) (.num (getF (op == 23) (fun j => cx (a + j)) n))
      repeat (first | with_reducible refine RepF.drew ?_ | with_reducible refine RepF.alloc ?_ _)
      exact hs1
    · repeat (first | with_reducible refine Fr.drew ?_ | with_reducible refine Fr.alloc ?_ _ | with_reducible refine Fr.setCell ?_ _ _ (.inl rfl))
      refine Fr.ends ?_ HF1.out
      repeat (first | with_reducible exact Fr.refl _ _ | with_reducible refine Fr.drew ?_ | with_reducible refine Fr.alloc ?_ _)

end Go.Proofs.YtkhbjhmhdlmmfaaGreat
