/- Walks: runs, wide, CopyCode. -/
import Derived.Test.YtkhbjhmhdlmmfaaGreatU
namespace Go.Proofs.YtkhbjhmhdlmmfaaGreat
open Go.RowKit

set_option maxRecDepth 100000 in
theorem lawWide (d v : Int) (w : World) : Calls Tryz.prog 8 #[.int .i64 d, .int .i64 v] w fun e w' =>
    e = .returned (.agg #[.int .i64 20, .bool false, .bool false, .int .i64 0, .int .i64 d, .int .i64 0, .int .i64 0, .int .i64 v]) ∧
    w.alloc (.cells #[.int .i64 20, .bool false, .bool false, .int .i64 0, .int .i64 d, .int .i64 0, .int .i64 0, .int .i64 v] 25) = w' := by
  go_enter Tryz.func8, Tryz.ntmps8
  go_wp2
  exact bodyPost_ret (v := .agg #[.int .i64 20, .bool false, .bool false, .int .i64 0, .int .i64 d, .int .i64 0, .int .i64 0, .int .i64 v]) (by simp [results, Tryz.results8, go_sem]) rfl ⟨rfl, rfl⟩

theorem owns_rowAt {w : World} {base e : Nat} {v : Value} {n : Nat} {f : Nat → Int} (h : w.ownsRow base e 1 v n (bytesL f n)) : RowAt w v n (bytesL f n) ∧ ∃ p c, v = .slice p n c := by
  rcases h.2 with ⟨rfl, rfl⟩ | ⟨g, cap, cur, rfl, hb, hg, hnc, hm, hcs, htake⟩
  · exact ⟨.inl ⟨rfl, rfl, rfl⟩, _, _, rfl⟩
  · exact ⟨.inr ⟨_, _, rfl, fun j u hu => h.cells rfl j u hu⟩, _, _, rfl⟩

theorem copyBytesAt (v : Value) (n : Nat) (f : Nat → Int) (w : World) (h : RowAt w v n (bytesL f n)) (hn : n ≤ 140737488351232) :
    Calls Tryz.prog 7 #[v] w fun e w' => ∃ p c, e = .returned (.slice p n c) ∧ w'.ownsRow w.heap.size 5 1 (.slice p n c) n (bytesL f n) ∧ Fr (fun _ => False) w w' := by
  rcases h with ⟨rfl, _, rfl⟩ | ⟨a, c, rfl, hx⟩
  · refine (copyBytes_nil w).mono ?_
    rintro e w1 ⟨rfl, rfl⟩
    exact ⟨_, _, rfl, World.ownsRow_nil w w.heap.size 5 1, Fr.refl _ _⟩
  · refine (copyBytes_some a n c _ w (bytesL_len _ _) hn hx (bytesL_one _ _)).mono ?_
    rintro e w1 ⟨v, rfl, ho, hb⟩
    obtain ⟨_, p, c', rfl⟩ := owns_rowAt ho
    exact ⟨p, c', rfl, ho, (Fr.refl _ _).below hb⟩

set_option maxRecDepth 100000 in
set_option maxHeartbeats 4000000 in
theorem runs_ok (g n cap : Nat) (c : Nat → Ins) (v : Value) (m : Nat) (w : World) (hc : CodeAt w g n c) (hn : (n : Int) ≤ 4096) (hn1 : 1 ≤ n)
    (hop : ∀ k, k < n → ((c k).op == 21) = false)
    (hg : ∀ k, k < n → ∀ W, Calls Tryz.prog 39 #[(c k).agg] W fun e w' => e = .returned (.int .i64 0) ∧ Fr (fun _ => False) W w')
    (cx : Nat → Int) (hx : RowAt w v m (bytesL cx m)) (hm : (m : Int) ≤ 65535)
    (P : Int → Value → Value → Int → World → Prop) (hP : ∀ x v s q w1 w2, P x v s q w1 → Fr (fun k => k = w.heap.size) w1 w2 → P x v s q w2)
    (hrun : ∀ w0 w1 b gc capc gu capu gm cv, w.heap.size < w0.heap.size → NewAt w0 w1 b gc capc gu capu gm n c cv m cx → Calls Tryz.prog 20 #[.pointer (some ⟨b, 0, none⟩), .int .i64 1048576] w1 fun e w' =>
      ∃ x p1 m1 c1 p3 m3 c3 q, e = .returned (.tuple #[.agg #[.int .i64 x, .slice p1 m1 c1, .slice none 0 0, .slice p3 m3 c3], .int .i64 q]) ∧ P x (.slice p1 m1 c1) (.slice p3 m3 c3) q w' ∧ Fr (fun _ => False) w0 w') :
    Calls Tryz.prog 9 #[.slice (some ⟨g, 0, none⟩) n cap, v] w fun e w' =>
      ∃ x p1 m1 c1 p3 m3 c3 q, e = .returned (.tuple #[.agg #[.int .i64 x, .slice p1 m1 c1, .slice none 0 0, .slice p3 m3 c3], .int .i64 q]) ∧ P x (.slice p1 m1 c1) (.slice p3 m3 c3) q w' ∧ Fr (fun _ => False) w w' := by
  have HC := Lib.hid hc
  have HG := Lib.hid hg
  have HOP := Lib.hid hop
  have HN := Lib.hid hn
  have HN1 := Lib.hid hn1
  have HX := Lib.hid hx
  have HM := Lib.hid hm
  have HP := Lib.hid hP
  have HRUN := Lib.hid hrun
  clear hc hg hop hn hn1 hx hm hP hrun
  go_enter Tryz.func9, Tryz.ntmps9
  go_wp2_with (first
    | (go_at_call 7; refine (copyBytesAt _ m cx _ ?_ (by have := HM.out; omega)).mono ?_; (exact HX.out.fr ((Fr.refl _ _).alloc _)); rintro e w1 ⟨p1, c1, rfl, ho1, hF1⟩; (have HO1 := Lib.hid ho1); (have HF1 := Lib.hid hF1); (have hz1 := hF1.size); (simp at hz1); clear ho1 hF1)
    | (go_at_call 19; refine (new_ok g n cap c p1 m c1 _ (HC.out.fr (((Fr.refl (fun _ => False) w).alloc _).trans HF1.out) (fun h => h)) HN.out HN1.out HOP.out HG.out cx (owns_rowAt HO1.out).1 (decide_eq_false (by omega)) (decide_eq_false (by have := HM.out; omega))).mono ?_; rintro e w2 ⟨b, gc, capc, gu, capu, gm, cv, rfl, hNew⟩; (have HNEW := Lib.hid hNew); clear hNew)
    | (go_at_call 20; refine (HRUN.out w1 _ b gc capc gu capu gm cv (by omega) HNEW.out).mono ?_; rintro e w3 ⟨x, p3, m3, c3, p4, m4, c4, q, rfl, hP3, hF3⟩; (have hB0 := heap_alloc_new w (.cells infoZero 31)); (have hB := heap_fr (heap_fr hB0 HF1.out (fun h => h)) hF3 (fun h => h)); (have hfr : ∀ o, w3.frozen? ⟨w.heap.size, o, none⟩ = false := fun o => by simp [World.frozen?, hB]); (have hbx : ∀ o u, infoZero[o]? = some u → w3.cell? ⟨w.heap.size, o, none⟩ = some u := fun o u hu => by simp [World.cell?, hB, hu]); (have b0 := hbx 0 _ rfl); (have b1 := hbx 1 _ rfl); (have b2 := hbx 2 _ rfl); (have b3 := hbx 3 _ rfl); (have hz3 := hF3.size); (have hws : w.heap.size < w3.heap.size := by omega); (have HF3 := Lib.hid hF3); (have HP3 := Lib.hid hP3); clear hB0 hB hbx hF3 hP3)
    | fail)
  have hq : Fr (fun k => k = w.heap.size) w3 ((((w3.setCell ⟨w.heap.size, 0, none⟩ (.int .i64 x)).setCell ⟨w.heap.size, 1, none⟩ (.slice p3 m3 c3)).setCell ⟨w.heap.size, 2, none⟩ (.slice none 0 0)).setCell ⟨w.heap.size, 3, none⟩ (.slice p4 m4 c4)) :=
    ((((Fr.refl (fun k => k = w.heap.size) w3).setCell _ _ (.inl rfl)).setCell _ _ (.inl rfl)).setCell _ _ (.inl rfl)).setCell _ _ (.inl rfl)
  refine bodyPost_ret (v := .tuple #[.agg #[.int .i64 x, .slice p3 m3 c3, .slice none 0 0, .slice p4 m4 c4], .int .i64 q]) (by simp [results, Tryz.results9, go_sem, *]) rfl ⟨x, p3, m3, c3, p4, m4, c4, q, rfl, HP.out _ _ _ _ _ _ HP3.out hq, ?_⟩
  exact ((((Fr.refl _ w).alloc _).trans HF1.out).trans HF3.out).fresh hq (fun k hk => by omega)

set_option maxRecDepth 100000 in
set_option maxHeartbeats 400000 in
theorem copyCodeAt (g n cap : Nat) (c : Nat → Ins) (w : World) (hc : CodeAt w g n c) (hn : (n : Int) ≤ 4096) :
    Calls Tryz.prog 14 #[.slice (some ⟨g, 0, none⟩) n cap] w fun e w' => ∃ v, e = .returned v ∧ w'.ownsRow w.heap.size 25 8 v n (codeL c n) ∧ Fr (fun _ => False) w w' := by
  obtain ⟨i0, hi, hz0, hz1, hz2⟩ := info_parts Tryz.info25
  have hown := World.ownsRow_nil w w.heap.size 25 8
  have Hown := Lib.hid hown
  have Hn := Lib.hid hn
  have Hx := Lib.hid (codeAt_news hc)
  clear hn hc hown
  go_enter Tryz.func14, Tryz.ntmps14
  go_wp2_with (at_builtin; go_must (refine wpList_append_own _ rfl _ _ 27 rfl w.heap.size 25 i0 (.agg #[.int .i64 0, .bool false, .bool false, .int .i64 0, .int .i64 0, .int .i64 0, .int .i64 0, .int .i64 0]) 8 56 Tryz.underlying27 hi hz0 hz1 hz2 rfl (by decide) _ _ _ rfl Hown.out ⟨g, 0, none⟩ n cap (codeL c n) rfl (codeL_len c n) Hx.out (codeL_one c n) (by have := Hn.out; unfold maxLen; omega) (by have := Hn.out; omega) (by simp) ?_; intro v' w1 hown1 hgrow hnil; (have Ho1 := Lib.hid hown1); (have Hg1 := Lib.hid hgrow); clear hown1 hgrow hnil))
  go_ret
  have ho := Ho1.out
  rw [Nat.zero_add, List.nil_append] at ho
  exact ⟨v', rfl, ho, (Fr.refl _ _).below ((Below.refl _ _).grown Hg1.out (by simp) (fun k hk => by cases hk))⟩

set_option maxRecDepth 100000 in
theorem leave_ptr (b : Nat) (L : Lay) (m : Mac) (w : World) (hR : RepF w b (mcell L m)) (cs : Array Value) (k t r x : Int) (h : m.reg 0 = ⟨k, t, r, x⟩) (hk : (k == 1) = false) :
    Calls Tryz.prog 49 #[.pointer (some ⟨b, 0, none⟩), .agg cs] w fun e w' => e = .returned (.tuple #[.int .i64 0, .int .i64 86]) ∧ Fr (fun _ => False) w w' := by
  have hb := hR.lt
  obtain ⟨h0, h1, h2, h3⟩ := hR.reg 0 (by omega)
  rw [h] at h0 h1 h2 h3
  clear hR h
  go_enter Tryz.func49, Tryz.ntmps49
  go_wp2_with (go_at_call 57; refine (numeric_any _ _ _ _ _).mono ?_; rintro e w1 ⟨rfl, rfl⟩)
  refine bodyPost_ret (v := .tuple #[.int .i64 0, .int .i64 86]) (by simp [results, Tryz.results49, go_sem]) rfl ⟨rfl, ?_⟩
  repeat (first | with_reducible exact Fr.refl _ _ | with_reducible refine Fr.drew ?_ | with_reducible refine Fr.alloc ?_ _)

/-- two codes behind one another -/
def joinC (c d : Nat → Ins) (n : Nat) (k : Nat) : Ins := if k < n then c k else d (k - n)
theorem codeL_congr (c d : Nat → Ins) (n : Nat) (h : ∀ k, k < n → c k = d k) : codeL c n = codeL d n := by
  induction n with
  | zero => rfl
  | succ n ih => rw [codeL, codeL, ih (fun k hk => h k (by omega)), h n (by omega)]
theorem codeL_join (c d : Nat → Ins) (n k : Nat) : codeL c n ++ codeL d k = codeL (joinC c d n) (n + k) := by
  induction k with
  | zero => rw [codeL, List.append_nil]; exact codeL_congr _ _ _ (fun i hi => by unfold joinC; rw [if_pos hi])
  | succ k ih =>
    rw [codeL, ← List.append_assoc, ih]
    show _ = codeL (joinC c d n) (n + k) ++ (joinC c d n (n + k)).cells
    unfold joinC
    rw [if_neg (by omega), Nat.add_sub_cancel_left]
/-- the cells of an instruction, written at place k -/
def setIns (w : World) (g k : Nat) (i : Ins) : World :=
  (((((((w.setCell ⟨g, k * 8, none⟩ (.int .i64 i.op)).setCell ⟨g, k * 8 + 1, none⟩ (.bool i.nar)).setCell ⟨g, k * 8 + 2, none⟩ (.bool i.reg)).setCell ⟨g, k * 8 + 3, none⟩ (.int .i64 i.size)).setCell ⟨g, k * 8 + 4, none⟩ (.int .i64 i.dst)).setCell ⟨g, k * 8 + 5, none⟩ (.int .i64 i.src)).setCell ⟨g, k * 8 + 6, none⟩ (.int .i64 i.off)).setCell ⟨g, k * 8 + 7, none⟩ (.int .i64 i.imm)

end Go.Proofs.YtkhbjhmhdlmmfaaGreat
