/- Walks: the law on memory: the run over the stack. -/
import Derived.Test.YtkhbjhmhdlmmfaaGreatMe
import Derived.Deep.DeepCutAuto
import Derived.Deep.RegionHeld3
namespace Go.Proofs.YtkhbjhmhdlmmfaaGreat
open Go.RowKit

theorem wrap_u64 (z : Int) : wrap64 (IntKind.u64.wrap z) = wrap64 z := by
  have h : IntKind.u64.wrap z = z % 18446744073709551616 := rfl
  rw [h]
  unfold wrap64
  omega
theorem owns_slice_m {w : World} {base e sz : Nat} {v : Value} {n : Nat} {xs : List Value} (h : w.ownsRow base e sz v n xs) : ∃ p c, v = .slice p n c := by
  rcases h.2 with ⟨rfl, rfl⟩ | ⟨g, cap, cur, rfl, _⟩
  · exact ⟨_, _, rfl⟩
  · exact ⟨_, _, rfl⟩
theorem rowAt_alloc {w : World} {v : Value} {n : Nat} {xs : List Value} (h : RowAt w v n xs) (o : Obj) : RowAt (w.alloc o) v n xs := h.fr ((Fr.refl (fun _ => False) w).alloc o)
theorem rowAt_drewN {w : World} {v : Value} {n : Nat} {xs : List Value} (h : RowAt w v n xs) (k : Nat) : RowAt (w.drewN k) v n xs := h
theorem get8 (x : Nat → Int) : getF true x 8 = getF false x 8 := by
  unfold getF
  rw [if_pos rfl, if_neg (by decide)]
  simp only [Nat.reduceMul, Nat.sub_self, Int.pow_zero, Int.mul_one, Int.ediv_one]
  exact wrap_u64 _
theorem get_put (sg : Bool) (b k : Nat) (v : Int) (w : World) (h1 : 1 ≤ k) (h8 : k ≤ 8) (h : w.heap[b]? = some (.cells (putArr k v k) 5 (0, 0))) :
    Calls Tryz.prog 11 #[.slice (some ⟨b, 0, none⟩) k k, .bool sg] w fun e w' => e = .returned (.int .i64 (getF sg (byteOf v) k)) ∧ w = w' := by
  refine get_any sg b 0 k k (byteOf v) w h1 h8 (fun j hj => ?_)
  have := putArr_get k v k j hj
  rw [if_pos hj] at this
  simp [World.cell?, h, this]

set_option maxRecDepth 100000 in
set_option maxHeartbeats 4000000 in
theorem mem20 (v : Int) (w wc : World) (k s m g0 c0 g18 pi : Nat) (op : Int) (f : Nat → Int) (i0 i1 i2 i3 : Value) (hk : k = 1 ∨ k = 2 ∨ k = 4 ∨ k = 8) (hm8 : 8 ≤ m) (hm3 : m ≤ 300) (hop : k = 8 ∧ op = 22 ∨ (k = 1 ∨ k = 2 ∨ k = 4) ∧ op = 23) (hs : s ≤ 256) (R18 : Hid (CodeRow wc g18 4 (codeN v k op ((s : Int) - 256) ((s : Int) - 256)))) (RX : Hid (RowAt wc (.slice (some ⟨g0, 0, none⟩) m c0) m (bytesL f m))) (HF : Hid (Fr (fun _ => False) w wc)) (HI : Hid (wc.heap[pi]? = some (.cells #[i0, i1, i2, i3] 31 (0, 0)))) (hw18 : w.heap.size ≤ g18) (hwpi : w.heap.size ≤ pi) (hg18 : g0 ≠ g18) (hgpi : g0 ≠ pi) (hpi18 : g18 ≠ pi) (K : Act → World → Prop) (hKK : ∀ a w', Code.wp Tryz.prog (tailM 16) (bodyPost Tryz.prog Tryz.f3 (PostP w)) a w' → K a w')
    (u1 u3 u4 u5 u6 u7 u8 u9 u12 u13 u15 u16 u19 u20 u21 u22 u23 u24 u25 u26 u27 u28 u29 u30 u31 u32 u33 u34 u35 u36 u37 u38 u39 u40 u41 u42 u43 u44 u45 u46 u47 u48 u49 u50 u51 u52 u53 u54 u55 u56 u57 u58 u59 u60 u61 u62 u63 u64 u65 u66 u67 u68 u69 u70 u71 u72 u73 u74 u75 u76 u77 u78 u79 u80 u81 u82 u83 u84 u85 u86 u87 u88 u89 u90 u91 u92 u93 u94 u95 u96 u97 u98 u99 u100 u101 u102 u103 u104 u105 u106 u107 u108 u109 u110 u111 u112 u113 u114 u115 u116 u117 u118 u119 u120 u121 u122 u123 u124 u125 u126 u127 u128 u129 u130 u131 u132 u133 u134 u135 u136 u137 u138 u139 u140 u141 u142 u143 u144 u145 u146 u147 u148 u149 u150 u151 u152 u153 u154 u155 u156 u157 u158 u159 u160 u161 u162 u163 u164 u165 u166 u167 u168 u169 u170 u171 u172 u173 u174 u175 u176 : Value) :
    Code.wp Tryz.prog (headM 15) (Exit.then K (bodyPost Tryz.prog Tryz.f3 (PostP w))) ⟨List.toArray (.slice (some ⟨g0, 0, none⟩) m c0 :: u1 :: .int .i64 v :: u3 :: u4 :: u5 :: u6 :: u7 :: u8 :: u9 :: .bool false :: .int .i64 k :: u12 :: u13 :: .pointer (some ⟨pi, 0, none⟩) :: u15 :: u16 :: .int .i64 s :: .slice (some ⟨g18, 0, none⟩) 4 4 :: u19 :: u20 :: u21 :: u22 :: u23 :: u24 :: u25 :: u26 :: u27 :: u28 :: u29 :: u30 :: u31 :: u32 :: u33 :: u34 :: u35 :: u36 :: u37 :: u38 :: u39 :: u40 :: u41 :: u42 :: u43 :: u44 :: u45 :: u46 :: u47 :: u48 :: u49 :: u50 :: u51 :: u52 :: u53 :: u54 :: u55 :: u56 :: u57 :: u58 :: u59 :: u60 :: u61 :: u62 :: u63 :: u64 :: u65 :: u66 :: u67 :: u68 :: u69 :: u70 :: u71 :: u72 :: u73 :: u74 :: u75 :: u76 :: u77 :: u78 :: u79 :: u80 :: u81 :: u82 :: u83 :: u84 :: u85 :: u86 :: u87 :: u88 :: u89 :: u90 :: u91 :: u92 :: u93 :: u94 :: u95 :: u96 :: u97 :: u98 :: u99 :: u100 :: u101 :: u102 :: u103 :: u104 :: u105 :: u106 :: u107 :: u108 :: u109 :: u110 :: u111 :: u112 :: u113 :: u114 :: u115 :: u116 :: u117 :: u118 :: u119 :: u120 :: u121 :: u122 :: u123 :: u124 :: u125 :: u126 :: u127 :: u128 :: u129 :: u130 :: u131 :: u132 :: u133 :: u134 :: u135 :: u136 :: u137 :: u138 :: u139 :: u140 :: u141 :: u142 :: u143 :: u144 :: u145 :: u146 :: u147 :: u148 :: u149 :: u150 :: u151 :: u152 :: u153 :: u154 :: u155 :: u156 :: u157 :: u158 :: u159 :: u160 :: u161 :: u162 :: u163 :: u164 :: u165 :: u166 :: u167 :: u168 :: u169 :: u170 :: u171 :: u172 :: u173 :: u174 :: u175 :: u176 :: []), []⟩ (wc) := by
  conv => arg 2; whnf
  conv at hKK => enter [a, w', 1, 2]; whnf
  have hk1 : 1 ≤ k := by omega
  have hk8 : k ≤ 8 := by omega
  have hiz : infoZero = #[.int .i64 0, .slice none 0 0, .slice none 0 0, .slice none 0 0] := rfl
  by_cases hsk : 256 < s + k
  · have hskI : (256 : Int) < (s : Int) + k := by omega
    have hcall := Lib.hid (callMD v k s hk op hop hsk hs m (by omega) f g18 4 _ _ R18.out RX.out)
    go_wp2_with fail
    refine hcall.out.mono ?_
    rintro e w1 ⟨rfl, hF1⟩
    have I1 := heap_fr HI.out hF1 (fun h => h)
    have fI : ∀ o, w1.frozen? ⟨pi, o, none⟩ = false := fun o => by simp [World.frozen?, I1]
    have cI0 : w1.cell? ⟨pi, 0, none⟩ = some i0 := by simp [World.cell?, I1]
    have cI1 : w1.cell? ⟨pi, 1, none⟩ = some i1 := by simp [World.cell?, I1]
    have cI2 : w1.cell? ⟨pi, 2, none⟩ = some i2 := by simp [World.cell?, I1]
    have cI3 : w1.cell? ⟨pi, 3, none⟩ = some i3 := by simp [World.cell?, I1]
    have lI := (Array.getElem?_eq_some_iff.1 I1).1
    have HF1 := Lib.hid (HF.out.trans hF1)
    clear hF1 hcall I1
    go_wp2
    go_ret
    refine ⟨rfl, ?_⟩
    repeat (first | with_reducible exact HF1.out | with_reducible refine Fr.drew ?_ | with_reducible refine Fr.setCell ?_ _ _ (.inr hwpi))
  · have hskI : ¬ ((256 : Int) < (s : Int) + k) := by omega
    have hcall := Lib.hid (callMC v k s hk op hop (by omega) m (by omega) f g18 4 _ _ R18.out RX.out)
    obtain ⟨r0, hr0⟩ : ∃ r0, r0 = getF (op == 23) (byteOf v) k := ⟨_, rfl⟩
    have hr1 : getF true (byteOf v) k = r0 := by
      rw [hr0]
      rcases hop with ⟨rfl, rfl⟩ | ⟨_, rfl⟩
      · exact get8 _
      · rfl
    rw [← hr0] at hcall
    clear hr0
    go_wp2_with fail
    refine hcall.out.mono ?_
    rintro e w1 ⟨p1, m1, c1, p3, m3, c3, rfl, ho1, hF1⟩
    obtain ⟨p1', c1', h1⟩ := owns_slice_m ho1
    cases h1
    have I1 := heap_fr HI.out hF1 (fun h => h)
    have fI : ∀ o, w1.frozen? ⟨pi, o, none⟩ = false := fun o => by simp [World.frozen?, I1]
    have cI0 : w1.cell? ⟨pi, 0, none⟩ = some i0 := by simp [World.cell?, I1]
    have cI1 : w1.cell? ⟨pi, 1, none⟩ = some i1 := by simp [World.cell?, I1]
    have cI2 : w1.cell? ⟨pi, 2, none⟩ = some i2 := by simp [World.cell?, I1]
    have cI3 : w1.cell? ⟨pi, 3, none⟩ = some i3 := by simp [World.cell?, I1]
    have lI := (Array.getElem?_eq_some_iff.1 I1).1
    have HF1 := Lib.hid (HF.out.trans hF1)
    have SF : Fr (fun x => x = pi) w1 ((((w1.setCell ⟨pi, 0, none⟩ (.int .i64 r0)).setCell ⟨pi, 1, none⟩ (.slice p1 m c1)).setCell ⟨pi, 2, none⟩ (.slice none 0 0)).setCell ⟨pi, 3, none⟩ (.slice p3 m3 c3)) :=
      ((((Fr.refl (fun x => x = pi) w1).setCell _ _ (.inl rfl)).setCell _ _ (.inl rfl)).setCell _ _ (.inl rfl)).setCell _ _ (.inl rfl)
    have HO1 := Lib.hid (ownsRow_frS ho1 SF (fun g hg hgp => by have h1 := (Array.getElem?_eq_some_iff.1 HI.out).1; omega))
    have RX1 := Lib.hid (rowAt_frS (RX.out.fr hF1) SF (fun h => hgpi h))
    have R181 := Lib.hid ((R18.out.fr hF1 (fun h => h)).fr SF (fun h => hpi18 h))
    have HF2 := Lib.hid (HF1.out.fresh SF (fun x hx => by omega))
    clear hF1 hcall I1 ho1
    have HY := Lib.hid (owns_rowAt HO1.out).1
    go_upto_region 23 with fail
    obtain ⟨w2, hw2⟩ : ∃ w2, w2 = ((((w1.setCell ⟨pi, 0, none⟩ (.int .i64 r0)).setCell ⟨pi, 1, none⟩ (.slice p1 m c1)).setCell ⟨pi, 2, none⟩ (.slice none 0 0)).setCell ⟨pi, 3, none⟩ (.slice p3 m3 c3)) := ⟨_, rfl⟩
    have d0 : w2.cell? ⟨pi, 0, none⟩ = some (.int .i64 r0) := by
      rw [hw2, cell_set_ne (by omega), cell_set_ne (by omega), cell_set_ne (by omega)]; exact cell_set_eq cI0
    have d1 : w2.cell? ⟨pi, 1, none⟩ = some (.slice p1 m c1) := by
      rw [hw2, cell_set_ne (by omega), cell_set_ne (by omega)]; exact cell_set_eq ((cell_set_ne (by omega)).trans cI1)
    have lpi : pi < w2.heap.size := World.block_lt_of_cell? _ _ d0
    rw [← hw2] at SF HO1 RX1 R181 HF2 HY ⊢
    clear hw2 SF fI cI0 cI1 cI2 cI3 HO1
    go_region_held3 (fun w' => w'.cell? ⟨pi, 0, none⟩ = some (.int .i64 r0) ∧ w'.cell? ⟨pi, 1, none⟩ = some (.slice p1 m c1)) (simp [go_sem, *])
      (first
        | (go_at_call 10; refine (put_any k v _ (by omega) (by omega)).mono ?_; rintro e w3 ⟨rfl, rfl⟩)
        | (go_at_call 11; refine (get_put true _ k v _ hk1 hk8 ?_).mono ?_; (first | exact heap_alloc_new _ _); rw [hr1]; rintro e w4 ⟨rfl, rfl⟩)
        | (go_at_call 12; refine (sameBytes_ok _ _ m f _ ?_ ?_).mono ?_; (repeat (first | with_reducible exact HY.out | with_reducible refine RowAt.drew ?_ | with_reducible refine rowAt_drewN ?_ _ | with_reducible refine rowAt_alloc ?_ _)); (repeat (first | with_reducible exact RX1.out | with_reducible refine RowAt.drew ?_ | with_reducible refine rowAt_drewN ?_ _ | with_reducible refine rowAt_alloc ?_ _)); rintro e w5 ⟨rfl, rfl⟩)
        | fail)
    have A18 : CodeRow (w2.alloc (.cells (putArr k v k) 5)).drew g18 4 (codeN v k op ((s : Int) - 256) ((s : Int) - 256)) := CodeRow.fr (S := fun _ => False) R181.out (((Fr.refl (fun _ => False) w2).alloc (.cells (putArr k v k) 5)).drew) (fun h => h)
    have AX : RowAt (w2.alloc (.cells (putArr k v k) 5)).drew (.slice (some ⟨g0, 0, none⟩) m c0) m (bytesL f m) := (rowAt_alloc RX1.out (.cells (putArr k v k) 5)).drew
    have AF : Fr (fun _ => False) w (w2.alloc (.cells (putArr k v k) 5)).drew := (HF2.out.alloc (.cells (putArr k v k) 5)).drew
    have HA18 := Lib.hid A18
    have HAX := Lib.hid AX
    have HAF := Lib.hid AF
    clear A18 AX AF
    go_upto_region 25 with fail
    rename_i hkk
    exact mem25 v w _ k s m g0 c0 g18 op f hk hm8 hm3 hop (by omega) HA18 HAX HAF hw18 hg18 _ hkk _ _ _ _ _ _ _ _ _ _ _ _ _ _ _ _ _ _ _ _ _ _ _ _ _ _ _ _ _ _ _ _ _ _ _ _ _ _ _ _ _ _ _ _ _ _ _ _ _ _ _ _ _ _ _ _ _ _ _ _ _ _ _ _ _ _ _ _ _ _ _ _ _ _ _ _ _ _ _ _ _ _ _ _ _ _ _ _ _ _ _ _ _ _ _ _ _ _ _ _ _ _ _ _ _ _ _ _ _ _ _ _ _ _ _ _ _ _ _ _ _ _ _ _ _ _ _ _ _ _ _ _ _ _ _ _ _ _ _ _ _ _ _ _ _ _ _ _ _ _ _ _ _ _ _ _ _ _ _ _ _ _ _ _ _ _ _ _ _ _ _ _


end Go.Proofs.YtkhbjhmhdlmmfaaGreat
