/- Walks: the law on memory: the run over the context. -/
import Derived.Test.YtkhbjhmhdlmmfaaGreatMh
import Derived.Deep.DeepCutAuto
import Derived.Deep.RegionHeld3
namespace Go.Proofs.YtkhbjhmhdlmmfaaGreat
open Go.RowKit

set_option maxRecDepth 100000 in
set_option maxHeartbeats 4000000 in
theorem mem7 (a1 v : Int) (w wc : World) (k m g0 c0 : Nat) (f : Nat → Int) (hk : k = 1 ∨ k = 2 ∨ k = 4 ∨ k = 8) (hm8 : 8 ≤ m) (hm3 : m ≤ 300) (RX : Hid (RowAt wc (.slice (some ⟨g0, 0, none⟩) m c0) m (bytesL f m))) (HF : Hid (Fr (fun _ => False) w wc)) (hg0 : g0 < wc.heap.size) (K : Act → World → Prop) (hKK : ∀ a w', Code.wp Tryz.prog (tailM 6) (bodyPost Tryz.prog Tryz.f3 (PostP w)) a w' → K a w')
    (u3 u4 u5 u6 u7 u8 u9 u12 u13 u14 u15 u16 u17 u18 u19 u20 u21 u22 u23 u24 u25 u26 u27 u28 u29 u30 u31 u32 u33 u34 u35 u36 u37 u38 u39 u40 u41 u42 u43 u44 u45 u46 u47 u48 u49 u50 u51 u52 u53 u54 u55 u56 u57 u58 u59 u60 u61 u62 u63 u64 u65 u66 u67 u68 u69 u70 u71 u72 u73 u74 u75 u76 u77 u78 u79 u80 u81 u82 u83 u84 u85 u86 u87 u88 u89 u90 u91 u92 u93 u94 u95 u96 u97 u98 u99 u100 u101 u102 u103 u104 u105 u106 u107 u108 u109 u110 u111 u112 u113 u114 u115 u116 u117 u118 u119 u120 u121 u122 u123 u124 u125 u126 u127 u128 u129 u130 u131 u132 u133 u134 u135 u136 u137 u138 u139 u140 u141 u142 u143 u144 u145 u146 u147 u148 u149 u150 u151 u152 u153 u154 u155 u156 u157 u158 u159 u160 u161 u162 u163 u164 u165 u166 u167 u168 u169 u170 u171 u172 u173 u174 u175 u176 : Value) :
    Code.wp Tryz.prog (headM 5) (Exit.then K (bodyPost Tryz.prog Tryz.f3 (PostP w))) ⟨List.toArray (.slice (some ⟨g0, 0, none⟩) m c0 :: .int .i64 a1 :: .int .i64 v :: u3 :: u4 :: u5 :: u6 :: u7 :: u8 :: u9 :: .bool false :: .int .i64 k :: u12 :: u13 :: u14 :: u15 :: u16 :: u17 :: u18 :: u19 :: u20 :: u21 :: u22 :: u23 :: u24 :: u25 :: u26 :: u27 :: u28 :: u29 :: u30 :: u31 :: u32 :: u33 :: u34 :: u35 :: u36 :: u37 :: u38 :: u39 :: u40 :: u41 :: u42 :: u43 :: u44 :: u45 :: u46 :: u47 :: u48 :: u49 :: u50 :: u51 :: u52 :: u53 :: u54 :: u55 :: u56 :: u57 :: u58 :: u59 :: u60 :: u61 :: u62 :: u63 :: u64 :: u65 :: u66 :: u67 :: u68 :: u69 :: u70 :: u71 :: u72 :: u73 :: u74 :: u75 :: u76 :: u77 :: u78 :: u79 :: u80 :: u81 :: u82 :: u83 :: u84 :: u85 :: u86 :: u87 :: u88 :: u89 :: u90 :: u91 :: u92 :: u93 :: u94 :: u95 :: u96 :: u97 :: u98 :: u99 :: u100 :: u101 :: u102 :: u103 :: u104 :: u105 :: u106 :: u107 :: u108 :: u109 :: u110 :: u111 :: u112 :: u113 :: u114 :: u115 :: u116 :: u117 :: u118 :: u119 :: u120 :: u121 :: u122 :: u123 :: u124 :: u125 :: u126 :: u127 :: u128 :: u129 :: u130 :: u131 :: u132 :: u133 :: u134 :: u135 :: u136 :: u137 :: u138 :: u139 :: u140 :: u141 :: u142 :: u143 :: u144 :: u145 :: u146 :: u147 :: u148 :: u149 :: u150 :: u151 :: u152 :: u153 :: u154 :: u155 :: u156 :: u157 :: u158 :: u159 :: u160 :: u161 :: u162 :: u163 :: u164 :: u165 :: u166 :: u167 :: u168 :: u169 :: u170 :: u171 :: u172 :: u173 :: u174 :: u175 :: u176 :: []), []⟩ (wc) := by
  conv => arg 2; whnf
  conv at hKK => enter [a, w', 1, 2]; whnf
  have hk1 : 1 ≤ k := by omega
  have hk8 : k ≤ 8 := by omega
  obtain ⟨b0, hb0, hB⟩ := mask_nat a1 62 (by decide)
  simp only [Int.reducePow, Int.reduceSub, Nat.reducePow] at hB hb0
  obtain ⟨t, ht0⟩ : ∃ t, b0 % (m + 2) = t := ⟨_, rfl⟩
  have hBB : ((b0 : Nat) : Int).tmod ((m : Int) + 2) = (t : Int) := by rw [Int.tmod_eq_emod_of_nonneg (by omega), ← ht0]; simp
  have htm : t < m + 2 := by rw [← ht0]; exact Nat.mod_lt _ (by omega)
  clear ht0 hb0
  have hlw := HF.out.size
  go_upto_region 9 with (go_at_call 8; refine (lawWide _ _ _).mono ?_; rintro e w1 ⟨rfl, rfl⟩)
  have h18 := row_lit (wc.alloc (.cells #[.int .i64 20, .bool false, .bool false, .int .i64 0, .int .i64 3, .int .i64 0, .int .i64 0, .int .i64 v] 25)) (codeM v k t) 5 #[.int .i64 20, .bool false, .bool false, .int .i64 0, .int .i64 3, .int .i64 0, .int .i64 0, .int .i64 v, .int .i64 15, .bool false, .bool true, .int .i64 0, .int .i64 4, .int .i64 1, .int .i64 0, .int .i64 0, .int .i64 24, .bool false, .bool true, .int .i64 k, .int .i64 4, .int .i64 3, .int .i64 t, .int .i64 0, .int .i64 22, .bool false, .bool false, .int .i64 k, .int .i64 0, .int .i64 4, .int .i64 t, .int .i64 0, .int .i64 39, .bool false, .bool false, .int .i64 0, .int .i64 0, .int .i64 0, .int .i64 0, .int .i64 0] rfl
  have HFb := Lib.hid ((HF.out.alloc (.cells #[.int .i64 20, .bool false, .bool false, .int .i64 0, .int .i64 3, .int .i64 0, .int .i64 0, .int .i64 v] 25)).alloc (.cells #[.int .i64 20, .bool false, .bool false, .int .i64 0, .int .i64 3, .int .i64 0, .int .i64 0, .int .i64 v, .int .i64 15, .bool false, .bool true, .int .i64 0, .int .i64 4, .int .i64 1, .int .i64 0, .int .i64 0, .int .i64 24, .bool false, .bool true, .int .i64 k, .int .i64 4, .int .i64 3, .int .i64 t, .int .i64 0, .int .i64 22, .bool false, .bool false, .int .i64 k, .int .i64 0, .int .i64 4, .int .i64 t, .int .i64 0, .int .i64 39, .bool false, .bool false, .int .i64 0, .int .i64 0, .int .i64 0, .int .i64 0, .int .i64 0] 25))
  have RXb := Lib.hid (rowAt_alloc (rowAt_alloc RX.out (.cells #[.int .i64 20, .bool false, .bool false, .int .i64 0, .int .i64 3, .int .i64 0, .int .i64 0, .int .i64 v] 25)) (.cells #[.int .i64 20, .bool false, .bool false, .int .i64 0, .int .i64 3, .int .i64 0, .int .i64 0, .int .i64 v, .int .i64 15, .bool false, .bool true, .int .i64 0, .int .i64 4, .int .i64 1, .int .i64 0, .int .i64 0, .int .i64 24, .bool false, .bool true, .int .i64 k, .int .i64 4, .int .i64 3, .int .i64 t, .int .i64 0, .int .i64 22, .bool false, .bool false, .int .i64 k, .int .i64 0, .int .i64 4, .int .i64 t, .int .i64 0, .int .i64 39, .bool false, .bool false, .int .i64 0, .int .i64 0, .int .i64 0, .int .i64 0, .int .i64 0] 25))
  have hsz : (wc.alloc (.cells #[.int .i64 20, .bool false, .bool false, .int .i64 0, .int .i64 3, .int .i64 0, .int .i64 0, .int .i64 v] 25)).heap.size = wc.heap.size + 1 := by simp
  rw [hsz] at h18
  have H18 := Lib.hid h18
  obtain ⟨w2, hw2⟩ : ∃ w2, w2 = (wc.alloc (.cells #[.int .i64 20, .bool false, .bool false, .int .i64 0, .int .i64 3, .int .i64 0, .int .i64 0, .int .i64 v] 25)).alloc (.cells #[.int .i64 20, .bool false, .bool false, .int .i64 0, .int .i64 3, .int .i64 0, .int .i64 0, .int .i64 v, .int .i64 15, .bool false, .bool true, .int .i64 0, .int .i64 4, .int .i64 1, .int .i64 0, .int .i64 0, .int .i64 24, .bool false, .bool true, .int .i64 k, .int .i64 4, .int .i64 3, .int .i64 t, .int .i64 0, .int .i64 22, .bool false, .bool false, .int .i64 k, .int .i64 0, .int .i64 4, .int .i64 t, .int .i64 0, .int .i64 39, .bool false, .bool false, .int .i64 0, .int .i64 0, .int .i64 0, .int .i64 0, .int .i64 0] 25) := ⟨_, rfl⟩
  have hz2 : w2.heap.size = wc.heap.size + 1 + 1 := by rw [hw2]; simp
  have hz2' : wc.heap.size + 2 ≤ w2.heap.size := by omega
  rw [← hw2] at H18 HFb RXb ⊢
  obtain ⟨g18, hg18⟩ : ∃ g18, g18 = wc.heap.size + 1 := ⟨_, rfl⟩
  rw [← hg18] at H18 ⊢
  clear h18 hw2 hsz HF RX hg18 hz2
  have hiz : infoZero = #[.int .i64 0, .slice none 0 0, .slice none 0 0, .slice none 0 0] := rfl
  by_cases ht : t + k ≤ m
  · have htI : ¬ ((m : Int) < (t : Int) + k) := by omega
    have hcall := Lib.hid (callMA v k t hk (by omega) m ht (by omega) f g18 5 _ _ H18.out RXb.out)
    obtain ⟨r0, hr0⟩ : ∃ r0, r0 = getF false (byteOf v) k := ⟨_, rfl⟩
    rw [← hr0] at hcall
    have HR0 := Lib.hid hr0.symm
    clear hr0
    go_wp2_with fail
    refine hcall.out.mono ?_
    rintro e w3 ⟨p1, m1, c1, p3, m3, c3, rfl, ho1, hF1⟩
    obtain ⟨p1', c1', h1⟩ := owns_slice_m ho1
    cases h1
    have hz3 := hF1.size
    have HY := Lib.hid (rowAt_alloc (owns_rowAt ho1).1 (.cells #[.int .i64 r0, .slice p1 m c1, .slice none 0 0, .slice p3 m3 c3] 31))
    have HF3 := Lib.hid ((HFb.out.trans hF1).alloc (.cells #[.int .i64 r0, .slice p1 m c1, .slice none 0 0, .slice p3 m3 c3] 31))
    have RX3 := Lib.hid (rowAt_alloc (RXb.out.fr hF1) (.cells #[.int .i64 r0, .slice p1 m c1, .slice none 0 0, .slice p3 m3 c3] 31))
    have HI3 := Lib.hid (heap_alloc_new w3 (.cells #[.int .i64 r0, .slice p1 m c1, .slice none 0 0, .slice p3 m3 c3] 31))
    clear ho1 hF1 hcall
    go_upto_region 12 with fail
    rename_i hkk
    exact mem12 a1 v r0 w _ k t m g0 c0 w3.heap.size c1 m3 c3 p1 p3 f hk hm8 hm3 ht HR0.out RX3 HY HF3 HI3 (by omega) (by omega) (by simp; omega) _ hkk _ _ _ _ _ _ _ _ _ _ _ _ _ _ _ _ _ _ _ _ _ _ _ _ _ _ _ _ _ _ _ _ _ _ _ _ _ _ _ _ _ _ _ _ _ _ _ _ _ _ _ _ _ _ _ _ _ _ _ _ _ _ _ _ _ _ _ _ _ _ _ _ _ _ _ _ _ _ _ _ _ _ _ _ _ _ _ _ _ _ _ _ _ _ _ _ _ _ _ _ _ _ _ _ _ _ _ _ _ _ _ _ _ _ _ _ _ _ _ _ _ _ _ _ _ _ _ _ _ _ _ _ _ _ _ _ _ _ _ _ _ _ _ _ _ _ _ _ _ _ _ _ _ _ _ _ _ _ _ _ _ _ _ _ _ _ _ _ _
  · have htI : (m : Int) < (t : Int) + k := by omega
    have hcall := Lib.hid (callMB v k t hk (by omega) m (by omega) (by omega) (by omega) f g18 5 _ _ H18.out RXb.out)
    go_wp2_with fail
    refine hcall.out.mono ?_
    rintro e w3 ⟨rfl, hF1⟩
    have HF3 := Lib.hid ((HFb.out.trans hF1).alloc (.cells #[.int .i64 0, .slice none 0 0, .slice none 0 0, .slice none 0 0] 31))
    clear hF1 hcall
    go_wp2
    go_ret
    exact ⟨rfl, HF3.out⟩


end Go.Proofs.YtkhbjhmhdlmmfaaGreat
