/- Walks: the law on memory: the code for the stack. -/
import Derived.Test.YtkhbjhmhdlmmfaaGreatMf
import Derived.Deep.DeepCutAuto
import Derived.Deep.RegionHeld3
namespace Go.Proofs.YtkhbjhmhdlmmfaaGreat
open Go.RowKit

set_option maxRecDepth 100000 in
set_option maxHeartbeats 4000000 in
theorem mem16 (a1 v : Int) (w wc : World) (k m g0 c0 pi : Nat) (f : Nat → Int) (i0 i1 i2 i3 : Value) (hk : k = 1 ∨ k = 2 ∨ k = 4 ∨ k = 8) (hm8 : 8 ≤ m) (hm3 : m ≤ 300) (RX : Hid (RowAt wc (.slice (some ⟨g0, 0, none⟩) m c0) m (bytesL f m))) (HF : Hid (Fr (fun _ => False) w wc)) (HI : Hid (wc.heap[pi]? = some (.cells #[i0, i1, i2, i3] 31 (0, 0)))) (hwpi : w.heap.size ≤ pi) (hgpi : g0 ≠ pi) (hg0 : g0 < wc.heap.size) (K : Act → World → Prop) (hKK : ∀ a w', Code.wp Tryz.prog (tailM 13) (bodyPost Tryz.prog Tryz.f3 (PostP w)) a w' → K a w')
    (u3 u4 u5 u6 u7 u8 u9 u12 u13 u15 u16 u17 u18 u19 u20 u21 u22 u23 u24 u25 u26 u27 u28 u29 u30 u31 u32 u33 u34 u35 u36 u37 u38 u39 u40 u41 u42 u43 u44 u45 u46 u47 u48 u49 u50 u51 u52 u53 u54 u55 u56 u57 u58 u59 u60 u61 u62 u63 u64 u65 u66 u67 u68 u69 u70 u71 u72 u73 u74 u75 u76 u77 u78 u79 u80 u81 u82 u83 u84 u85 u86 u87 u88 u89 u90 u91 u92 u93 u94 u95 u96 u97 u98 u99 u100 u101 u102 u103 u104 u105 u106 u107 u108 u109 u110 u111 u112 u113 u114 u115 u116 u117 u118 u119 u120 u121 u122 u123 u124 u125 u126 u127 u128 u129 u130 u131 u132 u133 u134 u135 u136 u137 u138 u139 u140 u141 u142 u143 u144 u145 u146 u147 u148 u149 u150 u151 u152 u153 u154 u155 u156 u157 u158 u159 u160 u161 u162 u163 u164 u165 u166 u167 u168 u169 u170 u171 u172 u173 u174 u175 u176 : Value) :
    Code.wp Tryz.prog (headM 12) (Exit.then K (bodyPost Tryz.prog Tryz.f3 (PostP w))) ⟨List.toArray (.slice (some ⟨g0, 0, none⟩) m c0 :: .int .i64 a1 :: .int .i64 v :: u3 :: u4 :: u5 :: u6 :: u7 :: u8 :: u9 :: .bool false :: .int .i64 k :: u12 :: u13 :: .pointer (some ⟨pi, 0, none⟩) :: u15 :: u16 :: u17 :: u18 :: u19 :: u20 :: u21 :: u22 :: u23 :: u24 :: u25 :: u26 :: u27 :: u28 :: u29 :: u30 :: u31 :: u32 :: u33 :: u34 :: u35 :: u36 :: u37 :: u38 :: u39 :: u40 :: u41 :: u42 :: u43 :: u44 :: u45 :: u46 :: u47 :: u48 :: u49 :: u50 :: u51 :: u52 :: u53 :: u54 :: u55 :: u56 :: u57 :: u58 :: u59 :: u60 :: u61 :: u62 :: u63 :: u64 :: u65 :: u66 :: u67 :: u68 :: u69 :: u70 :: u71 :: u72 :: u73 :: u74 :: u75 :: u76 :: u77 :: u78 :: u79 :: u80 :: u81 :: u82 :: u83 :: u84 :: u85 :: u86 :: u87 :: u88 :: u89 :: u90 :: u91 :: u92 :: u93 :: u94 :: u95 :: u96 :: u97 :: u98 :: u99 :: u100 :: u101 :: u102 :: u103 :: u104 :: u105 :: u106 :: u107 :: u108 :: u109 :: u110 :: u111 :: u112 :: u113 :: u114 :: u115 :: u116 :: u117 :: u118 :: u119 :: u120 :: u121 :: u122 :: u123 :: u124 :: u125 :: u126 :: u127 :: u128 :: u129 :: u130 :: u131 :: u132 :: u133 :: u134 :: u135 :: u136 :: u137 :: u138 :: u139 :: u140 :: u141 :: u142 :: u143 :: u144 :: u145 :: u146 :: u147 :: u148 :: u149 :: u150 :: u151 :: u152 :: u153 :: u154 :: u155 :: u156 :: u157 :: u158 :: u159 :: u160 :: u161 :: u162 :: u163 :: u164 :: u165 :: u166 :: u167 :: u168 :: u169 :: u170 :: u171 :: u172 :: u173 :: u174 :: u175 :: u176 :: []), []⟩ (wc) := by
  conv => arg 2; whnf
  conv at hKK => enter [a, w', 1, 2]; whnf
  obtain ⟨b0, hb0, hB⟩ := mask_nat a1 62 (by decide)
  simp only [Int.reducePow, Int.reduceSub, Nat.reducePow] at hB hb0
  obtain ⟨s, hs0⟩ : ∃ s, b0 % 257 = s := ⟨_, rfl⟩
  have hBB : ((b0 : Nat) : Int).tmod 257 = (s : Int) := by rw [Int.tmod_eq_emod_of_nonneg (by omega)]; omega
  have hs : s ≤ 256 := by omega
  clear hs0 hb0
  have hpil := (Array.getElem?_eq_some_iff.1 HI.out).1
  go_upto_region 18 with (go_at_call 8; refine (lawWide _ _ _).mono ?_; rintro e w1 ⟨rfl, rfl⟩)
  have h18 := row_lit (wc.alloc (.cells #[.int .i64 20, .bool false, .bool false, .int .i64 0, .int .i64 3, .int .i64 0, .int .i64 0, .int .i64 v] 25)) (codeN v k 23 ((s : Int) - 256) ((s : Int) - 256)) 4 #[.int .i64 20, .bool false, .bool false, .int .i64 0, .int .i64 3, .int .i64 0, .int .i64 0, .int .i64 v, .int .i64 24, .bool false, .bool true, .int .i64 k, .int .i64 10, .int .i64 3, .int .i64 ((s : Int) - 256), .int .i64 0, .int .i64 23, .bool false, .bool false, .int .i64 k, .int .i64 0, .int .i64 10, .int .i64 ((s : Int) - 256), .int .i64 0, .int .i64 39, .bool false, .bool false, .int .i64 0, .int .i64 0, .int .i64 0, .int .i64 0, .int .i64 0] rfl
  have HIb := Lib.hid (heap_fr (heap_fr HI.out ((Fr.refl (fun _ => False) wc).alloc (.cells #[.int .i64 20, .bool false, .bool false, .int .i64 0, .int .i64 3, .int .i64 0, .int .i64 0, .int .i64 v] 25)) (fun h => h)) ((Fr.refl (fun _ => False) (wc.alloc (.cells #[.int .i64 20, .bool false, .bool false, .int .i64 0, .int .i64 3, .int .i64 0, .int .i64 0, .int .i64 v] 25))).alloc (.cells #[.int .i64 20, .bool false, .bool false, .int .i64 0, .int .i64 3, .int .i64 0, .int .i64 0, .int .i64 v, .int .i64 24, .bool false, .bool true, .int .i64 k, .int .i64 10, .int .i64 3, .int .i64 ((s : Int) - 256), .int .i64 0, .int .i64 23, .bool false, .bool false, .int .i64 k, .int .i64 0, .int .i64 10, .int .i64 ((s : Int) - 256), .int .i64 0, .int .i64 39, .bool false, .bool false, .int .i64 0, .int .i64 0, .int .i64 0, .int .i64 0, .int .i64 0] 25)) (fun h => h))
  have HFb := Lib.hid ((HF.out.alloc (.cells #[.int .i64 20, .bool false, .bool false, .int .i64 0, .int .i64 3, .int .i64 0, .int .i64 0, .int .i64 v] 25)).alloc (.cells #[.int .i64 20, .bool false, .bool false, .int .i64 0, .int .i64 3, .int .i64 0, .int .i64 0, .int .i64 v, .int .i64 24, .bool false, .bool true, .int .i64 k, .int .i64 10, .int .i64 3, .int .i64 ((s : Int) - 256), .int .i64 0, .int .i64 23, .bool false, .bool false, .int .i64 k, .int .i64 0, .int .i64 10, .int .i64 ((s : Int) - 256), .int .i64 0, .int .i64 39, .bool false, .bool false, .int .i64 0, .int .i64 0, .int .i64 0, .int .i64 0, .int .i64 0] 25))
  have RXb := Lib.hid (rowAt_alloc (rowAt_alloc RX.out (.cells #[.int .i64 20, .bool false, .bool false, .int .i64 0, .int .i64 3, .int .i64 0, .int .i64 0, .int .i64 v] 25)) (.cells #[.int .i64 20, .bool false, .bool false, .int .i64 0, .int .i64 3, .int .i64 0, .int .i64 0, .int .i64 v, .int .i64 24, .bool false, .bool true, .int .i64 k, .int .i64 10, .int .i64 3, .int .i64 ((s : Int) - 256), .int .i64 0, .int .i64 23, .bool false, .bool false, .int .i64 k, .int .i64 0, .int .i64 10, .int .i64 ((s : Int) - 256), .int .i64 0, .int .i64 39, .bool false, .bool false, .int .i64 0, .int .i64 0, .int .i64 0, .int .i64 0, .int .i64 0] 25))
  have hsz : (wc.alloc (.cells #[.int .i64 20, .bool false, .bool false, .int .i64 0, .int .i64 3, .int .i64 0, .int .i64 0, .int .i64 v] 25)).heap.size = wc.heap.size + 1 := by simp
  rw [hsz] at h18
  have H18 := Lib.hid h18
  have hlw := HF.out.size
  obtain ⟨w2, hw2⟩ : ∃ w2, w2 = (wc.alloc (.cells #[.int .i64 20, .bool false, .bool false, .int .i64 0, .int .i64 3, .int .i64 0, .int .i64 0, .int .i64 v] 25)).alloc (.cells #[.int .i64 20, .bool false, .bool false, .int .i64 0, .int .i64 3, .int .i64 0, .int .i64 0, .int .i64 v, .int .i64 24, .bool false, .bool true, .int .i64 k, .int .i64 10, .int .i64 3, .int .i64 ((s : Int) - 256), .int .i64 0, .int .i64 23, .bool false, .bool false, .int .i64 k, .int .i64 0, .int .i64 10, .int .i64 ((s : Int) - 256), .int .i64 0, .int .i64 39, .bool false, .bool false, .int .i64 0, .int .i64 0, .int .i64 0, .int .i64 0, .int .i64 0] 25) := ⟨_, rfl⟩
  rw [← hw2] at H18 HIb HFb RXb ⊢
  obtain ⟨g18, hg18⟩ : ∃ g18, g18 = wc.heap.size + 1 := ⟨_, rfl⟩
  rw [← hg18] at H18 ⊢
  have hn1 : g18 ≠ pi := by omega
  have hn2 : g0 ≠ g18 := by omega
  have hn3 : w.heap.size ≤ g18 := by omega
  clear h18 hw2 hsz HI HF RX hg18
  by_cases hk8 : k = 8
  · subst hk8
    have lt18 := H18.out.lt
    have fz18 := H18.out.frozen
    obtain ⟨y0, _, _, _, _, _, _, _⟩ := H18.out.2 2 (by decide)
    simp only [Nat.reduceMul] at y0
    have E18 := Lib.hid ((H18.out.setOp 2 22 (by decide)).congr (d := codeN v 8 22 ((s : Int) - 256) ((s : Int) - 256)) (fun x hx => by match x, hx with | 0, _ => rfl | 1, _ => rfl | 2, _ => rfl | 3, _ => rfl))
    have SF := (Fr.refl (fun x => x = g18) w2).setCell ⟨g18, 2 * 8, none⟩ (.int .i64 22) (.inl rfl)
    have EI := Lib.hid (heap_fr HIb.out SF (by omega))
    have EF := Lib.hid (HFb.out.fresh SF (fun x hx => by omega))
    have EX := Lib.hid (rowAt_frS RXb.out SF (fun h => by omega))
    clear SF
    go_upto_region 20 with fail
    rename_i hkk
    exact mem20 v w _ 8 s m g0 c0 g18 pi 22 f i0 i1 i2 i3 (by omega) hm8 hm3 (.inl ⟨rfl, rfl⟩) hs E18 EX EF EI (by omega) hwpi (by omega) hgpi (by omega) _ hkk _ _ _ _ _ _ _ _ _ _ _ _ _ _ _ _ _ _ _ _ _ _ _ _ _ _ _ _ _ _ _ _ _ _ _ _ _ _ _ _ _ _ _ _ _ _ _ _ _ _ _ _ _ _ _ _ _ _ _ _ _ _ _ _ _ _ _ _ _ _ _ _ _ _ _ _ _ _ _ _ _ _ _ _ _ _ _ _ _ _ _ _ _ _ _ _ _ _ _ _ _ _ _ _ _ _ _ _ _ _ _ _ _ _ _ _ _ _ _ _ _ _ _ _ _ _ _ _ _ _ _ _ _ _ _ _ _ _ _ _ _ _ _ _ _ _ _ _ _ _ _ _ _ _ _ _ _ _ _ _ _ _ _ _ _ _ _ _ _ _
  · have hk8' : ((k : Int) == 8) = false := by rw [beq_eq_false_iff_ne]; omega
    go_upto_region 20 with fail
    rename_i hkk
    exact mem20 v w _ k s m g0 c0 g18 pi 23 f i0 i1 i2 i3 hk hm8 hm3 (.inr ⟨by omega, rfl⟩) hs H18 RXb HFb HIb (by omega) hwpi (by omega) hgpi (by omega) _ hkk _ _ _ _ _ _ _ _ _ _ _ _ _ _ _ _ _ _ _ _ _ _ _ _ _ _ _ _ _ _ _ _ _ _ _ _ _ _ _ _ _ _ _ _ _ _ _ _ _ _ _ _ _ _ _ _ _ _ _ _ _ _ _ _ _ _ _ _ _ _ _ _ _ _ _ _ _ _ _ _ _ _ _ _ _ _ _ _ _ _ _ _ _ _ _ _ _ _ _ _ _ _ _ _ _ _ _ _ _ _ _ _ _ _ _ _ _ _ _ _ _ _ _ _ _ _ _ _ _ _ _ _ _ _ _ _ _ _ _ _ _ _ _ _ _ _ _ _ _ _ _ _ _ _ _ _ _ _ _ _ _ _ _ _ _ _ _ _ _ _


end Go.Proofs.YtkhbjhmhdlmmfaaGreat
