/- Walks: the law on pointers, from its second loadless half on. -/
import Derived.Test.YtkhbjhmhdlmmfaaGreatLq
import Derived.Deep.DeepCutAuto
namespace Go.Proofs.YtkhbjhmhdlmmfaaGreat
open Go.RowKit

set_option maxRecDepth 100000 in
set_option maxHeartbeats 40000000 in
theorem tail21 (a3 : Int) (w wc : World) (i dd r s o t x6 x7 g13 g19 c19 : Nat) (hi : i < 32) (hd1 : dd ≤ 999) (hr : r = 1 ∨ r = 10 ∨ r = 4) (hs : s = 1 ∨ s = 2 ∨ s = 4) (hos : o + s ≤ 8) (hx6 : x6 < 64) (hx7 : x7 < 8) (hX6 : bits .and .i64 a3 63 = x6) (hX7 : bits .and .i64 a3 7 = x7) (hg13 : g13 = w.heap.size) (ht : t < 8) (hts : t < o ∨ o + s ≤ t) (hw19 : w.heap.size + 1 ≤ g19) (R13 : Hid (CodeRow wc g13 3 (row3 (8 * (i : Int) - 256) dd r))) (R19 : Hid (CodeRow wc g19 6 (codeB (8 * (i : Int) - 256) dd r s o))) (HFw : Hid (Fr (fun _ => False) w wc)) (K : Act → World → Prop) (hK : ∀ a w', Code.wp Tryz.prog (tailP 18) (bodyPost Tryz.prog Tryz.f5 (PostP w)) a w' → K a w')
    (u0 u1 u2 u4 u5 u6 u7 u10 u14 u15 u16 u21 u22 u23 u24 u25 u26 u27 u28 u29 u30 u31 u32 u33 u34 u35 u36 u37 u38 u39 u40 u41 u42 u43 u44 u45 u46 u47 u48 u49 u50 u51 u52 u53 u54 u55 u56 u57 u58 u59 u60 u61 u62 u63 u64 u65 u66 u67 u68 u69 u70 u71 u72 u73 u74 u75 u76 u77 u78 u79 u80 u81 u82 u83 u84 u85 u86 u87 u88 u89 u90 u91 u92 u93 u94 u95 u96 u97 u98 u99 u100 u101 u102 u103 u104 u105 u106 u107 u108 u109 u110 u111 u112 u113 u114 u115 u116 u117 u118 u119 u120 u121 u122 u123 u124 u125 u126 u127 u128 u129 u130 u131 u132 u133 u134 u135 u136 u137 u138 u139 u140 u141 u142 u143 u144 u145 u146 u147 u148 u149 u150 u151 u152 u153 u154 u155 u156 u157 u158 u159 u160 u161 u162 u163 u164 u165 u166 u167 u168 u169 u170 u171 u172 u173 u174 u175 u176 u177 u178 u179 u180 u181 u182 u183 u184 u185 u186 u187 u188 u189 u190 u191 u192 u193 u194 u195 u196 u197 u198 u199 u200 u201 u202 u203 u204 u205 u206 u207 u208 u209 u210 u211 u212 u213 u214 u215 u216 u217 u218 u219 u220 u221 u222 u223 u224 u225 u226 u227 u228 u229 u230 u231 u232 u233 u234 u235 u236 u237 u238 u239 u240 u241 u242 u243 u244 u245 u246 u247 : Value) :
    Code.wp Tryz.prog (headP 17) (Exit.then K (bodyPost Tryz.prog Tryz.f5 (PostP w))) ⟨List.toArray (u0 :: u1 :: u2 :: .int .i64 a3 :: u4 :: u5 :: u6 :: u7 :: .bool false :: .int .i64 i :: u10 :: .int .i64 r :: .int .i64 (8 * (i : Int) - 256) :: .slice (some ⟨w.heap.size, 0, none⟩) 3 3 :: u14 :: u15 :: u16 :: .int .i64 s :: .int .i64 o :: .slice (some ⟨g19, 0, none⟩) 6 c19 :: .int .i64 t :: u21 :: u22 :: u23 :: u24 :: u25 :: u26 :: u27 :: u28 :: u29 :: u30 :: u31 :: u32 :: u33 :: u34 :: u35 :: u36 :: u37 :: u38 :: u39 :: u40 :: u41 :: u42 :: u43 :: u44 :: u45 :: u46 :: u47 :: u48 :: u49 :: u50 :: u51 :: u52 :: u53 :: u54 :: u55 :: u56 :: u57 :: u58 :: u59 :: u60 :: u61 :: u62 :: u63 :: u64 :: u65 :: u66 :: u67 :: u68 :: u69 :: u70 :: u71 :: u72 :: u73 :: u74 :: u75 :: u76 :: u77 :: u78 :: u79 :: u80 :: u81 :: u82 :: u83 :: u84 :: u85 :: u86 :: u87 :: u88 :: u89 :: u90 :: u91 :: u92 :: u93 :: u94 :: u95 :: u96 :: u97 :: u98 :: u99 :: u100 :: u101 :: u102 :: u103 :: u104 :: u105 :: u106 :: u107 :: u108 :: u109 :: u110 :: u111 :: u112 :: u113 :: u114 :: u115 :: u116 :: u117 :: u118 :: u119 :: u120 :: u121 :: u122 :: u123 :: u124 :: u125 :: u126 :: u127 :: u128 :: u129 :: u130 :: u131 :: u132 :: u133 :: u134 :: u135 :: u136 :: u137 :: u138 :: u139 :: u140 :: u141 :: u142 :: u143 :: u144 :: u145 :: u146 :: u147 :: u148 :: u149 :: u150 :: u151 :: u152 :: u153 :: u154 :: u155 :: u156 :: u157 :: u158 :: u159 :: u160 :: u161 :: u162 :: u163 :: u164 :: u165 :: u166 :: u167 :: u168 :: u169 :: u170 :: u171 :: u172 :: u173 :: u174 :: u175 :: u176 :: u177 :: u178 :: u179 :: u180 :: u181 :: u182 :: u183 :: u184 :: u185 :: u186 :: u187 :: u188 :: u189 :: u190 :: u191 :: u192 :: u193 :: u194 :: u195 :: u196 :: u197 :: u198 :: u199 :: u200 :: u201 :: u202 :: u203 :: u204 :: u205 :: u206 :: u207 :: u208 :: u209 :: u210 :: u211 :: u212 :: u213 :: u214 :: u215 :: u216 :: u217 :: u218 :: u219 :: u220 :: u221 :: u222 :: u223 :: u224 :: u225 :: u226 :: u227 :: u228 :: u229 :: u230 :: u231 :: u232 :: u233 :: u234 :: u235 :: u236 :: u237 :: u238 :: u239 :: u240 :: u241 :: u242 :: u243 :: u244 :: u245 :: u246 :: u247 :: []), []⟩ (wc) := by
  conv => arg 2; whnf
  conv at hK => enter [a, w', 1, 2]; whnf
  obtain ⟨i0, hi0, hz0, hz1, hz2⟩ := info_parts Tryz.info25
  have r13 := R13.out
  have r19 := R19.out
  have lt13 := r13.lt
  have lt19 := r19.lt
  have fz19 := r19.frozen
  obtain ⟨y0, y1, y2, y3, y4, y5, y6, y7⟩ := r19.2 4 (by decide)
  simp only [Nat.reduceMul, Nat.reduceAdd] at y0 y1 y2 y3 y4 y5 y6 y7
  clear r13 r19
  go_upto_region 22 with fail
  have S19 := Lib.hid ((R19.out.setIns 4 ⟨22, false, false, 1, 0, 10, 8 * (i : Int) - 256 + (t : Int), 0⟩ (by decide)).congr (d := codeC (8 * (i : Int) - 256) dd r s o t) (fun x hx => by match x, hx with | 0, _ => rfl | 1, _ => rfl | 2, _ => rfl | 3, _ => rfl | 4, _ => rfl | 5, _ => rfl))
  have S13 := Lib.hid (R13.out.fr (setIns_fr wc g19 4 ⟨22, false, false, 1, 0, 10, 8 * (i : Int) - 256 + (t : Int), 0⟩) (by omega))
  have SF := Lib.hid (HFw.out.fresh (setIns_fr wc g19 4 ⟨22, false, false, 1, 0, 10, 8 * (i : Int) - 256 + (t : Int), 0⟩) (fun x hx => by omega))
  clear y0 y1 y2 y3 y4 y5 y6 y7
  go_upto_region 25 with (first
    | (go_at_call 9; refine (callC (8 * (i : Int) - 256) dd i r hr (by omega) (by omega) rfl hi s o t hs hos ht hts 0 (by decide) (fun _ => 1) g19 c19 _ _ S19.out (rowAt_nil _ _)).mono ?_; rintro e w7 ⟨rfl, hF7⟩; (have HF7 := Lib.hid (SF.out.trans hF7)); (have H13i := Lib.hid (S13.out.fr hF7 (fun h => h))); (have H19d := Lib.hid (S19.out.fr hF7 (fun h => h))); clear hF7)
    | fail)
  have lt13b := H13i.out.lt
  have lt19b := H19d.out.lt
  have fz19b := H19d.out.frozen
  obtain ⟨y0, y1, y2, y3, y4, y5, y6, y7⟩ := H19d.out.2 3 (by decide)
  simp only [Nat.reduceMul, Nat.reduceAdd] at y0 y1 y2 y3 y4 y5 y6 y7
  go_upto_region 26 with fail
  have S19b := Lib.hid ((H19d.out.setIns 3 ⟨22, false, false, s, 0, 10, 8 * (i : Int) - 256 + (o : Int), 0⟩ (by decide)).congr (d := codeD (8 * (i : Int) - 256) dd r s o t) (fun x hx => by match x, hx with | 0, _ => rfl | 1, _ => rfl | 2, _ => rfl | 3, _ => rfl | 4, _ => rfl | 5, _ => rfl))
  have S13b := Lib.hid (H13i.out.fr (setIns_fr w7 g19 3 ⟨22, false, false, s, 0, 10, 8 * (i : Int) - 256 + (o : Int), 0⟩) (by omega))
  have SFb := Lib.hid (HF7.out.fresh (setIns_fr w7 g19 3 ⟨22, false, false, s, 0, 10, 8 * (i : Int) - 256 + (o : Int), 0⟩) (fun x hx => by omega))
  clear y0 y1 y2 y3 y4 y5 y6 y7
  go_upto_region 27 with (first
    | (go_at_call 9; refine (callD (8 * (i : Int) - 256) dd i r hr (by omega) (by omega) rfl hi s o t hs hos ht 0 (by decide) (fun _ => 1) g19 c19 _ _ S19b.out (rowAt_nil _ _)).mono ?_; rintro e w8 ⟨rfl, hF8⟩; (have HF8 := Lib.hid (SFb.out.trans hF8)); (have H13j := Lib.hid (S13b.out.fr hF8 (fun h => h))); (have H19e := Lib.hid (S19b.out.fr hF8 (fun h => h))); clear hF8)
    | fail)
  go_upto_region 28 with (first
    | (go_at_call 14; refine (copyCodeAt w.heap.size 2 3 (row3 (8 * (i : Int) - 256) dd r) _ (by rw [← hg13]; exact H13j.out.2.less (by decide)) (by decide)).mono ?_; rintro e w9 ⟨v9, rfl, ho9, hF9⟩; (have HO9 := Lib.hid ho9); (have HF9 := Lib.hid (HF8.out.trans hF9)); (have H13k := Lib.hid (H13j.out.fr hF9 (fun h => h))); (have H19f := Lib.hid (H19e.out.fr hF9 (fun h => h))); (have hz9 := hF9.size); clear ho9 hF9)
    | (at_builtin; go_must (refine wpList_append_own _ rfl _ _ 27 rfl _ 25 i0 (.agg #[.int .i64 0, .bool false, .bool false, .int .i64 0, .int .i64 0, .int .i64 0, .int .i64 0, .int .i64 0]) 8 56 Tryz.underlying27 hi0 hz0 hz1 hz2 rfl (by decide) _ _ _ rfl (HO9.out.alloc _) _ 3 _ (codeL (codeOf [⟨24, false, true, 8, 10, r, -9 - (x6 : Int), 0⟩, ⟨15, false, false, 0, 0, 0, 0, 1⟩, ⟨39, false, false, 0, 0, 0, 0, 0⟩]) 3) rfl rfl (row_news rfl) (codeL_one _ _) (by unfold maxLen; omega) (by omega) (by simp; omega) ?_; intro v10 w10 hown10 hgrow10 _; obtain ⟨g21, c21, rfl, hb21, hR21, hF10, hF90⟩ := append_done (m := 5) HF9.out (by have := HF8.out.size; omega) HO9.out hown10 hgrow10 (by decide) rfl (codeE dd r x6) (fun x hx => by match x, hx with | 0, _ => rfl | 1, _ => rfl | 2, _ => rfl | 3, _ => rfl | 4, _ => rfl); (have lj13 := H13j.out.lt); (have lj19 := H19e.out.lt); (have H13l := Lib.hid (H13k.out.fr hF90 (by omega))); (have H19g := Lib.hid (H19f.out.fr hF90 (by omega))); (have H21 := Lib.hid hR21); (have HF10 := Lib.hid hF10); clear hown10 hgrow10 hR21 hF10 hF90))
    | fail)
  go_cut [22, 23] (fun u v wx => ∃ (pu : Nat) (er : Int), u = .pointer (some ⟨pu, 0, none⟩) ∧ v = .int .i64 er ∧ (er = 86 ∨ er = 0 ∧ (247 - x6) % 8 = 0) ∧ CodeRow wx g13 3 (row3 (8 * (i : Int) - 256) dd r) ∧ CodeRow wx g19 6 (codeD (8 * (i : Int) - 256) dd r s o t) ∧ CodeRow wx g21 5 (codeE dd r x6) ∧ Fr (fun _ => False) w wx)
  case first =>
    by_cases hal : (247 - x6) % 8 = 0
    · go_wp2_with (go_at_call 9; refine (callE dd r hr (by omega) (by omega) x6 (by omega) hal 0 (by decide) (fun _ => 1) g21 c21 _ _ H21.out (rowAt_nil _ _)).mono ?_; rintro e w11 ⟨q1, n1, d1, q3', n3, d3, rfl, hF11⟩)
      go_meet
      have hFz := hF11.alloc (.cells #[.int .i64 1, .slice q1 n1 d1, .slice none 0 0, .slice q3' n3 d3] 31)
      exact ⟨w11.heap.size, 0, rfl, rfl, .inr ⟨rfl, hal⟩, H13l.out.fr hFz (fun h => h), H19g.out.fr hFz (fun h => h), H21.out.fr hFz (fun h => h), HF10.out.trans hFz⟩
    · have hiz : infoZero = #[.int .i64 0, .slice none 0 0, .slice none 0 0, .slice none 0 0] := rfl
      go_wp2_with (go_at_call 9; refine (callE2 dd r hr (by omega) (by omega) x6 (by omega) hal 0 (by decide) (fun _ => 1) g21 c21 _ _ H21.out (rowAt_nil _ _)).mono ?_; rintro e w11 ⟨rfl, hF11⟩)
      go_meet
      have hFz := hF11.alloc (.cells #[.int .i64 0, .slice none 0 0, .slice none 0 0, .slice none 0 0] 31)
      exact ⟨w11.heap.size, 86, rfl, rfl, .inl rfl, H13l.out.fr hFz (fun h => h), H19g.out.fr hFz (fun h => h), H21.out.fr hFz (fun h => h), HF10.out.trans hFz⟩
  case rest =>
    obtain ⟨pu, er22, rfl, rfl, her22, r13, r19, r21, hFw2⟩ := hcut
    have T13 := Lib.hid r13
    have T19 := Lib.hid r19
    have T21 := Lib.hid r21
    have HT := Lib.hid hFw2
    have q8 := HF8.out.size
    have q9 := HF9.out.size
    have q13 := r13.lt
    have q19 := r19.lt
    clear r13 r19 r21 hFw2
    go_upto_region 29 with fail
    rename_i hk
    subst hg13
    exact tail29 a3 w wc i dd r s o t x6 x7 w.heap.size g19 c19 g21 c21 er22 hi hd1 hr hs hos ht hx6 hx7 hX6 hX7 her22 T13 T19 T21 HT (by omega) (by omega) (by omega) (by omega) (by omega) _ hk _ _ _ _ _ _ _ _ _ _ _ _ _ _ _ _ _ _ _ _ _ _ _ _ _ _ _ _ _ _ _ _ _ _ _ _ _ _ _ _ _ _ _ _ _ _ _ _ _ _ _ _ _ _ _ _ _ _ _ _ _ _ _ _ _ _ _ _ _ _ _ _ _ _ _ _ _ _ _ _ _ _ _ _ _ _ _ _ _ _ _ _ _ _ _ _ _ _ _ _ _ _ _ _ _ _ _ _ _ _ _ _ _ _ _ _ _ _ _ _ _ _ _ _ _ _ _ _ _ _ _ _ _ _ _ _ _ _ _ _ _ _ _ _ _ _ _ _ _ _ _ _ _ _ _ _ _ _ _ _ _ _ _ _ _ _ _ _ _ _ _ _ _ _ _ _ _ _ _ _ _ _ _ _ _ _ _ _ _ _ _ _ _ _ _ _ _ _ _ _ _ _ _ _ _ _ _ _ _ _ _ _ _ _ _ _ _ _ _ _ _ _ _ _ _ _ _ _ _ _ _ _ _ _ _ _

end Go.Proofs.YtkhbjhmhdlmmfaaGreat
