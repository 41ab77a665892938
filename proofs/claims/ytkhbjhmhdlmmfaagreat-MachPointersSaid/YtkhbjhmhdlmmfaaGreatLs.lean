/- Walks: the law on pointers, from the first overwriting on. -/
import Derived.Test.YtkhbjhmhdlmmfaaGreatLr
import Derived.Deep.DeepCutAuto
namespace Go.Proofs.YtkhbjhmhdlmmfaaGreat
open Go.RowKit

set_option maxRecDepth 100000 in
set_option maxHeartbeats 40000000 in
theorem tail14 (a3 : Int) (w w3 : World) (i dd r s o x6 x7 g13 m1 c1 m3 c3 : Nat) (p1 p3 : Option Addr) (hi : i < 32) (hd1 : dd ≤ 999) (hr : r = 1 ∨ r = 10 ∨ r = 4) (hs : s = 1 ∨ s = 2 ∨ s = 4) (hos : o + s ≤ 8) (hx6 : x6 < 64) (hx7 : x7 < 8) (hX6 : bits .and .i64 a3 63 = x6) (hX7 : bits .and .i64 a3 7 = x7) (hg13 : g13 = w.heap.size) (HFa : Hid (Fr (fun _ => False) w w3)) (H13c : Hid (CodeRow w3 g13 3 (row3 (8 * (i : Int) - 256) dd r))) (K : Act → World → Prop) (hK : ∀ a w', Code.wp Tryz.prog (tailP 13) (bodyPost Tryz.prog Tryz.f5 (PostP w)) a w' → K a w')
    (u0 u1 u2 u4 u5 u6 u7 u10 u14 u16 u19 u20 u21 u22 u23 u24 u25 u26 u27 u28 u29 u30 u31 u32 u33 u34 u35 u36 u37 u38 u39 u40 u41 u42 u43 u44 u45 u46 u47 u48 u49 u50 u51 u52 u53 u54 u55 u56 u57 u58 u59 u60 u61 u62 u63 u64 u65 u66 u67 u68 u69 u70 u71 u72 u73 u74 u75 u76 u77 u78 u79 u80 u81 u82 u83 u84 u85 u86 u87 u88 u89 u90 u91 u92 u93 u94 u95 u96 u97 u98 u99 u100 u101 u102 u103 u104 u105 u106 u107 u108 u109 u110 u111 u112 u113 u114 u115 u116 u117 u118 u119 u120 u121 u122 u123 u124 u125 u126 u127 u128 u129 u130 u131 u132 u133 u134 u135 u136 u137 u138 u139 u140 u141 u142 u143 u144 u145 u146 u147 u148 u149 u150 u151 u152 u153 u154 u155 u156 u157 u158 u159 u160 u161 u162 u163 u164 u165 u166 u167 u168 u169 u170 u171 u172 u173 u174 u175 u176 u177 u178 u179 u180 u181 u182 u183 u184 u185 u186 u187 u188 u189 u190 u191 u192 u193 u194 u195 u196 u197 u198 u199 u200 u201 u202 u203 u204 u205 u206 u207 u208 u209 u210 u211 u212 u213 u214 u215 u216 u217 u218 u219 u220 u221 u222 u223 u224 u225 u226 u227 u228 u229 u230 u231 u232 u233 u234 u235 u236 u237 u238 u239 u240 u241 u242 u243 u244 u245 u246 u247 : Value) :
    Code.wp Tryz.prog (headP 12) (Exit.then K (bodyPost Tryz.prog Tryz.f5 (PostP w))) ⟨List.toArray (u0 :: u1 :: u2 :: .int .i64 a3 :: u4 :: u5 :: u6 :: u7 :: .bool false :: .int .i64 i :: u10 :: .int .i64 r :: .int .i64 (8 * (i : Int) - 256) :: .slice (some ⟨w.heap.size, 0, none⟩) 3 3 :: u14 :: .pointer (some ⟨w3.heap.size, 0, none⟩) :: u16 :: .int .i64 s :: .int .i64 o :: u19 :: u20 :: u21 :: u22 :: u23 :: u24 :: u25 :: u26 :: u27 :: u28 :: u29 :: u30 :: u31 :: u32 :: u33 :: u34 :: u35 :: u36 :: u37 :: u38 :: u39 :: u40 :: u41 :: u42 :: u43 :: u44 :: u45 :: u46 :: u47 :: u48 :: u49 :: u50 :: u51 :: u52 :: u53 :: u54 :: u55 :: u56 :: u57 :: u58 :: u59 :: u60 :: u61 :: u62 :: u63 :: u64 :: u65 :: u66 :: u67 :: u68 :: u69 :: u70 :: u71 :: u72 :: u73 :: u74 :: u75 :: u76 :: u77 :: u78 :: u79 :: u80 :: u81 :: u82 :: u83 :: u84 :: u85 :: u86 :: u87 :: u88 :: u89 :: u90 :: u91 :: u92 :: u93 :: u94 :: u95 :: u96 :: u97 :: u98 :: u99 :: u100 :: u101 :: u102 :: u103 :: u104 :: u105 :: u106 :: u107 :: u108 :: u109 :: u110 :: u111 :: u112 :: u113 :: u114 :: u115 :: u116 :: u117 :: u118 :: u119 :: u120 :: u121 :: u122 :: u123 :: u124 :: u125 :: u126 :: u127 :: u128 :: u129 :: u130 :: u131 :: u132 :: u133 :: u134 :: u135 :: u136 :: u137 :: u138 :: u139 :: u140 :: u141 :: u142 :: u143 :: u144 :: u145 :: u146 :: u147 :: u148 :: u149 :: u150 :: u151 :: u152 :: u153 :: u154 :: u155 :: u156 :: u157 :: u158 :: u159 :: u160 :: u161 :: u162 :: u163 :: u164 :: u165 :: u166 :: u167 :: u168 :: u169 :: u170 :: u171 :: u172 :: u173 :: u174 :: u175 :: u176 :: u177 :: u178 :: u179 :: u180 :: u181 :: u182 :: u183 :: u184 :: u185 :: u186 :: u187 :: u188 :: u189 :: u190 :: u191 :: u192 :: u193 :: u194 :: u195 :: u196 :: u197 :: u198 :: u199 :: u200 :: u201 :: u202 :: u203 :: u204 :: u205 :: u206 :: u207 :: u208 :: u209 :: u210 :: u211 :: u212 :: u213 :: u214 :: u215 :: u216 :: u217 :: u218 :: u219 :: u220 :: u221 :: u222 :: u223 :: u224 :: u225 :: u226 :: u227 :: u228 :: u229 :: u230 :: u231 :: u232 :: u233 :: u234 :: u235 :: u236 :: u237 :: u238 :: u239 :: u240 :: u241 :: u242 :: u243 :: u244 :: u245 :: u246 :: u247 :: []), []⟩ (w3.alloc (.cells #[.int .i64 0, .slice p1 m1 c1, .slice none 0 0, .slice p3 m3 c3] 31)) := by
  conv => arg 2; whnf
  conv at hK => enter [a, w', 1, 2]; whnf
  obtain ⟨i0, hi0, hz0, hz1, hz2⟩ := info_parts Tryz.info25
  have HW := Lib.hid (HFa.out.alloc (.cells #[.int .i64 0, .slice p1 m1 c1, .slice none 0 0, .slice p3 m3 c3] 31))
  have HI := Lib.hid (heap_alloc_new w3 (.cells #[.int .i64 0, .slice p1 m1 c1, .slice none 0 0, .slice p3 m3 c3] 31))
  have H13d := Lib.hid (H13c.out.fr ((Fr.refl (fun _ => False) w3).alloc (.cells #[.int .i64 0, .slice p1 m1 c1, .slice none 0 0, .slice p3 m3 c3] 31)) (fun h => h))
  have l13 := H13d.out.lt
  go_upto_region 16 with (first
    | (go_at_call 14; refine (copyCodeAt w.heap.size 3 3 (row3 (8 * (i : Int) - 256) dd r) _ (by rw [← hg13]; exact H13d.out.2) (by decide)).mono ?_; rintro e w4 ⟨v4, rfl, ho4, hF4⟩; (have HO4 := Lib.hid ho4); (have HF4 := Lib.hid (HW.out.trans hF4)); (have H13e := Lib.hid (H13d.out.fr hF4 (fun h => h))); (have HI4 := Lib.hid (heap_fr HI.out hF4 (fun h => h))); (have hz4 := hF4.size); (try simp at hz4); clear ho4 hF4)
    | (at_builtin; go_must (refine wpList_append_own _ rfl _ _ 27 rfl _ 25 i0 (.agg #[.int .i64 0, .bool false, .bool false, .int .i64 0, .int .i64 0, .int .i64 0, .int .i64 0, .int .i64 0]) 8 56 Tryz.underlying27 hi0 hz0 hz1 hz2 rfl (by decide) _ _ _ rfl (HO4.out.alloc _) _ 3 _ (codeL (codeOf [⟨24, false, false, s, 10, 0, 8 * (i : Int) - 256 + (o : Int), 77⟩, ⟨22, false, false, s, 0, 10, 8 * (i : Int) - 256 + (o : Int), 0⟩, ⟨39, false, false, 0, 0, 0, 0, 0⟩]) 3) rfl rfl (row_news rfl) (codeL_one _ _) (by unfold maxLen; omega) (by omega) (by simp; omega) ?_; intro v5 w5 hown5 hgrow5 _; obtain ⟨g19, c19, rfl, hb19, hR19, hF5, hF45⟩ := append_done (m := 6) HF4.out (by have := HFa.out.size; simp; omega) HO4.out hown5 hgrow5 (by decide) rfl (codeB (8 * (i : Int) - 256) dd r s o) (fun x hx => by match x, hx with | 0, _ => rfl | 1, _ => rfl | 2, _ => rfl | 3, _ => rfl | 4, _ => rfl | 5, _ => rfl); (simp at hb19); (have H13f := Lib.hid (H13e.out.fr hF45 (by simp at l13 ⊢; omega))); (have HI5 := Lib.hid (heap_fr HI4.out hF45 (by simp))); (have H19 := Lib.hid hR19); (have HF5 := Lib.hid hF5); clear hown5 hgrow5 hR19 hF5 hF45))
    | (go_at_call 9; refine (callB (8 * (i : Int) - 256) dd i r hr (by omega) (by omega) rfl hi s o hs hos 0 (by decide) (fun _ => 1) g19 c19 _ _ H19.out (rowAt_nil _ _)).mono ?_; rintro e w6 ⟨p6, m6, c6, p7, m7, c7, rfl, hF6⟩; (have HF6 := Lib.hid (HF5.out.trans hF6)); (have H13g := Lib.hid (H13f.out.fr hF6 (fun h => h))); (have H19b := Lib.hid (H19.out.fr hF6 (fun h => h))); (have HI6 := heap_fr HI5.out hF6 (fun h => h)); (have fi6 : ∀ o, w6.frozen? ⟨w3.heap.size, o, none⟩ = false := fun o => by simp [World.frozen?, HI6]); (have ci0 : w6.cell? ⟨w3.heap.size, 0, none⟩ = some (.int .i64 0) := by simp [World.cell?, HI6]); (have ci1 : w6.cell? ⟨w3.heap.size, 1, none⟩ = some (.slice p1 m1 c1) := by simp [World.cell?, HI6]); (have ci2 : w6.cell? ⟨w3.heap.size, 2, none⟩ = some (.slice none 0 0) := by simp [World.cell?, HI6]); (have ci3 : w6.cell? ⟨w3.heap.size, 3, none⟩ = some (.slice p3 m3 c3) := by simp [World.cell?, HI6]); (have li6 := (Array.getElem?_eq_some_iff.1 HI6).1); (have HI6 := Lib.hid HI6); clear hF6)
    | fail)
  go_upto_if 121 with fail
  have hq6 : Fr (fun x => x = w3.heap.size) w6 ((((w6.setCell ⟨w3.heap.size, 0, none⟩ (.int .i64 77)).setCell ⟨w3.heap.size, 1, none⟩ (.slice p6 m6 c6)).setCell ⟨w3.heap.size, 2, none⟩ (.slice none 0 0)).setCell ⟨w3.heap.size, 3, none⟩ (.slice p7 m7 c7)) :=
    ((((Fr.refl (fun x => x = w3.heap.size) w6).setCell _ _ (.inl rfl)).setCell _ _ (.inl rfl)).setCell _ _ (.inl rfl)).setCell _ _ (.inl rfl)
  have hz3 : w.heap.size ≤ w3.heap.size := HFa.out.size
  have l13c := H13c.out.lt
  have H13h := Lib.hid (H13g.out.fr hq6 (by omega))
  have H19c := Lib.hid (H19b.out.fr hq6 (by omega))
  have HFc := Lib.hid (HF6.out.fresh hq6 (fun x hx => by omega))
  clear hq6
  go_cut [20] (fun v wx => ∃ t : Nat, v = .int .i64 t ∧ t < 8 ∧ (t < o ∨ o + s ≤ t) ∧ CodeRow wx g13 3 (row3 (8 * (i : Int) - 256) dd r) ∧ CodeRow wx g19 6 (codeB (8 * (i : Int) - 256) dd r s o) ∧ Fr (fun _ => False) w wx)
  case first =>
    by_cases h1 : o = 0
    · subst h1
      go_wp2_with fail
      go_meet
      exact ⟨7, rfl, by decide, by omega, H13h.out, H19c.out, HFc.out⟩
    · have h2 : ((o : Int) == 0) = false := by rw [beq_eq_false_iff_ne]; omega
      go_wp2_with fail
      go_meet
      exact ⟨o - 1, congrArg _ (by omega), by omega, by omega, H13h.out, H19c.out, HFc.out⟩
  case rest =>
    obtain ⟨t, rfl, ht, hts, r13, r19, hFw⟩ := hcut
    have ls13 := r13.lt
    go_upto_region 21 with fail
    rename_i hk
    exact tail21 a3 w _ i dd r s o t x6 x7 g13 g19 c19 hi hd1 hr hs hos hx6 hx7 hX6 hX7 hg13 ht hts (by omega) (Lib.hid r13) (Lib.hid r19) (Lib.hid hFw) _ hk _ _ _ _ _ _ _ _ _ _ _ _ _ _ _ _ _ _ _ _ _ _ _ _ _ _ _ _ _ _ _ _ _ _ _ _ _ _ _ _ _ _ _ _ _ _ _ _ _ _ _ _ _ _ _ _ _ _ _ _ _ _ _ _ _ _ _ _ _ _ _ _ _ _ _ _ _ _ _ _ _ _ _ _ _ _ _ _ _ _ _ _ _ _ _ _ _ _ _ _ _ _ _ _ _ _ _ _ _ _ _ _ _ _ _ _ _ _ _ _ _ _ _ _ _ _ _ _ _ _ _ _ _ _ _ _ _ _ _ _ _ _ _ _ _ _ _ _ _ _ _ _ _ _ _ _ _ _ _ _ _ _ _ _ _ _ _ _ _ _ _ _ _ _ _ _ _ _ _ _ _ _ _ _ _ _ _ _ _ _ _ _ _ _ _ _ _ _ _ _ _ _ _ _ _ _ _ _ _ _ _ _ _ _ _ _ _ _ _ _ _ _ _ _ _ _ _ _ _ _ _ _ _ _ _ _ _ _

end Go.Proofs.YtkhbjhmhdlmmfaaGreat
