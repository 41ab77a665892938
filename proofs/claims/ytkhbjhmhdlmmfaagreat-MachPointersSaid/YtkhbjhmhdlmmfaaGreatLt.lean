/- Walks: the law on pointers: the place of the overwriting. -/
import Derived.Test.YtkhbjhmhdlmmfaaGreatLs
import Derived.Deep.DeepCutAuto
namespace Go.Proofs.YtkhbjhmhdlmmfaaGreat
open Go.RowKit

set_option maxRecDepth 100000 in
set_option maxHeartbeats 40000000 in
theorem tail12 (a3 : Int) (w w3 : World) (i dd r s0 o0 x6 x7 g13 m1 c1 m3 c3 : Nat) (p1 p3 : Option Addr) (hi : i < 32) (hd1 : dd ≤ 999) (hr : r = 1 ∨ r = 10 ∨ r = 4) (hx6 : x6 < 64) (hx7 : x7 < 8) (hX6 : bits .and .i64 a3 63 = x6) (hX7 : bits .and .i64 a3 7 = x7) (hs0 : s0 = 1 ∨ s0 = 2 ∨ s0 = 4 ∨ s0 = 8) (ho0 : o0 ≤ 7) (hg13 : g13 = w.heap.size) (HFa : Hid (Fr (fun _ => False) w w3)) (H13c : Hid (CodeRow w3 g13 3 (row3 (8 * (i : Int) - 256) dd r)))
    (u0 u1 u2 u4 u5 u6 u7 u10 u14 u16 u19 u20 u21 u22 u23 u24 u25 u26 u27 u28 u29 u30 u31 u32 u33 u34 u35 u36 u37 u38 u39 u40 u41 u42 u43 u44 u45 u46 u47 u48 u49 u50 u51 u52 u53 u54 u55 u56 u57 u58 u59 u60 u61 u62 u63 u64 u65 u66 u67 u68 u69 u70 u71 u72 u73 u74 u75 u76 u77 u78 u79 u80 u81 u82 u83 u84 u85 u86 u87 u88 u89 u90 u91 u92 u93 u94 u95 u96 u97 u98 u99 u100 u101 u102 u103 u104 u105 u106 u107 u108 u109 u110 u111 u112 u113 u114 u115 u116 u117 u118 u119 u120 u121 u122 u123 u124 u125 u126 u127 u128 u129 u130 u131 u132 u133 u134 u135 u136 u137 u138 u139 u140 u141 u142 u143 u144 u145 u146 u147 u148 u149 u150 u151 u152 u153 u154 u155 u156 u157 u158 u159 u160 u161 u162 u163 u164 u165 u166 u167 u168 u169 u170 u171 u172 u173 u174 u175 u176 u177 u178 u179 u180 u181 u182 u183 u184 u185 u186 u187 u188 u189 u190 u191 u192 u193 u194 u195 u196 u197 u198 u199 u200 u201 u202 u203 u204 u205 u206 u207 u208 u209 u210 u211 u212 u213 u214 u215 u216 u217 u218 u219 u220 u221 u222 u223 u224 u225 u226 u227 u228 u229 u230 u231 u232 u233 u234 u235 u236 u237 u238 u239 u240 u241 u242 u243 u244 u245 u246 u247 : Value) :
    Code.wp Tryz.prog (tailP 11) (bodyPost Tryz.prog Tryz.f5 (PostP w)) ⟨List.toArray (u0 :: u1 :: u2 :: .int .i64 a3 :: u4 :: u5 :: u6 :: u7 :: .bool false :: .int .i64 i :: u10 :: .int .i64 r :: .int .i64 (8 * (i : Int) - 256) :: .slice (some ⟨w.heap.size, 0, none⟩) 3 3 :: u14 :: .pointer (some ⟨w3.heap.size, 0, none⟩) :: u16 :: .int .i64 s0 :: .int .i64 o0 :: u19 :: u20 :: u21 :: u22 :: u23 :: u24 :: u25 :: u26 :: u27 :: u28 :: u29 :: u30 :: u31 :: u32 :: u33 :: u34 :: u35 :: u36 :: u37 :: u38 :: u39 :: u40 :: u41 :: u42 :: u43 :: u44 :: u45 :: u46 :: u47 :: u48 :: u49 :: u50 :: u51 :: u52 :: u53 :: u54 :: u55 :: u56 :: u57 :: u58 :: u59 :: u60 :: u61 :: u62 :: u63 :: u64 :: u65 :: u66 :: u67 :: u68 :: u69 :: u70 :: u71 :: u72 :: u73 :: u74 :: u75 :: u76 :: u77 :: u78 :: u79 :: u80 :: u81 :: u82 :: u83 :: u84 :: u85 :: u86 :: u87 :: u88 :: u89 :: u90 :: u91 :: u92 :: u93 :: u94 :: u95 :: u96 :: u97 :: u98 :: u99 :: u100 :: u101 :: u102 :: u103 :: u104 :: u105 :: u106 :: u107 :: u108 :: u109 :: u110 :: u111 :: u112 :: u113 :: u114 :: u115 :: u116 :: u117 :: u118 :: u119 :: u120 :: u121 :: u122 :: u123 :: u124 :: u125 :: u126 :: u127 :: u128 :: u129 :: u130 :: u131 :: u132 :: u133 :: u134 :: u135 :: u136 :: u137 :: u138 :: u139 :: u140 :: u141 :: u142 :: u143 :: u144 :: u145 :: u146 :: u147 :: u148 :: u149 :: u150 :: u151 :: u152 :: u153 :: u154 :: u155 :: u156 :: u157 :: u158 :: u159 :: u160 :: u161 :: u162 :: u163 :: u164 :: u165 :: u166 :: u167 :: u168 :: u169 :: u170 :: u171 :: u172 :: u173 :: u174 :: u175 :: u176 :: u177 :: u178 :: u179 :: u180 :: u181 :: u182 :: u183 :: u184 :: u185 :: u186 :: u187 :: u188 :: u189 :: u190 :: u191 :: u192 :: u193 :: u194 :: u195 :: u196 :: u197 :: u198 :: u199 :: u200 :: u201 :: u202 :: u203 :: u204 :: u205 :: u206 :: u207 :: u208 :: u209 :: u210 :: u211 :: u212 :: u213 :: u214 :: u215 :: u216 :: u217 :: u218 :: u219 :: u220 :: u221 :: u222 :: u223 :: u224 :: u225 :: u226 :: u227 :: u228 :: u229 :: u230 :: u231 :: u232 :: u233 :: u234 :: u235 :: u236 :: u237 :: u238 :: u239 :: u240 :: u241 :: u242 :: u243 :: u244 :: u245 :: u246 :: u247 :: []), []⟩ (w3.alloc (.cells #[.int .i64 0, .slice p1 m1 c1, .slice none 0 0, .slice p3 m3 c3] 31)) := by
  conv => arg 2; whnf
  go_upto_region 12 with fail
  go_cut [90] (fun v wx => v = .bool (decide (8 < o0 + s0 ∨ s0 = 8)) ∧ w3.alloc (.cells #[.int .i64 0, .slice p1 m1 c1, .slice none 0 0, .slice p3 m3 c3] 31) = wx)
  case first =>
    by_cases h1 : 8 < o0 + s0
    · have h2 : decide ((o0 : Int) + s0 > 8) = true := by simp; omega
      go_wp2_with fail
      go_meet
      exact ⟨by rw [decide_eq_true (Or.inl h1)], rfl⟩
    · have h2 : decide ((o0 : Int) + s0 > 8) = false := by simp; omega
      by_cases h3 : s0 = 8
      · subst h3
        go_wp2_with fail
        go_meet
        exact ⟨by rw [decide_eq_true (Or.inr rfl)], rfl⟩
      · have h4 : ((s0 : Int) == 8) = false := by rw [beq_eq_false_iff_ne]; omega
        go_wp2_with fail
        go_meet
        exact ⟨by rw [decide_eq_false (by omega)], rfl⟩
  case rest =>
    obtain ⟨rfl, rfl⟩ := hcut
    go_upto_if 90 with fail
    go_cut [17, 18] (fun u v wx => ∃ s o : Nat, u = .int .i64 s ∧ v = .int .i64 o ∧ (s = 1 ∨ s = 2 ∨ s = 4) ∧ o + s ≤ 8 ∧ w3.alloc (.cells #[.int .i64 0, .slice p1 m1 c1, .slice none 0 0, .slice p3 m3 c3] 31) = wx)
    case first =>
      by_cases h1 : 8 < o0 + s0 ∨ s0 = 8
      · have h2 : decide (8 < o0 + s0 ∨ s0 = 8) = true := decide_eq_true h1
        go_wp2_with fail
        go_meet
        exact ⟨4, 3, rfl, rfl, by decide, by decide, rfl⟩
      · have h2 : decide (8 < o0 + s0 ∨ s0 = 8) = false := decide_eq_false h1
        go_wp2_with fail
        go_meet
        exact ⟨s0, o0, rfl, rfl, by omega, by omega, rfl⟩
    case rest =>
      obtain ⟨s, o, rfl, rfl, hs, hos, rfl⟩ := hcut
      go_upto_region 14 with fail
      rename_i hk
      exact tail14 a3 w w3 i dd r s o x6 x7 g13 m1 c1 m3 c3 p1 p3 hi hd1 hr hs hos hx6 hx7 hX6 hX7 hg13 HFa H13c _ hk _ _ _ _ _ _ _ _ _ _ _ _ _ _ _ _ _ _ _ _ _ _ _ _ _ _ _ _ _ _ _ _ _ _ _ _ _ _ _ _ _ _ _ _ _ _ _ _ _ _ _ _ _ _ _ _ _ _ _ _ _ _ _ _ _ _ _ _ _ _ _ _ _ _ _ _ _ _ _ _ _ _ _ _ _ _ _ _ _ _ _ _ _ _ _ _ _ _ _ _ _ _ _ _ _ _ _ _ _ _ _ _ _ _ _ _ _ _ _ _ _ _ _ _ _ _ _ _ _ _ _ _ _ _ _ _ _ _ _ _ _ _ _ _ _ _ _ _ _ _ _ _ _ _ _ _ _ _ _ _ _ _ _ _ _ _ _ _ _ _ _ _ _ _ _ _ _ _ _ _ _ _ _ _ _ _ _ _ _ _ _ _ _ _ _ _ _ _ _ _ _ _ _ _ _ _ _ _ _ _ _ _ _ _ _ _ _ _ _ _ _ _ _ _ _ _ _ _ _ _ _ _ _ _ _ _ _ _ _

end Go.Proofs.YtkhbjhmhdlmmfaaGreat
