/- Walks: the law on pointers: the size of the overwriting. -/
import Derived.Test.YtkhbjhmhdlmmfaaGreatLt
import Derived.Deep.DeepCutAuto
namespace Go.Proofs.YtkhbjhmhdlmmfaaGreat
open Go.RowKit

set_option maxRecDepth 100000 in
set_option maxHeartbeats 40000000 in
theorem tail11 (a2 a3 : Int) (w w3 : World) (i dd r s0 x6 x7 g13 m1 c1 m3 c3 : Nat) (p1 p3 : Option Addr) (hi : i < 32) (hd1 : dd ≤ 999) (hr : r = 1 ∨ r = 10 ∨ r = 4) (hx6 : x6 < 64) (hx7 : x7 < 8) (hX6 : bits .and .i64 a3 63 = x6) (hX7 : bits .and .i64 a3 7 = x7) (hs0 : s0 = 1 ∨ s0 = 2 ∨ s0 = 4 ∨ s0 = 8) (hg13 : g13 = w.heap.size) (HFa : Hid (Fr (fun _ => False) w w3)) (H13c : Hid (CodeRow w3 g13 3 (row3 (8 * (i : Int) - 256) dd r))) (K : Act → World → Prop) (hKK : ∀ a w', Code.wp Tryz.prog (tailP 11) (bodyPost Tryz.prog Tryz.f5 (PostP w)) a w' → K a w')
    (u0 u1 u4 u5 u6 u7 u10 u14 u16 u18 u19 u20 u21 u22 u23 u24 u25 u26 u27 u28 u29 u30 u31 u32 u33 u34 u35 u36 u37 u38 u39 u40 u41 u42 u43 u44 u45 u46 u47 u48 u49 u50 u51 u52 u53 u54 u55 u56 u57 u58 u59 u60 u61 u62 u63 u64 u65 u66 u67 u68 u69 u70 u71 u72 u73 u74 u75 u76 u77 u78 u79 u80 u81 u82 u83 u84 u85 u86 u87 u88 u89 u90 u91 u92 u93 u94 u95 u96 u97 u98 u99 u100 u101 u102 u103 u104 u105 u106 u107 u108 u109 u110 u111 u112 u113 u114 u115 u116 u117 u118 u119 u120 u121 u122 u123 u124 u125 u126 u127 u128 u129 u130 u131 u132 u133 u134 u135 u136 u137 u138 u139 u140 u141 u142 u143 u144 u145 u146 u147 u148 u149 u150 u151 u152 u153 u154 u155 u156 u157 u158 u159 u160 u161 u162 u163 u164 u165 u166 u167 u168 u169 u170 u171 u172 u173 u174 u175 u176 u177 u178 u179 u180 u181 u182 u183 u184 u185 u186 u187 u188 u189 u190 u191 u192 u193 u194 u195 u196 u197 u198 u199 u200 u201 u202 u203 u204 u205 u206 u207 u208 u209 u210 u211 u212 u213 u214 u215 u216 u217 u218 u219 u220 u221 u222 u223 u224 u225 u226 u227 u228 u229 u230 u231 u232 u233 u234 u235 u236 u237 u238 u239 u240 u241 u242 u243 u244 u245 u246 u247 : Value) :
    Code.wp Tryz.prog (headP 10) (Exit.then K (bodyPost Tryz.prog Tryz.f5 (PostP w))) ⟨List.toArray (u0 :: u1 :: .int .i64 a2 :: .int .i64 a3 :: u4 :: u5 :: u6 :: u7 :: .bool false :: .int .i64 i :: u10 :: .int .i64 r :: .int .i64 (8 * (i : Int) - 256) :: .slice (some ⟨w.heap.size, 0, none⟩) 3 3 :: u14 :: .pointer (some ⟨w3.heap.size, 0, none⟩) :: u16 :: .int .i64 s0 :: u18 :: u19 :: u20 :: u21 :: u22 :: u23 :: u24 :: u25 :: u26 :: u27 :: u28 :: u29 :: u30 :: u31 :: u32 :: u33 :: u34 :: u35 :: u36 :: u37 :: u38 :: u39 :: u40 :: u41 :: u42 :: u43 :: u44 :: u45 :: u46 :: u47 :: u48 :: u49 :: u50 :: u51 :: u52 :: u53 :: u54 :: u55 :: u56 :: u57 :: u58 :: u59 :: u60 :: u61 :: u62 :: u63 :: u64 :: u65 :: u66 :: u67 :: u68 :: u69 :: u70 :: u71 :: u72 :: u73 :: u74 :: u75 :: u76 :: u77 :: u78 :: u79 :: u80 :: u81 :: u82 :: u83 :: u84 :: u85 :: u86 :: u87 :: u88 :: u89 :: u90 :: u91 :: u92 :: u93 :: u94 :: u95 :: u96 :: u97 :: u98 :: u99 :: u100 :: u101 :: u102 :: u103 :: u104 :: u105 :: u106 :: u107 :: u108 :: u109 :: u110 :: u111 :: u112 :: u113 :: u114 :: u115 :: u116 :: u117 :: u118 :: u119 :: u120 :: u121 :: u122 :: u123 :: u124 :: u125 :: u126 :: u127 :: u128 :: u129 :: u130 :: u131 :: u132 :: u133 :: u134 :: u135 :: u136 :: u137 :: u138 :: u139 :: u140 :: u141 :: u142 :: u143 :: u144 :: u145 :: u146 :: u147 :: u148 :: u149 :: u150 :: u151 :: u152 :: u153 :: u154 :: u155 :: u156 :: u157 :: u158 :: u159 :: u160 :: u161 :: u162 :: u163 :: u164 :: u165 :: u166 :: u167 :: u168 :: u169 :: u170 :: u171 :: u172 :: u173 :: u174 :: u175 :: u176 :: u177 :: u178 :: u179 :: u180 :: u181 :: u182 :: u183 :: u184 :: u185 :: u186 :: u187 :: u188 :: u189 :: u190 :: u191 :: u192 :: u193 :: u194 :: u195 :: u196 :: u197 :: u198 :: u199 :: u200 :: u201 :: u202 :: u203 :: u204 :: u205 :: u206 :: u207 :: u208 :: u209 :: u210 :: u211 :: u212 :: u213 :: u214 :: u215 :: u216 :: u217 :: u218 :: u219 :: u220 :: u221 :: u222 :: u223 :: u224 :: u225 :: u226 :: u227 :: u228 :: u229 :: u230 :: u231 :: u232 :: u233 :: u234 :: u235 :: u236 :: u237 :: u238 :: u239 :: u240 :: u241 :: u242 :: u243 :: u244 :: u245 :: u246 :: u247 :: []), []⟩ (w3.alloc (.cells #[.int .i64 0, .slice p1 m1 c1, .slice none 0 0, .slice p3 m3 c3] 31)) := by
  conv => arg 2; whnf
  conv at hKK => enter [a, w', 1, 2]; whnf
  go_cut [18] (fun v wx => ∃ o0 : Nat, v = .int .i64 o0 ∧ o0 ≤ 7 ∧ w3.alloc (.cells #[.int .i64 0, .slice p1 m1 c1, .slice none 0 0, .slice p3 m3 c3] 31) = wx)
  case first =>
    go_wp2_with fail
    go_meet
    obtain ⟨o0, ho0, hO⟩ := mask_nat (a2 / 4) 3 (by decide)
    simp only [Int.reducePow, Int.reduceSub, Nat.reducePow] at ho0 hO
    exact ⟨o0, congrArg _ hO, by omega, rfl⟩
  case rest =>
    obtain ⟨o0, rfl, ho0, rfl⟩ := hcut
    apply_assumption
    exact (tail12 a3 w w3 i dd r s0 o0 x6 x7 g13 m1 c1 m3 c3 p1 p3 hi hd1 hr hx6 hx7 hX6 hX7 hs0 ho0 hg13 HFa H13c _ _ _ _ _ _ _ _ _ _ _ _ _ _ _ _ _ _ _ _ _ _ _ _ _ _ _ _ _ _ _ _ _ _ _ _ _ _ _ _ _ _ _ _ _ _ _ _ _ _ _ _ _ _ _ _ _ _ _ _ _ _ _ _ _ _ _ _ _ _ _ _ _ _ _ _ _ _ _ _ _ _ _ _ _ _ _ _ _ _ _ _ _ _ _ _ _ _ _ _ _ _ _ _ _ _ _ _ _ _ _ _ _ _ _ _ _ _ _ _ _ _ _ _ _ _ _ _ _ _ _ _ _ _ _ _ _ _ _ _ _ _ _ _ _ _ _ _ _ _ _ _ _ _ _ _ _ _ _ _ _ _ _ _ _ _ _ _ _ _ _ _ _ _ _ _ _ _ _ _ _ _ _ _ _ _ _ _ _ _ _ _ _ _ _ _ _ _ _ _ _ _ _ _ _ _ _ _ _ _ _ _ _ _ _ _ _ _ _ _ _ _ _ _ _ _ _ _ _ _ _ _ _ _ _ _ _ _ _)

set_option maxRecDepth 100000 in
set_option maxHeartbeats 40000000 in
theorem tail10 (a2 a3 : Int) (w w3 : World) (i dd r k2 x6 x7 g13 m1 c1 m3 c3 : Nat) (p1 p3 : Option Addr) (hi : i < 32) (hd1 : dd ≤ 999) (hr : r = 1 ∨ r = 10 ∨ r = 4) (hk2 : k2 < 4) (hx6 : x6 < 64) (hx7 : x7 < 8) (hK : bits .and .i64 a2 3 = k2) (hX6 : bits .and .i64 a3 63 = x6) (hX7 : bits .and .i64 a3 7 = x7) (hg13 : g13 = w.heap.size) (HFa : Hid (Fr (fun _ => False) w w3)) (H13c : Hid (CodeRow w3 g13 3 (row3 (8 * (i : Int) - 256) dd r))) (K : Act → World → Prop) (hKK : ∀ a w', Code.wp Tryz.prog (tailP 10) (bodyPost Tryz.prog Tryz.f5 (PostP w)) a w' → K a w')
    (u0 u1 u4 u5 u6 u7 u10 u14 u16 u17 u18 u19 u20 u21 u22 u23 u24 u25 u26 u27 u28 u29 u30 u31 u32 u33 u34 u35 u36 u37 u38 u39 u40 u41 u42 u43 u44 u45 u46 u47 u48 u49 u50 u51 u52 u53 u54 u55 u56 u57 u58 u59 u60 u61 u62 u63 u64 u65 u66 u67 u68 u69 u70 u71 u72 u73 u74 u75 u76 u77 u78 u79 u80 u81 u82 u83 u84 u85 u86 u87 u88 u89 u90 u91 u92 u93 u94 u95 u96 u97 u98 u99 u100 u101 u102 u103 u104 u105 u106 u107 u108 u109 u110 u111 u112 u113 u114 u115 u116 u117 u118 u119 u120 u121 u122 u123 u124 u125 u126 u127 u128 u129 u130 u131 u132 u133 u134 u135 u136 u137 u138 u139 u140 u141 u142 u143 u144 u145 u146 u147 u148 u149 u150 u151 u152 u153 u154 u155 u156 u157 u158 u159 u160 u161 u162 u163 u164 u165 u166 u167 u168 u169 u170 u171 u172 u173 u174 u175 u176 u177 u178 u179 u180 u181 u182 u183 u184 u185 u186 u187 u188 u189 u190 u191 u192 u193 u194 u195 u196 u197 u198 u199 u200 u201 u202 u203 u204 u205 u206 u207 u208 u209 u210 u211 u212 u213 u214 u215 u216 u217 u218 u219 u220 u221 u222 u223 u224 u225 u226 u227 u228 u229 u230 u231 u232 u233 u234 u235 u236 u237 u238 u239 u240 u241 u242 u243 u244 u245 u246 u247 : Value) :
    Code.wp Tryz.prog (headP 9) (Exit.then K (bodyPost Tryz.prog Tryz.f5 (PostP w))) ⟨List.toArray (u0 :: u1 :: .int .i64 a2 :: .int .i64 a3 :: u4 :: u5 :: u6 :: u7 :: .bool false :: .int .i64 i :: u10 :: .int .i64 r :: .int .i64 (8 * (i : Int) - 256) :: .slice (some ⟨w.heap.size, 0, none⟩) 3 3 :: u14 :: .pointer (some ⟨w3.heap.size, 0, none⟩) :: u16 :: u17 :: u18 :: u19 :: u20 :: u21 :: u22 :: u23 :: u24 :: u25 :: u26 :: u27 :: u28 :: u29 :: u30 :: u31 :: u32 :: u33 :: u34 :: u35 :: u36 :: u37 :: u38 :: u39 :: u40 :: u41 :: u42 :: u43 :: u44 :: u45 :: u46 :: u47 :: u48 :: u49 :: u50 :: u51 :: u52 :: u53 :: u54 :: u55 :: u56 :: u57 :: u58 :: u59 :: u60 :: u61 :: u62 :: u63 :: u64 :: u65 :: u66 :: u67 :: u68 :: u69 :: u70 :: u71 :: u72 :: u73 :: u74 :: u75 :: u76 :: u77 :: u78 :: u79 :: u80 :: u81 :: u82 :: u83 :: u84 :: u85 :: u86 :: u87 :: u88 :: u89 :: u90 :: u91 :: u92 :: u93 :: u94 :: u95 :: u96 :: u97 :: u98 :: u99 :: u100 :: u101 :: u102 :: u103 :: u104 :: u105 :: u106 :: u107 :: u108 :: u109 :: u110 :: u111 :: u112 :: u113 :: u114 :: u115 :: u116 :: u117 :: u118 :: u119 :: u120 :: u121 :: u122 :: u123 :: u124 :: u125 :: u126 :: u127 :: u128 :: u129 :: u130 :: u131 :: u132 :: u133 :: u134 :: u135 :: u136 :: u137 :: u138 :: u139 :: u140 :: u141 :: u142 :: u143 :: u144 :: u145 :: u146 :: u147 :: u148 :: u149 :: u150 :: u151 :: u152 :: u153 :: u154 :: u155 :: u156 :: u157 :: u158 :: u159 :: u160 :: u161 :: u162 :: u163 :: u164 :: u165 :: u166 :: u167 :: u168 :: u169 :: u170 :: u171 :: u172 :: u173 :: u174 :: u175 :: u176 :: u177 :: u178 :: u179 :: u180 :: u181 :: u182 :: u183 :: u184 :: u185 :: u186 :: u187 :: u188 :: u189 :: u190 :: u191 :: u192 :: u193 :: u194 :: u195 :: u196 :: u197 :: u198 :: u199 :: u200 :: u201 :: u202 :: u203 :: u204 :: u205 :: u206 :: u207 :: u208 :: u209 :: u210 :: u211 :: u212 :: u213 :: u214 :: u215 :: u216 :: u217 :: u218 :: u219 :: u220 :: u221 :: u222 :: u223 :: u224 :: u225 :: u226 :: u227 :: u228 :: u229 :: u230 :: u231 :: u232 :: u233 :: u234 :: u235 :: u236 :: u237 :: u238 :: u239 :: u240 :: u241 :: u242 :: u243 :: u244 :: u245 :: u246 :: u247 :: []), []⟩ (w3.alloc (.cells #[.int .i64 0, .slice p1 m1 c1, .slice none 0 0, .slice p3 m3 c3] 31)) := by
  conv => arg 2; whnf
  conv at hKK => enter [a, w', 1, 2]; whnf
  go_cut [17] (fun v wx => ∃ s0 : Nat, v = .int .i64 s0 ∧ (s0 = 1 ∨ s0 = 2 ∨ s0 = 4 ∨ s0 = 8) ∧ w3.alloc (.cells #[.int .i64 0, .slice p1 m1 c1, .slice none 0 0, .slice p3 m3 c3] 31) = wx)
  case first =>
    have h4 : bits .and .i64 a2 3 = 0 ∨ bits .and .i64 a2 3 = 1 ∨ bits .and .i64 a2 3 = 2 ∨ bits .and .i64 a2 3 = 3 := by omega
    clear hK
    rcases h4 with hK | hK | hK | hK
    · go_wp2_with fail
      go_meet
      exact ⟨1, rfl, by decide, rfl⟩
    · go_wp2_with fail
      go_meet
      exact ⟨2, rfl, by decide, rfl⟩
    · go_wp2_with fail
      go_meet
      exact ⟨4, rfl, by decide, rfl⟩
    · go_wp2_with fail
      go_meet
      exact ⟨8, rfl, by decide, rfl⟩
  case rest =>
    obtain ⟨s0, rfl, hs0, rfl⟩ := hcut
    go_upto_region 11 with fail
    rename_i hk
    exact tail11 a2 a3 w w3 i dd r s0 x6 x7 g13 m1 c1 m3 c3 p1 p3 hi hd1 hr hx6 hx7 hX6 hX7 hs0 hg13 HFa H13c _ hk _ _ _ _ _ _ _ _ _ _ _ _ _ _ _ _ _ _ _ _ _ _ _ _ _ _ _ _ _ _ _ _ _ _ _ _ _ _ _ _ _ _ _ _ _ _ _ _ _ _ _ _ _ _ _ _ _ _ _ _ _ _ _ _ _ _ _ _ _ _ _ _ _ _ _ _ _ _ _ _ _ _ _ _ _ _ _ _ _ _ _ _ _ _ _ _ _ _ _ _ _ _ _ _ _ _ _ _ _ _ _ _ _ _ _ _ _ _ _ _ _ _ _ _ _ _ _ _ _ _ _ _ _ _ _ _ _ _ _ _ _ _ _ _ _ _ _ _ _ _ _ _ _ _ _ _ _ _ _ _ _ _ _ _ _ _ _ _ _ _ _ _ _ _ _ _ _ _ _ _ _ _ _ _ _ _ _ _ _ _ _ _ _ _ _ _ _ _ _ _ _ _ _ _ _ _ _ _ _ _ _ _ _ _ _ _ _ _ _ _ _ _ _ _ _ _ _ _ _ _ _ _ _ _ _ _ _ _ _

end Go.Proofs.YtkhbjhmhdlmmfaaGreat
