/- Walks: the law on pointers, its second half. -/
import Derived.Test.YtkhbjhmhdlmmfaaGreatLo
import Derived.Deep.DeepCutAuto
import Derived.Deep.RegionHeld3
namespace Go.Proofs.YtkhbjhmhdlmmfaaGreat
open Go.RowKit

set_option maxRecDepth 100000 in
set_option maxHeartbeats 4000000 in
theorem tail40 (a3 : Int) (w wc : World) (i dd r x6 g13 : Nat) (er22 : Int) (hd1 : dd ≤ 999) (hr : r = 1 ∨ r = 10 ∨ r = 4) (hx6 : x6 < 64) (hX6 : bits .and .i64 a3 63 = x6) (her22 : er22 = 86 ∨ er22 = 0 ∧ (247 - x6) % 8 = 0) (T13 : Hid (CodeRow wc g13 3 (row3 (8 * (i : Int) - 256) dd r))) (HT : Hid (Fr (fun _ => False) w wc)) (K : Act → World → Prop) (hK : ∀ a w', Code.wp Tryz.prog (tailP 30) (bodyPost Tryz.prog Tryz.f5 (PostP w)) a w' → K a w')
    (u0 u1 u2 u4 u5 u6 u7 u9 u10 u12 u14 u15 u17 u18 u19 u20 u21 u22 u24 u26 u27 u28 u29 u30 u31 u32 u33 u34 u35 u36 u37 u38 u39 u40 u41 u42 u43 u44 u45 u46 u47 u48 u49 u50 u51 u52 u53 u54 u55 u56 u57 u58 u59 u60 u61 u62 u63 u64 u65 u66 u67 u68 u69 u70 u71 u72 u73 u74 u75 u76 u77 u78 u79 u80 u81 u82 u83 u84 u85 u86 u87 u88 u89 u90 u91 u92 u93 u94 u95 u96 u97 u98 u99 u100 u101 u102 u103 u104 u105 u106 u107 u108 u109 u110 u111 u112 u113 u114 u115 u116 u117 u118 u119 u120 u121 u122 u123 u124 u125 u126 u127 u128 u129 u130 u131 u132 u133 u134 u135 u136 u137 u138 u139 u140 u141 u142 u143 u144 u145 u146 u147 u148 u149 u150 u151 u152 u153 u154 u155 u156 u157 u158 u159 u160 u161 u162 u163 u164 u165 u166 u167 u168 u169 u170 u171 u172 u173 u174 u175 u176 u177 u178 u179 u180 u181 u182 u183 u184 u185 u186 u187 u188 u189 u190 u191 u192 u193 u194 u195 u196 u197 u198 u199 u200 u201 u202 u203 u204 u205 u206 u207 u208 u209 u210 u211 u212 u213 u214 u215 u216 u217 u218 u219 u220 u221 u222 u223 u224 u225 u226 u227 u228 u229 u230 u231 u232 u233 u234 u235 u236 u237 u238 u239 u240 u241 u242 u243 u244 u245 u246 u247 : Value) :
    Code.wp Tryz.prog (headP 29) (Exit.then K (bodyPost Tryz.prog Tryz.f5 (PostP w))) ⟨List.toArray (u0 :: u1 :: u2 :: .int .i64 a3 :: u4 :: u5 :: u6 :: u7 :: .bool false :: u9 :: u10 :: .int .i64 r :: u12 :: .slice (some ⟨g13, 0, none⟩) 3 3 :: u14 :: u15 :: .int .i64 80 :: u17 :: u18 :: u19 :: u20 :: u21 :: u22 :: .int .i64 er22 :: u24 :: .int .i64 86 :: u26 :: u27 :: u28 :: u29 :: u30 :: u31 :: u32 :: u33 :: u34 :: u35 :: u36 :: u37 :: u38 :: u39 :: u40 :: u41 :: u42 :: u43 :: u44 :: u45 :: u46 :: u47 :: u48 :: u49 :: u50 :: u51 :: u52 :: u53 :: u54 :: u55 :: u56 :: u57 :: u58 :: u59 :: u60 :: u61 :: u62 :: u63 :: u64 :: u65 :: u66 :: u67 :: u68 :: u69 :: u70 :: u71 :: u72 :: u73 :: u74 :: u75 :: u76 :: u77 :: u78 :: u79 :: u80 :: u81 :: u82 :: u83 :: u84 :: u85 :: u86 :: u87 :: u88 :: u89 :: u90 :: u91 :: u92 :: u93 :: u94 :: u95 :: u96 :: u97 :: u98 :: u99 :: u100 :: u101 :: u102 :: u103 :: u104 :: u105 :: u106 :: u107 :: u108 :: u109 :: u110 :: u111 :: u112 :: u113 :: u114 :: u115 :: u116 :: u117 :: u118 :: u119 :: u120 :: u121 :: u122 :: u123 :: u124 :: u125 :: u126 :: u127 :: u128 :: u129 :: u130 :: u131 :: u132 :: u133 :: u134 :: u135 :: u136 :: u137 :: u138 :: u139 :: u140 :: u141 :: u142 :: u143 :: u144 :: u145 :: u146 :: u147 :: u148 :: u149 :: u150 :: u151 :: u152 :: u153 :: u154 :: u155 :: u156 :: u157 :: u158 :: u159 :: u160 :: u161 :: u162 :: u163 :: u164 :: u165 :: u166 :: u167 :: u168 :: u169 :: u170 :: u171 :: u172 :: u173 :: u174 :: u175 :: u176 :: u177 :: u178 :: u179 :: u180 :: u181 :: u182 :: u183 :: u184 :: u185 :: u186 :: u187 :: u188 :: u189 :: u190 :: u191 :: u192 :: u193 :: u194 :: u195 :: u196 :: u197 :: u198 :: u199 :: u200 :: u201 :: u202 :: u203 :: u204 :: u205 :: u206 :: u207 :: u208 :: u209 :: u210 :: u211 :: u212 :: u213 :: u214 :: u215 :: u216 :: u217 :: u218 :: u219 :: u220 :: u221 :: u222 :: u223 :: u224 :: u225 :: u226 :: u227 :: u228 :: u229 :: u230 :: u231 :: u232 :: u233 :: u234 :: u235 :: u236 :: u237 :: u238 :: u239 :: u240 :: u241 :: u242 :: u243 :: u244 :: u245 :: u246 :: u247 :: []), []⟩ wc := by
  conv => arg 2; whnf
  conv at hK => enter [a, w', 1, 2]; whnf
  have lt13 := T13.out.lt
  obtain ⟨y0, y1, y2, y3, y4, y5, y6, y7⟩ : wc.cell? ⟨g13, 0, none⟩ = some (.int .i64 15) ∧ wc.cell? ⟨g13, 1, none⟩ = some (.bool false) ∧ wc.cell? ⟨g13, 2, none⟩ = some (.bool true) ∧ wc.cell? ⟨g13, 3, none⟩ = some (.int .i64 0) ∧ wc.cell? ⟨g13, 4, none⟩ = some (.int .i64 4) ∧ wc.cell? ⟨g13, 5, none⟩ = some (.int .i64 10) ∧ wc.cell? ⟨g13, 6, none⟩ = some (.int .i64 0) ∧ wc.cell? ⟨g13, 7, none⟩ = some (.int .i64 0) := T13.out.2 0 (by decide)
  obtain ⟨z0, z1, z2, z3, z4, z5, z6, z7⟩ : wc.cell? ⟨g13, 8, none⟩ = some (.int .i64 1) ∧ wc.cell? ⟨g13, 9, none⟩ = some (.bool false) ∧ wc.cell? ⟨g13, 10, none⟩ = some (.bool false) ∧ wc.cell? ⟨g13, 11, none⟩ = some (.int .i64 0) ∧ wc.cell? ⟨g13, 12, none⟩ = some (.int .i64 4) ∧ wc.cell? ⟨g13, 13, none⟩ = some (.int .i64 0) ∧ wc.cell? ⟨g13, 14, none⟩ = some (.int .i64 0) ∧ wc.cell? ⟨g13, 15, none⟩ = some (.int .i64 (-(dd : Int))) := T13.out.2 1 (by decide)
  go_region_held3 (fun w' => w'.cell? ⟨g13, 0, none⟩ = some (.int .i64 15) ∧ w'.cell? ⟨g13, 1, none⟩ = some (.bool false) ∧ w'.cell? ⟨g13, 2, none⟩ = some (.bool true) ∧ w'.cell? ⟨g13, 3, none⟩ = some (.int .i64 0) ∧ w'.cell? ⟨g13, 4, none⟩ = some (.int .i64 4) ∧ w'.cell? ⟨g13, 5, none⟩ = some (.int .i64 10) ∧ w'.cell? ⟨g13, 6, none⟩ = some (.int .i64 0) ∧ w'.cell? ⟨g13, 7, none⟩ = some (.int .i64 0) ∧ w'.cell? ⟨g13, 8, none⟩ = some (.int .i64 1) ∧ w'.cell? ⟨g13, 9, none⟩ = some (.bool false) ∧ w'.cell? ⟨g13, 10, none⟩ = some (.bool false) ∧ w'.cell? ⟨g13, 11, none⟩ = some (.int .i64 0) ∧ w'.cell? ⟨g13, 12, none⟩ = some (.int .i64 4) ∧ w'.cell? ⟨g13, 13, none⟩ = some (.int .i64 0) ∧ w'.cell? ⟨g13, 14, none⟩ = some (.int .i64 0) ∧ w'.cell? ⟨g13, 15, none⟩ = some (.int .i64 (-(dd : Int)))) (go_keep) (fail)
  have hrow : CodeRow (wc.alloc (.cells #[.int .i64 15, .bool false, .bool true, .int .i64 0, .int .i64 4, .int .i64 10, .int .i64 0, .int .i64 0, .int .i64 1, .bool false, .bool false, .int .i64 0, .int .i64 4, .int .i64 0, .int .i64 0, .int .i64 (-(dd : Int)), .int .i64 15, .bool false, .bool true, .int .i64 0, .int .i64 0, .int .i64 r, .int .i64 0, .int .i64 0, .int .i64 39, .bool false, .bool false, .int .i64 0, .int .i64 0, .int .i64 0, .int .i64 0, .int .i64 0] 25)).drew wc.heap.size 4 (codeI dd r) := row_lit wc (codeI dd r) 4 #[.int .i64 15, .bool false, .bool true, .int .i64 0, .int .i64 4, .int .i64 10, .int .i64 0, .int .i64 0, .int .i64 1, .bool false, .bool false, .int .i64 0, .int .i64 4, .int .i64 0, .int .i64 0, .int .i64 (-(dd : Int)), .int .i64 15, .bool false, .bool true, .int .i64 0, .int .i64 0, .int .i64 r, .int .i64 0, .int .i64 0, .int .i64 39, .bool false, .bool false, .int .i64 0, .int .i64 0, .int .i64 0, .int .i64 0, .int .i64 0] rfl
  have HF := Lib.hid ((HT.out.alloc (.cells #[.int .i64 15, .bool false, .bool true, .int .i64 0, .int .i64 4, .int .i64 10, .int .i64 0, .int .i64 0, .int .i64 1, .bool false, .bool false, .int .i64 0, .int .i64 4, .int .i64 0, .int .i64 0, .int .i64 (-(dd : Int)), .int .i64 15, .bool false, .bool true, .int .i64 0, .int .i64 0, .int .i64 r, .int .i64 0, .int .i64 0, .int .i64 39, .bool false, .bool false, .int .i64 0, .int .i64 0, .int .i64 0, .int .i64 0, .int .i64 0] 25)).drew)
  have hci := Lib.hid (callI dd r hr (by omega) (by omega) 0 (by decide) (fun _ => 1) wc.heap.size 4 _ _ hrow (rowAt_nil _ _))
  have hiz : infoZero = #[.int .i64 0, .slice none 0 0, .slice none 0 0, .slice none 0 0] := rfl
  clear hrow T13 HT y0 y1 y2 y3 y4 y5 y6 y7 z0 z1 z2 z3 z4 z5 z6 z7
  go_wp2_with fail
  refine hci.out.mono ?_
  rintro e w17 ⟨rfl, hF17⟩
  have HG := Lib.hid ((HF.out.trans hF17).alloc (.cells #[.int .i64 0, .slice none 0 0, .slice none 0 0, .slice none 0 0] 31))
  clear hF17 hci
  rcases her22 with rfl | ⟨rfl, hal⟩
  · go_wp2
    go_ret
    exact ⟨rfl, HG.out⟩
  · have hm : (-9 - (x6 : Int)).tmod 8 = 0 := by
      obtain ⟨q, hq⟩ : ∃ q : Nat, 9 + x6 = 8 * q := ⟨(9 + x6) / 8, by omega⟩
      have : -9 - (x6 : Int) = 8 * (-(q : Int)) := by omega
      rw [this]
      exact Int.mul_tmod_right _ _
    go_wp2
    go_ret
    exact ⟨rfl, HG.out⟩

set_option maxRecDepth 100000 in
set_option maxHeartbeats 4000000 in
theorem tail29 (a3 : Int) (w wc : World) (i dd r s o t x6 x7 g13 g19 c19 g21 c21 : Nat) (er22 : Int) (hi : i < 32) (hd1 : dd ≤ 999) (hr : r = 1 ∨ r = 10 ∨ r = 4) (_hs : s = 1 ∨ s = 2 ∨ s = 4) (hos : o + s ≤ 8) (ht : t < 8) (hx6 : x6 < 64) (hx7 : x7 < 8) (hX6 : bits .and .i64 a3 63 = x6) (hX7 : bits .and .i64 a3 7 = x7) (her22 : er22 = 86 ∨ er22 = 0 ∧ (247 - x6) % 8 = 0) (T13 : Hid (CodeRow wc g13 3 (row3 (8 * (i : Int) - 256) dd r))) (T19 : Hid (CodeRow wc g19 6 (codeD (8 * (i : Int) - 256) dd r s o t))) (T21 : Hid (CodeRow wc g21 5 (codeE dd r x6))) (HT : Hid (Fr (fun _ => False) w wc)) (hw19 : w.heap.size ≤ g19) (hw21 : w.heap.size ≤ g21) (h1321 : g13 ≠ g21) (h1921 : g19 ≠ g21) (h1319 : g13 ≠ g19) (K : Act → World → Prop) (hK : ∀ a w', Code.wp Tryz.prog (tailP 25) (bodyPost Tryz.prog Tryz.f5 (PostP w)) a w' → K a w')
    (u0 u1 u2 u4 u5 u6 u7 u10 u14 u15 u20 u22 u24 u25 u26 u27 u28 u29 u30 u31 u32 u33 u34 u35 u36 u37 u38 u39 u40 u41 u42 u43 u44 u45 u46 u47 u48 u49 u50 u51 u52 u53 u54 u55 u56 u57 u58 u59 u60 u61 u62 u63 u64 u65 u66 u67 u68 u69 u70 u71 u72 u73 u74 u75 u76 u77 u78 u79 u80 u81 u82 u83 u84 u85 u86 u87 u88 u89 u90 u91 u92 u93 u94 u95 u96 u97 u98 u99 u100 u101 u102 u103 u104 u105 u106 u107 u108 u109 u110 u111 u112 u113 u114 u115 u116 u117 u118 u119 u120 u121 u122 u123 u124 u125 u126 u127 u128 u129 u130 u131 u132 u133 u134 u135 u136 u137 u138 u139 u140 u141 u142 u143 u144 u145 u146 u147 u148 u149 u150 u151 u152 u153 u154 u155 u156 u157 u158 u159 u160 u161 u162 u163 u164 u165 u166 u167 u168 u169 u170 u171 u172 u173 u174 u175 u176 u177 u178 u179 u180 u181 u182 u183 u184 u185 u186 u187 u188 u189 u190 u191 u192 u193 u194 u195 u196 u197 u198 u199 u200 u201 u202 u203 u204 u205 u206 u207 u208 u209 u210 u211 u212 u213 u214 u215 u216 u217 u218 u219 u220 u221 u222 u223 u224 u225 u226 u227 u228 u229 u230 u231 u232 u233 u234 u235 u236 u237 u238 u239 u240 u241 u242 u243 u244 u245 u246 u247 : Value) :
    Code.wp Tryz.prog (headP 24) (Exit.then K (bodyPost Tryz.prog Tryz.f5 (PostP w))) ⟨List.toArray (u0 :: u1 :: u2 :: .int .i64 a3 :: u4 :: u5 :: u6 :: u7 :: .bool false :: .int .i64 i :: u10 :: .int .i64 r :: .int .i64 (8 * (i : Int) - 256) :: .slice (some ⟨g13, 0, none⟩) 3 3 :: u14 :: u15 :: .int .i64 80 :: .int .i64 s :: .int .i64 o :: .slice (some ⟨g19, 0, none⟩) 6 c19 :: u20 :: .slice (some ⟨g21, 0, none⟩) 5 c21 :: u22 :: .int .i64 er22 :: u24 :: u25 :: u26 :: u27 :: u28 :: u29 :: u30 :: u31 :: u32 :: u33 :: u34 :: u35 :: u36 :: u37 :: u38 :: u39 :: u40 :: u41 :: u42 :: u43 :: u44 :: u45 :: u46 :: u47 :: u48 :: u49 :: u50 :: u51 :: u52 :: u53 :: u54 :: u55 :: u56 :: u57 :: u58 :: u59 :: u60 :: u61 :: u62 :: u63 :: u64 :: u65 :: u66 :: u67 :: u68 :: u69 :: u70 :: u71 :: u72 :: u73 :: u74 :: u75 :: u76 :: u77 :: u78 :: u79 :: u80 :: u81 :: u82 :: u83 :: u84 :: u85 :: u86 :: u87 :: u88 :: u89 :: u90 :: u91 :: u92 :: u93 :: u94 :: u95 :: u96 :: u97 :: u98 :: u99 :: u100 :: u101 :: u102 :: u103 :: u104 :: u105 :: u106 :: u107 :: u108 :: u109 :: u110 :: u111 :: u112 :: u113 :: u114 :: u115 :: u116 :: u117 :: u118 :: u119 :: u120 :: u121 :: u122 :: u123 :: u124 :: u125 :: u126 :: u127 :: u128 :: u129 :: u130 :: u131 :: u132 :: u133 :: u134 :: u135 :: u136 :: u137 :: u138 :: u139 :: u140 :: u141 :: u142 :: u143 :: u144 :: u145 :: u146 :: u147 :: u148 :: u149 :: u150 :: u151 :: u152 :: u153 :: u154 :: u155 :: u156 :: u157 :: u158 :: u159 :: u160 :: u161 :: u162 :: u163 :: u164 :: u165 :: u166 :: u167 :: u168 :: u169 :: u170 :: u171 :: u172 :: u173 :: u174 :: u175 :: u176 :: u177 :: u178 :: u179 :: u180 :: u181 :: u182 :: u183 :: u184 :: u185 :: u186 :: u187 :: u188 :: u189 :: u190 :: u191 :: u192 :: u193 :: u194 :: u195 :: u196 :: u197 :: u198 :: u199 :: u200 :: u201 :: u202 :: u203 :: u204 :: u205 :: u206 :: u207 :: u208 :: u209 :: u210 :: u211 :: u212 :: u213 :: u214 :: u215 :: u216 :: u217 :: u218 :: u219 :: u220 :: u221 :: u222 :: u223 :: u224 :: u225 :: u226 :: u227 :: u228 :: u229 :: u230 :: u231 :: u232 :: u233 :: u234 :: u235 :: u236 :: u237 :: u238 :: u239 :: u240 :: u241 :: u242 :: u243 :: u244 :: u245 :: u246 :: u247 :: []), []⟩ wc := by
  conv => arg 2; whnf
  conv at hK => enter [a, w', 1, 2]; whnf
  have lt13c := T13.out.lt
  have lt19c := T19.out.lt
  have lt21 := T21.out.lt
  have fz21 := T21.out.frozen
  obtain ⟨y0, y1, y2, y3, y4, y5, y6, y7⟩ := T21.out.2 2 (by decide)
  simp only [Nat.reduceMul, Nat.reduceAdd] at y0 y1 y2 y3 y4 y5 y6 y7
  go_upto_region 30 with fail
  have INS := Lib.hid (setIns_fr wc g21 2 ⟨24, false, true, 8, 1, r, x7, 0⟩)
  have U21 := Lib.hid ((T21.out.setIns 2 ⟨24, false, true, 8, 1, r, x7, 0⟩ (by decide)).congr (d := codeF dd r x7) (fun x hx => by match x, hx with | 0, _ => rfl | 1, _ => rfl | 2, _ => rfl | 3, _ => rfl | 4, _ => rfl))
  have U13 := Lib.hid (T13.out.fr INS.out (by omega))
  have U19 := Lib.hid (T19.out.fr INS.out (by omega))
  have UF := Lib.hid (HT.out.fresh INS.out (fun x hx => by omega))
  clear y0 y1 y2 y3 y4 y5 y6 y7 fz21
  have hmk : ∀ w : World, (Instr.makeSlice 22 (.int .i64 20) (.int .i64 20)).run Tryz.prog w = .ok (.slice (some ⟨w.heap.size, 0, none⟩) 20 20) (w.alloc (.cells (putArr 20 0 0) 5)) := make_bytes 20 (by decide)
  have hiz : infoZero = #[.int .i64 0, .slice none 0 0, .slice none 0 0, .slice none 0 0] := rfl
  have hcf := Lib.hid (callF dd r hr (by omega) (by omega) x7 (by omega) 20 (by decide) (by omega) (fun _ => 0) g21 c21 _ _ (U21.out.fr ((Fr.refl (fun _ => False) _).alloc (.cells (putArr 20 0 0) 5)) (fun h => h)) (rowAt_new (setIns wc g21 2 ⟨24, false, true, 8, 1, r, x7, 0⟩) 20 (setIns_size _ _ _ _)))
  go_wp2_with fail
  refine hcf.out.mono ?_
  rintro e w12 ⟨rfl, hF12⟩
  have HF12a := ((Fr.refl (fun _ => False) (setIns wc g21 2 ⟨24, false, true, 8, 1, r, x7, 0⟩)).alloc (.cells (putArr 20 0 0) 5)).trans hF12
  have V13 := Lib.hid (U13.out.fr HF12a (fun h => h))
  have V19 := Lib.hid (U19.out.fr HF12a (fun h => h))
  have V21 := Lib.hid (U21.out.fr HF12a (fun h => h))
  have VF := Lib.hid (UF.out.trans HF12a)
  clear hF12 HF12a hcf
  go_upto_region 31 with fail
  have hmk7 : ∀ w : World, (Instr.makeSlice 22 (.int .i64 (7 + (x7 : Int))) (.int .i64 (7 + (x7 : Int)))).run Tryz.prog w = .ok (.slice (some ⟨w.heap.size, 0, none⟩) (7 + x7) (7 + x7)) (w.alloc (.cells (putArr (7 + x7) 0 0) 5)) := fun w => make_bytes (7 + x7) (by omega) w
  have V13b := Lib.hid (V13.out.fr ((Fr.refl (fun _ => False) w12).alloc (.cells #[.int .i64 0, .slice none 0 0, .slice none 0 0, .slice none 0 0] 31)) (fun h => h))
  have V19b := Lib.hid (V19.out.fr ((Fr.refl (fun _ => False) w12).alloc (.cells #[.int .i64 0, .slice none 0 0, .slice none 0 0, .slice none 0 0] 31)) (fun h => h))
  have V21b := Lib.hid (V21.out.fr ((Fr.refl (fun _ => False) w12).alloc (.cells #[.int .i64 0, .slice none 0 0, .slice none 0 0, .slice none 0 0] 31)) (fun h => h))
  have VFb := Lib.hid (VF.out.alloc (.cells #[.int .i64 0, .slice none 0 0, .slice none 0 0, .slice none 0 0] 31))
  have hcg := Lib.hid (callG dd r hr (by omega) (by omega) x7 (by omega) (7 + x7) (by omega) (by omega) (fun _ => 0) g21 c21 _ _ (V21b.out.fr ((Fr.refl (fun _ => False) _).alloc (.cells (putArr (7 + x7) 0 0) 5)) (fun h => h)) (rowAt_made _ (7 + x7)))
  clear V13 V19 V21 VF
  obtain ⟨w12b, hw12b⟩ : ∃ w12b, w12b = w12.alloc (.cells #[.int .i64 0, .slice none 0 0, .slice none 0 0, .slice none 0 0] 31) := ⟨_, rfl⟩
  rw [← hw12b] at V13b V19b V21b VFb hcg ⊢
  clear hw12b
  go_wp2_with fail
  refine hcg.out.mono ?_
  rintro e w13 ⟨rfl, hF13⟩
  have HF13a := ((Fr.refl (fun _ => False) w12b).alloc (.cells (putArr (7 + x7) 0 0) 5)).trans hF13
  have X13a := V13b.out.fr HF13a (fun h => h)
  have X19a := V19b.out.fr HF13a (fun h => h)
  have XFa := VFb.out.trans HF13a
  have X13 := Lib.hid (X13a.fr ((Fr.refl (fun _ => False) w13).alloc (.cells #[.int .i64 0, .slice none 0 0, .slice none 0 0, .slice none 0 0] 31)) (fun h => h))
  have X19 := Lib.hid (X19a.fr ((Fr.refl (fun _ => False) w13).alloc (.cells #[.int .i64 0, .slice none 0 0, .slice none 0 0, .slice none 0 0] 31)) (fun h => h))
  have XF := Lib.hid (XFa.alloc (.cells #[.int .i64 0, .slice none 0 0, .slice none 0 0, .slice none 0 0] 31))
  clear hF13 HF13a X13a X19a XFa hcg V13b V19b V21b VFb
  go_upto_region 34 with fail
  obtain ⟨w14, hw14⟩ : ∃ w14, w14 = w13.alloc (.cells #[.int .i64 0, .slice none 0 0, .slice none 0 0, .slice none 0 0] 31) := ⟨_, rfl⟩
  rw [← hw14] at X13 X19 XF ⊢
  clear hw14
  clear INS U21 U13 U19 UF T13 T19 T21 HT hmk hmk7
  by_cases hi0 : i = 0
  · have hd : decide ((i : Int) > 0) = false := decide_eq_false (by omega)
    go_upto_region 40 with fail
    rename_i hk
    exact tail40 a3 w w14 i dd r x6 g13 er22 hd1 hr hx6 hX6 her22 X13 XF _ hk _ _ _ _ _ _ _ _ _ _ _ _ _ _ _ _ _ _ _ _ _ _ _ _ _ _ _ _ _ _ _ _ _ _ _ _ _ _ _ _ _ _ _ _ _ _ _ _ _ _ _ _ _ _ _ _ _ _ _ _ _ _ _ _ _ _ _ _ _ _ _ _ _ _ _ _ _ _ _ _ _ _ _ _ _ _ _ _ _ _ _ _ _ _ _ _ _ _ _ _ _ _ _ _ _ _ _ _ _ _ _ _ _ _ _ _ _ _ _ _ _ _ _ _ _ _ _ _ _ _ _ _ _ _ _ _ _ _ _ _ _ _ _ _ _ _ _ _ _ _ _ _ _ _ _ _ _ _ _ _ _ _ _ _ _ _ _ _ _ _ _ _ _ _ _ _ _ _ _ _ _ _ _ _ _ _ _ _ _ _ _ _ _ _ _ _ _ _ _ _ _ _ _ _ _ _ _ _ _ _ _ _ _ _ _ _ _ _ _ _ _ _ _ _ _ _ _ _ _ _ _ _ _ _ _ _ _ _ _ _ _
  · have hd : decide ((i : Int) > 0) = true := decide_eq_true (by omega)
    have lt13z := X13.out.lt
    have lt19z := X19.out.lt
    have fz19z := X19.out.frozen
    obtain ⟨y0, y1, y2, y3, y4, y5, y6, y7⟩ := X19.out.2 3 (by decide)
    simp only [Nat.reduceMul, Nat.reduceAdd] at y0 y1 y2 y3 y4 y5 y6 y7
    go_upto_region 36 with fail
    have Z19 := Lib.hid ((X19.out.setIns 3 ⟨22, false, false, 8, 0, 10, 8 * (i : Int) - 256 - 4, 0⟩ (by decide)).congr (d := codeH (8 * (i : Int) - 256) dd r t) (fun x hx => by match x, hx with | 0, _ => rfl | 1, _ => rfl | 2, _ => rfl | 3, _ => rfl | 4, _ => rfl | 5, _ => rfl))
    have INZ := Lib.hid (setIns_fr w14 g19 3 ⟨22, false, false, 8, 0, 10, 8 * (i : Int) - 256 - 4, 0⟩)
    have Z13 := Lib.hid (X13.out.fr INZ.out (by omega))
    have ZF := Lib.hid (XF.out.fresh INZ.out (fun x hx => by omega))
    clear y0 y1 y2 y3 y4 y5 y6 y7 fz19z
    have hiz : infoZero = #[.int .i64 0, .slice none 0 0, .slice none 0 0, .slice none 0 0] := rfl
    have hch := Lib.hid (callH (8 * (i : Int) - 256) dd i r hr (by omega) (by omega) rfl hi t (by omega) ht 0 (by decide) (fun _ => 1) g19 c19 _ _ Z19.out (rowAt_nil _ _))
    go_wp2_with fail
    refine hch.out.mono ?_
    rintro e w15 ⟨rfl, hF15⟩
    have A13 := Lib.hid ((Z13.out.fr hF15 (fun h => h)).fr ((Fr.refl (fun _ => False) w15).alloc (.cells #[.int .i64 0, .slice none 0 0, .slice none 0 0, .slice none 0 0] 31)) (fun h => h))
    have A19 := Lib.hid ((Z19.out.fr hF15 (fun h => h)).fr ((Fr.refl (fun _ => False) w15).alloc (.cells #[.int .i64 0, .slice none 0 0, .slice none 0 0, .slice none 0 0] 31)) (fun h => h))
    have AF := Lib.hid ((ZF.out.trans hF15).alloc (.cells #[.int .i64 0, .slice none 0 0, .slice none 0 0, .slice none 0 0] 31))
    clear hF15 hch Z13 Z19 ZF INZ
    go_upto_region 39 with fail
    obtain ⟨w16, hw16⟩ : ∃ w16, w16 = w15.alloc (.cells #[.int .i64 0, .slice none 0 0, .slice none 0 0, .slice none 0 0] 31) := ⟨_, rfl⟩
    rw [← hw16] at A13 A19 AF ⊢
    clear hw16
    have la13 := A13.out.lt
    have la19 := A19.out.lt
    have fa19 := A19.out.frozen
    obtain ⟨y0, y1, y2, y3, y4, y5, y6, y7⟩ := A19.out.2 3 (by decide)
    simp only [Nat.reduceMul, Nat.reduceAdd] at y0 y1 y2 y3 y4 y5 y6 y7
    have B13 := Lib.hid (A13.out.fr (setIns_fr w16 g19 3 ⟨22, false, false, s, 0, 10, 8 * (i : Int) - 256 + (o : Int), 0⟩) (by omega))
    have BF := Lib.hid (AF.out.fresh (setIns_fr w16 g19 3 ⟨22, false, false, s, 0, 10, 8 * (i : Int) - 256 + (o : Int), 0⟩) (fun x hx => by omega))
    go_upto_region 40 with fail
    obtain ⟨w17, hw17⟩ : ∃ w17, w17 = ((((((((w16.setCell ⟨g19, 24, none⟩ (.int .i64 22)).setCell ⟨g19, 25, none⟩ (.bool false)).setCell ⟨g19, 26, none⟩ (.bool false)).setCell ⟨g19, 27, none⟩ (.int .i64 s)).setCell ⟨g19, 28, none⟩ (.int .i64 0)).setCell ⟨g19, 29, none⟩ (.int .i64 10)).setCell ⟨g19, 30, none⟩ (.int .i64 (8 * (i : Int) - 256 + (o : Int)))).setCell ⟨g19, 31, none⟩ (.int .i64 0)) := ⟨_, rfl⟩
    have hset : setIns w16 g19 3 ⟨22, false, false, s, 0, 10, 8 * (i : Int) - 256 + (o : Int), 0⟩ = w17 := by rw [hw17]; rfl
    rw [hset] at B13 BF
    rw [← hw17]
    clear hset hw17 y0 y1 y2 y3 y4 y5 y6 y7
    rename_i hk
    exact tail40 a3 w w17 i dd r x6 g13 er22 hd1 hr hx6 hX6 her22 B13 BF _ hk _ _ _ _ _ _ _ _ _ _ _ _ _ _ _ _ _ _ _ _ _ _ _ _ _ _ _ _ _ _ _ _ _ _ _ _ _ _ _ _ _ _ _ _ _ _ _ _ _ _ _ _ _ _ _ _ _ _ _ _ _ _ _ _ _ _ _ _ _ _ _ _ _ _ _ _ _ _ _ _ _ _ _ _ _ _ _ _ _ _ _ _ _ _ _ _ _ _ _ _ _ _ _ _ _ _ _ _ _ _ _ _ _ _ _ _ _ _ _ _ _ _ _ _ _ _ _ _ _ _ _ _ _ _ _ _ _ _ _ _ _ _ _ _ _ _ _ _ _ _ _ _ _ _ _ _ _ _ _ _ _ _ _ _ _ _ _ _ _ _ _ _ _ _ _ _ _ _ _ _ _ _ _ _ _ _ _ _ _ _ _ _ _ _ _ _ _ _ _ _ _ _ _ _ _ _ _ _ _ _ _ _ _ _ _ _ _ _ _ _ _ _ _ _ _ _ _ _ _ _ _ _ _ _ _ _ _ _ _ _ _

end Go.Proofs.YtkhbjhmhdlmmfaaGreat
