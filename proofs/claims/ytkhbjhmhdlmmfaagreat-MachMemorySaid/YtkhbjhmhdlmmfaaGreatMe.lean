/- Walks: the law on memory, its last part. -/
import Derived.Test.YtkhbjhmhdlmmfaaGreatMd
import Derived.Deep.DeepCutAuto
import Derived.Deep.RegionHeld3
namespace Go.Proofs.YtkhbjhmhdlmmfaaGreat
open Go.RowKit

theorem rowAt_frS {S : Nat → Prop} {w w' : World} {g n c : Nat} {xs : List Value} (h : RowAt w (.slice (some ⟨g, 0, none⟩) n c) n xs) (hf : Fr S w w') (hS : ¬ S g) : RowAt w' (.slice (some ⟨g, 0, none⟩) n c) n xs := by
  rcases h with ⟨_, _, h⟩ | ⟨a, c', hv, hx⟩
  · cases h
  · cases hv
    refine .inr ⟨_, _, rfl, fun j u hu => ?_⟩
    have h0 := hx j u hu
    rw [Addr.add_lit] at h0 ⊢
    exact cell_fr h0 hf hS

set_option maxRecDepth 100000 in
set_option maxHeartbeats 4000000 in
theorem mem25 (v : Int) (w wc : World) (k s m g0 c0 g18 : Nat) (op : Int) (f : Nat → Int) (hk : k = 1 ∨ k = 2 ∨ k = 4 ∨ k = 8) (hm8 : 8 ≤ m) (hm3 : m ≤ 300) (hop : k = 8 ∧ op = 22 ∨ (k = 1 ∨ k = 2 ∨ k = 4) ∧ op = 23) (hs : s + k ≤ 256) (R18 : Hid (CodeRow wc g18 4 (codeN v k op ((s : Int) - 256) ((s : Int) - 256)))) (RX : Hid (RowAt wc (.slice (some ⟨g0, 0, none⟩) m c0) m (bytesL f m))) (HF : Hid (Fr (fun _ => False) w wc)) (hw18 : w.heap.size ≤ g18) (hg18 : g0 ≠ g18) (K : Act → World → Prop) (hKK : ∀ a w', Code.wp Tryz.prog (tailM 19) (bodyPost Tryz.prog Tryz.f3 (PostP w)) a w' → K a w')
    (u1 u2 u3 u4 u5 u6 u7 u8 u9 u12 u13 u14 u15 u16 u19 u20 u21 u22 u23 u24 u25 u26 u27 u28 u29 u30 u31 u32 u33 u34 u35 u36 u37 u38 u39 u40 u41 u42 u43 u44 u45 u46 u47 u48 u49 u50 u51 u52 u53 u54 u55 u56 u57 u58 u59 u60 u61 u62 u63 u64 u65 u66 u67 u68 u69 u70 u71 u72 u73 u74 u75 u76 u77 u78 u79 u80 u81 u82 u83 u84 u85 u86 u87 u88 u89 u90 u91 u92 u93 u94 u95 u96 u97 u98 u99 u100 u101 u102 u103 u104 u105 u106 u107 u108 u109 u110 u111 u112 u113 u114 u115 u116 u117 u118 u119 u120 u121 u122 u123 u124 u125 u126 u127 u128 u129 u130 u131 u132 u133 u134 u135 u136 u137 u138 u139 u140 u141 u142 u143 u144 u145 u146 u147 u148 u149 u150 u151 u152 u153 u154 u155 u156 u157 u158 u159 u160 u161 u162 u163 u164 u165 u166 u167 u168 u169 u170 u171 u172 u173 u174 u175 u176 : Value) :
    Code.wp Tryz.prog (headM 18) (Exit.then K (bodyPost Tryz.prog Tryz.f3 (PostP w))) ⟨List.toArray (.slice (some ⟨g0, 0, none⟩) m c0 :: u1 :: u2 :: u3 :: u4 :: u5 :: u6 :: u7 :: u8 :: u9 :: .bool false :: .int .i64 k :: u12 :: u13 :: u14 :: u15 :: u16 :: .int .i64 s :: .slice (some ⟨g18, 0, none⟩) 4 4 :: u19 :: u20 :: u21 :: u22 :: u23 :: u24 :: u25 :: u26 :: u27 :: u28 :: u29 :: u30 :: u31 :: u32 :: u33 :: u34 :: u35 :: u36 :: u37 :: u38 :: u39 :: u40 :: u41 :: u42 :: u43 :: u44 :: u45 :: u46 :: u47 :: u48 :: u49 :: u50 :: u51 :: u52 :: u53 :: u54 :: u55 :: u56 :: u57 :: u58 :: u59 :: u60 :: u61 :: u62 :: u63 :: u64 :: u65 :: u66 :: u67 :: u68 :: u69 :: u70 :: u71 :: u72 :: u73 :: u74 :: u75 :: u76 :: u77 :: u78 :: u79 :: u80 :: u81 :: u82 :: u83 :: u84 :: u85 :: u86 :: u87 :: u88 :: u89 :: u90 :: u91 :: u92 :: u93 :: u94 :: u95 :: u96 :: u97 :: u98 :: u99 :: u100 :: u101 :: u102 :: u103 :: u104 :: u105 :: u106 :: u107 :: u108 :: u109 :: u110 :: u111 :: u112 :: u113 :: u114 :: u115 :: u116 :: u117 :: u118 :: u119 :: u120 :: u121 :: u122 :: u123 :: u124 :: u125 :: u126 :: u127 :: u128 :: u129 :: u130 :: u131 :: u132 :: u133 :: u134 :: u135 :: u136 :: u137 :: u138 :: u139 :: u140 :: u141 :: u142 :: u143 :: u144 :: u145 :: u146 :: u147 :: u148 :: u149 :: u150 :: u151 :: u152 :: u153 :: u154 :: u155 :: u156 :: u157 :: u158 :: u159 :: u160 :: u161 :: u162 :: u163 :: u164 :: u165 :: u166 :: u167 :: u168 :: u169 :: u170 :: u171 :: u172 :: u173 :: u174 :: u175 :: u176 :: []), []⟩ (wc) := by
  conv => arg 2; whnf
  conv at hKK => enter [a, w', 1, 2]; whnf
  have lt18 := R18.out.lt
  have fz18 := R18.out.frozen
  obtain ⟨_, _, _, _, _, _, y6, _⟩ := R18.out.2 2 (by decide)
  simp only [Nat.reduceMul, Nat.reduceAdd] at y6
  have hk1 : 1 ≤ k := by omega
  have hk8 : k ≤ 8 := by omega
  have hiz : infoZero = #[.int .i64 0, .slice none 0 0, .slice none 0 0, .slice none 0 0] := rfl
  have E18 := Lib.hid ((R18.out.setOff 2 ((s : Int) - 257) (by decide)).congr (d := codeN v k op ((s : Int) - 256) ((s : Int) - 257)) (fun x hx => by match x, hx with | 0, _ => rfl | 1, _ => rfl | 2, _ => rfl | 3, _ => rfl))
  have SF := Lib.hid ((Fr.refl (fun x => x = g18) wc).setCell ⟨g18, 2 * 8 + 6, none⟩ (.int .i64 ((s : Int) - 257)) (.inl rfl))
  have EX := Lib.hid (rowAt_frS RX.out SF.out (fun h => hg18 h))
  have EF := Lib.hid (HF.out.fresh SF.out (fun x hx => by omega))
  by_cases hs0 : s = 0
  · subst hs0
    have E18b := Lib.hid ((E18.out.setOff 2 1 (by decide)).congr (d := codeN v k op (((0 : Nat) : Int) - 256) 1) (fun x hx => by match x, hx with | 0, _ => rfl | 1, _ => rfl | 2, _ => rfl | 3, _ => rfl))
    have SFb := Lib.hid ((Fr.refl (fun x => x = g18) (wc.setCell ⟨g18, 2 * 8 + 6, none⟩ (.int .i64 (((0 : Nat) : Int) - 257)))).setCell ⟨g18, 2 * 8 + 6, none⟩ (.int .i64 1) (.inl rfl))
    have EXb := Lib.hid (rowAt_frS EX.out SFb.out (fun h => hg18 h))
    have EFb := Lib.hid (EF.out.fresh SFb.out (fun x hx => by omega))
    have hcall := Lib.hid (callMF v k hk op hop m (by omega) f g18 4 _ _ E18b.out EXb.out)
    go_wp2_with fail
    refine hcall.out.mono ?_
    rintro e w1 ⟨rfl, hF1⟩
    have HF1 := Lib.hid (EFb.out.trans hF1)
    clear hF1 hcall
    go_wp2
    go_ret
    exact ⟨rfl, HF1.out⟩
  · have hs0' : ((s : Int) == 0) = false := by rw [beq_eq_false_iff_ne]; omega
    have hsp : (0 : Int) < s := by omega
    have hcall := Lib.hid (callME v k s hk op hop hs (by omega) m (by omega) f g18 4 _ _ E18.out EX.out)
    go_wp2_with fail
    refine hcall.out.mono ?_
    rintro e w1 ⟨rfl, hF1⟩
    have HF1 := Lib.hid (EF.out.trans hF1)
    clear hF1 hcall
    by_cases hsk : (s : Int) + k < 256
    · go_wp2
      go_ret
      exact ⟨rfl, HF1.out⟩
    · go_wp2
      go_ret
      exact ⟨rfl, HF1.out⟩


end Go.Proofs.YtkhbjhmhdlmmfaaGreat
