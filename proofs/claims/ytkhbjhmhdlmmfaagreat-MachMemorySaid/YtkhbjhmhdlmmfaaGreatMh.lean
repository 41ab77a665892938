/- Walks: the law on memory: what the context is to be. -/
import Derived.Test.YtkhbjhmhdlmmfaaGreatMg
import Derived.Deep.DeepCutAuto
import Derived.Deep.RegionHeld3
namespace Go.Proofs.YtkhbjhmhdlmmfaaGreat
open Go.RowKit

theorem copy_put (gw t k m cw : Nat) (cur : Array Value) (v : Int) (w2 : World) (hcur : w2.heap[gw]? = some (.cells cur 5 (0, 0))) (ht : t + k ≤ m) (hm : m ≤ cur.size) :
    ∃ W : World, (Builtin.copy_ #[22, 22] 3 #[.slice (some ⟨gw, t, none⟩) (m - t) (cw - t), .slice (some ⟨w2.heap.size, 0, none⟩) k k]).run Tryz.prog (w2.alloc (.cells (putArr k v k) 5)).drew = .ok (goInt k) W ∧ W.heap[gw]? = some (.cells (spliced cur t k (byteOf v)) 5 (0, 0)) ∧ Fr (fun x => x = gw) w2 W := by
  have hgl : gw < w2.heap.size := (Array.getElem?_eq_some_iff.1 hcur).1
  have hg : (w2.alloc (.cells (putArr k v k) 5)).drew.heap[gw]? = some (.cells cur 5 (0, 0)) := (Below.heap_alloc w2 _ gw hgl).trans hcur
  have h := run_copy_row (P := Tryz.prog) (w2.alloc (.cells (putArr k v k) 5)).drew 22 22 3 5 gw t (m - t) (cw - t) ⟨w2.heap.size, 0, none⟩ k k cur 5 ((List.range k).map fun j => Value.int .u8 (byteOf v j)) Tryz.underlying22 Tryz.size5 hg (by rw [List.length_map, List.length_range]; exact (Nat.min_eq_left (by omega)).symm)
    (fun j u hj => by
      have hjn : j < k := by simpa using (List.getElem?_eq_some_iff.1 hj).1
      have h1 := heap_alloc_new w2 (.cells (putArr k v k) 5)
      have h2 := putArr_get k v k j hjn
      rw [if_pos hjn] at h2
      rw [Addr.add_lit, Nat.zero_add]
      have h3 : (w2.alloc (.cells (putArr k v k) 5)).drew.cell? ⟨w2.heap.size, j, none⟩ = some (.int .u8 (byteOf v j)) := by
        show (w2.alloc (.cells (putArr k v k) 5)).cell? ⟨w2.heap.size, j, none⟩ = _
        unfold World.cell?
        rw [h1]
        exact h2
      rw [h3]
      simpa [hjn] using hj)
    (by simp; omega) (fun u hu => by obtain ⟨j, _, rfl⟩ := List.mem_map.1 hu; rfl)
  rw [List.length_map, List.length_range] at h
  refine ⟨_, h, ?_, ?_⟩
  · rw [setRow_heap _ gw cur _ 5 _ hg]
    unfold spliced
    simp
  · exact Fr.setRow (((Fr.refl (fun x => x = gw) w2).alloc _).drew) _ _ rfl

set_option maxRecDepth 100000 in
set_option maxHeartbeats 4000000 in
theorem mem12 (a1 v r0 : Int) (w wc : World) (k t m g0 c0 pi c1 m3 c3 : Nat) (p1 p3 : Option Addr) (f : Nat → Int) (hk : k = 1 ∨ k = 2 ∨ k = 4 ∨ k = 8) (hm8 : 8 ≤ m) (hm3 : m ≤ 300) (ht : t + k ≤ m) (hr0 : getF false (byteOf v) k = r0) (RX : Hid (RowAt wc (.slice (some ⟨g0, 0, none⟩) m c0) m (bytesL f m))) (HY : Hid (RowAt wc (.slice p1 m c1) m (bytesL (cxPut f t k v) m))) (HF : Hid (Fr (fun _ => False) w wc)) (HI : Hid (wc.heap[pi]? = some (.cells #[.int .i64 r0, .slice p1 m c1, .slice none 0 0, .slice p3 m3 c3] 31 (0, 0)))) (hwpi : w.heap.size ≤ pi) (hgpi : g0 ≠ pi) (hg0 : g0 < wc.heap.size) (K : Act → World → Prop) (hKK : ∀ a w', Code.wp Tryz.prog (tailM 10) (bodyPost Tryz.prog Tryz.f3 (PostP w)) a w' → K a w')
    (u3 u4 u5 u6 u7 u8 u9 u13 u16 u17 u18 u19 u20 u21 u22 u23 u24 u25 u26 u27 u28 u29 u30 u31 u32 u33 u34 u35 u36 u37 u38 u39 u40 u41 u42 u43 u44 u45 u46 u47 u48 u49 u50 u51 u52 u53 u54 u55 u56 u57 u58 u59 u60 u61 u62 u63 u64 u65 u66 u67 u68 u69 u70 u71 u72 u73 u74 u75 u76 u77 u78 u79 u80 u81 u82 u83 u84 u85 u86 u87 u88 u89 u90 u91 u92 u93 u94 u95 u96 u97 u98 u99 u100 u101 u102 u103 u104 u105 u106 u107 u108 u109 u110 u111 u112 u113 u114 u115 u116 u117 u118 u119 u120 u121 u122 u123 u124 u125 u126 u127 u128 u129 u130 u131 u132 u133 u134 u135 u136 u137 u138 u139 u140 u141 u142 u143 u144 u145 u146 u147 u148 u149 u150 u151 u152 u153 u154 u155 u156 u157 u158 u159 u160 u161 u162 u163 u164 u165 u166 u167 u168 u169 u170 u171 u172 u173 u174 u175 u176 : Value) :
    Code.wp Tryz.prog (headM 9) (Exit.then K (bodyPost Tryz.prog Tryz.f3 (PostP w))) ⟨List.toArray (.slice (some ⟨g0, 0, none⟩) m c0 :: .int .i64 a1 :: .int .i64 v :: u3 :: u4 :: u5 :: u6 :: u7 :: u8 :: u9 :: .bool false :: .int .i64 k :: .int .i64 t :: u13 :: .pointer (some ⟨pi, 0, none⟩) :: .int .i64 0 :: u16 :: u17 :: u18 :: u19 :: u20 :: u21 :: u22 :: u23 :: u24 :: u25 :: u26 :: u27 :: u28 :: u29 :: u30 :: u31 :: u32 :: u33 :: u34 :: u35 :: u36 :: u37 :: u38 :: u39 :: u40 :: u41 :: u42 :: u43 :: u44 :: u45 :: u46 :: u47 :: u48 :: u49 :: u50 :: u51 :: u52 :: u53 :: u54 :: u55 :: u56 :: u57 :: u58 :: u59 :: u60 :: u61 :: u62 :: u63 :: u64 :: u65 :: u66 :: u67 :: u68 :: u69 :: u70 :: u71 :: u72 :: u73 :: u74 :: u75 :: u76 :: u77 :: u78 :: u79 :: u80 :: u81 :: u82 :: u83 :: u84 :: u85 :: u86 :: u87 :: u88 :: u89 :: u90 :: u91 :: u92 :: u93 :: u94 :: u95 :: u96 :: u97 :: u98 :: u99 :: u100 :: u101 :: u102 :: u103 :: u104 :: u105 :: u106 :: u107 :: u108 :: u109 :: u110 :: u111 :: u112 :: u113 :: u114 :: u115 :: u116 :: u117 :: u118 :: u119 :: u120 :: u121 :: u122 :: u123 :: u124 :: u125 :: u126 :: u127 :: u128 :: u129 :: u130 :: u131 :: u132 :: u133 :: u134 :: u135 :: u136 :: u137 :: u138 :: u139 :: u140 :: u141 :: u142 :: u143 :: u144 :: u145 :: u146 :: u147 :: u148 :: u149 :: u150 :: u151 :: u152 :: u153 :: u154 :: u155 :: u156 :: u157 :: u158 :: u159 :: u160 :: u161 :: u162 :: u163 :: u164 :: u165 :: u166 :: u167 :: u168 :: u169 :: u170 :: u171 :: u172 :: u173 :: u174 :: u175 :: u176 :: []), []⟩ (wc) := by
  conv => arg 2; whnf
  conv at hKK => enter [a, w', 1, 2]; whnf
  have hk1 : 1 ≤ k := by omega
  have hk8 : k ≤ 8 := by omega
  have hpil := (Array.getElem?_eq_some_iff.1 HI.out).1
  go_upto_region 13 with (go_at_call 7; refine (copyBytesAt _ m f _ ?_ (by omega)).mono ?_; (exact RX.out); rintro e w2 ⟨pw, cw, rfl, ho2, hF2⟩; (have HO2 := Lib.hid ho2); (have HF2 := Lib.hid hF2); clear ho2 hF2)
  obtain ⟨gw, hpw, hgw, hcw⟩ : ∃ gw, pw = some ⟨gw, 0, none⟩ ∧ wc.heap.size ≤ gw ∧ m ≤ cw := by
    rcases HO2.out.2 with ⟨_, h0⟩ | ⟨g, cap, cur, hv, hb, hg, hnc, _⟩
    · omega
    · cases hv; exact ⟨g, rfl, hb, hnc⟩
  subst hpw
  obtain ⟨cur, hcur, hcs, htake⟩ : ∃ cur : Array Value, w2.heap[gw]? = some (.cells cur 5 (0, 0)) ∧ cur.size = cw ∧ cur.toList.take m = bytesL f m := by
    rcases HO2.out.2 with ⟨_, h0⟩ | ⟨g, cap, cur, hv, hb, hg, hnc, hmx, hsz, htk⟩
    · omega
    · cases hv; exact ⟨cur, hg, by simpa using hsz, by simpa using htk⟩
  have hCUR := Lib.hid hcur
  have hTK := Lib.hid htake
  have hCS := Lib.hid hcs
  have htI : (0 : Int) ≤ t := by omega
  have htm : (t : Int) ≤ m := by omega
  have htc : (t : Int) < cw := by omega
  have hne : ¬ cw = t := by omega
  have hgl : gw < w2.heap.size := (Array.getElem?_eq_some_iff.1 hcur).1
  have hcx : ∀ j, j < m → cur[j]? = some (.int .u8 (f j)) := fun j hj => by
    have h : (cur.toList.take m)[j]? = (bytesL f m)[j]? := by rw [htake]
    rw [List.getElem?_take, if_pos hj, bytesL_get f m j hj] at h
    simpa using h
  have hs2 := cxPut_arr v hcx ht (by omega)
  obtain ⟨W, hcp, hWh, hWF⟩ := copy_put gw t k m cw cur v w2 hcur ht (by omega)
  have hWF' := hWF
  have hsl := hWF.size
  have hY3 : RowAt W (.slice (some ⟨gw, 0, none⟩) m cw) m (bytesL (cxPut f t k v) m) := .inr ⟨_, _, rfl, fun j u hu => by
    have hj : j < m := by simpa [bytesL] using (List.getElem?_eq_some_iff.1 hu).1
    rw [bytesL_get _ m j hj] at hu
    cases hu
    rw [Addr.add_lit, Nat.zero_add]
    simp [World.cell?, hWh, hs2 j hj]⟩
  have HFW := Lib.hid ((HF.out.trans HF2.out).fresh hWF (fun x hx => by have := HF.out.size; omega))
  have HIW := Lib.hid (heap_fr (heap_fr HI.out HF2.out (fun h => h)) hWF (by omega))
  have HYW := Lib.hid (HY.out.fr (HF2.out.fresh hWF (fun x hx => by omega)))
  have RXW := Lib.hid (rowAt_frS (RX.out.fr HF2.out) hWF (by omega))
  have HY3 := Lib.hid hY3
  clear hWh hWF hWF' hcx hs2 hcur htake hcs hY3
  have hpW : pi < W.heap.size := (Array.getElem?_eq_some_iff.1 HIW.out).1
  go_region_held3 (fun _ => True) (trivial) ((go_at_call 10; refine (put_any k v _ (by omega) (by omega)).mono ?_; rintro e w3 ⟨rfl, rfl⟩))
  clear hcp hne htc htm htI hgl HO2 hCUR hTK hCS
  have HF3 := Lib.hid HFW.out
  have d0 : W.cell? ⟨pi, 0, none⟩ = some (.int .i64 r0) := by simp [World.cell?, HIW.out]
  have d1 : W.cell? ⟨pi, 1, none⟩ = some (.slice p1 m c1) := by simp [World.cell?, HIW.out]
  have HR0 := Lib.hid hr0
  clear hr0
  go_upto_region 14 with fail
  go_region_held3 (fun w' => w'.cell? ⟨pi, 0, none⟩ = some (.int .i64 r0) ∧ w'.cell? ⟨pi, 1, none⟩ = some (.slice p1 m c1)) (simp [go_sem, *])
      (first
        | (go_at_call 10; refine (put_any k v _ (by omega) (by omega)).mono ?_; rintro e w3 ⟨rfl, rfl⟩)
        | (go_at_call 11; refine (get_put false _ k v _ hk1 hk8 ?_).mono ?_; (first | exact heap_alloc_new _ _); rw [HR0.out]; rintro e w4 ⟨rfl, rfl⟩)
        | (go_at_call 12; refine (sameBytes_ok _ _ m (cxPut f t k v) _ ?_ ?_).mono ?_; (repeat (first | with_reducible exact HYW.out | with_reducible refine RowAt.drew ?_ | with_reducible refine rowAt_drewN ?_ _ | with_reducible refine rowAt_alloc ?_ _)); (repeat (first | with_reducible exact HY3.out | with_reducible refine RowAt.drew ?_ | with_reducible refine rowAt_drewN ?_ _ | with_reducible refine rowAt_alloc ?_ _)); rintro e w5 ⟨rfl, rfl⟩)
        | fail)
  have AX : RowAt (W.alloc (.cells (putArr k v k) 5)).drew (.slice (some ⟨g0, 0, none⟩) m c0) m (bytesL f m) := (rowAt_alloc RXW.out (.cells (putArr k v k) 5)).drew
  have AF : Fr (fun _ => False) w (W.alloc (.cells (putArr k v k) 5)).drew := (HFW.out.alloc (.cells (putArr k v k) 5)).drew
  have AI : (W.alloc (.cells (putArr k v k) 5)).drew.heap[pi]? = some (.cells #[.int .i64 r0, .slice p1 m c1, .slice none 0 0, .slice p3 m3 c3] 31 (0, 0)) := (Below.heap_alloc W _ pi hpW).trans HIW.out
  have hzz : wc.heap.size ≤ (W.alloc (.cells (putArr k v k) 5)).drew.heap.size := by
    show wc.heap.size ≤ (W.alloc (.cells (putArr k v k) 5)).heap.size
    have := HF2.out.size
    simp; omega
  have HAX := Lib.hid AX
  have HAF := Lib.hid AF
  have HAI := Lib.hid AI
  clear AX AF AI
  go_upto_region 16 with fail
  rename_i hkk
  exact mem16 a1 v w _ k m g0 c0 pi f _ _ _ _ hk hm8 hm3 HAX HAF HAI hwpi hgpi (by omega) _ hkk _ _ _ _ _ _ _ _ _ _ _ _ _ _ _ _ _ _ _ _ _ _ _ _ _ _ _ _ _ _ _ _ _ _ _ _ _ _ _ _ _ _ _ _ _ _ _ _ _ _ _ _ _ _ _ _ _ _ _ _ _ _ _ _ _ _ _ _ _ _ _ _ _ _ _ _ _ _ _ _ _ _ _ _ _ _ _ _ _ _ _ _ _ _ _ _ _ _ _ _ _ _ _ _ _ _ _ _ _ _ _ _ _ _ _ _ _ _ _ _ _ _ _ _ _ _ _ _ _ _ _ _ _ _ _ _ _ _ _ _ _ _ _ _ _ _ _ _ _ _ _ _ _ _ _ _ _ _ _ _ _ _ _ _ _ _ _ _ _ _ _


end Go.Proofs.YtkhbjhmhdlmmfaaGreat
