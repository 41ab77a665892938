/- Walks: arithmetic. -/
import Derived.Test.YtkhbjhmhdlmmfaaGreatB
namespace Go.Proofs.YtkhbjhmhdlmmfaaGreat
open Go.RowKit

set_option maxHeartbeats 1000000 in
theorem arith_mov_reg (b : Nat) (L : Lay) (m : Mac) (w : World) (hR : RepF w b (mcell L m)) (d s : Nat) (hd : (d : Int) < 11) (hs : (s : Int) < 11) (hk : ((m.reg s).k == 0) = false) (sz off imm : Int) :
    Calls Tryz.prog 40 #[.pointer (some ⟨b, 0, none⟩), .agg #[.int .i64 15, .bool false, .bool true, .int .i64 sz, .int .i64 d, .int .i64 s, .int .i64 off, .int .i64 imm]] w fun e w' =>
      e = .returned (.tuple #[.int .i64 0, .int .i64 0]) ∧ RepF w' b (mcell L (m.setReg d (m.reg s))) ∧ Fr (· = b) w w' := by
  have H := Lib.hid hR
  have hb := hR.lt
  have hf := hR.frozen
  obtain ⟨h0, h1, h2, h3⟩ := hR.reg d (by omega)
  have Hs := Lib.hid (hR.reg s (by omega))
  have hb1 : b < w.heap.size + 1 := by omega
  have hb2 : b < w.heap.size + 1 + 1 := by omega
  have hb3 : b < w.heap.size + 1 + 1 + 1 := by omega
  have hb4 : b < w.heap.size + 1 + 1 + 1 + 1 := by omega
  have hs1 := H.out.setReg d (by omega) (m.reg s)
  have HS := Lib.hid hs1
  clear hR hs1
  go_enter Tryz.func40, Tryz.ntmps40
  go_wp2_with fail
  go_region_held3 (fun w' => w'.cell? ⟨b, 423 + d * 4, none⟩ = some (.int .i64 (m.reg d).k) ∧ w'.cell? ⟨b, 423 + d * 4 + 1, none⟩ = some (.int .i64 (m.reg d).t) ∧ w'.cell? ⟨b, 423 + d * 4 + 2, none⟩ = some (.int .i64 (m.reg d).r) ∧ w'.cell? ⟨b, 423 + d * 4 + 3, none⟩ = some (.int .i64 (m.reg d).x) ∧ w'.cell? ⟨w.heap.size, 0, none⟩ = some (.int .i64 15) ∧ w'.cell? ⟨w.heap.size, 1, none⟩ = some (.bool false) ∧ w'.cell? ⟨w.heap.size, 2, none⟩ = some (.bool true) ∧ w'.cell? ⟨w.heap.size, 3, none⟩ = some (.int .i64 sz) ∧ w'.cell? ⟨w.heap.size, 4, none⟩ = some (.int .i64 d) ∧ w'.cell? ⟨w.heap.size, 5, none⟩ = some (.int .i64 s) ∧ w'.cell? ⟨w.heap.size, 6, none⟩ = some (.int .i64 off) ∧ w'.cell? ⟨w.heap.size, 7, none⟩ = some (.int .i64 imm)) (simp [go_sem, *])
    (first | (go_at_call 56; refine (second_reg b L m _ _ _ _ _ _ s hs _ ?_).mono ?_; (repeat (first | with_reducible exact H.out | with_reducible refine RepF.drew ?_ | with_reducible refine RepF.alloc ?_ _)); rintro e w' ⟨rfl, rfl⟩) | fail)
  all_goals
    go_wp2_with fail
    go_region
    all_goals
      go_wp2
      refine bodyPost_ret (v := .tuple #[.int .i64 0, .int .i64 0]) (by simp [results, Tryz.results40, go_sem]) rfl ⟨rfl, ?_, ?_⟩
      · repeat (first | with_reducible refine RepF.drew ?_ | with_reducible refine RepF.alloc ?_ _)
        exact HS.out
      · repeat (first | with_reducible exact Fr.refl _ _ | with_reducible refine Fr.drew ?_ | with_reducible refine Fr.alloc ?_ _ | with_reducible refine Fr.setCell ?_ _ _ (.inl rfl))

end Go.Proofs.YtkhbjhmhdlmmfaaGreat
