/- Walks: SameBytes, of two rows that hold the same bytes. -/
import Derived.Test.YtkhbjhmhdlmmfaaGreatMb
import Derived.Laws.BytesString
import Derived.Laws.Cells
namespace Go.Proofs.YtkhbjhmhdlmmfaaGreat
open Go.RowKit

def textOf (f : Nat → Int) (n : Nat) : ByteArray := ((List.range n).map f).foldl (fun r n => r.push (UInt8.ofNat n.toNat)) ByteArray.empty

theorem run_text (v : Value) (n : Nat) (f : Nat → Int) (w : World) (h : RowAt w v n (bytesL f n)) : (convert 22 9 v).run Tryz.prog w = .ok (.string (textOf f n)) w := by
  rcases h with ⟨rfl, _, rfl⟩ | ⟨a, c, rfl, hx⟩
  · kernel_rfl
  · rw [run_convert_bytes_string w 22 9 5 (some a) n c Tryz.underlying22 Tryz.underlying5 Tryz.underlying9]
    refine run_bytesToString w a n c ((List.range n).map f) ?_
    have := run_loadCells (P := Tryz.prog) (w := w) a n (fun j => .int .u8 (f j)) (fun j hj => hx j _ (bytesL_get f n j hj))
    rw [this, List.map_map]
    rfl

set_option maxRecDepth 100000 in
theorem sameBytes_ok (v v' : Value) (n : Nat) (f : Nat → Int) (w : World) (h : RowAt w v n (bytesL f n)) (h' : RowAt w v' n (bytesL f n)) :
    Calls Tryz.prog 12 #[v, v'] w fun e w' => e = .returned (.bool true) ∧ w = w' := by
  have h1 := run_text v n f w h
  have h2 := run_text v' n f w h'
  clear h h'
  obtain ⟨s, hs⟩ : ∃ s, s = textOf f n := ⟨_, rfl⟩
  rw [← hs] at h1 h2
  clear hs
  go_enter Tryz.func12, Tryz.ntmps12
  go_wp2
  go_ret
  exact ⟨rfl, rfl⟩

end Go.Proofs.YtkhbjhmhdlmmfaaGreat
