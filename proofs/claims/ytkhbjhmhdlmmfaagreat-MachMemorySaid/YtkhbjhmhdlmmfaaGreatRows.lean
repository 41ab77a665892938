/-
  No cell of these rows narrows 'for every input' (looked for: loops, veiled, ifaces, maps, wideKeys, modest, calm, conditions, laid).
  DERIVED. THE GIVEN ROWS OF THIS SEAT. 4 by the template 'for every input the law returns true; each argument reads behind the call as it read before'; 0 by the template 'total and deterministic' (their statements: YtkhbjhmhdlmmfaaGreatTotals.lean).
  GIVEN WITH THE SEED: the statements are not yours to turn. If you find one false, say at which input.
  Laid BY PROGRAM, IN A SANDBOX (cutbox-rows.mjs): the forced cells as the released guide's own fill.sh prints them over the translation 1d7c979909a9802c… (all of the seat's roots in one cut). By AI agents, Wed Nov 11 2026. No macro, syntax, notation, axiom, sorry.
-/
import Derived.Test.YtkhbjhmhdlmmfaaGreatChecked
import GoSem.Claim
import GoSem.ClaimJoined
import GoSem.ClaimMapViews
import Derived.JoinedTies
import Derived.KernelRfl
namespace Go.Proofs.YtkhbjhmhdlmmfaaGreat
/- THE CELL 'sum', in the pinned program and in every row, IS THE sha256 OF THE DUMP (.gsa) THAT YtkhbjhmhdlmmfaaGreatProg.lean LOADS. Nothing in Lean hashes anything: it is a label: what it is worth is what the hold of that sum in a sandbox is worth. -/
noncomputable def Tryz.pinned : Pinned := { name := "ytkhbjhmhdlmmfaagreat", sum := "1d7c979909a9802cf6b062ba9c7e625f3ce836ff51e70c86e0256aa03b3037de", checked := Tryz.checked }
namespace Rows
def none {H : Type} : Left H := { results := [], args := [] }

/-- 'warrantlaw08.MachMemory': WHATEVER THE INPUT: true; the input reads as it did. -/
def machMemorySpec : ChangeSpec := { name := "machMemory", fn := fun _ => fun
  | [d1, d2, d3, d4, d5] => { results := [.lit (.bool true)], args := [d1, d2, d3, d4, d5] }
  | _ => none }
def machMemoryRow : OpenClaim := { program := "ytkhbjhmhdlmmfaagreat", sum := "1d7c979909a9802cf6b062ba9c7e625f3ce836ff51e70c86e0256aa03b3037de", func := "warrant/warrantlaw08.MachMemory", spec := "machMemory", inPlace := ["sync/atomic.LoadUint32", "(*internal/sync.Mutex).Lock", "internal/race.Disable", "sync/atomic.CompareAndSwapInt32", "internal/race.Enable", "internal/race.Acquire", "(*internal/sync.Mutex).lockSlow", "internal/sync.runtime_canSpin", "internal/sync.runtime_doSpin", "internal/sync.throw", "internal/sync.runtime_nanotime", "internal/sync.runtime_SemacquireMutex", "sync/atomic.AddInt32", "(*internal/sync.Mutex).Unlock", "internal/race.ReleaseMerge", "(*internal/sync.Mutex).unlockSlow", "internal/sync.fatal", "internal/sync.runtime_Semrelease", "sync/atomic.StoreUint32", "internal/bytealg.Compare", "internal/bytealg.IndexByte"], unfollowed := true, recurses := true, apart := false }
def MachMemorySaid : Prop := machMemoryRow.holds Tryz.pinned (OpenSpec.ofChange machMemorySpec)

/-- ITS FALSE NEIGHBOUR: 'it returns false'. Refute it at one input. -/
def machMemoryWrong : ChangeSpec := { name := "machMemory", fn := fun _ => fun
  | [d1, d2, d3, d4, d5] => { results := [.lit (.bool false)], args := [d1, d2, d3, d4, d5] }
  | _ => none }
def MachMemoryWrongFalsely : Prop := machMemoryRow.holds Tryz.pinned (OpenSpec.ofChange machMemoryWrong)

/-- 'warrantlaw08.MachSends': WHATEVER THE INPUT: true; the input reads as it did. -/
def machSendsSpec : ChangeSpec := { name := "machSends", fn := fun _ => fun
  | [d1, d2] => { results := [.lit (.bool true)], args := [d1, d2] }
  | _ => none }
def machSendsRow : OpenClaim := { program := "ytkhbjhmhdlmmfaagreat", sum := "1d7c979909a9802cf6b062ba9c7e625f3ce836ff51e70c86e0256aa03b3037de", func := "warrant/warrantlaw08.MachSends", spec := "machSends", inPlace := ["sync/atomic.LoadUint32", "(*internal/sync.Mutex).Lock", "internal/race.Disable", "sync/atomic.CompareAndSwapInt32", "internal/race.Enable", "internal/race.Acquire", "(*internal/sync.Mutex).lockSlow", "internal/sync.runtime_canSpin", "internal/sync.runtime_doSpin", "internal/sync.throw", "internal/sync.runtime_nanotime", "internal/sync.runtime_SemacquireMutex", "sync/atomic.AddInt32", "(*internal/sync.Mutex).Unlock", "internal/race.ReleaseMerge", "(*internal/sync.Mutex).unlockSlow", "internal/sync.fatal", "internal/sync.runtime_Semrelease", "sync/atomic.StoreUint32", "internal/bytealg.Compare", "internal/bytealg.IndexByte"], unfollowed := true, recurses := true, apart := false }
def MachSendsSaid : Prop := machSendsRow.holds Tryz.pinned (OpenSpec.ofChange machSendsSpec)

/-- ITS FALSE NEIGHBOUR: 'it returns false'. Refute it at one input. -/
def machSendsWrong : ChangeSpec := { name := "machSends", fn := fun _ => fun
  | [d1, d2] => { results := [.lit (.bool false)], args := [d1, d2] }
  | _ => none }
def MachSendsWrongFalsely : Prop := machSendsRow.holds Tryz.pinned (OpenSpec.ofChange machSendsWrong)

/-- 'warrantlaw08.MachPointers': WHATEVER THE INPUT: true; the input reads as it did. -/
def machPointersSpec : ChangeSpec := { name := "machPointers", fn := fun _ => fun
  | [d1, d2, d3, d4] => { results := [.lit (.bool true)], args := [d1, d2, d3, d4] }
  | _ => none }
def machPointersRow : OpenClaim := { program := "ytkhbjhmhdlmmfaagreat", sum := "1d7c979909a9802cf6b062ba9c7e625f3ce836ff51e70c86e0256aa03b3037de", func := "warrant/warrantlaw08.MachPointers", spec := "machPointers", inPlace := ["sync/atomic.LoadUint32", "(*internal/sync.Mutex).Lock", "internal/race.Disable", "sync/atomic.CompareAndSwapInt32", "internal/race.Enable", "internal/race.Acquire", "(*internal/sync.Mutex).lockSlow", "internal/sync.runtime_canSpin", "internal/sync.runtime_doSpin", "internal/sync.throw", "internal/sync.runtime_nanotime", "internal/sync.runtime_SemacquireMutex", "sync/atomic.AddInt32", "(*internal/sync.Mutex).Unlock", "internal/race.ReleaseMerge", "(*internal/sync.Mutex).unlockSlow", "internal/sync.fatal", "internal/sync.runtime_Semrelease", "sync/atomic.StoreUint32", "internal/bytealg.Compare", "internal/bytealg.IndexByte"], unfollowed := true, recurses := true, apart := false }
def MachPointersSaid : Prop := machPointersRow.holds Tryz.pinned (OpenSpec.ofChange machPointersSpec)

/-- ITS FALSE NEIGHBOUR: 'it returns false'. Refute it at one input. -/
def machPointersWrong : ChangeSpec := { name := "machPointers", fn := fun _ => fun
  | [d1, d2, d3, d4] => { results := [.lit (.bool false)], args := [d1, d2, d3, d4] }
  | _ => none }
def MachPointersWrongFalsely : Prop := machPointersRow.holds Tryz.pinned (OpenSpec.ofChange machPointersWrong)

/-- 'warrantlaw08.MachHelps': WHATEVER THE INPUT: true; the input reads as it did. -/
def machHelpsSpec : ChangeSpec := { name := "machHelps", fn := fun _ => fun
  | [d1, d2, d3, d4, d5] => { results := [.lit (.bool true)], args := [d1, d2, d3, d4, d5] }
  | _ => none }
def machHelpsRow : OpenClaim := { program := "ytkhbjhmhdlmmfaagreat", sum := "1d7c979909a9802cf6b062ba9c7e625f3ce836ff51e70c86e0256aa03b3037de", func := "warrant/warrantlaw08.MachHelps", spec := "machHelps", inPlace := ["sync/atomic.LoadUint32", "(*internal/sync.Mutex).Lock", "internal/race.Disable", "sync/atomic.CompareAndSwapInt32", "internal/race.Enable", "internal/race.Acquire", "(*internal/sync.Mutex).lockSlow", "internal/sync.runtime_canSpin", "internal/sync.runtime_doSpin", "internal/sync.throw", "internal/sync.runtime_nanotime", "internal/sync.runtime_SemacquireMutex", "sync/atomic.AddInt32", "(*internal/sync.Mutex).Unlock", "internal/race.ReleaseMerge", "(*internal/sync.Mutex).unlockSlow", "internal/sync.fatal", "internal/sync.runtime_Semrelease", "sync/atomic.StoreUint32", "internal/bytealg.Compare", "internal/bytealg.IndexByte"], unfollowed := true, recurses := true, apart := false }
def MachHelpsSaid : Prop := machHelpsRow.holds Tryz.pinned (OpenSpec.ofChange machHelpsSpec)

/-- ITS FALSE NEIGHBOUR: 'it returns false'. Refute it at one input. -/
def machHelpsWrong : ChangeSpec := { name := "machHelps", fn := fun _ => fun
  | [d1, d2, d3, d4, d5] => { results := [.lit (.bool false)], args := [d1, d2, d3, d4, d5] }
  | _ => none }
def MachHelpsWrongFalsely : Prop := machHelpsRow.holds Tryz.pinned (OpenSpec.ofChange machHelpsWrong)

/- THE SECOND FORM. 'bulk': how many values and letters a reading holds, each counted each time it is reached (what is shared counts as often as it is met; a slice's spare places count too). A statement '..UptoSaid' is the law's where the arguments, and the package variables that the reading takes, are together of bulk at most 1048576: NARROWER than '..Said'. Prove '..Said' where nothing that the law and all that it calls make is longer than what came in: it says more and counts as full. Else prove '..UptoSaid'. A law counts once. -/
mutual
def uptoBulk {H : Type} : DataW H → Nat
  | .lit (.string bytes) => bytes.length + 1
  | .lit _ => 1
  | .nil => 1
  | .ptr d => uptoBulk d + 1
  | .slice elems spare => uptoBulkAll elems + uptoBulkAll spare + 1
  | .agg parts => uptoBulkAll parts + 1
  | .iface _ d => uptoBulk d + 1
  | .map entries => uptoBulkEntries entries + 1
  | .held _ => 1
def uptoBulkAll {H : Type} : List (DataW H) → Nat
  | [] => 0
  | d :: r => uptoBulk d + uptoBulkAll r
def uptoBulkEntries {H : Type} : List (Lit × DataW H) → Nat
  | [] => 0
  | x :: r => uptoBulkEntry x + uptoBulkEntries r
def uptoBulkEntry {H : Type} : Lit × DataW H → Nat
  | (.string bytes, d) => bytes.length + uptoBulk d + 1
  | (_, d) => uptoBulk d + 1
 end
def uptoSmall : (H : Type) → List (DataW H) → Bool := fun _ ds => decide (uptoBulkAll ds ≤ 1048576)
def OpenSpec.upto (s : _root_.Go.ChangeSpec) : _root_.Go.OpenSpec := { _root_.Go.OpenSpec.ofChange s with cond := some uptoSmall }

/-- 'warrantlaw08.MachMemory', WHERE WHAT IT READS IS OF BULK AT MOST 1048576: true; the input reads as it did. -/
def machMemoryUptoRow : OpenClaim := { program := "ytkhbjhmhdlmmfaagreat", sum := "1d7c979909a9802cf6b062ba9c7e625f3ce836ff51e70c86e0256aa03b3037de", func := "warrant/warrantlaw08.MachMemory", spec := "machMemory", inPlace := ["sync/atomic.LoadUint32", "(*internal/sync.Mutex).Lock", "internal/race.Disable", "sync/atomic.CompareAndSwapInt32", "internal/race.Enable", "internal/race.Acquire", "(*internal/sync.Mutex).lockSlow", "internal/sync.runtime_canSpin", "internal/sync.runtime_doSpin", "internal/sync.throw", "internal/sync.runtime_nanotime", "internal/sync.runtime_SemacquireMutex", "sync/atomic.AddInt32", "(*internal/sync.Mutex).Unlock", "internal/race.ReleaseMerge", "(*internal/sync.Mutex).unlockSlow", "internal/sync.fatal", "internal/sync.runtime_Semrelease", "sync/atomic.StoreUint32", "internal/bytealg.Compare", "internal/bytealg.IndexByte"], unfollowed := true, recurses := true, apart := false, narrowed := true }
def MachMemoryUptoSaid : Prop := machMemoryUptoRow.holds Tryz.pinned (OpenSpec.upto machMemorySpec)

/-- 'warrantlaw08.MachSends', WHERE WHAT IT READS IS OF BULK AT MOST 1048576: true; the input reads as it did. -/
def machSendsUptoRow : OpenClaim := { program := "ytkhbjhmhdlmmfaagreat", sum := "1d7c979909a9802cf6b062ba9c7e625f3ce836ff51e70c86e0256aa03b3037de", func := "warrant/warrantlaw08.MachSends", spec := "machSends", inPlace := ["sync/atomic.LoadUint32", "(*internal/sync.Mutex).Lock", "internal/race.Disable", "sync/atomic.CompareAndSwapInt32", "internal/race.Enable", "internal/race.Acquire", "(*internal/sync.Mutex).lockSlow", "internal/sync.runtime_canSpin", "internal/sync.runtime_doSpin", "internal/sync.throw", "internal/sync.runtime_nanotime", "internal/sync.runtime_SemacquireMutex", "sync/atomic.AddInt32", "(*internal/sync.Mutex).Unlock", "internal/race.ReleaseMerge", "(*internal/sync.Mutex).unlockSlow", "internal/sync.fatal", "internal/sync.runtime_Semrelease", "sync/atomic.StoreUint32", "internal/bytealg.Compare", "internal/bytealg.IndexByte"], unfollowed := true, recurses := true, apart := false, narrowed := true }
def MachSendsUptoSaid : Prop := machSendsUptoRow.holds Tryz.pinned (OpenSpec.upto machSendsSpec)

/-- 'warrantlaw08.MachPointers', WHERE WHAT IT READS IS OF BULK AT MOST 1048576: true; the input reads as it did. -/
def machPointersUptoRow : OpenClaim := { program := "ytkhbjhmhdlmmfaagreat", sum := "1d7c979909a9802cf6b062ba9c7e625f3ce836ff51e70c86e0256aa03b3037de", func := "warrant/warrantlaw08.MachPointers", spec := "machPointers", inPlace := ["sync/atomic.LoadUint32", "(*internal/sync.Mutex).Lock", "internal/race.Disable", "sync/atomic.CompareAndSwapInt32", "internal/race.Enable", "internal/race.Acquire", "(*internal/sync.Mutex).lockSlow", "internal/sync.runtime_canSpin", "internal/sync.runtime_doSpin", "internal/sync.throw", "internal/sync.runtime_nanotime", "internal/sync.runtime_SemacquireMutex", "sync/atomic.AddInt32", "(*internal/sync.Mutex).Unlock", "internal/race.ReleaseMerge", "(*internal/sync.Mutex).unlockSlow", "internal/sync.fatal", "internal/sync.runtime_Semrelease", "sync/atomic.StoreUint32", "internal/bytealg.Compare", "internal/bytealg.IndexByte"], unfollowed := true, recurses := true, apart := false, narrowed := true }
def MachPointersUptoSaid : Prop := machPointersUptoRow.holds Tryz.pinned (OpenSpec.upto machPointersSpec)

/-- 'warrantlaw08.MachHelps', WHERE WHAT IT READS IS OF BULK AT MOST 1048576: true; the input reads as it did. -/
def machHelpsUptoRow : OpenClaim := { program := "ytkhbjhmhdlmmfaagreat", sum := "1d7c979909a9802cf6b062ba9c7e625f3ce836ff51e70c86e0256aa03b3037de", func := "warrant/warrantlaw08.MachHelps", spec := "machHelps", inPlace := ["sync/atomic.LoadUint32", "(*internal/sync.Mutex).Lock", "internal/race.Disable", "sync/atomic.CompareAndSwapInt32", "internal/race.Enable", "internal/race.Acquire", "(*internal/sync.Mutex).lockSlow", "internal/sync.runtime_canSpin", "internal/sync.runtime_doSpin", "internal/sync.throw", "internal/sync.runtime_nanotime", "internal/sync.runtime_SemacquireMutex", "sync/atomic.AddInt32", "(*internal/sync.Mutex).Unlock", "internal/race.ReleaseMerge", "(*internal/sync.Mutex).unlockSlow", "internal/sync.fatal", "internal/sync.runtime_Semrelease", "sync/atomic.StoreUint32", "internal/bytealg.Compare", "internal/bytealg.IndexByte"], unfollowed := true, recurses := true, apart := false, narrowed := true }
def MachHelpsUptoSaid : Prop := machHelpsUptoRow.holds Tryz.pinned (OpenSpec.upto machHelpsSpec)

end Rows
end Go.Proofs.YtkhbjhmhdlmmfaaGreat
