/-
  NARROWER THAN 'FOR EVERY INPUT', by the rows' own cells (each row's printed sentence says how): BatchFull: laid · BatchNone: laid.
  DERIVED. THE GIVEN ROWS OF THIS SEAT. 2 by the template 'for every input the law returns true; each argument reads behind the call as it read before'; 0 by the template 'total and deterministic' (their statements: YtoakmlopjeecoaaGreatDoorTotals.lean).
  GIVEN WITH THE SEED: the statements are not yours to turn. If you find one false, say at which input.
  Laid BY PROGRAM, IN A SANDBOX (cutbox-rows.mjs): the forced cells as the released guide's own fill.sh prints them over the translation 120528e9da385148… (all of the seat's roots in one cut). By AI agents, Wed Nov 11 2026. No macro, syntax, notation, axiom, sorry.
-/
import Derived.Test.YtoakmlopjeecoaaGreatDoorChecked
import GoSem.Claim
import GoSem.ClaimJoined
import GoSem.ClaimMapViews
import Derived.JoinedTies
import Derived.KernelRfl
namespace Go.Proofs.YtoakmlopjeecoaaGreatDoor
/- THE CELL 'sum', in the pinned program and in every row, IS THE sha256 OF THE DUMP (.gsa) THAT YtoakmlopjeecoaaGreatDoorProg.lean LOADS. Nothing in Lean hashes anything: it is a label: what it is worth is what the hold of that sum in a sandbox is worth. -/
noncomputable def Tryz.pinned : Pinned := { name := "ytoakmlopjeecoaagreatdoor", sum := "120528e9da3851485ed1696d659837e136b76435cc762b133e1443d2715c5875", checked := Tryz.checked }
namespace Rows
def none {H : Type} : Left H := { results := [], args := [] }

/- WHAT THE LISTED PACKAGE-LEVEL VARIABLES READ AS WHEN THE CALL BEGINS. Each datum BY PROGRAM (the guide's laid-datum.mjs) off the statement by which the dump's own 'gosem.cut.vars' lays the variable. In a bare row this is a premise. The card (YtoakmlopjeecoaaGreatDoorCards.lean) ties it to the program's text. -/
def laid_radicand_format_known {H : Type} : DataW H := .agg [.agg [.lit (.string []), .lit (.int .i64 0), .lit (.int .i64 0), .lit (.int .i64 0)], .agg [.lit (.string [98, 105, 110, 97, 114, 121, 49, 54]), .lit (.int .i64 16), .lit (.int .i64 11), .lit (.int .i64 5)], .agg [.lit (.string [98, 105, 110, 97, 114, 121, 51, 50]), .lit (.int .i64 32), .lit (.int .i64 24), .lit (.int .i64 8)], .agg [.lit (.string [98, 105, 110, 97, 114, 121, 54, 52]), .lit (.int .i64 64), .lit (.int .i64 53), .lit (.int .i64 11)], .agg [.lit (.string [98, 105, 110, 97, 114, 121, 49, 50, 56]), .lit (.int .i64 128), .lit (.int .i64 113), .lit (.int .i64 15)]]
def laid_radicand_engine_names {H : Type} : DataW H := .agg [.lit (.string []), .lit (.string [114, 101, 115, 116, 111, 114, 105, 110, 103]), .lit (.string [115, 114, 116]), .lit (.string [110, 101, 119, 116, 111, 110]), .lit (.string [103, 111, 108, 100])]
def laid_radicand_batch_flags {H : Type} : DataW H := .agg [.lit (.int .i64 1), .lit (.int .i64 2), .lit (.int .i64 4), .lit (.int .i64 8), .lit (.int .i64 16)]

/-- 'radicandlaw34.BatchFull': WHATEVER THE INPUT: true; the input reads as it did. -/
def batchFullSpec : ChangeSpec := { name := "batchFull", fn := fun _ => fun
  | [d1, d2] => { results := [.lit (.bool true)], args := [d1, d2] }
  | _ => none }
def batchFullRow : OpenClaim := { program := "ytoakmlopjeecoaagreatdoor", sum := "120528e9da3851485ed1696d659837e136b76435cc762b133e1443d2715c5875", func := "radicand/radicandlaw34.BatchFull", spec := "batchFull", inPlace := ["sync/atomic.LoadUint32", "(*internal/sync.Mutex).Lock", "internal/race.Disable", "sync/atomic.CompareAndSwapInt32", "internal/race.Enable", "internal/race.Acquire", "(*internal/sync.Mutex).lockSlow", "internal/sync.runtime_canSpin", "internal/sync.runtime_doSpin", "internal/sync.throw", "internal/sync.runtime_nanotime", "internal/sync.runtime_SemacquireMutex", "sync/atomic.AddInt32", "(*internal/sync.Mutex).Unlock", "internal/race.ReleaseMerge", "(*internal/sync.Mutex).unlockSlow", "internal/sync.fatal", "internal/sync.runtime_Semrelease", "sync/atomic.StoreUint32", "math/bits.Sub64", "math/bits.Add64", "sync/atomic.AddInt64", "sync/atomic.LoadInt64"], unfollowed := true, recurses := true, named := ["radicand/format.known", "radicand/engine.names", "radicand/batch.flags"], apart := false, laid := [("radicand/format.known", laid_radicand_format_known), ("radicand/engine.names", laid_radicand_engine_names), ("radicand/batch.flags", laid_radicand_batch_flags)] }
def BatchFullSaid : Prop := batchFullRow.holds Tryz.pinned (OpenSpec.ofChange batchFullSpec)

/-- ITS FALSE NEIGHBOUR: 'it returns false'. Refute it at one input. -/
def batchFullWrong : ChangeSpec := { name := "batchFull", fn := fun _ => fun
  | [d1, d2] => { results := [.lit (.bool false)], args := [d1, d2] }
  | _ => none }
def BatchFullWrongFalsely : Prop := batchFullRow.holds Tryz.pinned (OpenSpec.ofChange batchFullWrong)

/-- 'radicandlaw34.BatchNone': WHATEVER THE INPUT: true; the input reads as it did. -/
def batchNoneSpec : ChangeSpec := { name := "batchNone", fn := fun _ => fun
  | [d1, d2] => { results := [.lit (.bool true)], args := [d1, d2] }
  | _ => none }
def batchNoneRow : OpenClaim := { program := "ytoakmlopjeecoaagreatdoor", sum := "120528e9da3851485ed1696d659837e136b76435cc762b133e1443d2715c5875", func := "radicand/radicandlaw34.BatchNone", spec := "batchNone", inPlace := ["sync/atomic.LoadUint32", "(*internal/sync.Mutex).Lock", "internal/race.Disable", "sync/atomic.CompareAndSwapInt32", "internal/race.Enable", "internal/race.Acquire", "(*internal/sync.Mutex).lockSlow", "internal/sync.runtime_canSpin", "internal/sync.runtime_doSpin", "internal/sync.throw", "internal/sync.runtime_nanotime", "internal/sync.runtime_SemacquireMutex", "sync/atomic.AddInt32", "(*internal/sync.Mutex).Unlock", "internal/race.ReleaseMerge", "(*internal/sync.Mutex).unlockSlow", "internal/sync.fatal", "internal/sync.runtime_Semrelease", "sync/atomic.StoreUint32", "math/bits.Sub64", "math/bits.Add64", "sync/atomic.AddInt64", "sync/atomic.LoadInt64", "sync/atomic.StoreInt64"], unfollowed := true, recurses := true, named := ["radicand/format.known", "radicand/engine.names", "radicand/batch.flags"], apart := false, laid := [("radicand/format.known", laid_radicand_format_known), ("radicand/engine.names", laid_radicand_engine_names), ("radicand/batch.flags", laid_radicand_batch_flags)] }
def BatchNoneSaid : Prop := batchNoneRow.holds Tryz.pinned (OpenSpec.ofChange batchNoneSpec)

/-- ITS FALSE NEIGHBOUR: 'it returns false'. Refute it at one input. -/
def batchNoneWrong : ChangeSpec := { name := "batchNone", fn := fun _ => fun
  | [d1, d2] => { results := [.lit (.bool false)], args := [d1, d2] }
  | _ => none }
def BatchNoneWrongFalsely : Prop := batchNoneRow.holds Tryz.pinned (OpenSpec.ofChange batchNoneWrong)

/- THE SECOND FORM. 'bulk': how many values and letters a reading holds, each counted each time it is reached (what is shared counts as often as it is met; a slice's spare places count too). A statement '..UptoSaid' is the law's where the arguments, and the package variables that the reading takes, are together of bulk at most 1048576: NARROWER than '..Said'. Prove '..Said' where nothing that the law and all that it calls make is longer than what came in: it says more and counts as full. Else prove '..UptoSaid'. A law counts once. -/
mutual
def uptoBulk {H : Type} : DataW H → Nat
  | .lit (.string bytes) => bytes.length + 1
  | .lit _ => 1
  | .nil => 1
  | .ptr d => uptoBulk d + 1
  | .slice elems spare => uptoBulkAll elems + uptoBulkAll spare + 1
  | .agg parts => uptoBulkAll parts + 1
  | .iface _ d => uptoBulk d + 1
  | .map entries => uptoBulkEntries entries + 1
  | .held _ => 1
def uptoBulkAll {H : Type} : List (DataW H) → Nat
  | [] => 0
  | d :: r => uptoBulk d + uptoBulkAll r
def uptoBulkEntries {H : Type} : List (Lit × DataW H) → Nat
  | [] => 0
  | x :: r => uptoBulkEntry x + uptoBulkEntries r
def uptoBulkEntry {H : Type} : Lit × DataW H → Nat
  | (.string bytes, d) => bytes.length + uptoBulk d + 1
  | (_, d) => uptoBulk d + 1
 end
def uptoSmall : (H : Type) → List (DataW H) → Bool := fun _ ds => decide (uptoBulkAll ds ≤ 1048576)
def OpenSpec.upto (s : _root_.Go.ChangeSpec) : _root_.Go.OpenSpec := { _root_.Go.OpenSpec.ofChange s with cond := some uptoSmall }

/-- 'radicandlaw34.BatchFull', WHERE WHAT IT READS IS OF BULK AT MOST 1048576: true; the input reads as it did. -/
def batchFullUptoRow : OpenClaim := { program := "ytoakmlopjeecoaagreatdoor", sum := "120528e9da3851485ed1696d659837e136b76435cc762b133e1443d2715c5875", func := "radicand/radicandlaw34.BatchFull", spec := "batchFull", inPlace := ["sync/atomic.LoadUint32", "(*internal/sync.Mutex).Lock", "internal/race.Disable", "sync/atomic.CompareAndSwapInt32", "internal/race.Enable", "internal/race.Acquire", "(*internal/sync.Mutex).lockSlow", "internal/sync.runtime_canSpin", "internal/sync.runtime_doSpin", "internal/sync.throw", "internal/sync.runtime_nanotime", "internal/sync.runtime_SemacquireMutex", "sync/atomic.AddInt32", "(*internal/sync.Mutex).Unlock", "internal/race.ReleaseMerge", "(*internal/sync.Mutex).unlockSlow", "internal/sync.fatal", "internal/sync.runtime_Semrelease", "sync/atomic.StoreUint32", "math/bits.Sub64", "math/bits.Add64", "sync/atomic.AddInt64", "sync/atomic.LoadInt64"], unfollowed := true, recurses := true, named := ["radicand/format.known", "radicand/engine.names", "radicand/batch.flags"], apart := false, laid := [("radicand/format.known", laid_radicand_format_known), ("radicand/engine.names", laid_radicand_engine_names), ("radicand/batch.flags", laid_radicand_batch_flags)], narrowed := true }
def BatchFullUptoSaid : Prop := batchFullUptoRow.holds Tryz.pinned (OpenSpec.upto batchFullSpec)

/-- 'radicandlaw34.BatchNone', WHERE WHAT IT READS IS OF BULK AT MOST 1048576: true; the input reads as it did. -/
def batchNoneUptoRow : OpenClaim := { program := "ytoakmlopjeecoaagreatdoor", sum := "120528e9da3851485ed1696d659837e136b76435cc762b133e1443d2715c5875", func := "radicand/radicandlaw34.BatchNone", spec := "batchNone", inPlace := ["sync/atomic.LoadUint32", "(*internal/sync.Mutex).Lock", "internal/race.Disable", "sync/atomic.CompareAndSwapInt32", "internal/race.Enable", "internal/race.Acquire", "(*internal/sync.Mutex).lockSlow", "internal/sync.runtime_canSpin", "internal/sync.runtime_doSpin", "internal/sync.throw", "internal/sync.runtime_nanotime", "internal/sync.runtime_SemacquireMutex", "sync/atomic.AddInt32", "(*internal/sync.Mutex).Unlock", "internal/race.ReleaseMerge", "(*internal/sync.Mutex).unlockSlow", "internal/sync.fatal", "internal/sync.runtime_Semrelease", "sync/atomic.StoreUint32", "math/bits.Sub64", "math/bits.Add64", "sync/atomic.AddInt64", "sync/atomic.LoadInt64", "sync/atomic.StoreInt64"], unfollowed := true, recurses := true, named := ["radicand/format.known", "radicand/engine.names", "radicand/batch.flags"], apart := false, laid := [("radicand/format.known", laid_radicand_format_known), ("radicand/engine.names", laid_radicand_engine_names), ("radicand/batch.flags", laid_radicand_batch_flags)], narrowed := true }
def BatchNoneUptoSaid : Prop := batchNoneUptoRow.holds Tryz.pinned (OpenSpec.upto batchNoneSpec)

end Rows
end Go.Proofs.YtoakmlopjeecoaaGreatDoor
