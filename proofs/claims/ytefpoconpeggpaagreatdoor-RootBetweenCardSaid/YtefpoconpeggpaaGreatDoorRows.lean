/-
  NARROWER THAN 'FOR EVERY INPUT', by the rows' own cells (each row's printed sentence says how): RootFinite: laid · RootBetween: laid · RootHypots: laid · RootParts: laid.
  DERIVED. THE GIVEN ROWS OF THIS SEAT. 4 by the template 'for every input the law returns true; each argument reads behind the call as it read before'; 0 by the template 'total and deterministic' (their statements: YtefpoconpeggpaaGreatDoorTotals.lean).
  GIVEN WITH THE SEED: the statements are not yours to turn. If you find one false, say at which input.
  Laid BY PROGRAM, IN A SANDBOX (cutbox-rows.mjs): the forced cells as the released guide's own fill.sh prints them over the translation a7f103349e6581bf… (all of the seat's roots in one cut). By AI agents, Wed Nov 11 2026. No macro, syntax, notation, axiom, sorry.
-/
import Derived.Test.YtefpoconpeggpaaGreatDoorChecked
import GoSem.Claim
import GoSem.ClaimJoined
import GoSem.ClaimMapViews
import Derived.JoinedTies
import Derived.KernelRfl
namespace Go.Proofs.YtefpoconpeggpaaGreatDoor
/- THE CELL 'sum', in the pinned program and in every row, IS THE sha256 OF THE DUMP (.gsa) THAT YtefpoconpeggpaaGreatDoorProg.lean LOADS. Nothing in Lean hashes anything: it is a label: what it is worth is what the hold of that sum in a sandbox is worth. -/
noncomputable def Tryz.pinned : Pinned := { name := "ytefpoconpeggpaagreatdoor", sum := "a7f103349e6581bf72a04e22c2b679668ef8cdb11bfc266fec34aa814b0b0b8b", checked := Tryz.checked }
namespace Rows
def none {H : Type} : Left H := { results := [], args := [] }

/- WHAT THE LISTED PACKAGE-LEVEL VARIABLES READ AS WHEN THE CALL BEGINS. Each datum BY PROGRAM (the guide's laid-datum.mjs) off the statement by which the dump's own 'gosem.cut.vars' lays the variable. In a bare row this is a premise. The card (YtefpoconpeggpaaGreatDoorCards.lean) ties it to the program's text. -/
def laid_radicand_format_known {H : Type} : DataW H := .agg [.agg [.lit (.string []), .lit (.int .i64 0), .lit (.int .i64 0), .lit (.int .i64 0)], .agg [.lit (.string [98, 105, 110, 97, 114, 121, 49, 54]), .lit (.int .i64 16), .lit (.int .i64 11), .lit (.int .i64 5)], .agg [.lit (.string [98, 105, 110, 97, 114, 121, 51, 50]), .lit (.int .i64 32), .lit (.int .i64 24), .lit (.int .i64 8)], .agg [.lit (.string [98, 105, 110, 97, 114, 121, 54, 52]), .lit (.int .i64 64), .lit (.int .i64 53), .lit (.int .i64 11)], .agg [.lit (.string [98, 105, 110, 97, 114, 121, 49, 50, 56]), .lit (.int .i64 128), .lit (.int .i64 113), .lit (.int .i64 15)]]

/-- 'radicandlaw25.RootFinite': WHATEVER THE INPUT: true; the input reads as it did. -/
def rootFiniteSpec : ChangeSpec := { name := "rootFinite", fn := fun _ => fun
  | [d] => { results := [.lit (.bool true)], args := [d] }
  | _ => none }
def rootFiniteRow : OpenClaim := { program := "ytefpoconpeggpaagreatdoor", sum := "a7f103349e6581bf72a04e22c2b679668ef8cdb11bfc266fec34aa814b0b0b8b", func := "radicand/radicandlaw25.RootFinite", spec := "rootFinite", inPlace := ["math/bits.Sub64", "math/bits.Add64", "sync/atomic.LoadUint32", "(*internal/sync.Mutex).Lock", "internal/race.Disable", "sync/atomic.CompareAndSwapInt32", "internal/race.Enable", "internal/race.Acquire", "(*internal/sync.Mutex).lockSlow", "internal/sync.runtime_canSpin", "internal/sync.runtime_doSpin", "internal/sync.throw", "internal/sync.runtime_nanotime", "internal/sync.runtime_SemacquireMutex", "sync/atomic.AddInt32", "(*internal/sync.Mutex).Unlock", "internal/race.ReleaseMerge", "(*internal/sync.Mutex).unlockSlow", "internal/sync.fatal", "internal/sync.runtime_Semrelease", "sync/atomic.StoreUint32", "sync/atomic.AddInt64"], unfollowed := true, recurses := true, named := ["radicand/format.known"], apart := false, laid := [("radicand/format.known", laid_radicand_format_known)] }
def RootFiniteSaid : Prop := rootFiniteRow.holds Tryz.pinned (OpenSpec.ofChange rootFiniteSpec)

/-- ITS FALSE NEIGHBOUR: 'it returns false'. Refute it at one input. -/
def rootFiniteWrong : ChangeSpec := { name := "rootFinite", fn := fun _ => fun
  | [d] => { results := [.lit (.bool false)], args := [d] }
  | _ => none }
def RootFiniteWrongFalsely : Prop := rootFiniteRow.holds Tryz.pinned (OpenSpec.ofChange rootFiniteWrong)

/-- 'radicandlaw25.RootBetween': WHATEVER THE INPUT: true; the input reads as it did. -/
def rootBetweenSpec : ChangeSpec := { name := "rootBetween", fn := fun _ => fun
  | [d1, d2, d3] => { results := [.lit (.bool true)], args := [d1, d2, d3] }
  | _ => none }
def rootBetweenRow : OpenClaim := { program := "ytefpoconpeggpaagreatdoor", sum := "a7f103349e6581bf72a04e22c2b679668ef8cdb11bfc266fec34aa814b0b0b8b", func := "radicand/radicandlaw25.RootBetween", spec := "rootBetween", inPlace := ["math/bits.Sub64", "math/bits.Add64", "sync/atomic.LoadUint32", "(*internal/sync.Mutex).Lock", "internal/race.Disable", "sync/atomic.CompareAndSwapInt32", "internal/race.Enable", "internal/race.Acquire", "(*internal/sync.Mutex).lockSlow", "internal/sync.runtime_canSpin", "internal/sync.runtime_doSpin", "internal/sync.throw", "internal/sync.runtime_nanotime", "internal/sync.runtime_SemacquireMutex", "sync/atomic.AddInt32", "(*internal/sync.Mutex).Unlock", "internal/race.ReleaseMerge", "(*internal/sync.Mutex).unlockSlow", "internal/sync.fatal", "internal/sync.runtime_Semrelease", "sync/atomic.StoreUint32", "sync/atomic.AddInt64"], unfollowed := true, recurses := true, named := ["radicand/format.known"], apart := false, laid := [("radicand/format.known", laid_radicand_format_known)] }
def RootBetweenSaid : Prop := rootBetweenRow.holds Tryz.pinned (OpenSpec.ofChange rootBetweenSpec)

/-- ITS FALSE NEIGHBOUR: 'it returns false'. Refute it at one input. -/
def rootBetweenWrong : ChangeSpec := { name := "rootBetween", fn := fun _ => fun
  | [d1, d2, d3] => { results := [.lit (.bool false)], args := [d1, d2, d3] }
  | _ => none }
def RootBetweenWrongFalsely : Prop := rootBetweenRow.holds Tryz.pinned (OpenSpec.ofChange rootBetweenWrong)

/-- 'radicandlaw25.RootHypots': WHATEVER THE INPUT: true; the input reads as it did. -/
def rootHypotsSpec : ChangeSpec := { name := "rootHypots", fn := fun _ => fun
  | [d] => { results := [.lit (.bool true)], args := [d] }
  | _ => none }
def rootHypotsRow : OpenClaim := { program := "ytefpoconpeggpaagreatdoor", sum := "a7f103349e6581bf72a04e22c2b679668ef8cdb11bfc266fec34aa814b0b0b8b", func := "radicand/radicandlaw25.RootHypots", spec := "rootHypots", inPlace := ["math/bits.Add64", "math/bits.Sub64", "sync/atomic.LoadUint32", "(*internal/sync.Mutex).Lock", "internal/race.Disable", "sync/atomic.CompareAndSwapInt32", "internal/race.Enable", "internal/race.Acquire", "(*internal/sync.Mutex).lockSlow", "internal/sync.runtime_canSpin", "internal/sync.runtime_doSpin", "internal/sync.throw", "internal/sync.runtime_nanotime", "internal/sync.runtime_SemacquireMutex", "sync/atomic.AddInt32", "(*internal/sync.Mutex).Unlock", "internal/race.ReleaseMerge", "(*internal/sync.Mutex).unlockSlow", "internal/sync.fatal", "internal/sync.runtime_Semrelease", "sync/atomic.StoreUint32", "sync/atomic.AddInt64"], unfollowed := true, recurses := true, named := ["radicand/format.known"], apart := false, laid := [("radicand/format.known", laid_radicand_format_known)] }
def RootHypotsSaid : Prop := rootHypotsRow.holds Tryz.pinned (OpenSpec.ofChange rootHypotsSpec)

/-- ITS FALSE NEIGHBOUR: 'it returns false'. Refute it at one input. -/
def rootHypotsWrong : ChangeSpec := { name := "rootHypots", fn := fun _ => fun
  | [d] => { results := [.lit (.bool false)], args := [d] }
  | _ => none }
def RootHypotsWrongFalsely : Prop := rootHypotsRow.holds Tryz.pinned (OpenSpec.ofChange rootHypotsWrong)

/-- 'radicandlaw25.RootParts': WHATEVER THE INPUT: true; the input reads as it did. -/
def rootPartsSpec : ChangeSpec := { name := "rootParts", fn := fun _ => fun
  | [d1, d2] => { results := [.lit (.bool true)], args := [d1, d2] }
  | _ => none }
def rootPartsRow : OpenClaim := { program := "ytefpoconpeggpaagreatdoor", sum := "a7f103349e6581bf72a04e22c2b679668ef8cdb11bfc266fec34aa814b0b0b8b", func := "radicand/radicandlaw25.RootParts", spec := "rootParts", inPlace := ["math/bits.Sub64", "math/bits.Add64", "sync/atomic.LoadUint32", "(*internal/sync.Mutex).Lock", "internal/race.Disable", "sync/atomic.CompareAndSwapInt32", "internal/race.Enable", "internal/race.Acquire", "(*internal/sync.Mutex).lockSlow", "internal/sync.runtime_canSpin", "internal/sync.runtime_doSpin", "internal/sync.throw", "internal/sync.runtime_nanotime", "internal/sync.runtime_SemacquireMutex", "sync/atomic.AddInt32", "(*internal/sync.Mutex).Unlock", "internal/race.ReleaseMerge", "(*internal/sync.Mutex).unlockSlow", "internal/sync.fatal", "internal/sync.runtime_Semrelease", "sync/atomic.StoreUint32", "sync/atomic.AddInt64"], unfollowed := true, recurses := true, named := ["radicand/format.known"], apart := false, laid := [("radicand/format.known", laid_radicand_format_known)] }
def RootPartsSaid : Prop := rootPartsRow.holds Tryz.pinned (OpenSpec.ofChange rootPartsSpec)

/-- ITS FALSE NEIGHBOUR: 'it returns false'. Refute it at one input. -/
def rootPartsWrong : ChangeSpec := { name := "rootParts", fn := fun _ => fun
  | [d1, d2] => { results := [.lit (.bool false)], args := [d1, d2] }
  | _ => none }
def RootPartsWrongFalsely : Prop := rootPartsRow.holds Tryz.pinned (OpenSpec.ofChange rootPartsWrong)

/- THE SECOND FORM. 'bulk': how many values and letters a reading holds, each counted each time it is reached (what is shared counts as often as it is met; a slice's spare places count too). A statement '..UptoSaid' is the law's where the arguments, and the package variables that the reading takes, are together of bulk at most 1048576: NARROWER than '..Said'. Prove '..Said' where nothing that the law and all that it calls make is longer than what came in: it says more and counts as full. Else prove '..UptoSaid'. A law counts once. -/
mutual
def uptoBulk {H : Type} : DataW H → Nat
  | .lit (.string bytes) => bytes.length + 1
  | .lit _ => 1
  | .nil => 1
  | .ptr d => uptoBulk d + 1
  | .slice elems spare => uptoBulkAll elems + uptoBulkAll spare + 1
  | .agg parts => uptoBulkAll parts + 1
  | .iface _ d => uptoBulk d + 1
  | .map entries => uptoBulkEntries entries + 1
  | .held _ => 1
def uptoBulkAll {H : Type} : List (DataW H) → Nat
  | [] => 0
  | d :: r => uptoBulk d + uptoBulkAll r
def uptoBulkEntries {H : Type} : List (Lit × DataW H) → Nat
  | [] => 0
  | x :: r => uptoBulkEntry x + uptoBulkEntries r
def uptoBulkEntry {H : Type} : Lit × DataW H → Nat
  | (.string bytes, d) => bytes.length + uptoBulk d + 1
  | (_, d) => uptoBulk d + 1
 end
def uptoSmall : (H : Type) → List (DataW H) → Bool := fun _ ds => decide (uptoBulkAll ds ≤ 1048576)
def OpenSpec.upto (s : _root_.Go.ChangeSpec) : _root_.Go.OpenSpec := { _root_.Go.OpenSpec.ofChange s with cond := some uptoSmall }

/-- 'radicandlaw25.RootFinite', WHERE WHAT IT READS IS OF BULK AT MOST 1048576: true; the input reads as it did. -/
def rootFiniteUptoRow : OpenClaim := { program := "ytefpoconpeggpaagreatdoor", sum := "a7f103349e6581bf72a04e22c2b679668ef8cdb11bfc266fec34aa814b0b0b8b", func := "radicand/radicandlaw25.RootFinite", spec := "rootFinite", inPlace := ["math/bits.Sub64", "math/bits.Add64", "sync/atomic.LoadUint32", "(*internal/sync.Mutex).Lock", "internal/race.Disable", "sync/atomic.CompareAndSwapInt32", "internal/race.Enable", "internal/race.Acquire", "(*internal/sync.Mutex).lockSlow", "internal/sync.runtime_canSpin", "internal/sync.runtime_doSpin", "internal/sync.throw", "internal/sync.runtime_nanotime", "internal/sync.runtime_SemacquireMutex", "sync/atomic.AddInt32", "(*internal/sync.Mutex).Unlock", "internal/race.ReleaseMerge", "(*internal/sync.Mutex).unlockSlow", "internal/sync.fatal", "internal/sync.runtime_Semrelease", "sync/atomic.StoreUint32", "sync/atomic.AddInt64"], unfollowed := true, recurses := true, named := ["radicand/format.known"], apart := false, laid := [("radicand/format.known", laid_radicand_format_known)], narrowed := true }
def RootFiniteUptoSaid : Prop := rootFiniteUptoRow.holds Tryz.pinned (OpenSpec.upto rootFiniteSpec)

/-- 'radicandlaw25.RootBetween', WHERE WHAT IT READS IS OF BULK AT MOST 1048576: true; the input reads as it did. -/
def rootBetweenUptoRow : OpenClaim := { program := "ytefpoconpeggpaagreatdoor", sum := "a7f103349e6581bf72a04e22c2b679668ef8cdb11bfc266fec34aa814b0b0b8b", func := "radicand/radicandlaw25.RootBetween", spec := "rootBetween", inPlace := ["math/bits.Sub64", "math/bits.Add64", "sync/atomic.LoadUint32", "(*internal/sync.Mutex).Lock", "internal/race.Disable", "sync/atomic.CompareAndSwapInt32", "internal/race.Enable", "internal/race.Acquire", "(*internal/sync.Mutex).lockSlow", "internal/sync.runtime_canSpin", "internal/sync.runtime_doSpin", "internal/sync.throw", "internal/sync.runtime_nanotime", "internal/sync.runtime_SemacquireMutex", "sync/atomic.AddInt32", "(*internal/sync.Mutex).Unlock", "internal/race.ReleaseMerge", "(*internal/sync.Mutex).unlockSlow", "internal/sync.fatal", "internal/sync.runtime_Semrelease", "sync/atomic.StoreUint32", "sync/atomic.AddInt64"], unfollowed := true, recurses := true, named := ["radicand/format.known"], apart := false, laid := [("radicand/format.known", laid_radicand_format_known)], narrowed := true }
def RootBetweenUptoSaid : Prop := rootBetweenUptoRow.holds Tryz.pinned (OpenSpec.upto rootBetweenSpec)

/-- 'radicandlaw25.RootHypots', WHERE WHAT IT READS IS OF BULK AT MOST 1048576: true; the input reads as it did. -/
def rootHypotsUptoRow : OpenClaim := { program := "ytefpoconpeggpaagreatdoor", sum := "a7f103349e6581bf72a04e22c2b679668ef8cdb11bfc266fec34aa814b0b0b8b", func := "radicand/radicandlaw25.RootHypots", spec := "rootHypots", inPlace := ["math/bits.Add64", "math/bits.Sub64", "sync/atomic.LoadUint32", "(*internal/sync.Mutex).Lock", "internal/race.Disable", "sync/atomic.CompareAndSwapInt32", "internal/race.Enable", "internal/race.Acquire", "(*internal/sync.Mutex).lockSlow", "internal/sync.runtime_canSpin", "internal/sync.runtime_doSpin", "internal/sync.throw", "internal/sync.runtime_nanotime", "internal/sync.runtime_SemacquireMutex", "sync/atomic.AddInt32", "(*internal/sync.Mutex).Unlock", "internal/race.ReleaseMerge", "(*internal/sync.Mutex).unlockSlow", "internal/sync.fatal", "internal/sync.runtime_Semrelease", "sync/atomic.StoreUint32", "sync/atomic.AddInt64"], unfollowed := true, recurses := true, named := ["radicand/format.known"], apart := false, laid := [("radicand/format.known", laid_radicand_format_known)], narrowed := true }
def RootHypotsUptoSaid : Prop := rootHypotsUptoRow.holds Tryz.pinned (OpenSpec.upto rootHypotsSpec)

/-- 'radicandlaw25.RootParts', WHERE WHAT IT READS IS OF BULK AT MOST 1048576: true; the input reads as it did. -/
def rootPartsUptoRow : OpenClaim := { program := "ytefpoconpeggpaagreatdoor", sum := "a7f103349e6581bf72a04e22c2b679668ef8cdb11bfc266fec34aa814b0b0b8b", func := "radicand/radicandlaw25.RootParts", spec := "rootParts", inPlace := ["math/bits.Sub64", "math/bits.Add64", "sync/atomic.LoadUint32", "(*internal/sync.Mutex).Lock", "internal/race.Disable", "sync/atomic.CompareAndSwapInt32", "internal/race.Enable", "internal/race.Acquire", "(*internal/sync.Mutex).lockSlow", "internal/sync.runtime_canSpin", "internal/sync.runtime_doSpin", "internal/sync.throw", "internal/sync.runtime_nanotime", "internal/sync.runtime_SemacquireMutex", "sync/atomic.AddInt32", "(*internal/sync.Mutex).Unlock", "internal/race.ReleaseMerge", "(*internal/sync.Mutex).unlockSlow", "internal/sync.fatal", "internal/sync.runtime_Semrelease", "sync/atomic.StoreUint32", "sync/atomic.AddInt64"], unfollowed := true, recurses := true, named := ["radicand/format.known"], apart := false, laid := [("radicand/format.known", laid_radicand_format_known)], narrowed := true }
def RootPartsUptoSaid : Prop := rootPartsUptoRow.holds Tryz.pinned (OpenSpec.upto rootPartsSpec)

end Rows
end Go.Proofs.YtefpoconpeggpaaGreatDoor
