/-
  No cell of these rows narrows 'for every input' (looked for: loops, veiled, ifaces, maps, wideKeys, modest, calm, conditions, laid).
  DERIVED. THE GIVEN ROWS OF THIS SEAT. 13 by the template 'for every input the law returns true; each argument reads behind the call as it read before'; 0 by the template 'total and deterministic' (their statements: YtcahadkkjfijfaaTotals.lean).
  GIVEN WITH THE SEED: the statements are not yours to turn. If you find one false, say at which input.
  Laid BY PROGRAM, IN A SANDBOX (cutbox-rows.mjs): the forced cells as the released guide's own fill.sh prints them over the translation 05a5bb83522f28ac… (all of the seat's roots in one cut). By AI agents, Wed Nov 11 2026. No macro, syntax, notation, axiom, sorry.
-/
import Derived.Test.YtcahadkkjfijfaaChecked
import GoSem.Claim
import GoSem.ClaimJoined
import GoSem.ClaimMapViews
import Derived.JoinedTies
import Derived.KernelRfl
namespace Go.Proofs.Ytcahadkkjfijfaa
/- THE CELL 'sum', in the pinned program and in every row, IS THE sha256 OF THE DUMP (.gsa) THAT YtcahadkkjfijfaaProg.lean LOADS. Nothing in Lean hashes anything: it is a label: what it is worth is what the hold of that sum in a sandbox is worth. -/
noncomputable def Try.pinned : Pinned := { name := "ytcahadkkjfijfaa", sum := "05a5bb83522f28ace838db3e00fbe02ff7d0a7088763d0ec4bbb25d85957a6cc", checked := Try.checked }
namespace Rows
def none {H : Type} : Left H := { results := [], args := [] }

/-- 'auspexlaw20.RetireSteps': WHATEVER THE INPUT: true; the input reads as it did. -/
def retireStepsSpec : ChangeSpec := { name := "retireSteps", fn := fun _ => fun
  | [d1, d2] => { results := [.lit (.bool true)], args := [d1, d2] }
  | _ => none }
def retireStepsRow : OpenClaim := { program := "ytcahadkkjfijfaa", sum := "05a5bb83522f28ace838db3e00fbe02ff7d0a7088763d0ec4bbb25d85957a6cc", func := "auspex/auspexlaw20.RetireSteps", spec := "retireSteps", apart := false }
def RetireStepsSaid : Prop := retireStepsRow.holds Try.pinned (OpenSpec.ofChange retireStepsSpec)

/-- ITS FALSE NEIGHBOUR: 'it returns false'. Refute it at one input. -/
def retireStepsWrong : ChangeSpec := { name := "retireSteps", fn := fun _ => fun
  | [d1, d2] => { results := [.lit (.bool false)], args := [d1, d2] }
  | _ => none }
def RetireStepsWrongFalsely : Prop := retireStepsRow.holds Try.pinned (OpenSpec.ofChange retireStepsWrong)

/-- 'auspexlaw20.RetireZero': WHATEVER THE INPUT: true; the input reads as it did. -/
def retireZeroSpec : ChangeSpec := { name := "retireZero", fn := fun _ => fun
  | [d1, d2] => { results := [.lit (.bool true)], args := [d1, d2] }
  | _ => none }
def retireZeroRow : OpenClaim := { program := "ytcahadkkjfijfaa", sum := "05a5bb83522f28ace838db3e00fbe02ff7d0a7088763d0ec4bbb25d85957a6cc", func := "auspex/auspexlaw20.RetireZero", spec := "retireZero", apart := false }
def RetireZeroSaid : Prop := retireZeroRow.holds Try.pinned (OpenSpec.ofChange retireZeroSpec)

/-- ITS FALSE NEIGHBOUR: 'it returns false'. Refute it at one input. -/
def retireZeroWrong : ChangeSpec := { name := "retireZero", fn := fun _ => fun
  | [d1, d2] => { results := [.lit (.bool false)], args := [d1, d2] }
  | _ => none }
def RetireZeroWrongFalsely : Prop := retireZeroRow.holds Try.pinned (OpenSpec.ofChange retireZeroWrong)

/-- 'auspexlaw20.RetireDrains': WHATEVER THE INPUT: true; the input reads as it did. -/
def retireDrainsSpec : ChangeSpec := { name := "retireDrains", fn := fun _ => fun
  | [d1, d2, d3] => { results := [.lit (.bool true)], args := [d1, d2, d3] }
  | _ => none }
def retireDrainsRow : OpenClaim := { program := "ytcahadkkjfijfaa", sum := "05a5bb83522f28ace838db3e00fbe02ff7d0a7088763d0ec4bbb25d85957a6cc", func := "auspex/auspexlaw20.RetireDrains", spec := "retireDrains", apart := false }
def RetireDrainsSaid : Prop := retireDrainsRow.holds Try.pinned (OpenSpec.ofChange retireDrainsSpec)

/-- ITS FALSE NEIGHBOUR: 'it returns false'. Refute it at one input. -/
def retireDrainsWrong : ChangeSpec := { name := "retireDrains", fn := fun _ => fun
  | [d1, d2, d3] => { results := [.lit (.bool false)], args := [d1, d2, d3] }
  | _ => none }
def RetireDrainsWrongFalsely : Prop := retireDrainsRow.holds Try.pinned (OpenSpec.ofChange retireDrainsWrong)

/-- 'auspexlaw10.CachePuts': WHATEVER THE INPUT: true; the input reads as it did. -/
def cachePutsSpec : ChangeSpec := { name := "cachePuts", fn := fun _ => fun
  | [d1, d2, d3, d4] => { results := [.lit (.bool true)], args := [d1, d2, d3, d4] }
  | _ => none }
def cachePutsRow : OpenClaim := { program := "ytcahadkkjfijfaa", sum := "05a5bb83522f28ace838db3e00fbe02ff7d0a7088763d0ec4bbb25d85957a6cc", func := "auspex/auspexlaw10.CachePuts", spec := "cachePuts", apart := false }
def CachePutsSaid : Prop := cachePutsRow.holds Try.pinned (OpenSpec.ofChange cachePutsSpec)

/-- ITS FALSE NEIGHBOUR: 'it returns false'. Refute it at one input. -/
def cachePutsWrong : ChangeSpec := { name := "cachePuts", fn := fun _ => fun
  | [d1, d2, d3, d4] => { results := [.lit (.bool false)], args := [d1, d2, d3, d4] }
  | _ => none }
def CachePutsWrongFalsely : Prop := cachePutsRow.holds Try.pinned (OpenSpec.ofChange cachePutsWrong)

/-- 'auspexlaw10.CacheHas': WHATEVER THE INPUT: true; the input reads as it did. -/
def cacheHasSpec : ChangeSpec := { name := "cacheHas", fn := fun _ => fun
  | [d1, d2, d3, d4] => { results := [.lit (.bool true)], args := [d1, d2, d3, d4] }
  | _ => none }
def cacheHasRow : OpenClaim := { program := "ytcahadkkjfijfaa", sum := "05a5bb83522f28ace838db3e00fbe02ff7d0a7088763d0ec4bbb25d85957a6cc", func := "auspex/auspexlaw10.CacheHas", spec := "cacheHas", apart := false }
def CacheHasSaid : Prop := cacheHasRow.holds Try.pinned (OpenSpec.ofChange cacheHasSpec)

/-- ITS FALSE NEIGHBOUR: 'it returns false'. Refute it at one input. -/
def cacheHasWrong : ChangeSpec := { name := "cacheHas", fn := fun _ => fun
  | [d1, d2, d3, d4] => { results := [.lit (.bool false)], args := [d1, d2, d3, d4] }
  | _ => none }
def CacheHasWrongFalsely : Prop := cacheHasRow.holds Try.pinned (OpenSpec.ofChange cacheHasWrong)

/-- 'auspexlaw10.CacheFinds': WHATEVER THE INPUT: true; the input reads as it did. -/
def cacheFindsSpec : ChangeSpec := { name := "cacheFinds", fn := fun _ => fun
  | [d1, d2, d3, d4] => { results := [.lit (.bool true)], args := [d1, d2, d3, d4] }
  | _ => none }
def cacheFindsRow : OpenClaim := { program := "ytcahadkkjfijfaa", sum := "05a5bb83522f28ace838db3e00fbe02ff7d0a7088763d0ec4bbb25d85957a6cc", func := "auspex/auspexlaw10.CacheFinds", spec := "cacheFinds", apart := false }
def CacheFindsSaid : Prop := cacheFindsRow.holds Try.pinned (OpenSpec.ofChange cacheFindsSpec)

/-- ITS FALSE NEIGHBOUR: 'it returns false'. Refute it at one input. -/
def cacheFindsWrong : ChangeSpec := { name := "cacheFinds", fn := fun _ => fun
  | [d1, d2, d3, d4] => { results := [.lit (.bool false)], args := [d1, d2, d3, d4] }
  | _ => none }
def CacheFindsWrongFalsely : Prop := cacheFindsRow.holds Try.pinned (OpenSpec.ofChange cacheFindsWrong)

/-- 'auspexlaw11.ViewMoves': WHATEVER THE INPUT: true; the input reads as it did. -/
def viewMovesSpec : ChangeSpec := { name := "viewMoves", fn := fun _ => fun
  | [d1, d2, d3, d4] => { results := [.lit (.bool true)], args := [d1, d2, d3, d4] }
  | _ => none }
def viewMovesRow : OpenClaim := { program := "ytcahadkkjfijfaa", sum := "05a5bb83522f28ace838db3e00fbe02ff7d0a7088763d0ec4bbb25d85957a6cc", func := "auspex/auspexlaw11.ViewMoves", spec := "viewMoves", apart := false }
def ViewMovesSaid : Prop := viewMovesRow.holds Try.pinned (OpenSpec.ofChange viewMovesSpec)

/-- ITS FALSE NEIGHBOUR: 'it returns false'. Refute it at one input. -/
def viewMovesWrong : ChangeSpec := { name := "viewMoves", fn := fun _ => fun
  | [d1, d2, d3, d4] => { results := [.lit (.bool false)], args := [d1, d2, d3, d4] }
  | _ => none }
def ViewMovesWrongFalsely : Prop := viewMovesRow.holds Try.pinned (OpenSpec.ofChange viewMovesWrong)

/-- 'auspexlaw10.CacheLast': WHATEVER THE INPUT: true; the input reads as it did. -/
def cacheLastSpec : ChangeSpec := { name := "cacheLast", fn := fun _ => fun
  | [d1, d2, d3] => { results := [.lit (.bool true)], args := [d1, d2, d3] }
  | _ => none }
def cacheLastRow : OpenClaim := { program := "ytcahadkkjfijfaa", sum := "05a5bb83522f28ace838db3e00fbe02ff7d0a7088763d0ec4bbb25d85957a6cc", func := "auspex/auspexlaw10.CacheLast", spec := "cacheLast", unfollowed := true, recurses := true, apart := false }
def CacheLastSaid : Prop := cacheLastRow.holds Try.pinned (OpenSpec.ofChange cacheLastSpec)

/-- ITS FALSE NEIGHBOUR: 'it returns false'. Refute it at one input. -/
def cacheLastWrong : ChangeSpec := { name := "cacheLast", fn := fun _ => fun
  | [d1, d2, d3] => { results := [.lit (.bool false)], args := [d1, d2, d3] }
  | _ => none }
def CacheLastWrongFalsely : Prop := cacheLastRow.holds Try.pinned (OpenSpec.ofChange cacheLastWrong)

/-- 'auspexlaw10.CacheData': WHATEVER THE INPUT: true; the input reads as it did. -/
def cacheDataSpec : ChangeSpec := { name := "cacheData", fn := fun _ => fun
  | [d1, d2, d3] => { results := [.lit (.bool true)], args := [d1, d2, d3] }
  | _ => none }
def cacheDataRow : OpenClaim := { program := "ytcahadkkjfijfaa", sum := "05a5bb83522f28ace838db3e00fbe02ff7d0a7088763d0ec4bbb25d85957a6cc", func := "auspex/auspexlaw10.CacheData", spec := "cacheData", apart := false }
def CacheDataSaid : Prop := cacheDataRow.holds Try.pinned (OpenSpec.ofChange cacheDataSpec)

/-- ITS FALSE NEIGHBOUR: 'it returns false'. Refute it at one input. -/
def cacheDataWrong : ChangeSpec := { name := "cacheData", fn := fun _ => fun
  | [d1, d2, d3] => { results := [.lit (.bool false)], args := [d1, d2, d3] }
  | _ => none }
def CacheDataWrongFalsely : Prop := cacheDataRow.holds Try.pinned (OpenSpec.ofChange cacheDataWrong)

/-- 'auspexlaw10.CacheWrites': WHATEVER THE INPUT: true; the input reads as it did. -/
def cacheWritesSpec : ChangeSpec := { name := "cacheWrites", fn := fun _ => fun
  | [d1, d2, d3] => { results := [.lit (.bool true)], args := [d1, d2, d3] }
  | _ => none }
def cacheWritesRow : OpenClaim := { program := "ytcahadkkjfijfaa", sum := "05a5bb83522f28ace838db3e00fbe02ff7d0a7088763d0ec4bbb25d85957a6cc", func := "auspex/auspexlaw10.CacheWrites", spec := "cacheWrites", apart := false }
def CacheWritesSaid : Prop := cacheWritesRow.holds Try.pinned (OpenSpec.ofChange cacheWritesSpec)

/-- ITS FALSE NEIGHBOUR: 'it returns false'. Refute it at one input. -/
def cacheWritesWrong : ChangeSpec := { name := "cacheWrites", fn := fun _ => fun
  | [d1, d2, d3] => { results := [.lit (.bool false)], args := [d1, d2, d3] }
  | _ => none }
def CacheWritesWrongFalsely : Prop := cacheWritesRow.holds Try.pinned (OpenSpec.ofChange cacheWritesWrong)

/-- 'auspexlaw20.RetireBrings': WHATEVER THE INPUT: true; the input reads as it did. -/
def retireBringsSpec : ChangeSpec := { name := "retireBrings", fn := fun _ => fun
  | [d1, d2, d3, d4, d5] => { results := [.lit (.bool true)], args := [d1, d2, d3, d4, d5] }
  | _ => none }
def retireBringsRow : OpenClaim := { program := "ytcahadkkjfijfaa", sum := "05a5bb83522f28ace838db3e00fbe02ff7d0a7088763d0ec4bbb25d85957a6cc", func := "auspex/auspexlaw20.RetireBrings", spec := "retireBrings", apart := false }
def RetireBringsSaid : Prop := retireBringsRow.holds Try.pinned (OpenSpec.ofChange retireBringsSpec)

/-- ITS FALSE NEIGHBOUR: 'it returns false'. Refute it at one input. -/
def retireBringsWrong : ChangeSpec := { name := "retireBrings", fn := fun _ => fun
  | [d1, d2, d3, d4, d5] => { results := [.lit (.bool false)], args := [d1, d2, d3, d4, d5] }
  | _ => none }
def RetireBringsWrongFalsely : Prop := retireBringsRow.holds Try.pinned (OpenSpec.ofChange retireBringsWrong)

/-- 'auspexlaw20.RetireMoves': WHATEVER THE INPUT: true; the input reads as it did. -/
def retireMovesSpec : ChangeSpec := { name := "retireMoves", fn := fun _ => fun
  | [d1, d2, d3, d4, d5, d6] => { results := [.lit (.bool true)], args := [d1, d2, d3, d4, d5, d6] }
  | _ => none }
def retireMovesRow : OpenClaim := { program := "ytcahadkkjfijfaa", sum := "05a5bb83522f28ace838db3e00fbe02ff7d0a7088763d0ec4bbb25d85957a6cc", func := "auspex/auspexlaw20.RetireMoves", spec := "retireMoves", apart := false }
def RetireMovesSaid : Prop := retireMovesRow.holds Try.pinned (OpenSpec.ofChange retireMovesSpec)

/-- ITS FALSE NEIGHBOUR: 'it returns false'. Refute it at one input. -/
def retireMovesWrong : ChangeSpec := { name := "retireMoves", fn := fun _ => fun
  | [d1, d2, d3, d4, d5, d6] => { results := [.lit (.bool false)], args := [d1, d2, d3, d4, d5, d6] }
  | _ => none }
def RetireMovesWrongFalsely : Prop := retireMovesRow.holds Try.pinned (OpenSpec.ofChange retireMovesWrong)

/-- 'auspexlaw20.RetireKeeps': WHATEVER THE INPUT: true; the input reads as it did. -/
def retireKeepsSpec : ChangeSpec := { name := "retireKeeps", fn := fun _ => fun
  | [d1, d2, d3, d4, d5, d6] => { results := [.lit (.bool true)], args := [d1, d2, d3, d4, d5, d6] }
  | _ => none }
def retireKeepsRow : OpenClaim := { program := "ytcahadkkjfijfaa", sum := "05a5bb83522f28ace838db3e00fbe02ff7d0a7088763d0ec4bbb25d85957a6cc", func := "auspex/auspexlaw20.RetireKeeps", spec := "retireKeeps", apart := false }
def RetireKeepsSaid : Prop := retireKeepsRow.holds Try.pinned (OpenSpec.ofChange retireKeepsSpec)

/-- ITS FALSE NEIGHBOUR: 'it returns false'. Refute it at one input. -/
def retireKeepsWrong : ChangeSpec := { name := "retireKeeps", fn := fun _ => fun
  | [d1, d2, d3, d4, d5, d6] => { results := [.lit (.bool false)], args := [d1, d2, d3, d4, d5, d6] }
  | _ => none }
def RetireKeepsWrongFalsely : Prop := retireKeepsRow.holds Try.pinned (OpenSpec.ofChange retireKeepsWrong)

/- THE SECOND FORM. 'bulk': how many values and letters a reading holds, each counted each time it is reached (what is shared counts as often as it is met; a slice's spare places count too). A statement '..UptoSaid' is the law's where the arguments, and the package variables that the reading takes, are together of bulk at most 1048576: NARROWER than '..Said'. Prove '..Said' where nothing that the law and all that it calls make is longer than what came in: it says more and counts as full. Else prove '..UptoSaid'. A law counts once. -/
mutual
def uptoBulk {H : Type} : DataW H → Nat
  | .lit (.string bytes) => bytes.length + 1
  | .lit _ => 1
  | .nil => 1
  | .ptr d => uptoBulk d + 1
  | .slice elems spare => uptoBulkAll elems + uptoBulkAll spare + 1
  | .agg parts => uptoBulkAll parts + 1
  | .iface _ d => uptoBulk d + 1
  | .map entries => uptoBulkEntries entries + 1
  | .held _ => 1
def uptoBulkAll {H : Type} : List (DataW H) → Nat
  | [] => 0
  | d :: r => uptoBulk d + uptoBulkAll r
def uptoBulkEntries {H : Type} : List (Lit × DataW H) → Nat
  | [] => 0
  | x :: r => uptoBulkEntry x + uptoBulkEntries r
def uptoBulkEntry {H : Type} : Lit × DataW H → Nat
  | (.string bytes, d) => bytes.length + uptoBulk d + 1
  | (_, d) => uptoBulk d + 1
 end
def uptoSmall : (H : Type) → List (DataW H) → Bool := fun _ ds => decide (uptoBulkAll ds ≤ 1048576)
def OpenSpec.upto (s : _root_.Go.ChangeSpec) : _root_.Go.OpenSpec := { _root_.Go.OpenSpec.ofChange s with cond := some uptoSmall }

/-- 'auspexlaw20.RetireSteps', WHERE WHAT IT READS IS OF BULK AT MOST 1048576: true; the input reads as it did. -/
def retireStepsUptoRow : OpenClaim := { program := "ytcahadkkjfijfaa", sum := "05a5bb83522f28ace838db3e00fbe02ff7d0a7088763d0ec4bbb25d85957a6cc", func := "auspex/auspexlaw20.RetireSteps", spec := "retireSteps", apart := false, narrowed := true }
def RetireStepsUptoSaid : Prop := retireStepsUptoRow.holds Try.pinned (OpenSpec.upto retireStepsSpec)

/-- 'auspexlaw20.RetireZero', WHERE WHAT IT READS IS OF BULK AT MOST 1048576: true; the input reads as it did. -/
def retireZeroUptoRow : OpenClaim := { program := "ytcahadkkjfijfaa", sum := "05a5bb83522f28ace838db3e00fbe02ff7d0a7088763d0ec4bbb25d85957a6cc", func := "auspex/auspexlaw20.RetireZero", spec := "retireZero", apart := false, narrowed := true }
def RetireZeroUptoSaid : Prop := retireZeroUptoRow.holds Try.pinned (OpenSpec.upto retireZeroSpec)

/-- 'auspexlaw20.RetireDrains', WHERE WHAT IT READS IS OF BULK AT MOST 1048576: true; the input reads as it did. -/
def retireDrainsUptoRow : OpenClaim := { program := "ytcahadkkjfijfaa", sum := "05a5bb83522f28ace838db3e00fbe02ff7d0a7088763d0ec4bbb25d85957a6cc", func := "auspex/auspexlaw20.RetireDrains", spec := "retireDrains", apart := false, narrowed := true }
def RetireDrainsUptoSaid : Prop := retireDrainsUptoRow.holds Try.pinned (OpenSpec.upto retireDrainsSpec)

/-- 'auspexlaw10.CachePuts', WHERE WHAT IT READS IS OF BULK AT MOST 1048576: true; the input reads as it did. -/
def cachePutsUptoRow : OpenClaim := { program := "ytcahadkkjfijfaa", sum := "05a5bb83522f28ace838db3e00fbe02ff7d0a7088763d0ec4bbb25d85957a6cc", func := "auspex/auspexlaw10.CachePuts", spec := "cachePuts", apart := false, narrowed := true }
def CachePutsUptoSaid : Prop := cachePutsUptoRow.holds Try.pinned (OpenSpec.upto cachePutsSpec)

/-- 'auspexlaw10.CacheHas', WHERE WHAT IT READS IS OF BULK AT MOST 1048576: true; the input reads as it did. -/
def cacheHasUptoRow : OpenClaim := { program := "ytcahadkkjfijfaa", sum := "05a5bb83522f28ace838db3e00fbe02ff7d0a7088763d0ec4bbb25d85957a6cc", func := "auspex/auspexlaw10.CacheHas", spec := "cacheHas", apart := false, narrowed := true }
def CacheHasUptoSaid : Prop := cacheHasUptoRow.holds Try.pinned (OpenSpec.upto cacheHasSpec)

/-- 'auspexlaw10.CacheFinds', WHERE WHAT IT READS IS OF BULK AT MOST 1048576: true; the input reads as it did. -/
def cacheFindsUptoRow : OpenClaim := { program := "ytcahadkkjfijfaa", sum := "05a5bb83522f28ace838db3e00fbe02ff7d0a7088763d0ec4bbb25d85957a6cc", func := "auspex/auspexlaw10.CacheFinds", spec := "cacheFinds", apart := false, narrowed := true }
def CacheFindsUptoSaid : Prop := cacheFindsUptoRow.holds Try.pinned (OpenSpec.upto cacheFindsSpec)

/-- 'auspexlaw11.ViewMoves', WHERE WHAT IT READS IS OF BULK AT MOST 1048576: true; the input reads as it did. -/
def viewMovesUptoRow : OpenClaim := { program := "ytcahadkkjfijfaa", sum := "05a5bb83522f28ace838db3e00fbe02ff7d0a7088763d0ec4bbb25d85957a6cc", func := "auspex/auspexlaw11.ViewMoves", spec := "viewMoves", apart := false, narrowed := true }
def ViewMovesUptoSaid : Prop := viewMovesUptoRow.holds Try.pinned (OpenSpec.upto viewMovesSpec)

/-- 'auspexlaw10.CacheLast', WHERE WHAT IT READS IS OF BULK AT MOST 1048576: true; the input reads as it did. -/
def cacheLastUptoRow : OpenClaim := { program := "ytcahadkkjfijfaa", sum := "05a5bb83522f28ace838db3e00fbe02ff7d0a7088763d0ec4bbb25d85957a6cc", func := "auspex/auspexlaw10.CacheLast", spec := "cacheLast", unfollowed := true, recurses := true, apart := false, narrowed := true }
def CacheLastUptoSaid : Prop := cacheLastUptoRow.holds Try.pinned (OpenSpec.upto cacheLastSpec)

/-- 'auspexlaw10.CacheData', WHERE WHAT IT READS IS OF BULK AT MOST 1048576: true; the input reads as it did. -/
def cacheDataUptoRow : OpenClaim := { program := "ytcahadkkjfijfaa", sum := "05a5bb83522f28ace838db3e00fbe02ff7d0a7088763d0ec4bbb25d85957a6cc", func := "auspex/auspexlaw10.CacheData", spec := "cacheData", apart := false, narrowed := true }
def CacheDataUptoSaid : Prop := cacheDataUptoRow.holds Try.pinned (OpenSpec.upto cacheDataSpec)

/-- 'auspexlaw10.CacheWrites', WHERE WHAT IT READS IS OF BULK AT MOST 1048576: true; the input reads as it did. -/
def cacheWritesUptoRow : OpenClaim := { program := "ytcahadkkjfijfaa", sum := "05a5bb83522f28ace838db3e00fbe02ff7d0a7088763d0ec4bbb25d85957a6cc", func := "auspex/auspexlaw10.CacheWrites", spec := "cacheWrites", apart := false, narrowed := true }
def CacheWritesUptoSaid : Prop := cacheWritesUptoRow.holds Try.pinned (OpenSpec.upto cacheWritesSpec)

/-- 'auspexlaw20.RetireBrings', WHERE WHAT IT READS IS OF BULK AT MOST 1048576: true; the input reads as it did. -/
def retireBringsUptoRow : OpenClaim := { program := "ytcahadkkjfijfaa", sum := "05a5bb83522f28ace838db3e00fbe02ff7d0a7088763d0ec4bbb25d85957a6cc", func := "auspex/auspexlaw20.RetireBrings", spec := "retireBrings", apart := false, narrowed := true }
def RetireBringsUptoSaid : Prop := retireBringsUptoRow.holds Try.pinned (OpenSpec.upto retireBringsSpec)

/-- 'auspexlaw20.RetireMoves', WHERE WHAT IT READS IS OF BULK AT MOST 1048576: true; the input reads as it did. -/
def retireMovesUptoRow : OpenClaim := { program := "ytcahadkkjfijfaa", sum := "05a5bb83522f28ace838db3e00fbe02ff7d0a7088763d0ec4bbb25d85957a6cc", func := "auspex/auspexlaw20.RetireMoves", spec := "retireMoves", apart := false, narrowed := true }
def RetireMovesUptoSaid : Prop := retireMovesUptoRow.holds Try.pinned (OpenSpec.upto retireMovesSpec)

/-- 'auspexlaw20.RetireKeeps', WHERE WHAT IT READS IS OF BULK AT MOST 1048576: true; the input reads as it did. -/
def retireKeepsUptoRow : OpenClaim := { program := "ytcahadkkjfijfaa", sum := "05a5bb83522f28ace838db3e00fbe02ff7d0a7088763d0ec4bbb25d85957a6cc", func := "auspex/auspexlaw20.RetireKeeps", spec := "retireKeeps", apart := false, narrowed := true }
def RetireKeepsUptoSaid : Prop := retireKeepsUptoRow.holds Try.pinned (OpenSpec.upto retireKeepsSpec)

end Rows
end Go.Proofs.Ytcahadkkjfijfaa
