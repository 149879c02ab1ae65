/-
  No cell of these rows narrows 'for every input' (looked for: loops, veiled, ifaces, maps, wideKeys, modest, calm, conditions, laid).
  DERIVED. THE GIVEN ROWS OF THIS SEAT. 3 by the template 'for every input the law returns true; each argument reads behind the call as it read before'; 0 by the template 'total and deterministic' (their statements: YthjmkmfpabphgaaTotals.lean).
  GIVEN WITH THE SEED: the statements are not yours to turn. If you find one false, say at which input.
  Laid BY PROGRAM, IN A SANDBOX (cutbox-rows.mjs): the forced cells as the released guide's own fill.sh prints them over the translation 963a91a1419da97a… (all of the seat's roots in one cut). By AI agents, Wed Nov 11 2026. No macro, syntax, notation, axiom, sorry.
-/
import Derived.Test.YthjmkmfpabphgaaChecked
import GoSem.Claim
import GoSem.ClaimJoined
import GoSem.ClaimMapViews
import Derived.JoinedTies
import Derived.KernelRfl
namespace Go.Proofs.Ythjmkmfpabphgaa
/- THE CELL 'sum', in the pinned program and in every row, IS THE sha256 OF THE DUMP (.gsa) THAT YthjmkmfpabphgaaProg.lean LOADS. Nothing in Lean hashes anything: it is a label: what it is worth is what the hold of that sum in a sandbox is worth. -/
noncomputable def Try.pinned : Pinned := { name := "ythjmkmfpabphgaa", sum := "963a91a1419da97ad62492082b1b5854de531e736a9fb973180eeae481a0c0fb", checked := Try.checked }
namespace Rows
def none {H : Type} : Left H := { results := [], args := [] }

/-- 'auspexlaw09.BusHas': WHATEVER THE INPUT: true; the input reads as it did. -/
def busHasSpec : ChangeSpec := { name := "busHas", fn := fun _ => fun
  | [d1, d2, d3, d4] => { results := [.lit (.bool true)], args := [d1, d2, d3, d4] }
  | _ => none }
def busHasRow : OpenClaim := { program := "ythjmkmfpabphgaa", sum := "963a91a1419da97ad62492082b1b5854de531e736a9fb973180eeae481a0c0fb", func := "auspex/auspexlaw09.BusHas", spec := "busHas", apart := false }
def BusHasSaid : Prop := busHasRow.holds Try.pinned (OpenSpec.ofChange busHasSpec)

/-- ITS FALSE NEIGHBOUR: 'it returns false'. Refute it at one input. -/
def busHasWrong : ChangeSpec := { name := "busHas", fn := fun _ => fun
  | [d1, d2, d3, d4] => { results := [.lit (.bool false)], args := [d1, d2, d3, d4] }
  | _ => none }
def BusHasWrongFalsely : Prop := busHasRow.holds Try.pinned (OpenSpec.ofChange busHasWrong)

/-- 'auspexlaw09.BusOrder': WHATEVER THE INPUT: true; the input reads as it did. -/
def busOrderSpec : ChangeSpec := { name := "busOrder", fn := fun _ => fun
  | [d] => { results := [.lit (.bool true)], args := [d] }
  | _ => none }
def busOrderRow : OpenClaim := { program := "ythjmkmfpabphgaa", sum := "963a91a1419da97ad62492082b1b5854de531e736a9fb973180eeae481a0c0fb", func := "auspex/auspexlaw09.BusOrder", spec := "busOrder", apart := false }
def BusOrderSaid : Prop := busOrderRow.holds Try.pinned (OpenSpec.ofChange busOrderSpec)

/-- ITS FALSE NEIGHBOUR: 'it returns false'. Refute it at one input. -/
def busOrderWrong : ChangeSpec := { name := "busOrder", fn := fun _ => fun
  | [d] => { results := [.lit (.bool false)], args := [d] }
  | _ => none }
def BusOrderWrongFalsely : Prop := busOrderRow.holds Try.pinned (OpenSpec.ofChange busOrderWrong)

/-- 'auspexlaw09.BusKeeps': WHATEVER THE INPUT: true; the input reads as it did. -/
def busKeepsSpec : ChangeSpec := { name := "busKeeps", fn := fun _ => fun
  | [d1, d2, d3, d4] => { results := [.lit (.bool true)], args := [d1, d2, d3, d4] }
  | _ => none }
def busKeepsRow : OpenClaim := { program := "ythjmkmfpabphgaa", sum := "963a91a1419da97ad62492082b1b5854de531e736a9fb973180eeae481a0c0fb", func := "auspex/auspexlaw09.BusKeeps", spec := "busKeeps", apart := false }
def BusKeepsSaid : Prop := busKeepsRow.holds Try.pinned (OpenSpec.ofChange busKeepsSpec)

/-- ITS FALSE NEIGHBOUR: 'it returns false'. Refute it at one input. -/
def busKeepsWrong : ChangeSpec := { name := "busKeeps", fn := fun _ => fun
  | [d1, d2, d3, d4] => { results := [.lit (.bool false)], args := [d1, d2, d3, d4] }
  | _ => none }
def BusKeepsWrongFalsely : Prop := busKeepsRow.holds Try.pinned (OpenSpec.ofChange busKeepsWrong)

/- THE SECOND FORM. 'bulk': how many values and letters a reading holds, each counted each time it is reached (what is shared counts as often as it is met; a slice's spare places count too). A statement '..UptoSaid' is the law's where the arguments, and the package variables that the reading takes, are together of bulk at most 1048576: NARROWER than '..Said'. Prove '..Said' where nothing that the law and all that it calls make is longer than what came in: it says more and counts as full. Else prove '..UptoSaid'. A law counts once. -/
mutual
def uptoBulk {H : Type} : DataW H → Nat
  | .lit (.string bytes) => bytes.length + 1
  | .lit _ => 1
  | .nil => 1
  | .ptr d => uptoBulk d + 1
  | .slice elems spare => uptoBulkAll elems + uptoBulkAll spare + 1
  | .agg parts => uptoBulkAll parts + 1
  | .iface _ d => uptoBulk d + 1
  | .map entries => uptoBulkEntries entries + 1
  | .held _ => 1
def uptoBulkAll {H : Type} : List (DataW H) → Nat
  | [] => 0
  | d :: r => uptoBulk d + uptoBulkAll r
def uptoBulkEntries {H : Type} : List (Lit × DataW H) → Nat
  | [] => 0
  | x :: r => uptoBulkEntry x + uptoBulkEntries r
def uptoBulkEntry {H : Type} : Lit × DataW H → Nat
  | (.string bytes, d) => bytes.length + uptoBulk d + 1
  | (_, d) => uptoBulk d + 1
 end
def uptoSmall : (H : Type) → List (DataW H) → Bool := fun _ ds => decide (uptoBulkAll ds ≤ 1048576)
def OpenSpec.upto (s : _root_.Go.ChangeSpec) : _root_.Go.OpenSpec := { _root_.Go.OpenSpec.ofChange s with cond := some uptoSmall }

/-- 'auspexlaw09.BusHas', WHERE WHAT IT READS IS OF BULK AT MOST 1048576: true; the input reads as it did. -/
def busHasUptoRow : OpenClaim := { program := "ythjmkmfpabphgaa", sum := "963a91a1419da97ad62492082b1b5854de531e736a9fb973180eeae481a0c0fb", func := "auspex/auspexlaw09.BusHas", spec := "busHas", apart := false, narrowed := true }
def BusHasUptoSaid : Prop := busHasUptoRow.holds Try.pinned (OpenSpec.upto busHasSpec)

/-- 'auspexlaw09.BusOrder', WHERE WHAT IT READS IS OF BULK AT MOST 1048576: true; the input reads as it did. -/
def busOrderUptoRow : OpenClaim := { program := "ythjmkmfpabphgaa", sum := "963a91a1419da97ad62492082b1b5854de531e736a9fb973180eeae481a0c0fb", func := "auspex/auspexlaw09.BusOrder", spec := "busOrder", apart := false, narrowed := true }
def BusOrderUptoSaid : Prop := busOrderUptoRow.holds Try.pinned (OpenSpec.upto busOrderSpec)

/-- 'auspexlaw09.BusKeeps', WHERE WHAT IT READS IS OF BULK AT MOST 1048576: true; the input reads as it did. -/
def busKeepsUptoRow : OpenClaim := { program := "ythjmkmfpabphgaa", sum := "963a91a1419da97ad62492082b1b5854de531e736a9fb973180eeae481a0c0fb", func := "auspex/auspexlaw09.BusKeeps", spec := "busKeeps", apart := false, narrowed := true }
def BusKeepsUptoSaid : Prop := busKeepsUptoRow.holds Try.pinned (OpenSpec.upto busKeepsSpec)

end Rows
end Go.Proofs.Ythjmkmfpabphgaa
