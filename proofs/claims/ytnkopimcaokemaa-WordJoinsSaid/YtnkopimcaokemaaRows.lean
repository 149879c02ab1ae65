/-
  No cell of these rows narrows 'for every input' (looked for: loops, veiled, ifaces, maps, wideKeys, modest, calm, conditions, laid).
  DERIVED. THE GIVEN ROWS OF THIS SEAT. 6 by the template 'for every input the law returns true; each argument reads behind the call as it read before'; 0 by the template 'total and deterministic' (their statements: YtnkopimcaokemaaTotals.lean).
  GIVEN WITH THE SEED: the statements are not yours to turn. If you find one false, say at which input.
  Laid BY PROGRAM, IN A SANDBOX (cutbox-rows.mjs): the forced cells as the released guide's own fill.sh prints them over the translation 8e589a68b9840a39… (all of the seat's roots in one cut). By AI agents, Wed Nov 11 2026. No macro, syntax, notation, axiom, sorry.
-/
import Derived.Test.YtnkopimcaokemaaChecked
import GoSem.Claim
import GoSem.ClaimJoined
import GoSem.ClaimMapViews
import Derived.JoinedTies
import Derived.KernelRfl
namespace Go.Proofs.Ytnkopimcaokemaa
/- THE CELL 'sum', in the pinned program and in every row, IS THE sha256 OF THE DUMP (.gsa) THAT YtnkopimcaokemaaProg.lean LOADS. Nothing in Lean hashes anything: it is a label: what it is worth is what the hold of that sum in a sandbox is worth. -/
noncomputable def Try.pinned : Pinned := { name := "ytnkopimcaokemaa", sum := "8e589a68b9840a3924461f666a2e260613cca2983e1c0a86e529523f45e15cf0", checked := Try.checked }
namespace Rows
def none {H : Type} : Left H := { results := [], args := [] }

/-- 'auspexlaw01.WordSets': WHATEVER THE INPUT: true; the input reads as it did. -/
def wordSetsSpec : ChangeSpec := { name := "wordSets", fn := fun _ => fun
  | [d1, d2, d3, d4, d5, d6] => { results := [.lit (.bool true)], args := [d1, d2, d3, d4, d5, d6] }
  | _ => none }
def wordSetsRow : OpenClaim := { program := "ytnkopimcaokemaa", sum := "8e589a68b9840a3924461f666a2e260613cca2983e1c0a86e529523f45e15cf0", func := "auspex/auspexlaw01.WordSets", spec := "wordSets", apart := false }
def WordSetsSaid : Prop := wordSetsRow.holds Try.pinned (OpenSpec.ofChange wordSetsSpec)

/-- ITS FALSE NEIGHBOUR: 'it returns false'. Refute it at one input. -/
def wordSetsWrong : ChangeSpec := { name := "wordSets", fn := fun _ => fun
  | [d1, d2, d3, d4, d5, d6] => { results := [.lit (.bool false)], args := [d1, d2, d3, d4, d5, d6] }
  | _ => none }
def WordSetsWrongFalsely : Prop := wordSetsRow.holds Try.pinned (OpenSpec.ofChange wordSetsWrong)

/-- 'auspexlaw01.WordOver': WHATEVER THE INPUT: true; the input reads as it did. -/
def wordOverSpec : ChangeSpec := { name := "wordOver", fn := fun _ => fun
  | [d1, d2, d3, d4, d5] => { results := [.lit (.bool true)], args := [d1, d2, d3, d4, d5] }
  | _ => none }
def wordOverRow : OpenClaim := { program := "ytnkopimcaokemaa", sum := "8e589a68b9840a3924461f666a2e260613cca2983e1c0a86e529523f45e15cf0", func := "auspex/auspexlaw01.WordOver", spec := "wordOver", apart := false }
def WordOverSaid : Prop := wordOverRow.holds Try.pinned (OpenSpec.ofChange wordOverSpec)

/-- ITS FALSE NEIGHBOUR: 'it returns false'. Refute it at one input. -/
def wordOverWrong : ChangeSpec := { name := "wordOver", fn := fun _ => fun
  | [d1, d2, d3, d4, d5] => { results := [.lit (.bool false)], args := [d1, d2, d3, d4, d5] }
  | _ => none }
def WordOverWrongFalsely : Prop := wordOverRow.holds Try.pinned (OpenSpec.ofChange wordOverWrong)

/-- 'auspexlaw01.WordTwice': WHATEVER THE INPUT: true; the input reads as it did. -/
def wordTwiceSpec : ChangeSpec := { name := "wordTwice", fn := fun _ => fun
  | [d1, d2, d3, d4, d5, d6, d7] => { results := [.lit (.bool true)], args := [d1, d2, d3, d4, d5, d6, d7] }
  | _ => none }
def wordTwiceRow : OpenClaim := { program := "ytnkopimcaokemaa", sum := "8e589a68b9840a3924461f666a2e260613cca2983e1c0a86e529523f45e15cf0", func := "auspex/auspexlaw01.WordTwice", spec := "wordTwice", apart := false }
def WordTwiceSaid : Prop := wordTwiceRow.holds Try.pinned (OpenSpec.ofChange wordTwiceSpec)

/-- ITS FALSE NEIGHBOUR: 'it returns false'. Refute it at one input. -/
def wordTwiceWrong : ChangeSpec := { name := "wordTwice", fn := fun _ => fun
  | [d1, d2, d3, d4, d5, d6, d7] => { results := [.lit (.bool false)], args := [d1, d2, d3, d4, d5, d6, d7] }
  | _ => none }
def WordTwiceWrongFalsely : Prop := wordTwiceRow.holds Try.pinned (OpenSpec.ofChange wordTwiceWrong)

/-- 'auspexlaw01.WordFields': WHATEVER THE INPUT: true; the input reads as it did. -/
def wordFieldsSpec : ChangeSpec := { name := "wordFields", fn := fun _ => fun
  | [d1, d2, d3, d4] => { results := [.lit (.bool true)], args := [d1, d2, d3, d4] }
  | _ => none }
def wordFieldsRow : OpenClaim := { program := "ytnkopimcaokemaa", sum := "8e589a68b9840a3924461f666a2e260613cca2983e1c0a86e529523f45e15cf0", func := "auspex/auspexlaw01.WordFields", spec := "wordFields", apart := false }
def WordFieldsSaid : Prop := wordFieldsRow.holds Try.pinned (OpenSpec.ofChange wordFieldsSpec)

/-- ITS FALSE NEIGHBOUR: 'it returns false'. Refute it at one input. -/
def wordFieldsWrong : ChangeSpec := { name := "wordFields", fn := fun _ => fun
  | [d1, d2, d3, d4] => { results := [.lit (.bool false)], args := [d1, d2, d3, d4] }
  | _ => none }
def WordFieldsWrongFalsely : Prop := wordFieldsRow.holds Try.pinned (OpenSpec.ofChange wordFieldsWrong)

/-- 'auspexlaw01.WordBytes': WHATEVER THE INPUT: true; the input reads as it did. -/
def wordBytesSpec : ChangeSpec := { name := "wordBytes", fn := fun _ => fun
  | [d1, d2, d3] => { results := [.lit (.bool true)], args := [d1, d2, d3] }
  | _ => none }
def wordBytesRow : OpenClaim := { program := "ytnkopimcaokemaa", sum := "8e589a68b9840a3924461f666a2e260613cca2983e1c0a86e529523f45e15cf0", func := "auspex/auspexlaw01.WordBytes", spec := "wordBytes", apart := false }
def WordBytesSaid : Prop := wordBytesRow.holds Try.pinned (OpenSpec.ofChange wordBytesSpec)

/-- ITS FALSE NEIGHBOUR: 'it returns false'. Refute it at one input. -/
def wordBytesWrong : ChangeSpec := { name := "wordBytes", fn := fun _ => fun
  | [d1, d2, d3] => { results := [.lit (.bool false)], args := [d1, d2, d3] }
  | _ => none }
def WordBytesWrongFalsely : Prop := wordBytesRow.holds Try.pinned (OpenSpec.ofChange wordBytesWrong)

/-- 'auspexlaw01.WordJoins': WHATEVER THE INPUT: true; the input reads as it did. -/
def wordJoinsSpec : ChangeSpec := { name := "wordJoins", fn := fun _ => fun
  | [d1, d2, d3] => { results := [.lit (.bool true)], args := [d1, d2, d3] }
  | _ => none }
def wordJoinsRow : OpenClaim := { program := "ytnkopimcaokemaa", sum := "8e589a68b9840a3924461f666a2e260613cca2983e1c0a86e529523f45e15cf0", func := "auspex/auspexlaw01.WordJoins", spec := "wordJoins", apart := false }
def WordJoinsSaid : Prop := wordJoinsRow.holds Try.pinned (OpenSpec.ofChange wordJoinsSpec)

/-- ITS FALSE NEIGHBOUR: 'it returns false'. Refute it at one input. -/
def wordJoinsWrong : ChangeSpec := { name := "wordJoins", fn := fun _ => fun
  | [d1, d2, d3] => { results := [.lit (.bool false)], args := [d1, d2, d3] }
  | _ => none }
def WordJoinsWrongFalsely : Prop := wordJoinsRow.holds Try.pinned (OpenSpec.ofChange wordJoinsWrong)

/- THE SECOND FORM. 'bulk': how many values and letters a reading holds, each counted each time it is reached (what is shared counts as often as it is met; a slice's spare places count too). A statement '..UptoSaid' is the law's where the arguments, and the package variables that the reading takes, are together of bulk at most 1048576: NARROWER than '..Said'. Prove '..Said' where nothing that the law and all that it calls make is longer than what came in: it says more and counts as full. Else prove '..UptoSaid'. A law counts once. -/
mutual
def uptoBulk {H : Type} : DataW H → Nat
  | .lit (.string bytes) => bytes.length + 1
  | .lit _ => 1
  | .nil => 1
  | .ptr d => uptoBulk d + 1
  | .slice elems spare => uptoBulkAll elems + uptoBulkAll spare + 1
  | .agg parts => uptoBulkAll parts + 1
  | .iface _ d => uptoBulk d + 1
  | .map entries => uptoBulkEntries entries + 1
  | .held _ => 1
def uptoBulkAll {H : Type} : List (DataW H) → Nat
  | [] => 0
  | d :: r => uptoBulk d + uptoBulkAll r
def uptoBulkEntries {H : Type} : List (Lit × DataW H) → Nat
  | [] => 0
  | x :: r => uptoBulkEntry x + uptoBulkEntries r
def uptoBulkEntry {H : Type} : Lit × DataW H → Nat
  | (.string bytes, d) => bytes.length + uptoBulk d + 1
  | (_, d) => uptoBulk d + 1
 end
def uptoSmall : (H : Type) → List (DataW H) → Bool := fun _ ds => decide (uptoBulkAll ds ≤ 1048576)
def OpenSpec.upto (s : _root_.Go.ChangeSpec) : _root_.Go.OpenSpec := { _root_.Go.OpenSpec.ofChange s with cond := some uptoSmall }

/-- 'auspexlaw01.WordSets', WHERE WHAT IT READS IS OF BULK AT MOST 1048576: true; the input reads as it did. -/
def wordSetsUptoRow : OpenClaim := { program := "ytnkopimcaokemaa", sum := "8e589a68b9840a3924461f666a2e260613cca2983e1c0a86e529523f45e15cf0", func := "auspex/auspexlaw01.WordSets", spec := "wordSets", apart := false, narrowed := true }
def WordSetsUptoSaid : Prop := wordSetsUptoRow.holds Try.pinned (OpenSpec.upto wordSetsSpec)

/-- 'auspexlaw01.WordOver', WHERE WHAT IT READS IS OF BULK AT MOST 1048576: true; the input reads as it did. -/
def wordOverUptoRow : OpenClaim := { program := "ytnkopimcaokemaa", sum := "8e589a68b9840a3924461f666a2e260613cca2983e1c0a86e529523f45e15cf0", func := "auspex/auspexlaw01.WordOver", spec := "wordOver", apart := false, narrowed := true }
def WordOverUptoSaid : Prop := wordOverUptoRow.holds Try.pinned (OpenSpec.upto wordOverSpec)

/-- 'auspexlaw01.WordTwice', WHERE WHAT IT READS IS OF BULK AT MOST 1048576: true; the input reads as it did. -/
def wordTwiceUptoRow : OpenClaim := { program := "ytnkopimcaokemaa", sum := "8e589a68b9840a3924461f666a2e260613cca2983e1c0a86e529523f45e15cf0", func := "auspex/auspexlaw01.WordTwice", spec := "wordTwice", apart := false, narrowed := true }
def WordTwiceUptoSaid : Prop := wordTwiceUptoRow.holds Try.pinned (OpenSpec.upto wordTwiceSpec)

/-- 'auspexlaw01.WordFields', WHERE WHAT IT READS IS OF BULK AT MOST 1048576: true; the input reads as it did. -/
def wordFieldsUptoRow : OpenClaim := { program := "ytnkopimcaokemaa", sum := "8e589a68b9840a3924461f666a2e260613cca2983e1c0a86e529523f45e15cf0", func := "auspex/auspexlaw01.WordFields", spec := "wordFields", apart := false, narrowed := true }
def WordFieldsUptoSaid : Prop := wordFieldsUptoRow.holds Try.pinned (OpenSpec.upto wordFieldsSpec)

/-- 'auspexlaw01.WordBytes', WHERE WHAT IT READS IS OF BULK AT MOST 1048576: true; the input reads as it did. -/
def wordBytesUptoRow : OpenClaim := { program := "ytnkopimcaokemaa", sum := "8e589a68b9840a3924461f666a2e260613cca2983e1c0a86e529523f45e15cf0", func := "auspex/auspexlaw01.WordBytes", spec := "wordBytes", apart := false, narrowed := true }
def WordBytesUptoSaid : Prop := wordBytesUptoRow.holds Try.pinned (OpenSpec.upto wordBytesSpec)

/-- 'auspexlaw01.WordJoins', WHERE WHAT IT READS IS OF BULK AT MOST 1048576: true; the input reads as it did. -/
def wordJoinsUptoRow : OpenClaim := { program := "ytnkopimcaokemaa", sum := "8e589a68b9840a3924461f666a2e260613cca2983e1c0a86e529523f45e15cf0", func := "auspex/auspexlaw01.WordJoins", spec := "wordJoins", apart := false, narrowed := true }
def WordJoinsUptoSaid : Prop := wordJoinsUptoRow.holds Try.pinned (OpenSpec.upto wordJoinsSpec)

end Rows
end Go.Proofs.Ytnkopimcaokemaa
