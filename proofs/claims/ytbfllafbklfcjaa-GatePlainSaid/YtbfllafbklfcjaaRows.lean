/-
  No cell of these rows narrows 'for every input' (looked for: loops, veiled, ifaces, maps, wideKeys, modest, calm, conditions, laid).
  DERIVED. THE GIVEN ROWS OF THIS SEAT. 6 by the template 'for every input the law returns true; each argument reads behind the call as it read before'; 0 by the template 'total and deterministic' (their statements: YtbfllafbklfcjaaTotals.lean).
  GIVEN WITH THE SEED: the statements are not yours to turn. If you find one false, say at which input.
  Laid BY PROGRAM, IN A SANDBOX (cutbox-rows.mjs): the forced cells as the released guide's own fill.sh prints them over the translation 7f023136ca2824e8… (all of the seat's roots in one cut). By AI agents, Wed Nov 11 2026. No macro, syntax, notation, axiom, sorry.
-/
import Derived.Test.YtbfllafbklfcjaaChecked
import GoSem.Claim
import GoSem.ClaimJoined
import GoSem.ClaimMapViews
import Derived.JoinedTies
import Derived.KernelRfl
namespace Go.Proofs.Ytbfllafbklfcjaa
/- THE CELL 'sum', in the pinned program and in every row, IS THE sha256 OF THE DUMP (.gsa) THAT YtbfllafbklfcjaaProg.lean LOADS. Nothing in Lean hashes anything: it is a label: what it is worth is what the hold of that sum in a sandbox is worth. -/
noncomputable def Try.pinned : Pinned := { name := "ytbfllafbklfcjaa", sum := "7f023136ca2824e8d25e8834dfb1b358e3a7134409979cadcf07af7fa49e63f1", checked := Try.checked }
namespace Rows
def none {H : Type} : Left H := { results := [], args := [] }

/-- 'auspexlaw14.TaintFront': WHATEVER THE INPUT: true; the input reads as it did. -/
def taintFrontSpec : ChangeSpec := { name := "taintFront", fn := fun _ => fun
  | [d] => { results := [.lit (.bool true)], args := [d] }
  | _ => none }
def taintFrontRow : OpenClaim := { program := "ytbfllafbklfcjaa", sum := "7f023136ca2824e8d25e8834dfb1b358e3a7134409979cadcf07af7fa49e63f1", func := "auspex/auspexlaw14.TaintFront", spec := "taintFront", apart := false }
def TaintFrontSaid : Prop := taintFrontRow.holds Try.pinned (OpenSpec.ofChange taintFrontSpec)

/-- ITS FALSE NEIGHBOUR: 'it returns false'. Refute it at one input. -/
def taintFrontWrong : ChangeSpec := { name := "taintFront", fn := fun _ => fun
  | [d] => { results := [.lit (.bool false)], args := [d] }
  | _ => none }
def TaintFrontWrongFalsely : Prop := taintFrontRow.holds Try.pinned (OpenSpec.ofChange taintFrontWrong)

/-- 'auspexlaw14.TaintGoes': WHATEVER THE INPUT: true; the input reads as it did. -/
def taintGoesSpec : ChangeSpec := { name := "taintGoes", fn := fun _ => fun
  | [d1, d2, d3] => { results := [.lit (.bool true)], args := [d1, d2, d3] }
  | _ => none }
def taintGoesRow : OpenClaim := { program := "ytbfllafbklfcjaa", sum := "7f023136ca2824e8d25e8834dfb1b358e3a7134409979cadcf07af7fa49e63f1", func := "auspex/auspexlaw14.TaintGoes", spec := "taintGoes", unfollowed := true, recurses := true, apart := false }
def TaintGoesSaid : Prop := taintGoesRow.holds Try.pinned (OpenSpec.ofChange taintGoesSpec)

/-- ITS FALSE NEIGHBOUR: 'it returns false'. Refute it at one input. -/
def taintGoesWrong : ChangeSpec := { name := "taintGoes", fn := fun _ => fun
  | [d1, d2, d3] => { results := [.lit (.bool false)], args := [d1, d2, d3] }
  | _ => none }
def TaintGoesWrongFalsely : Prop := taintGoesRow.holds Try.pinned (OpenSpec.ofChange taintGoesWrong)

/-- 'auspexlaw14.TaintVisible': WHATEVER THE INPUT: true; the input reads as it did. -/
def taintVisibleSpec : ChangeSpec := { name := "taintVisible", fn := fun _ => fun
  | [d] => { results := [.lit (.bool true)], args := [d] }
  | _ => none }
def taintVisibleRow : OpenClaim := { program := "ytbfllafbklfcjaa", sum := "7f023136ca2824e8d25e8834dfb1b358e3a7134409979cadcf07af7fa49e63f1", func := "auspex/auspexlaw14.TaintVisible", spec := "taintVisible", unfollowed := true, recurses := true, apart := false }
def TaintVisibleSaid : Prop := taintVisibleRow.holds Try.pinned (OpenSpec.ofChange taintVisibleSpec)

/-- ITS FALSE NEIGHBOUR: 'it returns false'. Refute it at one input. -/
def taintVisibleWrong : ChangeSpec := { name := "taintVisible", fn := fun _ => fun
  | [d] => { results := [.lit (.bool false)], args := [d] }
  | _ => none }
def TaintVisibleWrongFalsely : Prop := taintVisibleRow.holds Try.pinned (OpenSpec.ofChange taintVisibleWrong)

/-- 'auspexlaw14.TaintNone': WHATEVER THE INPUT: true; the input reads as it did. -/
def taintNoneSpec : ChangeSpec := { name := "taintNone", fn := fun _ => fun
  | [d] => { results := [.lit (.bool true)], args := [d] }
  | _ => none }
def taintNoneRow : OpenClaim := { program := "ytbfllafbklfcjaa", sum := "7f023136ca2824e8d25e8834dfb1b358e3a7134409979cadcf07af7fa49e63f1", func := "auspex/auspexlaw14.TaintNone", spec := "taintNone", unfollowed := true, recurses := true, apart := false }
def TaintNoneSaid : Prop := taintNoneRow.holds Try.pinned (OpenSpec.ofChange taintNoneSpec)

/-- ITS FALSE NEIGHBOUR: 'it returns false'. Refute it at one input. -/
def taintNoneWrong : ChangeSpec := { name := "taintNone", fn := fun _ => fun
  | [d] => { results := [.lit (.bool false)], args := [d] }
  | _ => none }
def TaintNoneWrongFalsely : Prop := taintNoneRow.holds Try.pinned (OpenSpec.ofChange taintNoneWrong)

/-- 'auspexlaw15.GateOrder': WHATEVER THE INPUT: true; the input reads as it did. -/
def gateOrderSpec : ChangeSpec := { name := "gateOrder", fn := fun _ => fun
  | [d1, d2] => { results := [.lit (.bool true)], args := [d1, d2] }
  | _ => none }
def gateOrderRow : OpenClaim := { program := "ytbfllafbklfcjaa", sum := "7f023136ca2824e8d25e8834dfb1b358e3a7134409979cadcf07af7fa49e63f1", func := "auspex/auspexlaw15.GateOrder", spec := "gateOrder", unfollowed := true, recurses := true, apart := false }
def GateOrderSaid : Prop := gateOrderRow.holds Try.pinned (OpenSpec.ofChange gateOrderSpec)

/-- ITS FALSE NEIGHBOUR: 'it returns false'. Refute it at one input. -/
def gateOrderWrong : ChangeSpec := { name := "gateOrder", fn := fun _ => fun
  | [d1, d2] => { results := [.lit (.bool false)], args := [d1, d2] }
  | _ => none }
def GateOrderWrongFalsely : Prop := gateOrderRow.holds Try.pinned (OpenSpec.ofChange gateOrderWrong)

/-- 'auspexlaw15.GatePlain': WHATEVER THE INPUT: true; the input reads as it did. -/
def gatePlainSpec : ChangeSpec := { name := "gatePlain", fn := fun _ => fun
  | [d] => { results := [.lit (.bool true)], args := [d] }
  | _ => none }
def gatePlainRow : OpenClaim := { program := "ytbfllafbklfcjaa", sum := "7f023136ca2824e8d25e8834dfb1b358e3a7134409979cadcf07af7fa49e63f1", func := "auspex/auspexlaw15.GatePlain", spec := "gatePlain", unfollowed := true, recurses := true, apart := false }
def GatePlainSaid : Prop := gatePlainRow.holds Try.pinned (OpenSpec.ofChange gatePlainSpec)

/-- ITS FALSE NEIGHBOUR: 'it returns false'. Refute it at one input. -/
def gatePlainWrong : ChangeSpec := { name := "gatePlain", fn := fun _ => fun
  | [d] => { results := [.lit (.bool false)], args := [d] }
  | _ => none }
def GatePlainWrongFalsely : Prop := gatePlainRow.holds Try.pinned (OpenSpec.ofChange gatePlainWrong)

/- THE SECOND FORM. 'bulk': how many values and letters a reading holds, each counted each time it is reached (what is shared counts as often as it is met; a slice's spare places count too). A statement '..UptoSaid' is the law's where the arguments, and the package variables that the reading takes, are together of bulk at most 1048576: NARROWER than '..Said'. Prove '..Said' where nothing that the law and all that it calls make is longer than what came in: it says more and counts as full. Else prove '..UptoSaid'. A law counts once. -/
mutual
def uptoBulk {H : Type} : DataW H → Nat
  | .lit (.string bytes) => bytes.length + 1
  | .lit _ => 1
  | .nil => 1
  | .ptr d => uptoBulk d + 1
  | .slice elems spare => uptoBulkAll elems + uptoBulkAll spare + 1
  | .agg parts => uptoBulkAll parts + 1
  | .iface _ d => uptoBulk d + 1
  | .map entries => uptoBulkEntries entries + 1
  | .held _ => 1
def uptoBulkAll {H : Type} : List (DataW H) → Nat
  | [] => 0
  | d :: r => uptoBulk d + uptoBulkAll r
def uptoBulkEntries {H : Type} : List (Lit × DataW H) → Nat
  | [] => 0
  | x :: r => uptoBulkEntry x + uptoBulkEntries r
def uptoBulkEntry {H : Type} : Lit × DataW H → Nat
  | (.string bytes, d) => bytes.length + uptoBulk d + 1
  | (_, d) => uptoBulk d + 1
 end
def uptoSmall : (H : Type) → List (DataW H) → Bool := fun _ ds => decide (uptoBulkAll ds ≤ 1048576)
def OpenSpec.upto (s : _root_.Go.ChangeSpec) : _root_.Go.OpenSpec := { _root_.Go.OpenSpec.ofChange s with cond := some uptoSmall }

/-- 'auspexlaw14.TaintFront', WHERE WHAT IT READS IS OF BULK AT MOST 1048576: true; the input reads as it did. -/
def taintFrontUptoRow : OpenClaim := { program := "ytbfllafbklfcjaa", sum := "7f023136ca2824e8d25e8834dfb1b358e3a7134409979cadcf07af7fa49e63f1", func := "auspex/auspexlaw14.TaintFront", spec := "taintFront", apart := false, narrowed := true }
def TaintFrontUptoSaid : Prop := taintFrontUptoRow.holds Try.pinned (OpenSpec.upto taintFrontSpec)

/-- 'auspexlaw14.TaintGoes', WHERE WHAT IT READS IS OF BULK AT MOST 1048576: true; the input reads as it did. -/
def taintGoesUptoRow : OpenClaim := { program := "ytbfllafbklfcjaa", sum := "7f023136ca2824e8d25e8834dfb1b358e3a7134409979cadcf07af7fa49e63f1", func := "auspex/auspexlaw14.TaintGoes", spec := "taintGoes", unfollowed := true, recurses := true, apart := false, narrowed := true }
def TaintGoesUptoSaid : Prop := taintGoesUptoRow.holds Try.pinned (OpenSpec.upto taintGoesSpec)

/-- 'auspexlaw14.TaintVisible', WHERE WHAT IT READS IS OF BULK AT MOST 1048576: true; the input reads as it did. -/
def taintVisibleUptoRow : OpenClaim := { program := "ytbfllafbklfcjaa", sum := "7f023136ca2824e8d25e8834dfb1b358e3a7134409979cadcf07af7fa49e63f1", func := "auspex/auspexlaw14.TaintVisible", spec := "taintVisible", unfollowed := true, recurses := true, apart := false, narrowed := true }
def TaintVisibleUptoSaid : Prop := taintVisibleUptoRow.holds Try.pinned (OpenSpec.upto taintVisibleSpec)

/-- 'auspexlaw14.TaintNone', WHERE WHAT IT READS IS OF BULK AT MOST 1048576: true; the input reads as it did. -/
def taintNoneUptoRow : OpenClaim := { program := "ytbfllafbklfcjaa", sum := "7f023136ca2824e8d25e8834dfb1b358e3a7134409979cadcf07af7fa49e63f1", func := "auspex/auspexlaw14.TaintNone", spec := "taintNone", unfollowed := true, recurses := true, apart := false, narrowed := true }
def TaintNoneUptoSaid : Prop := taintNoneUptoRow.holds Try.pinned (OpenSpec.upto taintNoneSpec)

/-- 'auspexlaw15.GateOrder', WHERE WHAT IT READS IS OF BULK AT MOST 1048576: true; the input reads as it did. -/
def gateOrderUptoRow : OpenClaim := { program := "ytbfllafbklfcjaa", sum := "7f023136ca2824e8d25e8834dfb1b358e3a7134409979cadcf07af7fa49e63f1", func := "auspex/auspexlaw15.GateOrder", spec := "gateOrder", unfollowed := true, recurses := true, apart := false, narrowed := true }
def GateOrderUptoSaid : Prop := gateOrderUptoRow.holds Try.pinned (OpenSpec.upto gateOrderSpec)

/-- 'auspexlaw15.GatePlain', WHERE WHAT IT READS IS OF BULK AT MOST 1048576: true; the input reads as it did. -/
def gatePlainUptoRow : OpenClaim := { program := "ytbfllafbklfcjaa", sum := "7f023136ca2824e8d25e8834dfb1b358e3a7134409979cadcf07af7fa49e63f1", func := "auspex/auspexlaw15.GatePlain", spec := "gatePlain", unfollowed := true, recurses := true, apart := false, narrowed := true }
def GatePlainUptoSaid : Prop := gatePlainUptoRow.holds Try.pinned (OpenSpec.upto gatePlainSpec)

end Rows
end Go.Proofs.Ytbfllafbklfcjaa
