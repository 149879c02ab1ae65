/- Rows of bools. -/
import Derived.Test.YtbfllafbklfcjaaTLaw
set_option linter.unusedVariables false
set_option linter.unusedSimpArgs false
namespace Go.Proofs.Ytbfllafbklfcjaa
open Go.RowKit

def bls (ks : List Bool) : List Value := ks.map Value.bool
theorem bls_len (l : List Bool) : (bls l).length = l.length := by simp [bls]
theorem bls_at {l : List Bool} {k : Nat} {x : Bool} (h : l[k]? = some x) : (bls l)[k]? = some (.bool x) := by simp [bls, h]
theorem Rd.blslen {w : World} {B n c : Nat} {A : Option Addr} {l : List Bool} (h : Rd w B 1 A n c (bls l)) : l.length = n := by
  have := h.len; rw [bls_len] at this; omega
end Go.Proofs.Ytbfllafbklfcjaa
