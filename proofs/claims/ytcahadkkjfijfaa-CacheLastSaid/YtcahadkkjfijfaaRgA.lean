/- What stays while a statement is carried out, met again behind a call. -/
import Derived.Test.YtcahadkkjfijfaaRg
set_option linter.unusedVariables false
set_option linter.unusedSimpArgs false
namespace Go.Proofs.Ytcahadkkjfijfaa
open Go.RowKit

theorem Hold.next {B : Nat} {Mr : List Mu} {Dr : List Da} {w w0 w' : World} {D0 D : List Da} {M : List Mu} (_h : Hold B Mr Dr w) (hF : St w0 D0 w' M D) (hM : ∀ m ∈ Mr, m ∈ M) (hD : ∀ d ∈ Dr, d ∈ D) (hB : B = w0.heap.size) : Hold B Mr Dr w' := by
  subst hB
  exact hF.hold hM hD
end Go.Proofs.Ytcahadkkjfijfaa
