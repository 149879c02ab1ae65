/- The statement GuessOutcomes: the walks. -/
import Derived.Test.YtghekfdpgeopjaaGuessT
import Derived.StillTailTactics
import Derived.RegionTactic
import Derived.BigRegion
set_option linter.unusedVariables false
set_option linter.unusedSimpArgs false
set_option maxRecDepth 100000
namespace Go.Proofs.Ytghekfdpgeopjaa
open Go.RowKit

set_option maxHeartbeats 1000000 in
theorem few_any (As Ar : Option Addr) (ns cs h nr cr : Nat) (w : World) (h1 : ns ≤ cs) (h2 : cs ≤ maxLen) (h3 : nr ≤ cr) (h4 : cr ≤ maxLen) :
    Calls Try.prog 11 #[gv As ns cs h Ar nr cr] w fun e w' => e = .returned (gv As (min ns 20) cs h Ar (min nr 20) cr) ∧ Bel w w' := by
  unfold maxLen at h2 h4
  by_cases hs : 20 < ns
  · by_cases hr : 20 < nr
    · rw [Nat.min_eq_right (by omega), Nat.min_eq_right (by omega)]
      (unfold gv; go_enter Try.func11, Try.ntmps11; go_wp2; go_region; go_wp2; go_returns; exact ⟨rfl, ((Bel.alloc w _).trans (Bel.alloc _ _)).trans (Bel.drew _)⟩)
    · rw [Nat.min_eq_right (by omega), Nat.min_eq_left (by omega)]
      (unfold gv; go_enter Try.func11, Try.ntmps11; go_wp2; go_region; go_wp2; go_returns; exact ⟨rfl, ((Bel.alloc w _).trans (Bel.alloc _ _)).trans (Bel.drew _)⟩)
  · by_cases hr : 20 < nr
    · rw [Nat.min_eq_left (by omega), Nat.min_eq_right (by omega)]
      (unfold gv; go_enter Try.func11, Try.ntmps11; go_wp2; go_region; go_wp2; go_returns; exact ⟨rfl, ((Bel.alloc w _).trans (Bel.alloc _ _)).trans (Bel.drew _)⟩)
    · rw [Nat.min_eq_left (by omega), Nat.min_eq_left (by omega)]
      (unfold gv; go_enter Try.func11, Try.ntmps11; go_wp2; go_region; go_wp2; go_returns; exact ⟨rfl, ((Bel.alloc w _).trans (Bel.alloc _ _)).trans (Bel.drew _)⟩)

end Go.Proofs.Ytghekfdpgeopjaa
