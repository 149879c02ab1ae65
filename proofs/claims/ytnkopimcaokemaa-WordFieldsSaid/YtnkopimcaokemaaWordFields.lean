/- The statement WordFields: the walk of the law function. -/
import Derived.Test.YtnkopimcaokemaaWordRef
set_option linter.unusedVariables false
set_option linter.unusedSimpArgs false
namespace Go.Proofs.Ytnkopimcaokemaa
namespace Wd
open Go.RowKit

theorem WordFields_any (x : Nat) (a s : Int) (v : Nat) (w : World) (hx : x < 4294967296) (ha : -9223372036854775808 ≤ a ∧ a ≤ 9223372036854775807) (hs : -9223372036854775808 ≤ s ∧ s ≤ 9223372036854775807) (hv : v < 4294967296) :
    Calls Try.prog 6 #[.int .u32 (x : Int), .int .i64 a, .int .i64 s, .int .u32 (v : Int)] w fun e w' => e = .returned (.bool true) ∧ Bel w w' := by
  go_enter Try.func6, Try.ntmps6
  go_wp2_with (first | (go_at_call 11; refine (alive_any _).mono ?_; rintro e w' ⟨rfl, d, rfl⟩) | (go_at_call 12; refine (Field_any _ _ _ _ (by first | assumption | omega) (by first | assumption | omega) (by first | assumption | omega)).mono ?_; rintro e w' ⟨rfl, d, rfl⟩) | (go_at_call 9; refine (Set_any _ _ _ _ _ (by first | assumption | omega) (by first | assumption | omega) (by first | assumption | omega) (by first | assumption | omega)).mono ?_; rintro e w' ⟨rfl, d, rfl⟩) | (go_at_call 15; refine (Sext_any _ _ _ (by first | assumption | omega) (by first | assumption | omega)).mono ?_; rintro e w' ⟨rfl, d, rfl⟩) | (go_at_call 13; refine (refField_any _ _ _ _ (by first | assumption | omega) (by first | assumption | omega) (by first | assumption | omega)).mono ?_; rintro e w1 ⟨rfl, hb1⟩) | (go_at_call 14; refine (refSet_any _ _ _ _ _ (by first | assumption | omega) (by first | assumption | omega) (by first | assumption | omega) (by first | assumption | omega)).mono ?_; rintro e w2 ⟨rfl, hb2⟩) | (go_at_call 16; refine (refSext_any _ _ _ (by first | assumption | omega) (by first | assumption | omega)).mono ?_; rintro e w3 ⟨rfl, hb3⟩))
  go_ret
  exact ⟨rfl, (Bel.drewN _ _).trans (hb1.trans ((Bel.drewN _ _).trans (hb2.trans ((Bel.drewN _ _).trans hb3))))⟩

end Wd
end Go.Proofs.Ytnkopimcaokemaa
