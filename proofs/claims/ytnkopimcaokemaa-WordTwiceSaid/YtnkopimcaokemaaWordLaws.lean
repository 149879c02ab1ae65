/- The statements WordSets, WordOver, WordTwice: the walks of the law functions. -/
import Derived.Test.YtnkopimcaokemaaWordWalk
set_option linter.unusedVariables false
set_option linter.unusedSimpArgs false
namespace Go.Proofs.Ytnkopimcaokemaa
namespace Wd
open Go.RowKit

theorem ne_false {a b : Nat} (h : a = b) : ((a : Int) != (b : Int)) = false := by subst h; simp
theorem eq_true_ {a b : Nat} (h : a = b) : ((a : Int) == (b : Int)) = true := by subst h; simp

theorem WordTwice_any (x : Nat) (a s : Int) (v u : Nat) (b t : Int) (w : World) (hx : x < 4294967296) (ha : -9223372036854775808 ≤ a ∧ a ≤ 9223372036854775807) (hs : -9223372036854775808 ≤ s ∧ s ≤ 9223372036854775807) (hv : v < 4294967296) (hu : u < 4294967296)
    (hb : -9223372036854775808 ≤ b ∧ b ≤ 9223372036854775807) (ht : -9223372036854775808 ≤ t ∧ t ≤ 9223372036854775807) :
    Calls Try.prog 5 #[.int .u32 (x : Int), .int .i64 a, .int .i64 s, .int .u32 (v : Int), .int .u32 (u : Int), .int .i64 b, .int .i64 t] w fun e w' => e = .returned (.bool true) ∧ Bel w w' := by
  have n1 := ne_false (I_set_set (a := a) (s := s) (v := v) (u := u) hx)
  have SC := fun h h' hbb => eq_true_ (I_set_comm (a := a) (s := s) (v := v) (b := b) (t := t) (u := u) hx h h' hbb)
  have HSC := Lib.hid SC
  clear SC
  have l1 := setI_lt a s v hx
  have l2 := setI_lt b t u hx
  cases hf : fits a s
  · go_enter Try.func5, Try.ntmps5
    go_wp2_with (first
      | (go_at_call 9; refine (Set_any _ _ _ _ _ (by assumption) (by assumption) (by assumption) (by assumption)).mono ?_; rintro e w' ⟨rfl, d, rfl⟩)
      | (go_at_call 11; refine (alive_any _).mono ?_; rintro e w' ⟨rfl, d, rfl⟩)
      | (go_at_call 10; refine (Fits_any _ _ _ (by assumption) (by assumption)).mono ?_; rintro e w' ⟨rfl, d, rfl⟩))
    go_ret
    exact ⟨rfl, Bel.drewN _ _⟩
  · cases hf' : fits b t
    · go_enter Try.func5, Try.ntmps5
      go_wp2_with (first
        | (go_at_call 9; refine (Set_any _ _ _ _ _ (by assumption) (by assumption) (by assumption) (by assumption)).mono ?_; rintro e w' ⟨rfl, d, rfl⟩)
        | (go_at_call 11; refine (alive_any _).mono ?_; rintro e w' ⟨rfl, d, rfl⟩)
        | (go_at_call 10; refine (Fits_any _ _ _ (by assumption) (by assumption)).mono ?_; rintro e w' ⟨rfl, d, rfl⟩))
      go_ret
      exact ⟨rfl, Bel.drewN _ _⟩
    · have k1 := fits_iff.1 hf
      have k2 := fits_iff.1 hf'
      by_cases c1 : a < b + t
      · by_cases c2 : b < a + s
        · go_enter Try.func5, Try.ntmps5
          go_wp2_with (first
            | (go_at_call 9; refine (Set_any _ _ _ _ _ (by assumption) (by assumption) (by assumption) (by assumption)).mono ?_; rintro e w' ⟨rfl, d, rfl⟩)
            | (go_at_call 11; refine (alive_any _).mono ?_; rintro e w' ⟨rfl, d, rfl⟩)
            | (go_at_call 10; refine (Fits_any _ _ _ (by assumption) (by assumption)).mono ?_; rintro e w' ⟨rfl, d, rfl⟩))
          go_ret
          exact ⟨rfl, Bel.drewN _ _⟩
        · have e1 := HSC.out hf hf' (by omega)
          go_enter Try.func5, Try.ntmps5
          go_wp2_with (first
            | (go_at_call 9; refine (Set_any _ _ _ _ _ (by assumption) (by assumption) (by assumption) (by assumption)).mono ?_; rintro e w' ⟨rfl, d, rfl⟩)
            | (go_at_call 11; refine (alive_any _).mono ?_; rintro e w' ⟨rfl, d, rfl⟩)
            | (go_at_call 10; refine (Fits_any _ _ _ (by assumption) (by assumption)).mono ?_; rintro e w' ⟨rfl, d, rfl⟩))
          go_ret
          exact ⟨rfl, Bel.drewN _ _⟩
      · have e1 := HSC.out hf hf' (by omega)
        go_enter Try.func5, Try.ntmps5
        go_wp2_with (first
          | (go_at_call 9; refine (Set_any _ _ _ _ _ (by assumption) (by assumption) (by assumption) (by assumption)).mono ?_; rintro e w' ⟨rfl, d, rfl⟩)
          | (go_at_call 11; refine (alive_any _).mono ?_; rintro e w' ⟨rfl, d, rfl⟩)
          | (go_at_call 10; refine (Fits_any _ _ _ (by assumption) (by assumption)).mono ?_; rintro e w' ⟨rfl, d, rfl⟩))
        go_ret
        exact ⟨rfl, Bel.drewN _ _⟩

end Wd
end Go.Proofs.Ytnkopimcaokemaa
