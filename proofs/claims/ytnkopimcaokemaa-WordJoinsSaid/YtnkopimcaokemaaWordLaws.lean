/- The statements WordSets, WordOver, WordTwice: the walks of the law functions. -/
import Derived.Test.YtnkopimcaokemaaWordWalk
set_option linter.unusedVariables false
set_option linter.unusedSimpArgs false
namespace Go.Proofs.Ytnkopimcaokemaa
namespace Wd
open Go.RowKit

theorem ne_false {a b : Nat} (h : a = b) : ((a : Int) != (b : Int)) = false := by subst h; simp
theorem eq_true_ {a b : Nat} (h : a = b) : ((a : Int) == (b : Int)) = true := by subst h; simp

theorem WordTwice_any (x : Nat) (a s : Int) (v u : Nat) (b t : Int) (w : World) (hx : x < 4294967296) (ha : -9223372036854775808 ≤ a ∧ a ≤ 9223372036854775807) (hs : -9223372036854775808 ≤ s ∧ s ≤ 9223372036854775807) (hv : v < 4294967296) (hu : u < 4294967296)
    (hb : -9223372036854775808 ≤ b ∧ b ≤ 9223372036854775807) (ht : -9223372036854775808 ≤ t ∧ t ≤ 9223372036854775807) :
    Calls Try.prog 5 #[.int .u32 (x : Int), .int .i64 a, .int .i64 s, .int .u32 (v : Int), .int .u32 (u : Int), .int .i64 b, .int .i64 t] w fun e w' => e = .returned (.bool true) ∧ Bel w w' := by
  have n1 := ne_false (I_set_set (a := a) (s := s) (v := v) (u := u) hx)
  have SC := fun h h' hbb => eq_true_ (I_set_comm (a := a) (s := s) (v := v) (b := b) (t := t) (u := u) hx h h' hbb)
  have HSC := Lib.hid SC
  clear SC
  have l1 := setI_lt a s v hx
  have l2 := setI_lt b t u hx
  cases hf : fits a s
  · go_enter Try.func5, Try.ntmps5
    go_wp2_with (first
      | (go_at_call 9; refine (Set_any _ _ _ _ _ (by assumption) (by assumption) (by assumption) (by assumption)).mono ?_; rintro e w' ⟨rfl, d, rfl⟩)
      | (go_at_call 11; refine (alive_any _).mono ?_; rintro e w' ⟨rfl, d, rfl⟩)
      | (go_at_call 10; refine (Fits_any _ _ _ (by assumption) (by assumption)).mono ?_; rintro e w' ⟨rfl, d, rfl⟩))
    go_ret
    exact ⟨rfl, Bel.drewN _ _⟩
  · cases hf' : fits b t
    · go_enter Try.func5, Try.ntmps5
      go_wp2_with (first
        | (go_at_call 9; refine (Set_any _ _ _ _ _ (by assumption) (by assumption) (by assumption) (by assumption)).mono ?_; rintro e w' ⟨rfl, d, rfl⟩)
        | (go_at_call 11; refine (alive_any _).mono ?_; rintro e w' ⟨rfl, d, rfl⟩)
        | (go_at_call 10; refine (Fits_any _ _ _ (by assumption) (by assumption)).mono ?_; rintro e w' ⟨rfl, d, rfl⟩))
      go_ret
      exact ⟨rfl, Bel.drewN _ _⟩
    · have k1 := fits_iff.1 hf
      have k2 := fits_iff.1 hf'
      by_cases c1 : a < b + t
      · by_cases c2 : b < a + s
        · go_enter Try.func5, Try.ntmps5
          go_wp2_with (first
            | (go_at_call 9; refine (Set_any _ _ _ _ _ (by assumption) (by assumption) (by assumption) (by assumption)).mono ?_; rintro e w' ⟨rfl, d, rfl⟩)
            | (go_at_call 11; refine (alive_any _).mono ?_; rintro e w' ⟨rfl, d, rfl⟩)
            | (go_at_call 10; refine (Fits_any _ _ _ (by assumption) (by assumption)).mono ?_; rintro e w' ⟨rfl, d, rfl⟩))
          go_ret
          exact ⟨rfl, Bel.drewN _ _⟩
        · have e1 := HSC.out hf hf' (by omega)
          go_enter Try.func5, Try.ntmps5
          go_wp2_with (first
            | (go_at_call 9; refine (Set_any _ _ _ _ _ (by assumption) (by assumption) (by assumption) (by assumption)).mono ?_; rintro e w' ⟨rfl, d, rfl⟩)
            | (go_at_call 11; refine (alive_any _).mono ?_; rintro e w' ⟨rfl, d, rfl⟩)
            | (go_at_call 10; refine (Fits_any _ _ _ (by assumption) (by assumption)).mono ?_; rintro e w' ⟨rfl, d, rfl⟩))
          go_ret
          exact ⟨rfl, Bel.drewN _ _⟩
      · have e1 := HSC.out hf hf' (by omega)
        go_enter Try.func5, Try.ntmps5
        go_wp2_with (first
          | (go_at_call 9; refine (Set_any _ _ _ _ _ (by assumption) (by assumption) (by assumption) (by assumption)).mono ?_; rintro e w' ⟨rfl, d, rfl⟩)
          | (go_at_call 11; refine (alive_any _).mono ?_; rintro e w' ⟨rfl, d, rfl⟩)
          | (go_at_call 10; refine (Fits_any _ _ _ (by assumption) (by assumption)).mono ?_; rintro e w' ⟨rfl, d, rfl⟩))
        go_ret
        exact ⟨rfl, Bel.drewN _ _⟩

theorem WordSets_any (x : Nat) (a s : Int) (v : Nat) (b t : Int) (w : World) (hx : x < 4294967296) (ha : -9223372036854775808 ≤ a ∧ a ≤ 9223372036854775807) (hs : -9223372036854775808 ≤ s ∧ s ≤ 9223372036854775807) (hv : v < 4294967296)
    (hb : -9223372036854775808 ≤ b ∧ b ≤ 9223372036854775807) (ht : -9223372036854775808 ≤ t ∧ t ≤ 9223372036854775807) :
    Calls Try.prog 3 #[.int .u32 (x : Int), .int .i64 a, .int .i64 s, .int .u32 (v : Int), .int .i64 b, .int .i64 t] w fun e w' => e = .returned (.bool true) ∧ Bel w w' := by
  have l1 := setI_lt a s v hx
  have l2 := fieldI_lt x a s
  cases hf : fits a s
  · have Hz := setI_no (w := x) (v := v) hf
    have n1 := eq_true_ Hz
    clear Hz
    go_enter Try.func3, Try.ntmps3
    go_wp2_with (first | (go_at_call 9; refine (Set_any _ _ _ _ _ (by first | assumption | omega) (by first | assumption | omega) (by first | assumption | omega) (by first | assumption | omega)).mono ?_; rintro e w' ⟨rfl, d, rfl⟩) | (go_at_call 12; refine (Field_any _ _ _ _ (by first | assumption | omega) (by first | assumption | omega) (by first | assumption | omega)).mono ?_; rintro e w' ⟨rfl, d, rfl⟩) | (go_at_call 10; refine (Fits_any _ _ _ (by assumption) (by assumption)).mono ?_; rintro e w' ⟨rfl, d, rfl⟩) | (go_at_call 11; refine (alive_any _).mono ?_; rintro e w' ⟨rfl, d, rfl⟩))
    go_ret
    exact ⟨rfl, Bel.drewN _ _⟩
  · have n1 := eq_true_ (I_field_set (v := v) hx hf)
    have n2 := eq_true_ (show setI (setI x a s v) a s (fieldI x a s) = x from (I_set_set hx).trans (I_set_field hx hf))
    cases hf' : fits b t
    · go_enter Try.func3, Try.ntmps3
      go_wp2_with (first | (go_at_call 9; refine (Set_any _ _ _ _ _ (by first | assumption | omega) (by first | assumption | omega) (by first | assumption | omega) (by first | assumption | omega)).mono ?_; rintro e w' ⟨rfl, d, rfl⟩) | (go_at_call 12; refine (Field_any _ _ _ _ (by first | assumption | omega) (by first | assumption | omega) (by first | assumption | omega)).mono ?_; rintro e w' ⟨rfl, d, rfl⟩) | (go_at_call 10; refine (Fits_any _ _ _ (by assumption) (by assumption)).mono ?_; rintro e w' ⟨rfl, d, rfl⟩) | (go_at_call 11; refine (alive_any _).mono ?_; rintro e w' ⟨rfl, d, rfl⟩))
      go_ret
      exact ⟨rfl, Bel.drewN _ _⟩
    · have k1 := fits_iff.1 hf
      have k2 := fits_iff.1 hf'
      by_cases c1 : b + t ≤ a
      · have n3 := ne_false (I_field_beside (v := v) hx hf hf' (.inl c1))
        go_enter Try.func3, Try.ntmps3
        go_wp2_with (first | (go_at_call 9; refine (Set_any _ _ _ _ _ (by first | assumption | omega) (by first | assumption | omega) (by first | assumption | omega) (by first | assumption | omega)).mono ?_; rintro e w' ⟨rfl, d, rfl⟩) | (go_at_call 12; refine (Field_any _ _ _ _ (by first | assumption | omega) (by first | assumption | omega) (by first | assumption | omega)).mono ?_; rintro e w' ⟨rfl, d, rfl⟩) | (go_at_call 10; refine (Fits_any _ _ _ (by assumption) (by assumption)).mono ?_; rintro e w' ⟨rfl, d, rfl⟩) | (go_at_call 11; refine (alive_any _).mono ?_; rintro e w' ⟨rfl, d, rfl⟩))
        go_ret
        exact ⟨rfl, Bel.drewN _ _⟩
      · by_cases c2 : a + s ≤ b
        · have n3 := ne_false (I_field_beside (v := v) hx hf hf' (.inr c2))
          go_enter Try.func3, Try.ntmps3
          go_wp2_with (first | (go_at_call 9; refine (Set_any _ _ _ _ _ (by first | assumption | omega) (by first | assumption | omega) (by first | assumption | omega) (by first | assumption | omega)).mono ?_; rintro e w' ⟨rfl, d, rfl⟩) | (go_at_call 12; refine (Field_any _ _ _ _ (by first | assumption | omega) (by first | assumption | omega) (by first | assumption | omega)).mono ?_; rintro e w' ⟨rfl, d, rfl⟩) | (go_at_call 10; refine (Fits_any _ _ _ (by assumption) (by assumption)).mono ?_; rintro e w' ⟨rfl, d, rfl⟩) | (go_at_call 11; refine (alive_any _).mono ?_; rintro e w' ⟨rfl, d, rfl⟩))
          go_ret
          exact ⟨rfl, Bel.drewN _ _⟩
        · go_enter Try.func3, Try.ntmps3
          go_wp2_with (first | (go_at_call 9; refine (Set_any _ _ _ _ _ (by first | assumption | omega) (by first | assumption | omega) (by first | assumption | omega) (by first | assumption | omega)).mono ?_; rintro e w' ⟨rfl, d, rfl⟩) | (go_at_call 12; refine (Field_any _ _ _ _ (by first | assumption | omega) (by first | assumption | omega) (by first | assumption | omega)).mono ?_; rintro e w' ⟨rfl, d, rfl⟩) | (go_at_call 10; refine (Fits_any _ _ _ (by assumption) (by assumption)).mono ?_; rintro e w' ⟨rfl, d, rfl⟩) | (go_at_call 11; refine (alive_any _).mono ?_; rintro e w' ⟨rfl, d, rfl⟩))
          go_ret
          exact ⟨rfl, Bel.drewN _ _⟩

theorem WordOver_any (x : Nat) (a s : Int) (b t : Int) (w : World) (hx : x < 4294967296) (ha : -9223372036854775808 ≤ a ∧ a ≤ 9223372036854775807) (hs : -9223372036854775808 ≤ s ∧ s ≤ 9223372036854775807)
    (hb : -9223372036854775808 ≤ b ∧ b ≤ 9223372036854775807) (ht : -9223372036854775808 ≤ t ∧ t ≤ 9223372036854775807) :
    Calls Try.prog 4 #[.int .u32 (x : Int), .int .i64 a, .int .i64 s, .int .i64 b, .int .i64 t] w fun e w' => e = .returned (.bool true) ∧ Bel w w' := by
  have l1 := fieldI_lt x 0 16
  have l2 := fieldI_lt x 16 16
  have l3 := fieldI_lt x a s
  have n1 := ne_false (I_halves hx)
  cases hf : fits a s
  · go_enter Try.func4, Try.ntmps4
    go_wp2_with (first | (go_at_call 9; refine (Set_any _ _ _ _ _ (by first | assumption | omega) (by first | assumption | omega) (by first | assumption | omega) (by first | assumption | omega)).mono ?_; rintro e w' ⟨rfl, d, rfl⟩) | (go_at_call 12; refine (Field_any _ _ _ _ (by first | assumption | omega) (by first | assumption | omega) (by first | assumption | omega)).mono ?_; rintro e w' ⟨rfl, d, rfl⟩) | (go_at_call 10; refine (Fits_any _ _ _ (by assumption) (by assumption)).mono ?_; rintro e w' ⟨rfl, d, rfl⟩) | (go_at_call 11; refine (alive_any _).mono ?_; rintro e w' ⟨rfl, d, rfl⟩))
    go_ret
    exact ⟨rfl, Bel.drewN _ _⟩
  · have k1 := fits_iff.1 hf
    by_cases c1 : b < 0
    · go_enter Try.func4, Try.ntmps4
      go_wp2_with (first | (go_at_call 9; refine (Set_any _ _ _ _ _ (by first | assumption | omega) (by first | assumption | omega) (by first | assumption | omega) (by first | assumption | omega)).mono ?_; rintro e w' ⟨rfl, d, rfl⟩) | (go_at_call 12; refine (Field_any _ _ _ _ (by first | assumption | omega) (by first | assumption | omega) (by first | assumption | omega)).mono ?_; rintro e w' ⟨rfl, d, rfl⟩) | (go_at_call 10; refine (Fits_any _ _ _ (by assumption) (by assumption)).mono ?_; rintro e w' ⟨rfl, d, rfl⟩) | (go_at_call 11; refine (alive_any _).mono ?_; rintro e w' ⟨rfl, d, rfl⟩))
      go_ret
      exact ⟨rfl, Bel.drewN _ _⟩
    · by_cases c2 : t < 1
      · go_enter Try.func4, Try.ntmps4
        go_wp2_with (first | (go_at_call 9; refine (Set_any _ _ _ _ _ (by first | assumption | omega) (by first | assumption | omega) (by first | assumption | omega) (by first | assumption | omega)).mono ?_; rintro e w' ⟨rfl, d, rfl⟩) | (go_at_call 12; refine (Field_any _ _ _ _ (by first | assumption | omega) (by first | assumption | omega) (by first | assumption | omega)).mono ?_; rintro e w' ⟨rfl, d, rfl⟩) | (go_at_call 10; refine (Fits_any _ _ _ (by assumption) (by assumption)).mono ?_; rintro e w' ⟨rfl, d, rfl⟩) | (go_at_call 11; refine (alive_any _).mono ?_; rintro e w' ⟨rfl, d, rfl⟩))
        go_ret
        exact ⟨rfl, Bel.drewN _ _⟩
      · have c4 : 0 ≤ b := by omega
        have c5 : 1 ≤ t := by omega
        by_cases c3 : b + t ≤ 9223372036854775807
        · by_cases c6 : b + t ≤ s
          · have n3 := eq_true_ (I_field_field (w := x) hf c4 c5 c6)
            go_enter Try.func4, Try.ntmps4
            go_wp2_with (first | (go_at_call 9; refine (Set_any _ _ _ _ _ (by first | assumption | omega) (by first | assumption | omega) (by first | assumption | omega) (by first | assumption | omega)).mono ?_; rintro e w' ⟨rfl, d, rfl⟩) | (go_at_call 12; refine (Field_any _ _ _ _ (by first | assumption | omega) (by first | assumption | omega) (by first | assumption | omega)).mono ?_; rintro e w' ⟨rfl, d, rfl⟩) | (go_at_call 10; refine (Fits_any _ _ _ (by assumption) (by assumption)).mono ?_; rintro e w' ⟨rfl, d, rfl⟩) | (go_at_call 11; refine (alive_any _).mono ?_; rintro e w' ⟨rfl, d, rfl⟩))
            go_ret
            exact ⟨rfl, Bel.drewN _ _⟩
          · go_enter Try.func4, Try.ntmps4
            go_wp2_with (first | (go_at_call 9; refine (Set_any _ _ _ _ _ (by first | assumption | omega) (by first | assumption | omega) (by first | assumption | omega) (by first | assumption | omega)).mono ?_; rintro e w' ⟨rfl, d, rfl⟩) | (go_at_call 12; refine (Field_any _ _ _ _ (by first | assumption | omega) (by first | assumption | omega) (by first | assumption | omega)).mono ?_; rintro e w' ⟨rfl, d, rfl⟩) | (go_at_call 10; refine (Fits_any _ _ _ (by assumption) (by assumption)).mono ?_; rintro e w' ⟨rfl, d, rfl⟩) | (go_at_call 11; refine (alive_any _).mono ?_; rintro e w' ⟨rfl, d, rfl⟩))
            go_ret
            exact ⟨rfl, Bel.drewN _ _⟩
        · have hr : -9223372036854775808 ≤ wrap64 (a + b) ∧ wrap64 (a + b) ≤ 9223372036854775807 := by unfold wrap64; omega
          have hw : ¬ s < wrap64 (b + t) := by unfold wrap64; omega
          have f1 : fits b t = false := by
            cases h : fits b t
            · rfl
            · rw [fits_iff] at h; omega
          have f2 : fits (wrap64 (a + b)) t = false := by
            cases h : fits (wrap64 (a + b)) t
            · rfl
            · rw [fits_iff] at h; unfold wrap64 at h; omega
          have n3 := eq_true_ (show fieldI (fieldI x a s) b t = fieldI x (wrap64 (a + b)) t by rw [fieldI_no f1, fieldI_no f2])
          clear f1 f2
          go_enter Try.func4, Try.ntmps4
          go_wp2_with (first | (go_at_call 9; refine (Set_any _ _ _ _ _ (by first | assumption | omega) (by first | assumption | omega) (by first | assumption | omega) (by first | assumption | omega)).mono ?_; rintro e w' ⟨rfl, d, rfl⟩) | (go_at_call 12; refine (Field_any _ _ _ _ (by first | assumption | omega) (by first | assumption | omega) (by first | assumption | omega)).mono ?_; rintro e w' ⟨rfl, d, rfl⟩) | (go_at_call 10; refine (Fits_any _ _ _ (by assumption) (by assumption)).mono ?_; rintro e w' ⟨rfl, d, rfl⟩) | (go_at_call 11; refine (alive_any _).mono ?_; rintro e w' ⟨rfl, d, rfl⟩))
          go_ret
          exact ⟨rfl, Bel.drewN _ _⟩

end Wd
end Go.Proofs.Ytnkopimcaokemaa
