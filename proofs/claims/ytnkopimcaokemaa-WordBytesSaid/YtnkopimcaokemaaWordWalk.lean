/- The word package's small functions and the reference's: each computes what the plain text says. -/
import Derived.Test.YtnkopimcaokemaaBase
import Derived.Test.YtnkopimcaokemaaWordPlain
import Derived.Laws.BitsAllLaws
set_option linter.unusedVariables false
set_option linter.unusedSimpArgs false
namespace Go.Proofs.Ytnkopimcaokemaa
namespace Wd
open Go.RowKit

theorem mayBe_any (a s : Int) (w : World) (ha : -9223372036854775808 ≤ a ∧ a ≤ 9223372036854775807) (hs : -9223372036854775808 ≤ s ∧ s ≤ 9223372036854775807) :
    Calls Try.prog 21 #[.int .i64 a, .int .i64 s] w fun e w' => e = .returned (.bool (fits a s)) ∧ ∃ n, w' = w.drewN n := by
  by_cases h0 : 0 ≤ a
  · by_cases h1 : a ≤ 31
    · by_cases h2 : 1 ≤ s
      · by_cases h3 : s ≤ 32 - a
        · have hf : fits a s = true := by rw [fits_iff]; omega
          rw [hf]
          clear hf
          go_enter Try.func21, Try.ntmps21
          go_wp2
          go_ret
          exact ⟨rfl, 0, rfl⟩
        · have hf : fits a s = false := by simp [fits]; omega
          rw [hf]
          clear hf
          go_enter Try.func21, Try.ntmps21
          go_wp2
          go_ret
          exact ⟨rfl, 0, rfl⟩
      · have hf : fits a s = false := by simp [fits]; omega
        rw [hf]
        clear hf
        go_enter Try.func21, Try.ntmps21
        go_wp2
        go_ret
        exact ⟨rfl, 0, rfl⟩
    · have hf : fits a s = false := by simp [fits]; omega
      rw [hf]
      clear hf
      go_enter Try.func21, Try.ntmps21
      go_wp2
      go_ret
      exact ⟨rfl, 0, rfl⟩
  · have hf : fits a s = false := by simp [fits]; omega
    rw [hf]
    clear hf
    go_enter Try.func21, Try.ntmps21
    go_wp2
    go_ret
    exact ⟨rfl, 0, rfl⟩

theorem ones_any (s : Nat) (w : World) (hs : s ≤ 32) :
    Calls Try.prog 22 #[.int .i64 (s : Int)] w fun e w' => e = .returned (.int .u32 ((2 ^ s - 1 : Nat) : Int)) ∧ ∃ n, w' = w.drewN n := by
  go_enter Try.func22, Try.ntmps22
  go_wp2
  go_ret
  exact ⟨by rw [← ones_eq hs]; rfl, 0, rfl⟩

theorem bit_any (x : Nat) (i : Nat) (w : World) (hx : x < 4294967296) (hi : i < 32) :
    Calls Try.prog 23 #[.int .u32 (x : Int), .int .i64 (i : Int)] w fun e w' => e = .returned (.int .u32 (bitN x i : Int)) ∧ ∃ n, w' = w.drewN n := by
  go_enter Try.func23, Try.ntmps23
  go_wp2
  go_ret
  exact ⟨by rw [← bit_eq]; rfl, 0, rfl⟩

theorem Field_any (x : Nat) (a s : Int) (w : World) (hx : x < 4294967296) (ha : -9223372036854775808 ≤ a ∧ a ≤ 9223372036854775807) (hs : -9223372036854775808 ≤ s ∧ s ≤ 9223372036854775807) :
    Calls Try.prog 12 #[.int .u32 (x : Int), .int .i64 a, .int .i64 s] w fun e w' => e = .returned (.int .u32 (fieldI x a s : Int)) ∧ ∃ n, w' = w.drewN n := by
  cases hf : fits a s
  · rw [fieldI_no hf]
    go_enter Try.func12, Try.ntmps12
    go_wp2_with (go_at_call 21; refine (mayBe_any a s _ ha hs).mono ?_; rintro e w' ⟨rfl, d, rfl⟩)
    go_ret
    exact ⟨rfl, _, rfl⟩
  · rw [fieldI_yes hf]
    have hf' := hf
    rw [fits_iff] at hf'
    obtain ⟨n, rfl⟩ := Int.eq_ofNat_of_zero_le (show 0 ≤ a by omega)
    obtain ⟨m, rfl⟩ := Int.eq_ofNat_of_zero_le (show 0 ≤ s by omega)
    have Hc := Lib.hid (u32_and_nat (x / 2 ^ n) (2 ^ m - 1) (shr_lt n hx) (ones_lt (by omega)))
    go_enter Try.func12, Try.ntmps12
    go_wp2_with (go_at_call 21; refine (mayBe_any _ _ _ ha hs).mono ?_; rintro e w' ⟨rfl, d, rfl⟩)
    go_quiet ((go_at_call 22; exact quiet2 (ones_any _ _ (by omega))))
    go_wp2
    go_ret
    exact ⟨val_u32 (by rw [shr_eq]; exact Hc.out), _, World.drewN_drewN _ _ _⟩

theorem Set_any (x : Nat) (a s : Int) (v : Nat) (w : World) (hx : x < 4294967296) (hv : v < 4294967296) (ha : -9223372036854775808 ≤ a ∧ a ≤ 9223372036854775807) (hs : -9223372036854775808 ≤ s ∧ s ≤ 9223372036854775807) :
    Calls Try.prog 9 #[.int .u32 (x : Int), .int .i64 a, .int .i64 s, .int .u32 (v : Int)] w fun e w' => e = .returned (.int .u32 (setI x a s v : Int)) ∧ ∃ n, w' = w.drewN n := by
  cases hf : fits a s
  · rw [setI_no hf]
    go_enter Try.func9, Try.ntmps9
    go_wp2_with (go_at_call 21; refine (mayBe_any a s _ ha hs).mono ?_; rintro e w' ⟨rfl, d, rfl⟩)
    go_ret
    exact ⟨rfl, _, rfl⟩
  · rw [setI_yes hf]
    have hf' := hf
    rw [fits_iff] at hf'
    obtain ⟨n, rfl⟩ := Int.eq_ofNat_of_zero_le (show 0 ≤ a by omega)
    obtain ⟨m, rfl⟩ := Int.eq_ofNat_of_zero_le (show 0 ≤ s by omega)
    have Hc := Lib.hid (u32_andNot_nat x (maskN n m) hx (maskN_lt n m))
    have Hd := Lib.hid (u32_and_nat (v * 2 ^ n % 4294967296) (maskN n m) (Nat.mod_lt _ (by omega)) (maskN_lt n m))
    have He := Lib.hid (u32_or_nat (x &&& (4294967295 - maskN n m)) (v * 2 ^ n % 4294967296 &&& maskN n m) (Nat.lt_of_le_of_lt Nat.and_le_left hx) (Nat.lt_of_le_of_lt Nat.and_le_right (maskN_lt n m)))
    go_enter Try.func9, Try.ntmps9
    go_wp2_with (first | (go_at_call 21; refine (mayBe_any _ _ _ ha hs).mono ?_; rintro e w' ⟨rfl, d, rfl⟩) | (go_at_call 22; refine (ones_any _ _ (by omega)).mono ?_; rintro e w' ⟨rfl, d, rfl⟩))
    go_ret
    refine ⟨val_u32 ?_, _, rfl⟩
    rw [mask_eq, shl_eq, Hc.out, Hd.out, He.out]
    rfl

theorem Fits_any (a s : Int) (w : World) (ha : -9223372036854775808 ≤ a ∧ a ≤ 9223372036854775807) (hs : -9223372036854775808 ≤ s ∧ s ≤ 9223372036854775807) :
    Calls Try.prog 10 #[.int .i64 a, .int .i64 s] w fun e w' => e = .returned (.bool (fits a s)) ∧ ∃ n, w' = w.drewN n := by
  by_cases h0 : 0 ≤ a
  · by_cases h1 : a ≤ 31
    · by_cases h2 : 1 ≤ s
      · by_cases h3 : s ≤ 32 - a
        · have hf : fits a s = true := by rw [fits_iff]; omega
          rw [hf]
          clear hf
          go_enter Try.func10, Try.ntmps10
          go_wp2
          go_ret
          exact ⟨rfl, 0, rfl⟩
        · have hf : fits a s = false := by simp [fits]; omega
          rw [hf]
          clear hf
          go_enter Try.func10, Try.ntmps10
          go_wp2
          go_ret
          exact ⟨rfl, 0, rfl⟩
      · have hf : fits a s = false := by simp [fits]; omega
        rw [hf]
        clear hf
        go_enter Try.func10, Try.ntmps10
        go_wp2
        go_ret
        exact ⟨rfl, 0, rfl⟩
    · have hf : fits a s = false := by simp [fits]; omega
      rw [hf]
      clear hf
      go_enter Try.func10, Try.ntmps10
      go_wp2
      go_ret
      exact ⟨rfl, 0, rfl⟩
  · have hf : fits a s = false := by simp [fits]; omega
    rw [hf]
    clear hf
    go_enter Try.func10, Try.ntmps10
    go_wp2
    go_ret
    exact ⟨rfl, 0, rfl⟩

theorem alive_any (w : World) : Calls Try.prog 11 #[] w fun e w' => e = .returned (.bool true) ∧ ∃ n, w' = w.drewN n := by
  have h : ∀ W, Calls Try.prog 12 #[.int .u32 1, .int .i64 0, .int .i64 1] W fun e w' => e = .returned (.int .u32 1) ∧ ∃ n, w' = W.drewN n := fun W => Field_any 1 0 1 W (by omega) (by omega) (by omega)
  have H := Lib.hid h
  clear h
  go_enter Try.func11, Try.ntmps11
  go_wp2_with (go_at_call 12; refine (H.out _).mono ?_; rintro e w' ⟨rfl, d, rfl⟩)
  go_ret
  exact ⟨rfl, _, rfl⟩

theorem Sext_any (x : Nat) (s : Int) (w : World) (hx : x < 4294967296) (hs : -9223372036854775808 ≤ s ∧ s ≤ 9223372036854775807) :
    Calls Try.prog 15 #[.int .u32 (x : Int), .int .i64 s] w fun e w' => e = .returned (.int .u32 (sextI x s : Int)) ∧ ∃ n, w' = w.drewN n := by
  by_cases h1 : s < 1
  · have hz : sextI x s = x := by unfold sextI; rw [if_pos (.inl h1)]
    rw [hz]
    go_enter Try.func15, Try.ntmps15
    go_wp2
    go_ret
    exact ⟨rfl, 0, rfl⟩
  · by_cases h2 : 32 < s
    · have hz : sextI x s = x := by unfold sextI; rw [if_pos (.inr h2)]
      rw [hz]
      go_enter Try.func15, Try.ntmps15
      go_wp2
      go_ret
      exact ⟨rfl, 0, rfl⟩
    · have hz : sextI x s = sextN x s.toNat := by unfold sextI; rw [if_neg (by omega)]
      rw [hz]
      clear hz
      obtain ⟨m, rfl⟩ := Int.eq_ofNat_of_zero_le (show 0 ≤ s by omega)
      rw [Int.toNat_natCast]
      have Hc := Lib.hid (u32_and_nat x (2 ^ m - 1) hx (ones_lt (by omega)))
      have Hd := Lib.hid (u32_and_nat (x / 2 ^ (m - 1)) 1 (shr_lt _ hx) (by omega))
      have Hx := Lib.hid (u32_xor_nat 4294967295 (2 ^ m - 1) (by omega) (ones_lt (by omega)))
      have Ho := Lib.hid (u32_or_nat (x &&& (2 ^ m - 1)) (4294967295 ^^^ (2 ^ m - 1)) (Nat.lt_of_le_of_lt Nat.and_le_left hx) (by rw [xor_ones _ (ones_lt (by omega))]; omega))
      by_cases hb : (x / 2 ^ (m - 1)) &&& 1 = 1
      · have ht : (bits BinOp.and IntKind.u32 ((x : Int) / 2 ^ (m - 1)) 1 == 1) = true := by
          rw [shr_eq]; exact beq_iff_eq.2 (Hd.out.trans (by rw [hb]; rfl))
        have Hs := Lib.hid (sextN_yes hb)
        have Hr := Lib.hid (xor_ones _ (ones_lt (s := m) (by omega)))
        clear hb
        go_enter Try.func15, Try.ntmps15
        go_wp2_with (go_at_call 22; refine (ones_any _ _ (by omega)).mono ?_; rintro e w' ⟨rfl, d, rfl⟩)
        go_ret
        refine ⟨val_u32 ?_, _, rfl⟩
        rw [show (IntKind.u32.max : Int) = ((4294967295 : Nat) : Int) from rfl, Hc.out, Hx.out, Ho.out, Hs.out, Hr.out]
      · have ht : (bits BinOp.and IntKind.u32 ((x : Int) / 2 ^ (m - 1)) 1 == 1) = false := by
          rw [shr_eq]; exact beq_eq_false_iff_ne.2 (fun e => hb (by have h := Hd.out; rw [show ((1 : Nat) : Int) = 1 from rfl, e] at h; omega))
        have Hs := Lib.hid (sextN_no hb)
        clear hb
        go_enter Try.func15, Try.ntmps15
        go_wp2_with (go_at_call 22; refine (ones_any _ _ (by omega)).mono ?_; rintro e w' ⟨rfl, d, rfl⟩)
        go_ret
        refine ⟨val_u32 ?_, _, rfl⟩
        rw [Hc.out, Hs.out]

end Wd
end Go.Proofs.Ytnkopimcaokemaa
