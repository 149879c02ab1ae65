/- The word package's small functions and the reference's: each computes what the plain text says. -/
import Derived.Test.YtcahadkkjfijfaaBase
import Derived.Test.YtcahadkkjfijfaaWordPlain
import Derived.Laws.BitsAllLaws
set_option linter.unusedVariables false
set_option linter.unusedSimpArgs false
namespace Go.Proofs.Ytcahadkkjfijfaa
namespace Wd
open Go.RowKit

theorem bit_any (x : Nat) (i : Nat) (w : World) (hx : x < 4294967296) (hi : i < 32) :
    Calls Try.prog 81 #[.int .u32 (x : Int), .int .i64 (i : Int)] w fun e w' => e = .returned (.int .u32 (bitN x i : Int)) ∧ ∃ n, w' = w.drewN n := by
  go_enter Try.func81, Try.ntmps81
  go_wp2
  go_ret
  exact ⟨by rw [← bit_eq]; rfl, 0, rfl⟩

theorem Fits_any (a s : Int) (w : World) (ha : -9223372036854775808 ≤ a ∧ a ≤ 9223372036854775807) (hs : -9223372036854775808 ≤ s ∧ s ≤ 9223372036854775807) :
    Calls Try.prog 80 #[.int .i64 a, .int .i64 s] w fun e w' => e = .returned (.bool (fits a s)) ∧ ∃ n, w' = w.drewN n := by
  by_cases h0 : 0 ≤ a
  · by_cases h1 : a ≤ 31
    · by_cases h2 : 1 ≤ s
      · by_cases h3 : s ≤ 32 - a
        · have hf : fits a s = true := by rw [fits_iff]; omega
          rw [hf]
          clear hf
          go_enter Try.func80, Try.ntmps80
          go_wp2
          go_ret
          exact ⟨rfl, 0, rfl⟩
        · have hf : fits a s = false := by simp [fits]; omega
          rw [hf]
          clear hf
          go_enter Try.func80, Try.ntmps80
          go_wp2
          go_ret
          exact ⟨rfl, 0, rfl⟩
      · have hf : fits a s = false := by simp [fits]; omega
        rw [hf]
        clear hf
        go_enter Try.func80, Try.ntmps80
        go_wp2
        go_ret
        exact ⟨rfl, 0, rfl⟩
    · have hf : fits a s = false := by simp [fits]; omega
      rw [hf]
      clear hf
      go_enter Try.func80, Try.ntmps80
      go_wp2
      go_ret
      exact ⟨rfl, 0, rfl⟩
  · have hf : fits a s = false := by simp [fits]; omega
    rw [hf]
    clear hf
    go_enter Try.func80, Try.ntmps80
    go_wp2
    go_ret
    exact ⟨rfl, 0, rfl⟩

end Wd
end Go.Proofs.Ytcahadkkjfijfaa
