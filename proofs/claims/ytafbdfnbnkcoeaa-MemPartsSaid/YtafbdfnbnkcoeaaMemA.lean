/- The mem package's small functions: Right, Read, Fetch; the statement's own 'short'. -/
import Derived.Test.YtafbdfnbnkcoeaaSl
set_option linter.unusedVariables false
set_option linter.unusedSimpArgs false
namespace Go.Proofs.Ytafbdfnbnkcoeaa
namespace Me
open Go.RowKit

theorem short_any (m : ByteArray) (w : World) (hm : m.size ≤ maxLen) :
    Calls Try.prog 10 #[.string m] w fun e w' => ∃ s : ByteArray, e = .returned (.string s) ∧ s.size ≤ 600 ∧ ∃ n, w' = w.drewN n := by
  unfold maxLen at hm
  by_cases h : 600 < m.size
  · have hz : (m.extract 0 600).size ≤ 600 := by simp [ByteArray.size_extract]; omega
    have Hz := Lib.hid hz
    clear hz
    go_enter Try.func10, Try.ntmps10
    go_wp2
    go_ret
    exact ⟨_, rfl, Hz.out, 0, rfl⟩
  · have hz : m.size ≤ 600 := by omega
    go_enter Try.func10, Try.ntmps10
    go_wp2
    go_ret
    exact ⟨m, rfl, hz, 0, rfl⟩

/-- may so many bytes be at an address of a memory of size n? -/
def right (n a : Nat) (k : Int) : Bool := decide ((k = 1 ∨ k = 2 ∨ k = 4) ∧ (a : Int) % k = 0 ∧ (a : Int) + k ≤ n)
theorem right_iff {n a : Nat} {k : Int} : right n a k = true ↔ (k = 1 ∨ k = 2 ∨ k = 4) ∧ (a : Int) % k = 0 ∧ (a : Int) + k ≤ n := by simp [right]

theorem Right_any (n a : Nat) (k : Int) (w : World) (hn : n ≤ 9223372036854775807) (ha : a < 4294967296) (hk : -9223372036854775808 ≤ k ∧ k ≤ 9223372036854775807) :
    Calls Try.prog 13 #[.int .i64 (n : Int), .int .u32 (a : Int), .int .i64 k] w fun e w' => e = .returned (.bool (right n a k)) ∧ ∃ d, w' = w.drewN d := by
  by_cases h1 : k = 1
  · subst h1
    rw [show right n a 1 = decide ((a : Int) + 1 ≤ n) by simp [right]]
    go_enter Try.func13, Try.ntmps13
    go_wp2
    go_ret
    exact ⟨rfl, 0, rfl⟩
  · by_cases h2 : k = 2
    · subst h2
      by_cases h : (a : Int) % 2 = 0
      · rw [show right n a 2 = decide ((a : Int) + 2 ≤ n) by simp [right, h]]
        go_enter Try.func13, Try.ntmps13
        go_wp2
        go_ret
        exact ⟨rfl, 0, rfl⟩
      · rw [show right n a 2 = false by simp [right, h]]
        go_enter Try.func13, Try.ntmps13
        go_wp2
        go_ret
        exact ⟨rfl, 0, rfl⟩
    · by_cases h4 : k = 4
      · subst h4
        by_cases h : (a : Int) % 4 = 0
        · rw [show right n a 4 = decide ((a : Int) + 4 ≤ n) by simp [right, h]]
          go_enter Try.func13, Try.ntmps13
          go_wp2
          go_ret
          exact ⟨rfl, 0, rfl⟩
        · rw [show right n a 4 = false by simp [right, h]]
          go_enter Try.func13, Try.ntmps13
          go_wp2
          go_ret
          exact ⟨rfl, 0, rfl⟩
      · have g1 : (k != 1) = true := by simpa using h1
        have g2 : (k != 2) = true := by simpa using h2
        have g4 : (k != 4) = true := by simpa using h4
        rw [show right n a k = false by simp [right, h1, h2, h4]]
        go_enter Try.func13, Try.ntmps13
        go_wp2
        go_ret
        exact ⟨rfl, 0, rfl⟩

theorem refRight_any (n a : Nat) (k : Int) (w : World) (hn : n ≤ 9223372036854775807) (ha : a < 4294967296) (hk : -9223372036854775808 ≤ k ∧ k ≤ 9223372036854775807) :
    Calls Try.prog 14 #[.int .i64 (n : Int), .int .u32 (a : Int), .int .i64 k] w fun e w' => e = .returned (.bool (right n a k)) ∧ ∃ d, w' = w.drewN d := by
  by_cases h1 : k = 1
  · subst h1
    rw [show right n a 1 = decide ((a : Int) + 1 ≤ n) by simp [right]]
    go_enter Try.func14, Try.ntmps14
    go_wp2
    go_ret
    exact ⟨rfl, 0, rfl⟩
  · by_cases h2 : k = 2
    · subst h2
      by_cases h : (a : Int) % 2 = 0
      · rw [show right n a 2 = decide ((a : Int) + 2 ≤ n) by simp [right, h]]
        go_enter Try.func14, Try.ntmps14
        go_wp2
        go_ret
        exact ⟨rfl, 0, rfl⟩
      · rw [show right n a 2 = false by simp [right, h]]
        go_enter Try.func14, Try.ntmps14
        go_wp2
        go_ret
        exact ⟨rfl, 0, rfl⟩
    · by_cases h4 : k = 4
      · subst h4
        by_cases h : (a : Int) % 4 = 0
        · rw [show right n a 4 = decide ((a : Int) + 4 ≤ n) by simp [right, h]]
          go_enter Try.func14, Try.ntmps14
          go_wp2
          go_ret
          exact ⟨rfl, 0, rfl⟩
        · rw [show right n a 4 = false by simp [right, h]]
          go_enter Try.func14, Try.ntmps14
          go_wp2
          go_ret
          exact ⟨rfl, 0, rfl⟩
      · have g1 : (k != 1) = true := by simpa using h1
        have g2 : (k != 2) = true := by simpa using h2
        have g4 : (k != 4) = true := by simpa using h4
        rw [show right n a k = false by simp [right, h1, h2, h4]]
        go_enter Try.func14, Try.ntmps14
        go_wp2
        go_ret
        exact ⟨rfl, 0, rfl⟩

theorem Read_no (m : ByteArray) (a : Nat) (k : Int) (w : World) (hn : m.size ≤ 9223372036854775807) (ha : a < 4294967296) (hk : -9223372036854775808 ≤ k ∧ k ≤ 9223372036854775807) (h : right m.size a k = false) :
    Calls Try.prog 12 #[.string m, .int .u32 (a : Int), .int .i64 k] w fun e w' => e = .returned (.tuple #[.string ⟨#[]⟩, .int .i64 1]) ∧ ∃ d, w' = w.drewN d := by
  go_enter Try.func12, Try.ntmps12
  go_wp2_with (go_at_call 13; refine (Right_any _ _ _ _ (by first | assumption | omega) (by first | assumption | omega) (by first | assumption | omega)).mono ?_; rintro e w' ⟨rfl, d, rfl⟩)
  go_ret2
  exact ⟨rfl, _, rfl⟩
theorem Read_yes (m : ByteArray) (a k : Nat) (w : World) (hn : m.size ≤ 9223372036854775807) (ha : a < 4294967296) (hk : k ≤ 9223372036854775807) (h : right m.size a (k : Int) = true) :
    Calls Try.prog 12 #[.string m, .int .u32 (a : Int), .int .i64 (k : Int)] w fun e w' => e = .returned (.tuple #[.string (m.extract a (a + k)), .int .i64 0]) ∧ ∃ d, w' = w.drewN d := by
  have hr := right_iff.1 h
  have h1 : (a : Int) + k ≤ m.size := hr.2.2
  clear hr
  have hsl := fun W => slice_str_sum (P := Try.prog) 9 Try.underlying9 m a k (by omega) W
  go_enter Try.func12, Try.ntmps12
  go_wp2_with (go_at_call 13; refine (Right_any _ _ _ _ (by first | assumption | omega) (by first | assumption | omega) (by first | assumption | omega)).mono ?_; rintro e w' ⟨rfl, d, rfl⟩)
  go_ret2
  exact ⟨rfl, _, rfl⟩

theorem refRead_yes (m : ByteArray) (a k : Nat) (w : World) (hn : m.size ≤ 9223372036854775807) (ha : a < 4294967296) (hk : k ≤ 9223372036854775807) (h : right m.size a (k : Int) = true) :
    Calls Try.prog 15 #[.string m, .int .u32 (a : Int), .int .i64 (k : Int)] w fun e w' => e = .returned (.string (m.extract a (a + k))) ∧ ∃ d, w' = w.drewN d := by
  have hr := right_iff.1 h
  have h1 : (a : Int) + k ≤ m.size := hr.2.2
  clear hr
  have hsl := fun W => slice_str_sum (P := Try.prog) 9 Try.underlying9 m a k (by omega) W
  go_enter Try.func15, Try.ntmps15
  go_wp2_with (go_at_call 13; refine (Right_any _ _ _ _ (by first | assumption | omega) (by first | assumption | omega) (by first | assumption | omega)).mono ?_; rintro e w' ⟨rfl, d, rfl⟩)
  go_ret
  exact ⟨rfl, 0, rfl⟩

end Me
end Go.Proofs.Ytafbdfnbnkcoeaa
