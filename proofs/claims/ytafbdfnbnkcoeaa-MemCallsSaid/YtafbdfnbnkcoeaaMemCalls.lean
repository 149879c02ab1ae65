/- The statements MemCalls and MemBack: the walks of the law functions. -/
import Derived.Test.YtafbdfnbnkcoeaaMemTwo
set_option linter.unusedVariables false
set_option linter.unusedSimpArgs false
namespace Go.Proofs.Ytafbdfnbnkcoeaa
namespace Me
open Go.RowKit

theorem MemCalls_any (m : ByteArray) (a : Nat) (k : Int) (x : ByteArray) (w : World) (hm : m.size ≤ maxLen) (ha : a < 4294967296) (hk : -9223372036854775808 ≤ k ∧ k ≤ 9223372036854775807) (hx : x.size ≤ maxLen) :
    Calls Try.prog 5 #[.string m, .int .u32 (a : Int), .int .i64 k, .string x] w fun e w' => e = .returned (.bool true) ∧ Bel w w' := by
  go_enter Try.func5, Try.ntmps5
  go_wp2_with (first | (go_at_call_of 10 m; refine (short_any m _ hm).mono ?_; rintro e w' ⟨M, rfl, hM, d0, rfl⟩) | (go_at_call_of 10 x; refine (short_any x _ hx).mono ?_; rintro e w' ⟨X, rfl, hX, d1, rfl⟩))
  clear hm hx
  cases h1 : right M.size a k
  · have HR1 := Lib.hid (fun W => Read_no M a k W (by omega) ha hk h1)
    cases h2 : right M.size a (X.size : Int)
    · have HW1 := Lib.hid (fun W => Write_no' M a X W hM ha hX h2)
      go_wp2_with (first | (go_at_call 12; ((with_reducible refine (HR1.out _).mono ?_); rintro e w' ⟨rfl, d3, rfl⟩)) | (go_at_call 11; ((with_reducible refine (HW1.out _).mono ?_); rintro e w1 ⟨rfl, hb1⟩)) | (go_at_call 13; refine (Right_any _ _ _ _ (by omega) (by omega) (by omega)).mono ?_; rintro e w' ⟨rfl, d4, rfl⟩) | (go_at_call 14; refine (refRight_any _ _ _ _ (by omega) (by omega) (by omega)).mono ?_; rintro e w' ⟨rfl, d4, rfl⟩) | (go_at_call 9; refine (alive_any _).mono ?_; rintro e w9 ⟨rfl, hb9⟩))
      go_ret
      exact ⟨rfl, (Bel.drewN _ _).trans (hb1.trans ((Bel.drewN _ _).trans (hb9.trans (Bel.drewN _ _))))⟩
    · have HW1 := Lib.hid (fun W => Write_yes M a X W hM ha h2)
      have HWW1 := Lib.hid (fun W => refWrite_yes M a X W hM ha h2)
      go_wp2_with (first | (go_at_call 12; ((with_reducible refine (HR1.out _).mono ?_); rintro e w' ⟨rfl, d3, rfl⟩)) | (go_at_call 11; ((with_reducible refine (HW1.out _).mono ?_); rintro e w1 ⟨rfl, hb1⟩)) | (go_at_call 16; ((with_reducible refine (HWW1.out _).mono ?_); rintro e w2 ⟨rfl, hb2⟩)) | (go_at_call 13; refine (Right_any _ _ _ _ (by omega) (by omega) (by omega)).mono ?_; rintro e w' ⟨rfl, d4, rfl⟩) | (go_at_call 14; refine (refRight_any _ _ _ _ (by omega) (by omega) (by omega)).mono ?_; rintro e w' ⟨rfl, d4, rfl⟩) | (go_at_call 9; refine (alive_any _).mono ?_; rintro e w9 ⟨rfl, hb9⟩))
      go_ret
      exact ⟨rfl, (Bel.drewN _ _).trans (hb1.trans ((Bel.drewN _ _).trans (hb9.trans ((Bel.drewN _ _).trans hb2))))⟩
  · obtain ⟨n, rfl⟩ := Int.eq_ofNat_of_zero_le (show 0 ≤ k by have := right_iff.1 h1; omega)
    have HR1 := Lib.hid (fun W => Read_yes M a n W (by omega) ha (by omega) h1)
    have HRR1 := Lib.hid (fun W => refRead_yes M a n W (by omega) ha (by omega) h1)
    cases h2 : right M.size a (X.size : Int)
    · have HW1 := Lib.hid (fun W => Write_no' M a X W hM ha hX h2)
      go_wp2_with (first | (go_at_call 12; ((with_reducible refine (HR1.out _).mono ?_); rintro e w' ⟨rfl, d3, rfl⟩)) | (go_at_call 11; ((with_reducible refine (HW1.out _).mono ?_); rintro e w1 ⟨rfl, hb1⟩)) | (go_at_call 15; ((with_reducible refine (HRR1.out _).mono ?_); rintro e w' ⟨rfl, d3, rfl⟩)) | (go_at_call 13; refine (Right_any _ _ _ _ (by omega) (by omega) (by omega)).mono ?_; rintro e w' ⟨rfl, d4, rfl⟩) | (go_at_call 14; refine (refRight_any _ _ _ _ (by omega) (by omega) (by omega)).mono ?_; rintro e w' ⟨rfl, d4, rfl⟩) | (go_at_call 9; refine (alive_any _).mono ?_; rintro e w9 ⟨rfl, hb9⟩))
      go_ret
      exact ⟨rfl, (Bel.drewN _ _).trans (hb1.trans ((Bel.drewN _ _).trans (hb9.trans (Bel.drewN _ _))))⟩
    · have HW1 := Lib.hid (fun W => Write_yes M a X W hM ha h2)
      have HWW1 := Lib.hid (fun W => refWrite_yes M a X W hM ha h2)
      go_wp2_with (first | (go_at_call 12; ((with_reducible refine (HR1.out _).mono ?_); rintro e w' ⟨rfl, d3, rfl⟩)) | (go_at_call 11; ((with_reducible refine (HW1.out _).mono ?_); rintro e w1 ⟨rfl, hb1⟩)) | (go_at_call 15; ((with_reducible refine (HRR1.out _).mono ?_); rintro e w' ⟨rfl, d3, rfl⟩)) | (go_at_call 16; ((with_reducible refine (HWW1.out _).mono ?_); rintro e w2 ⟨rfl, hb2⟩)) | (go_at_call 13; refine (Right_any _ _ _ _ (by omega) (by omega) (by omega)).mono ?_; rintro e w' ⟨rfl, d4, rfl⟩) | (go_at_call 14; refine (refRight_any _ _ _ _ (by omega) (by omega) (by omega)).mono ?_; rintro e w' ⟨rfl, d4, rfl⟩) | (go_at_call 9; refine (alive_any _).mono ?_; rintro e w9 ⟨rfl, hb9⟩))
      go_ret
      exact ⟨rfl, (Bel.drewN _ _).trans (hb1.trans ((Bel.drewN _ _).trans (hb9.trans ((Bel.drewN _ _).trans hb2))))⟩

end Me
end Go.Proofs.Ytafbdfnbnkcoeaa
