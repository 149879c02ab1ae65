/- The word package's Join and Sext, for seats that reach no more of that package. -/
import Derived.Test.YtafbdfnbnkcoeaaBase
import Derived.Test.YtafbdfnbnkcoeaaWordPlain
import Derived.Laws.BitsAllLaws
set_option linter.unusedVariables false
set_option linter.unusedSimpArgs false
namespace Go.Proofs.Ytafbdfnbnkcoeaa
namespace Wd
open Go.RowKit

theorem ones_any (s : Nat) (w : World) (hs : s ≤ 32) :
    Calls Try.prog 23 #[.int .i64 (s : Int)] w fun e w' => e = .returned (.int .u32 ((2 ^ s - 1 : Nat) : Int)) ∧ ∃ n, w' = w.drewN n := by
  go_enter Try.func23, Try.ntmps23
  go_wp2
  go_ret
  exact ⟨by rw [← ones_eq hs]; rfl, 0, rfl⟩

theorem Sext_any (x : Nat) (s : Int) (w : World) (hx : x < 4294967296) (hs : -9223372036854775808 ≤ s ∧ s ≤ 9223372036854775807) :
    Calls Try.prog 22 #[.int .u32 (x : Int), .int .i64 s] w fun e w' => e = .returned (.int .u32 (sextI x s : Int)) ∧ ∃ n, w' = w.drewN n := by
  by_cases h1 : s < 1
  · have hz : sextI x s = x := by unfold sextI; rw [if_pos (.inl h1)]
    rw [hz]
    go_enter Try.func22, Try.ntmps22
    go_wp2
    go_ret
    exact ⟨rfl, 0, rfl⟩
  · by_cases h2 : 32 < s
    · have hz : sextI x s = x := by unfold sextI; rw [if_pos (.inr h2)]
      rw [hz]
      go_enter Try.func22, Try.ntmps22
      go_wp2
      go_ret
      exact ⟨rfl, 0, rfl⟩
    · have hz : sextI x s = sextN x s.toNat := by unfold sextI; rw [if_neg (by omega)]
      rw [hz]
      clear hz
      obtain ⟨m, rfl⟩ := Int.eq_ofNat_of_zero_le (show 0 ≤ s by omega)
      rw [Int.toNat_natCast]
      have Hc := Lib.hid (u32_and_nat x (2 ^ m - 1) hx (ones_lt (by omega)))
      have Hd := Lib.hid (u32_and_nat (x / 2 ^ (m - 1)) 1 (shr_lt _ hx) (by omega))
      have Hx := Lib.hid (u32_xor_nat 4294967295 (2 ^ m - 1) (by omega) (ones_lt (by omega)))
      have Ho := Lib.hid (u32_or_nat (x &&& (2 ^ m - 1)) (4294967295 ^^^ (2 ^ m - 1)) (Nat.lt_of_le_of_lt Nat.and_le_left hx) (by rw [xor_ones _ (ones_lt (by omega))]; omega))
      by_cases hb : (x / 2 ^ (m - 1)) &&& 1 = 1
      · have ht : (bits BinOp.and IntKind.u32 ((x : Int) / 2 ^ (m - 1)) 1 == 1) = true := by
          rw [shr_eq]; exact beq_iff_eq.2 (Hd.out.trans (by rw [hb]; rfl))
        have Hs := Lib.hid (sextN_yes hb)
        have Hr := Lib.hid (xor_ones _ (ones_lt (s := m) (by omega)))
        clear hb
        go_enter Try.func22, Try.ntmps22
        go_wp2_with (go_at_call 23; refine (ones_any _ _ (by omega)).mono ?_; rintro e w' ⟨rfl, d, rfl⟩)
        go_ret
        refine ⟨val_u32 ?_, _, rfl⟩
        rw [show (IntKind.u32.max : Int) = ((4294967295 : Nat) : Int) from rfl, Hc.out, Hx.out, Ho.out, Hs.out, Hr.out]
      · have ht : (bits BinOp.and IntKind.u32 ((x : Int) / 2 ^ (m - 1)) 1 == 1) = false := by
          rw [shr_eq]; exact beq_eq_false_iff_ne.2 (fun e => hb (by have h := Hd.out; rw [show ((1 : Nat) : Int) = 1 from rfl, e] at h; omega))
        have Hs := Lib.hid (sextN_no hb)
        clear hb
        go_enter Try.func22, Try.ntmps22
        go_wp2_with (go_at_call 23; refine (ones_any _ _ (by omega)).mono ?_; rintro e w' ⟨rfl, d, rfl⟩)
        go_ret
        refine ⟨val_u32 ?_, _, rfl⟩
        rw [Hc.out, Hs.out]

theorem Join_long (s : ByteArray) (w : World) (hs : s.size ≤ maxLen) (h : 4 < s.size) :
    Calls Try.prog 21 #[.string s] w fun e w' => e = .returned (.tuple #[.int .u32 0, .int .i64 2]) ∧ ∃ n, w' = w.drewN n := by
  unfold maxLen at hs
  go_enter Try.func21, Try.ntmps21
  go_wp2
  go_ret2
  exact ⟨rfl, 0, rfl⟩
theorem val_ui {a b : Int} {c : Int} (h : a = b) : Ending.returned (.tuple #[.int .u32 a, .int .i64 c]) = .returned (.tuple #[.int .u32 b, .int .i64 c]) := by rw [h]

theorem join_step {s : ByteArray} {k : Nat} (h : s.size ≤ 4) (hlt : k < s.size) :
    bits BinOp.or IntKind.u32 ((joinL (s.data.toList.take k) : Nat) : Int) (((s[k]'hlt).toNat : Int) % 4294967296 * 2 ^ (8 * k) % 4294967296) = ((joinL (s.data.toList.take (k + 1)) : Nat) : Int) := by
  have hl : k < s.data.toList.length := by simpa using hlt
  have hb := (s[k]'hlt).toNat_lt
  have he : (s[k]'hlt) = s.data.toList[k]'hl := rfl
  have h2 := shl_lt (b := (s[k]'hlt).toNat) (by omega) (show k < 4 by omega)
  rw [joinL_take hl, ← he, ← u32_or_nat _ _ (joinL_lt32 (by simp; omega)) h2]
  congr 1
  rw [show (((s[k]'hlt).toNat : Nat) : Int) % 4294967296 = ((s[k]'hlt).toNat : Int) by omega, int_pow, ← Int.natCast_mul]
  omega

theorem Join_any (s : ByteArray) (w : World) (h : s.size ≤ 4) :
    Calls Try.prog 21 #[.string s] w fun e w' => e = .returned (.tuple #[.int .u32 (joinL s.data.toList : Int), .int .i64 0]) ∧ ∃ n, w' = w.drewN n := by
  go_enter Try.func21, Try.ntmps21
  go_wp2
  go_loop [4, 11] (fun x i => ∃ k : Nat, k ≤ s.size ∧ i = .int .i64 (k : Int) ∧ x = .int .u32 (joinL (s.data.toList.take k) : Int)) (fun _ i => s.size - (intOf i).toNat)
  case atStart => exact ⟨0, by omega, rfl, rfl⟩
  case round =>
    obtain ⟨k, hk, rfl, rfl⟩ := hrel
    by_cases hlt : k < s.size
    · have Hs := Lib.hid (join_step h hlt)
      go_wp2
      go_round
      case rel => exact ⟨k + 1, by omega, by go_num, by rw [Hs.out]⟩
      case measure => first | (simp [intOf]; done) | (simp [intOf]; omega)
    · go_wp2
      go_ret2
      exact ⟨val_ui (by rw [List.take_of_length_le (by simp; omega)]), 0, rfl⟩


end Wd
end Go.Proofs.Ytafbdfnbnkcoeaa
