/- The statements WordBytes and WordJoins: the walks of the law functions. -/
import Derived.Test.YtnkopimcaokemaaWordBytes
import Derived.Test.YtnkopimcaokemaaWordLaws
set_option linter.unusedVariables false
set_option linter.unusedSimpArgs false
namespace Go.Proofs.Ytnkopimcaokemaa
namespace Wd
open Go.RowKit

theorem WordBytes_any (x : Nat) (s : Int) (t : ByteArray) (w : World) (hx : x < 4294967296) (hs : -9223372036854775808 ≤ s ∧ s ≤ 9223372036854775807) (ht : t.size ≤ maxLen) :
    Calls Try.prog 7 #[.int .u32 (x : Int), .int .i64 s, .string t] w fun e w' => e = .returned (.bool true) ∧ Bel w w' := by
  by_cases hn : s < 0 ∨ 4 < s
  · by_cases hm : t.size ≤ 4
    · go_enter Try.func7, Try.ntmps7
      go_wp2_with (first | (go_at_call 17; refine (Bytes_no _ _ _ hs hn).mono ?_; rintro e w1 ⟨rfl, d1, rfl⟩) | (go_at_call 18; refine (refBytes_no _ _ _ hs hn).mono ?_; rintro e w2 ⟨rfl, d2, rfl⟩) | (go_at_call 19; refine (Join_any _ _ hm).mono ?_; rintro e w3 ⟨rfl, d3, rfl⟩) | (go_at_call 20; refine (refJoin_any _ _ hm).mono ?_; rintro e w4 ⟨rfl, d4, rfl⟩) | (go_at_call 11; refine (alive_any _).mono ?_; rintro e w' ⟨rfl, d, rfl⟩))
      go_ret
      exact ⟨rfl, Bel.drewN _ _⟩
    · have hm : 4 < t.size := by omega
      go_enter Try.func7, Try.ntmps7
      go_wp2_with (first | (go_at_call 17; refine (Bytes_no _ _ _ hs hn).mono ?_; rintro e w1 ⟨rfl, d1, rfl⟩) | (go_at_call 18; refine (refBytes_no _ _ _ hs hn).mono ?_; rintro e w2 ⟨rfl, d2, rfl⟩) | (go_at_call 19; refine (Join_long _ _ ht hm).mono ?_; rintro e w3 ⟨rfl, d3, rfl⟩) | (go_at_call 20; refine (refJoin_long _ _ ht hm).mono ?_; rintro e w4 ⟨rfl, d4, rfl⟩) | (go_at_call 11; refine (alive_any _).mono ?_; rintro e w' ⟨rfl, d, rfl⟩))
      go_ret
      exact ⟨rfl, Bel.drewN _ _⟩
  · obtain ⟨n, rfl⟩ := Int.eq_ofNat_of_zero_le (show 0 ≤ s by omega)
    have hn : n ≤ 4 := by omega
    by_cases hm : t.size ≤ 4
    · go_enter Try.func7, Try.ntmps7
      go_wp2_with (first | (go_at_call 17; refine (Bytes_any _ _ _ hx hn).mono ?_; rintro e w1 ⟨rfl, hb1⟩) | (go_at_call 18; refine (refBytes_any _ _ _ hx hn).mono ?_; rintro e w2 ⟨rfl, hb2⟩) | (go_at_call 19; refine (Join_any _ _ hm).mono ?_; rintro e w3 ⟨rfl, d3, rfl⟩) | (go_at_call 20; refine (refJoin_any _ _ hm).mono ?_; rintro e w4 ⟨rfl, d4, rfl⟩) | (go_at_call 11; refine (alive_any _).mono ?_; rintro e w' ⟨rfl, d, rfl⟩))
      go_ret
      exact ⟨rfl, hb1.trans (hb2.trans (Bel.drewN _ _))⟩
    · have hm : 4 < t.size := by omega
      go_enter Try.func7, Try.ntmps7
      go_wp2_with (first | (go_at_call 17; refine (Bytes_any _ _ _ hx hn).mono ?_; rintro e w1 ⟨rfl, hb1⟩) | (go_at_call 18; refine (refBytes_any _ _ _ hx hn).mono ?_; rintro e w2 ⟨rfl, hb2⟩) | (go_at_call 19; refine (Join_long _ _ ht hm).mono ?_; rintro e w3 ⟨rfl, d3, rfl⟩) | (go_at_call 20; refine (refJoin_long _ _ ht hm).mono ?_; rintro e w4 ⟨rfl, d4, rfl⟩) | (go_at_call 11; refine (alive_any _).mono ?_; rintro e w' ⟨rfl, d, rfl⟩))
      go_ret
      exact ⟨rfl, hb1.trans (hb2.trans (Bel.drewN _ _))⟩

theorem WordJoins_any (x : Nat) (t : ByteArray) (s : Int) (w : World) (hx : x < 4294967296) (ht : t.size ≤ maxLen) (hs : -9223372036854775808 ≤ s ∧ s ≤ 9223372036854775807) :
    Calls Try.prog 8 #[.int .u32 (x : Int), .string t, .int .i64 s] w fun e w' => e = .returned (.bool true) ∧ Bel w w' := by
  have hb4 : ∀ W, Calls Try.prog 17 #[.int .u32 (x : Int), .int .i64 4] W fun e w' => e = .returned (.tuple #[.string ⟨(bytesL x 4).toArray⟩, .int .i64 0]) ∧ Bel W w' := fun W => Bytes_any x 4 W hx (by omega)
  have HB4 := Lib.hid hb4
  have hj4 := fun W => Join_any ⟨(bytesL x 4).toArray⟩ W (by simp [ByteArray.size, bytesL_len])
  rw [show joinL (ByteArray.mk (bytesL x 4).toArray).data.toList = x by simpa using join_bytes4 hx] at hj4
  have HJ4 := Lib.hid hj4
  clear hb4 hj4
  have l1 := sextI_lt s hx
  have n1 := eq_true_ (I_sext_sext (s := s) hx)
  have hb3 : Bel w w := Bel.refl w
  have tok1 : True := trivial
  have tok2 : True := trivial
  by_cases hm : t.size ≤ 4
  · have hjl : joinL t.data.toList < 4294967296 := joinL_lt32 (by simpa using hm)
    have hbt := fun W => Bytes_any (joinL t.data.toList) t.size W hjl hm
    have HBT := Lib.hid hbt
    have hst : (bytesL (joinL t.data.toList) t.size == t.toList) = true := by
      rw [ByteArray.toList_eq, show t.size = t.data.toList.length by simp, bytes_join]; simp
    clear hbt
    by_cases h1 : s < 1
    · go_enter Try.func8, Try.ntmps8
      go_wp2_with (first | (go_at_call 17; have t1 := tok1; refine (HB4.out _).mono ?_; clear t1 tok1; rintro e w1 ⟨rfl, hb1⟩) | (go_at_call 19; have t2 := tok2; refine (HJ4.out _).mono ?_; clear t2 tok2; rintro e w2 ⟨rfl, d2, rfl⟩) | (go_at_call 19; refine (Join_any _ _ hm).mono ?_; rintro e w3 ⟨rfl, d3, rfl⟩) | (go_at_call 17; refine (HBT.out _).mono ?_; rintro e w4 ⟨rfl, hb4⟩) | (go_at_call 15; refine (Sext_any _ _ _ (by first | assumption | omega) (by first | assumption | omega)).mono ?_; rintro e w' ⟨rfl, d, rfl⟩) | (go_at_call 12; refine (Field_any _ _ _ _ (by first | assumption | omega) (by first | assumption | omega) (by first | assumption | omega)).mono ?_; rintro e w' ⟨rfl, d, rfl⟩) | (go_at_call 11; refine (alive_any _).mono ?_; rintro e w' ⟨rfl, d, rfl⟩))
      go_ret
      exact ⟨rfl, hb1.trans ((Bel.drewN _ _).trans (hb4.trans (Bel.drewN _ _)))⟩
    · by_cases h2 : 32 < s
      · go_enter Try.func8, Try.ntmps8
        go_wp2_with (first | (go_at_call 17; have t1 := tok1; refine (HB4.out _).mono ?_; clear t1 tok1; rintro e w1 ⟨rfl, hb1⟩) | (go_at_call 19; have t2 := tok2; refine (HJ4.out _).mono ?_; clear t2 tok2; rintro e w2 ⟨rfl, d2, rfl⟩) | (go_at_call 19; refine (Join_any _ _ hm).mono ?_; rintro e w3 ⟨rfl, d3, rfl⟩) | (go_at_call 17; refine (HBT.out _).mono ?_; rintro e w4 ⟨rfl, hb4⟩) | (go_at_call 15; refine (Sext_any _ _ _ (by first | assumption | omega) (by first | assumption | omega)).mono ?_; rintro e w' ⟨rfl, d, rfl⟩) | (go_at_call 12; refine (Field_any _ _ _ _ (by first | assumption | omega) (by first | assumption | omega) (by first | assumption | omega)).mono ?_; rintro e w' ⟨rfl, d, rfl⟩) | (go_at_call 11; refine (alive_any _).mono ?_; rintro e w' ⟨rfl, d, rfl⟩))
        go_ret
        exact ⟨rfl, hb1.trans ((Bel.drewN _ _).trans (hb4.trans (Bel.drewN _ _)))⟩
      · have n2 := eq_true_ (I_field_sext (s := s) hx (by omega) (by omega))
        go_enter Try.func8, Try.ntmps8
        go_wp2_with (first | (go_at_call 17; have t1 := tok1; refine (HB4.out _).mono ?_; clear t1 tok1; rintro e w1 ⟨rfl, hb1⟩) | (go_at_call 19; have t2 := tok2; refine (HJ4.out _).mono ?_; clear t2 tok2; rintro e w2 ⟨rfl, d2, rfl⟩) | (go_at_call 19; refine (Join_any _ _ hm).mono ?_; rintro e w3 ⟨rfl, d3, rfl⟩) | (go_at_call 17; refine (HBT.out _).mono ?_; rintro e w4 ⟨rfl, hb4⟩) | (go_at_call 15; refine (Sext_any _ _ _ (by first | assumption | omega) (by first | assumption | omega)).mono ?_; rintro e w' ⟨rfl, d, rfl⟩) | (go_at_call 12; refine (Field_any _ _ _ _ (by first | assumption | omega) (by first | assumption | omega) (by first | assumption | omega)).mono ?_; rintro e w' ⟨rfl, d, rfl⟩) | (go_at_call 11; refine (alive_any _).mono ?_; rintro e w' ⟨rfl, d, rfl⟩))
        go_ret
        exact ⟨rfl, hb1.trans ((Bel.drewN _ _).trans (hb4.trans (Bel.drewN _ _)))⟩
  · have hm : 4 < t.size := by omega
    by_cases h1 : s < 1
    · go_enter Try.func8, Try.ntmps8
      go_wp2_with (first | (go_at_call 17; have t1 := tok1; refine (HB4.out _).mono ?_; clear t1 tok1; rintro e w1 ⟨rfl, hb1⟩) | (go_at_call 19; have t2 := tok2; refine (HJ4.out _).mono ?_; clear t2 tok2; rintro e w2 ⟨rfl, d2, rfl⟩) | (go_at_call 19; refine (Join_long _ _ ht hm).mono ?_; rintro e w3 ⟨rfl, d3, rfl⟩) | (go_at_call 15; refine (Sext_any _ _ _ (by first | assumption | omega) (by first | assumption | omega)).mono ?_; rintro e w' ⟨rfl, d, rfl⟩) | (go_at_call 12; refine (Field_any _ _ _ _ (by first | assumption | omega) (by first | assumption | omega) (by first | assumption | omega)).mono ?_; rintro e w' ⟨rfl, d, rfl⟩) | (go_at_call 11; refine (alive_any _).mono ?_; rintro e w' ⟨rfl, d, rfl⟩))
      go_ret
      exact ⟨rfl, hb1.trans (Bel.drewN _ _)⟩
    · by_cases h2 : 32 < s
      · go_enter Try.func8, Try.ntmps8
        go_wp2_with (first | (go_at_call 17; have t1 := tok1; refine (HB4.out _).mono ?_; clear t1 tok1; rintro e w1 ⟨rfl, hb1⟩) | (go_at_call 19; have t2 := tok2; refine (HJ4.out _).mono ?_; clear t2 tok2; rintro e w2 ⟨rfl, d2, rfl⟩) | (go_at_call 19; refine (Join_long _ _ ht hm).mono ?_; rintro e w3 ⟨rfl, d3, rfl⟩) | (go_at_call 15; refine (Sext_any _ _ _ (by first | assumption | omega) (by first | assumption | omega)).mono ?_; rintro e w' ⟨rfl, d, rfl⟩) | (go_at_call 12; refine (Field_any _ _ _ _ (by first | assumption | omega) (by first | assumption | omega) (by first | assumption | omega)).mono ?_; rintro e w' ⟨rfl, d, rfl⟩) | (go_at_call 11; refine (alive_any _).mono ?_; rintro e w' ⟨rfl, d, rfl⟩))
        go_ret
        exact ⟨rfl, hb1.trans (Bel.drewN _ _)⟩
      · have n2 := eq_true_ (I_field_sext (s := s) hx (by omega) (by omega))
        go_enter Try.func8, Try.ntmps8
        go_wp2_with (first | (go_at_call 17; have t1 := tok1; refine (HB4.out _).mono ?_; clear t1 tok1; rintro e w1 ⟨rfl, hb1⟩) | (go_at_call 19; have t2 := tok2; refine (HJ4.out _).mono ?_; clear t2 tok2; rintro e w2 ⟨rfl, d2, rfl⟩) | (go_at_call 19; refine (Join_long _ _ ht hm).mono ?_; rintro e w3 ⟨rfl, d3, rfl⟩) | (go_at_call 15; refine (Sext_any _ _ _ (by first | assumption | omega) (by first | assumption | omega)).mono ?_; rintro e w' ⟨rfl, d, rfl⟩) | (go_at_call 12; refine (Field_any _ _ _ _ (by first | assumption | omega) (by first | assumption | omega) (by first | assumption | omega)).mono ?_; rintro e w' ⟨rfl, d, rfl⟩) | (go_at_call 11; refine (alive_any _).mono ?_; rintro e w' ⟨rfl, d, rfl⟩))
        go_ret
        exact ⟨rfl, hb1.trans (Bel.drewN _ _)⟩

end Wd
end Go.Proofs.Ytnkopimcaokemaa
