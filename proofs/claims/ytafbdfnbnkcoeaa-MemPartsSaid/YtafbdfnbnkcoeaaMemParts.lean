/- The statement MemParts: a word's bytes are those of its halves. -/
import Derived.Test.YtafbdfnbnkcoeaaMemClean
import Derived.Test.YtafbdfnbnkcoeaaWordJS
set_option linter.unusedVariables false
set_option linter.unusedSimpArgs false
namespace Go.Proofs.Ytafbdfnbnkcoeaa
namespace Me
open Go.RowKit Wd

theorem below_drewN {B : Nat} {a w : World} (h : Below B a w) (n : Nat) : Below B a (w.drewN n) := ⟨h.os, h.tape, h.output, h.size, h.block⟩
theorem Sext16 (x : Nat) (w : World) (hx : x < 4294967296) : Calls Try.prog 22 #[.int .u32 (x : Int), .int .i64 16] w fun e w' => e = .returned (.int .u32 (sextN x 16 : Int)) ∧ ∃ n, w' = w.drewN n :=
  Sext_any x 16 w hx (by omega)
theorem Load_lw (s : ByteArray) (w : World) (h : s.size = 4) :
    Calls Try.prog 18 #[.int .i64 13, .string s] w fun e w' => e = .returned (.int .u32 (joinL s.data.toList : Int)) ∧ Bel w w' := by
  have hl := joinL_lt32 (l := s.data.toList) (by rw [str_len]; omega)
  go_enter Try.func18, Try.ntmps18
  go_wp2_with (first | (go_at_call 21; refine (Join_any s _ (by omega)).mono ?_; rintro e w' ⟨rfl, d, rfl⟩) | go_in)
  go_ret
  exact ⟨rfl, by show Below _ _ _; refine below_drewN ?_ _; go_grown⟩
theorem Load_lhu (s : ByteArray) (w : World) (h : s.size = 2) :
    Calls Try.prog 18 #[.int .i64 15, .string s] w fun e w' => e = .returned (.int .u32 (joinL s.data.toList : Int)) ∧ Bel w w' := by
  have hl := joinL_lt32 (l := s.data.toList) (by rw [str_len]; omega)
  go_enter Try.func18, Try.ntmps18
  go_wp2_with (first | (go_at_call 21; refine (Join_any s _ (by omega)).mono ?_; rintro e w' ⟨rfl, d, rfl⟩) | go_in)
  go_ret
  exact ⟨rfl, by show Below _ _ _; refine below_drewN ?_ _; go_grown⟩
theorem Load_lbu (s : ByteArray) (w : World) (h : s.size = 1) :
    Calls Try.prog 18 #[.int .i64 14, .string s] w fun e w' => e = .returned (.int .u32 (joinL s.data.toList : Int)) ∧ Bel w w' := by
  have hl := joinL_lt32 (l := s.data.toList) (by rw [str_len]; omega)
  go_enter Try.func18, Try.ntmps18
  go_wp2_with (first | (go_at_call 21; refine (Join_any s _ (by omega)).mono ?_; rintro e w' ⟨rfl, d, rfl⟩) | go_in)
  go_ret
  exact ⟨rfl, by show Below _ _ _; refine below_drewN ?_ _; go_grown⟩
theorem Load_lh (s : ByteArray) (w : World) (h : s.size = 2) :
    Calls Try.prog 18 #[.int .i64 12, .string s] w fun e w' => e = .returned (.int .u32 (sextN (joinL s.data.toList) 16 : Int)) ∧ Bel w w' := by
  have hl := joinL_lt32 (l := s.data.toList) (by rw [str_len]; omega)
  go_enter Try.func18, Try.ntmps18
  go_wp2_with (first | (go_at_call 21; refine (Join_any s _ (by omega)).mono ?_; rintro e w' ⟨rfl, d, rfl⟩) | (go_at_call 22; refine (Sext16 _ _ hl).mono ?_; rintro e w' ⟨rfl, d2, rfl⟩) | go_in)
  go_ret
  exact ⟨rfl, by show Below _ _ _; refine below_drewN ?_ _; go_grown⟩

theorem sext_half {j3 j : Nat} (h3 : j3 = j / 65536) (h : j3 < 65536) (hj : j < 4294967296) : ((sextN j3 16 : Nat) : Int) = wrap32 (j : Int) / 65536 % 4294967296 := by
  have ha : j3 &&& 65535 = j3 := by rw [nat_mask16]; omega
  have hb : (j3 / 32768) &&& 1 = j3 / 32768 % 2 := nat_mask1 _
  by_cases c : j3 / 32768 % 2 = 1
  · have hs := sextN_yes (w := j3) (s := 16) (by rw [show 2 ^ (16 - 1) = 32768 from rfl, hb]; exact c)
    rw [show 2 ^ 16 - 1 = 65535 from rfl, ha, Nat.or_comm, nat_join 16 (4294967295 - 65535) j3 (by decide) (by simpa using h)] at hs
    rw [hs]; unfold wrap32; omega
  · have hs := sextN_no (w := j3) (s := 16) (by rw [show 2 ^ (16 - 1) = 32768 from rfl, hb]; exact c)
    rw [show 2 ^ 16 - 1 = 65535 from rfl, ha] at hs
    rw [hs]; unfold wrap32; omega

theorem MemParts_any (m : ByteArray) (a : Nat) (w : World) (hm : m.size ≤ maxLen) (ha : a < 4294967296) :
    Calls Try.prog 7 #[.string m, .int .u32 (a : Int)] w fun e w' => e = .returned (.bool true) ∧ Bel w w' := by
  go_enter Try.func7, Try.ntmps7
  go_wp2_with (first | (go_at_call_of 10 m; refine (short_any m _ hm).mono ?_; rintro e w' ⟨M, rfl, hM, d0, rfl⟩))
  clear hm
  cases h1 : right M.size a 4
  · have HR1 := Lib.hid (fun W => Read_no M a 4 W (by omega) ha (by omega) h1)
    go_wp2_with (first | (go_at_call 12; ((with_reducible refine (HR1.out _).mono ?_); rintro e w' ⟨rfl, d3, rfl⟩)) | (go_at_call 13; refine (Right_any _ _ _ _ (by omega) (by omega) (by omega)).mono ?_; rintro e w' ⟨rfl, d4, rfl⟩) | (go_at_call 9; refine (alive_any _).mono ?_; rintro e w9 ⟨rfl, hb9⟩))
    go_ret
    exact ⟨rfl, (Bel.drewN _ _).trans (hb9.trans (Bel.drewN _ _))⟩
  · have hr := (right_iff.1 h1).2
    have h4 : a % 4 = 0 := by omega
    have h5 : a + 4 ≤ M.size := by omega
    have r2 : right M.size a 2 = true := by rw [right_iff]; omega
    have r3 : right M.size (a + 2) 2 = true := by rw [right_iff]; omega
    obtain ⟨b0, b1, b2, b3, hS⟩ : ∃ b0 b1 b2 b3, (M.data.toList.drop a).take 4 = [b0, b1, b2, b3] := by
      have hl : ((M.data.toList.drop a).take 4).length = 4 := by rw [List.length_take, List.length_drop, str_len]; omega
      generalize (M.data.toList.drop a).take 4 = l at hl
      match l, hl with
      | [b0, b1, b2, b3], _ => exact ⟨b0, b1, b2, b3, rfl⟩
    have g1 : (M.extract a (a + 4)).data.toList = [b0, b1, b2, b3] := by rw [cut_list, List.drop_take, show a + 4 - a = 4 by omega]; exact hS
    have g2 : (M.extract a (a + 2)).data.toList = [b0, b1] := by
      rw [cut_list, List.drop_take, show a + 2 - a = 2 by omega, show (2 : Nat) = min 2 4 from rfl, ← List.take_take, hS]; rfl
    have g3 : (M.extract (a + 2) (a + 2 + 2)).data.toList = [b2, b3] := by
      rw [cut_list, List.drop_take, show a + 2 + 2 - (a + 2) = 2 by omega, ← List.drop_drop]
      have : List.take 2 (List.drop 2 (List.drop a M.data.toList)) = ((M.data.toList.drop a).take 4).drop 2 := by rw [List.drop_take]
      rw [this, hS]; rfl
    have hr1 : ∀ W, Calls Try.prog 12 #[.string M, .int .u32 (a : Int), .int .i64 4] W fun e w' => e = .returned (.tuple #[.string (M.extract a (a + 4)), .int .i64 0]) ∧ ∃ d, w' = W.drewN d := fun W => Read_yes M a 4 W (by omega) ha (by omega) h1
    have hr2 : ∀ W, Calls Try.prog 12 #[.string M, .int .u32 (a : Int), .int .i64 2] W fun e w' => e = .returned (.tuple #[.string (M.extract a (a + 2)), .int .i64 0]) ∧ ∃ d, w' = W.drewN d := fun W => Read_yes M a 2 W (by omega) ha (by omega) r2
    have hr3 : ∀ W, Calls Try.prog 12 #[.string M, .int .u32 ((a : Int) + 2), .int .i64 2] W fun e w' => e = .returned (.tuple #[.string (M.extract (a + 2) (a + 2 + 2)), .int .i64 0]) ∧ ∃ d, w' = W.drewN d := fun W => Read_yes M (a + 2) 2 W (by omega) (by omega) (by omega) r3
    generalize M.extract a (a + 4) = S at *
    generalize M.extract a (a + 2) = S2 at *
    generalize M.extract (a + 2) (a + 2 + 2) = S3 at *
    have HR1 := Lib.hid hr1
    have HR2 := Lib.hid hr2
    have HR3 := Lib.hid hr3
    have z1 : S.size = 4 := by rw [← str_len, g1]; rfl
    have z2 : S2.size = 2 := by rw [← str_len, g2]; rfl
    have z3 : S3.size = 2 := by rw [← str_len, g3]; rfl
    have g4 : (S.extract 3 4).data.toList = [b3] := by rw [cut_list, g1]; rfl
    have HL1 := Lib.hid (fun W => Load_lw S W z1)
    have HL2 := Lib.hid (fun W => Load_lhu S2 W z2)
    have HL3 := Lib.hid (fun W => Load_lhu S3 W z3)
    have HL4 := Lib.hid (fun W => Load_lh S3 W z3)
    have HL5 := Lib.hid (fun W => Load_lbu (S.extract 3 4) W (by rw [← str_len, g4]; rfl))
    have e1 : ((S2 ++ S3).toList == S.toList) = true := by
      rw [ByteArray.toList_eq, ByteArray.toList_eq, g1, show (S2 ++ S3).data.toList = S2.data.toList ++ S3.data.toList by simp, g2, g3]; simp
    clear hr1 hr2 hr3 r2 r3 h1 hr hS
    have k1 : joinL S.data.toList = b0.toNat + 256 * (b1.toNat + 256 * (b2.toNat + 256 * (b3.toNat + 256 * 0))) := by rw [g1]; rfl
    have k2 : joinL S2.data.toList = b0.toNat + 256 * (b1.toNat + 256 * 0) := by rw [g2]; rfl
    have k3 : joinL S3.data.toList = b2.toNat + 256 * (b3.toNat + 256 * 0) := by rw [g3]; rfl
    have k4 : joinL (S.extract 3 4).data.toList = b3.toNat + 256 * 0 := by rw [g4]; rfl
    have n0 := b0.toNat_lt
    have n1 := b1.toNat_lt
    have n2 := b2.toNat_lt
    have n3 := b3.toNat_lt
    clear g1 g2 g3 g4
    generalize joinL S.data.toList = j at *
    generalize joinL S2.data.toList = j2 at *
    generalize joinL S3.data.toList = j3 at *
    generalize joinL (S.extract 3 4).data.toList = j4 at *
    generalize b0.toNat = c0 at *
    generalize b1.toNat = c1 at *
    generalize b2.toNat = c2 at *
    generalize b3.toNat = c3 at *
    have hj : j < 4294967296 := by omega
    have e2 : ((j2 : Int) == bits BinOp.and IntKind.u32 (j : Int) 65535) = true := by
      rw [beq_iff_eq]
      have := u32_and_nat j 65535 hj (by omega)
      rw [show (65535 : Int) = ((65535 : Nat) : Int) from rfl, this, nat_mask16]
      omega
    have e3 : ((j3 : Int) == (j : Int) / 65536) = true := by rw [beq_iff_eq]; omega
    have e4 : (((sextN j3 16 : Nat) : Int) == wrap32 (j : Int) / 65536 % 4294967296) = true := by rw [beq_iff_eq]; exact sext_half (by omega) (by omega) hj
    have e5 : ((j4 : Int) == (j : Int) / 16777216) = true := by rw [beq_iff_eq]; omega
    have HS := Lib.hid (sextN_lt (w := j3) (s := 16) (by omega) (by omega) (by omega))
    generalize sextN j3 16 = j5 at *
    clear k1 k2 k3 k4 n0 n1 n2 n3 HS
    go_wp2_with (first | (go_at_call 12; ((with_reducible refine (HR1.out _).mono ?_); rintro e w' ⟨rfl, d3, rfl⟩)) | (go_at_call 12; ((with_reducible refine (HR2.out _).mono ?_); rintro e w' ⟨rfl, d3, rfl⟩)) | (go_at_call 12; ((with_reducible refine (HR3.out _).mono ?_); rintro e w' ⟨rfl, d3, rfl⟩)) | (go_at_call 18; ((with_reducible refine (HL1.out _).mono ?_); rintro e w1 ⟨rfl, hb1⟩)) | (go_at_call 9; refine (alive_any _).mono ?_; rintro e w9 ⟨rfl, hb9⟩) | (go_at_call 18; ((with_reducible refine (HL2.out _).mono ?_); rintro e w2 ⟨rfl, hb2⟩)) | (go_at_call 18; ((with_reducible refine (HL3.out _).mono ?_); rintro e w3 ⟨rfl, hb3⟩)) | (go_at_call 18; ((with_reducible refine (HL4.out _).mono ?_); rintro e w4 ⟨rfl, hb4⟩)) | (go_at_call 18; ((with_reducible refine (HL5.out _).mono ?_); rintro e w5 ⟨rfl, hb5⟩)))
    go_ret
    exact ⟨rfl, (Bel.drewN _ _).trans (hb1.trans (hb9.trans (hb2.trans (hb3.trans (hb4.trans hb5)))))⟩

end Me
end Go.Proofs.Ytafbdfnbnkcoeaa
