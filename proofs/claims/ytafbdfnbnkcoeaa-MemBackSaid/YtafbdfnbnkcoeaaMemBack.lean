/- The statement MemBack: what is written is read; what is cleaned stays. -/
import Derived.Test.YtafbdfnbnkcoeaaMemTwo
set_option linter.unusedVariables false
set_option linter.unusedSimpArgs false
namespace Go.Proofs.Ytafbdfnbnkcoeaa
namespace Me
open Go.RowKit

theorem read_back {m b : ByteArray} {a : Nat} (h : right m.size a (b.size : Int) = true) : (((writeS m a b).extract a (a + b.size)).toList == b.toList) = true := by
  have h1 := fits_of h
  have e : ((writeS m a b).extract a (a + b.size)).toList = b.toList := by
    rw [ByteArray.toList_eq, ByteArray.toList_eq, cut_list, writeS_list, writeL]
    rw [str_len] at h1
    have hl : (m.data.toList.take a).length = a := by rw [List.length_take]; omega
    rw [List.append_assoc, List.take_append, hl, List.drop_append, List.length_take, hl]
    have e1 : List.take (a + b.size) (List.take a m.data.toList) = List.take a m.data.toList := List.take_of_length_le (by omega)
    have e2 : List.drop a (List.take a m.data.toList) = [] := List.drop_of_length_le (by omega)
    rw [e1, e2, show a - min (a + b.size) a = 0 by omega, List.drop_zero, List.nil_append, show a + b.size - a = b.size by omega]
    rw [List.take_append_of_le_length (by rw [str_len]; exact Nat.le_refl _), List.take_of_length_le (by rw [str_len]; exact Nat.le_refl _)]
  rw [e]; simp
theorem cut_one {l : List UInt8} {o : Nat} (h : o < l.length) : (l.take (o + 1)).drop o = [l.getD o 0] := by
  rw [List.take_succ_eq_append_getElem h, List.drop_append, List.drop_of_length_le (by rw [List.length_take]; omega)]
  simp [List.getD, h, show o - min o l.length = 0 by omega]
theorem read_other {m b : ByteArray} {a o : Nat} (h : right m.size a (b.size : Int) = true) (ho : o < m.size) (hn : ¬ (a ≤ o ∧ o < a + b.size)) : ((m.extract o (o + 1)).toList == ((writeS m a b).extract o (o + 1)).toList) = true := by
  have h1 := fits_of h
  have hw := writeL_len h1
  have e : (m.extract o (o + 1)).toList = ((writeS m a b).extract o (o + 1)).toList := by
    rw [ByteArray.toList_eq, ByteArray.toList_eq, cut_list, cut_list, writeS_list, cut_one (by rw [str_len]; exact ho), cut_one (by rw [hw, str_len]; exact ho), getD_write h1 (by rw [str_len]; exact ho)]
    unfold wl
    rw [if_neg (by rw [str_len]; exact hn)]
  rw [e]; simp

set_option maxHeartbeats 1000000 in
theorem MemBack_any (m : ByteArray) (a : Nat) (x : ByteArray) (o : Nat) (w : World) (hm : m.size ≤ maxLen) (ha : a < 4294967296) (hx : x.size ≤ maxLen) (ho : o < 4294967296) :
    Calls Try.prog 6 #[.string m, .int .u32 (a : Int), .string x, .int .u32 (o : Int)] w fun e w' => e = .returned (.bool true) ∧ Bel w w' := by
  go_enter Try.func6, Try.ntmps6
  go_wp2_with (first | (go_at_call_of 10 m; refine (short_any m _ hm).mono ?_; rintro e w' ⟨M, rfl, hM, d0, rfl⟩) | (go_at_call_of 10 x; refine (short_any x _ hx).mono ?_; rintro e w' ⟨X, rfl, hX, d1, rfl⟩))
  clear hm hx
  obtain ⟨C, hC⟩ : ∃ C : ByteArray, C = ⟨(cleanL M.data.toList).toArray⟩ := ⟨_, rfl⟩
  have hCl : C.data.toList = cleanL M.data.toList := by rw [hC]
  have hCs : C.size = cleanN (min 256 M.size) := by have h := cleanL_len M.data.toList; rw [← hCl, str_len, str_len] at h; exact h
  have hc1 := fun W => Clean_any M W (by omega)
  rw [← hC] at hc1
  have hc2 := fun W => Clean_any C W (by rw [hCs]; have := cleanN_cases (min 256 M.size); omega)
  rw [hCl, cleanL_clean, ← hC] at hc2
  have HC1 := Lib.hid hc1
  have HC2 := Lib.hid hc2
  clear hc1 hc2 hC
  have hcc := cleanN_cases (min 256 M.size)
  rw [← hCs] at hcc
  have c16 : 16 ≤ C.size := by omega
  have c256 : C.size ≤ 256 := by omega
  have hbit : (bits .and .i64 (C.size : Int) ((C.size : Int) - 1) != 0) = false := by rcases hcc with h | h | h | h | h <;> rw [h] <;> rfl
  have g16 : decide ((C.size : Int) < 16) = false := by simp; omega
  have g256 : decide ((256 : Int) < (C.size : Int)) = false := by simp; omega
  have hcut : ∀ N, N ≤ M.size → N ≤ 256 → ((C.extract 0 N).toList == (M.extract 0 N).toList) = true := by
    intro N k1 k2
    rw [ByteArray.toList_eq, ByteArray.toList_eq, cut_list, cut_list, hCl, cleanL_take _ (by rw [str_len]; exact k1) k2]; simp
  clear hcc hCs hCl
  go_wp2_with (first | (go_at_call 17; ((with_reducible refine (HC1.out _).mono ?_); rintro e wc ⟨rfl, hbc⟩)))
  by_cases hlt : C.size < M.size
  · have hc1 := hcut C.size (by omega) c256
    have hc2 : (C.toList == (M.extract 0 C.size).toList) = true := by
      rw [← hc1]; congr 1; rw [ByteArray.toList_eq, ByteArray.toList_eq, cut_list, List.drop_zero, List.take_of_length_le (by rw [str_len]; exact Nat.le_refl _)]
    clear hcut hc1
    refine wp_region_quiet_below (by kernel_rfl) (by kernel_rfl) ?_
    repeat (go_big_quiet_step ((go_at_call 17; exact grow1 (HC2.out _))))
    (refine wpQuiet_nil ?_; intro wq hw'; obtain ⟨⟨dq, osq⟩, hw''⟩ := hw'; subst hw'')
    clear hlt hc2 g16 g256 hbit
    cases h1 : right M.size a (X.size : Int)
    · have HW1 := Lib.hid (fun W => Write_no' M a X W hM ha hX h1)
      go_wp2_with (first | (go_at_call 11; ((with_reducible refine (HW1.out _).mono ?_); rintro e w1 ⟨rfl, hb1⟩)) | (go_at_call 13; refine (Right_any _ _ _ _ (by omega) (by omega) (by omega)).mono ?_; rintro e w' ⟨rfl, d4, rfl⟩) | (go_at_call 9; refine (alive_any _).mono ?_; rintro e w9 ⟨rfl, hb9⟩))
      go_ret
      exact ⟨rfl, (Bel.drewN _ _).trans (hbc.trans ((bel_grow _ _ _).trans (hb1.trans (hb9.trans (Bel.drewN _ _)))))⟩
    · have HW1 := Lib.hid (fun W => Write_yes M a X W hM ha h1)
      have hs1 := writeS_size h1
      have hw1 := fun W => Read_yes (writeS M a X) a X.size W (by omega) ha (by omega) (by rw [hs1]; exact h1)
      have HR1 := Lib.hid hw1
      have hrb := read_back h1
      have hss : (((writeS M a X).size : Int) == (M.size : Int)) = true := by rw [hs1]; simp
      clear hw1
      cases h2 : right M.size o 1
      · have HR2 := Lib.hid (fun W => Read_no M o 1 W (by omega) ho (by omega) h2)
        have HR3 := Lib.hid (fun W => Read_no (writeS M a X) o 1 W (by omega) ho (by omega) (by rw [hs1]; exact h2))
        clear hs1
        go_wp2_with (first | (go_at_call 11; ((with_reducible refine (HW1.out _).mono ?_); rintro e w1 ⟨rfl, hb1⟩)) | (go_at_call 12; ((with_reducible refine (HR1.out _).mono ?_); rintro e w' ⟨rfl, d3, rfl⟩)) | (go_at_call 12; ((with_reducible refine (HR2.out _).mono ?_); rintro e w' ⟨rfl, d3, rfl⟩)) | (go_at_call 12; ((with_reducible refine (HR3.out _).mono ?_); rintro e w' ⟨rfl, d3, rfl⟩)) | (go_at_call 13; refine (Right_any _ _ _ _ (by omega) (by omega) (by omega)).mono ?_; rintro e w' ⟨rfl, d4, rfl⟩) | (go_at_call 9; refine (alive_any _).mono ?_; rintro e w9 ⟨rfl, hb9⟩))
        all_goals go_ret
        all_goals exact ⟨rfl, (Bel.drewN _ _).trans (hbc.trans ((bel_grow _ _ _).trans (hb1.trans ((Bel.drewN _ _).trans hb9))))⟩
      · have ho1 : o < M.size := by have := (right_iff.1 h2).2.2; omega
        have hr2 : ∀ W, Calls Try.prog 12 #[.string M, .int .u32 (o : Int), .int .i64 1] W fun e w' => e = .returned (.tuple #[.string (M.extract o (o + 1)), .int .i64 0]) ∧ ∃ d, w' = W.drewN d := fun W => Read_yes M o 1 W (by omega) ho (by omega) h2
        have hr3 : ∀ W, Calls Try.prog 12 #[.string (writeS M a X), .int .u32 (o : Int), .int .i64 1] W fun e w' => e = .returned (.tuple #[.string ((writeS M a X).extract o (o + 1)), .int .i64 0]) ∧ ∃ d, w' = W.drewN d := fun W => Read_yes (writeS M a X) o 1 W (by omega) ho (by omega) (by rw [hs1]; exact h2)
        have HR2 := Lib.hid hr2
        have HR3 := Lib.hid hr3
        clear hr2 hr3 hs1
        by_cases hin : a ≤ o ∧ o < a + X.size
        · obtain ⟨hin1, hin2⟩ := hin
          go_wp2_with (first | (go_at_call 11; ((with_reducible refine (HW1.out _).mono ?_); rintro e w1 ⟨rfl, hb1⟩)) | (go_at_call 12; ((with_reducible refine (HR1.out _).mono ?_); rintro e w' ⟨rfl, d3, rfl⟩)) | (go_at_call 12; ((with_reducible refine (HR2.out _).mono ?_); rintro e w' ⟨rfl, d3, rfl⟩)) | (go_at_call 12; ((with_reducible refine (HR3.out _).mono ?_); rintro e w' ⟨rfl, d3, rfl⟩)) | (go_at_call 13; refine (Right_any _ _ _ _ (by omega) (by omega) (by omega)).mono ?_; rintro e w' ⟨rfl, d4, rfl⟩) | (go_at_call 9; refine (alive_any _).mono ?_; rintro e w9 ⟨rfl, hb9⟩))
          all_goals go_ret
          all_goals exact ⟨rfl, (Bel.drewN _ _).trans (hbc.trans ((bel_grow _ _ _).trans (hb1.trans ((Bel.drewN _ _).trans hb9))))⟩
        · have hro := read_other h1 ho1 hin
          clear hin
          go_wp2_with (first | (go_at_call 11; ((with_reducible refine (HW1.out _).mono ?_); rintro e w1 ⟨rfl, hb1⟩)) | (go_at_call 12; ((with_reducible refine (HR1.out _).mono ?_); rintro e w' ⟨rfl, d3, rfl⟩)) | (go_at_call 12; ((with_reducible refine (HR2.out _).mono ?_); rintro e w' ⟨rfl, d3, rfl⟩)) | (go_at_call 12; ((with_reducible refine (HR3.out _).mono ?_); rintro e w' ⟨rfl, d3, rfl⟩)) | (go_at_call 13; refine (Right_any _ _ _ _ (by omega) (by omega) (by omega)).mono ?_; rintro e w' ⟨rfl, d4, rfl⟩) | (go_at_call 9; refine (alive_any _).mono ?_; rintro e w9 ⟨rfl, hb9⟩))
          all_goals go_ret
          all_goals exact ⟨rfl, (Bel.drewN _ _).trans (hbc.trans ((bel_grow _ _ _).trans (hb1.trans ((Bel.drewN _ _).trans hb9))))⟩
  · have hc1 := hcut M.size (by omega) (by omega)
    have hc2 : ((C.extract 0 M.size).toList == M.toList) = true := by
      rw [← hc1]; congr 1; rw [ByteArray.toList_eq (M.extract 0 M.size), ByteArray.toList_eq M, cut_list, List.drop_zero, List.take_of_length_le (by rw [str_len]; exact Nat.le_refl _)]
    clear hcut hc1
    refine wp_region_quiet_below (by kernel_rfl) (by kernel_rfl) ?_
    repeat (go_big_quiet_step ((go_at_call 17; exact grow1 (HC2.out _))))
    (refine wpQuiet_nil ?_; intro wq hw'; obtain ⟨⟨dq, osq⟩, hw''⟩ := hw'; subst hw'')
    clear hlt hc2 g16 g256 hbit
    cases h1 : right M.size a (X.size : Int)
    · have HW1 := Lib.hid (fun W => Write_no' M a X W hM ha hX h1)
      go_wp2_with (first | (go_at_call 11; ((with_reducible refine (HW1.out _).mono ?_); rintro e w1 ⟨rfl, hb1⟩)) | (go_at_call 13; refine (Right_any _ _ _ _ (by omega) (by omega) (by omega)).mono ?_; rintro e w' ⟨rfl, d4, rfl⟩) | (go_at_call 9; refine (alive_any _).mono ?_; rintro e w9 ⟨rfl, hb9⟩))
      go_ret
      exact ⟨rfl, (Bel.drewN _ _).trans (hbc.trans ((bel_grow _ _ _).trans (hb1.trans (hb9.trans (Bel.drewN _ _)))))⟩
    · have HW1 := Lib.hid (fun W => Write_yes M a X W hM ha h1)
      have hs1 := writeS_size h1
      have hw1 := fun W => Read_yes (writeS M a X) a X.size W (by omega) ha (by omega) (by rw [hs1]; exact h1)
      have HR1 := Lib.hid hw1
      have hrb := read_back h1
      have hss : (((writeS M a X).size : Int) == (M.size : Int)) = true := by rw [hs1]; simp
      clear hw1
      cases h2 : right M.size o 1
      · have HR2 := Lib.hid (fun W => Read_no M o 1 W (by omega) ho (by omega) h2)
        have HR3 := Lib.hid (fun W => Read_no (writeS M a X) o 1 W (by omega) ho (by omega) (by rw [hs1]; exact h2))
        clear hs1
        go_wp2_with (first | (go_at_call 11; ((with_reducible refine (HW1.out _).mono ?_); rintro e w1 ⟨rfl, hb1⟩)) | (go_at_call 12; ((with_reducible refine (HR1.out _).mono ?_); rintro e w' ⟨rfl, d3, rfl⟩)) | (go_at_call 12; ((with_reducible refine (HR2.out _).mono ?_); rintro e w' ⟨rfl, d3, rfl⟩)) | (go_at_call 12; ((with_reducible refine (HR3.out _).mono ?_); rintro e w' ⟨rfl, d3, rfl⟩)) | (go_at_call 13; refine (Right_any _ _ _ _ (by omega) (by omega) (by omega)).mono ?_; rintro e w' ⟨rfl, d4, rfl⟩) | (go_at_call 9; refine (alive_any _).mono ?_; rintro e w9 ⟨rfl, hb9⟩))
        all_goals go_ret
        all_goals exact ⟨rfl, (Bel.drewN _ _).trans (hbc.trans ((bel_grow _ _ _).trans (hb1.trans ((Bel.drewN _ _).trans hb9))))⟩
      · have ho1 : o < M.size := by have := (right_iff.1 h2).2.2; omega
        have hr2 : ∀ W, Calls Try.prog 12 #[.string M, .int .u32 (o : Int), .int .i64 1] W fun e w' => e = .returned (.tuple #[.string (M.extract o (o + 1)), .int .i64 0]) ∧ ∃ d, w' = W.drewN d := fun W => Read_yes M o 1 W (by omega) ho (by omega) h2
        have hr3 : ∀ W, Calls Try.prog 12 #[.string (writeS M a X), .int .u32 (o : Int), .int .i64 1] W fun e w' => e = .returned (.tuple #[.string ((writeS M a X).extract o (o + 1)), .int .i64 0]) ∧ ∃ d, w' = W.drewN d := fun W => Read_yes (writeS M a X) o 1 W (by omega) ho (by omega) (by rw [hs1]; exact h2)
        have HR2 := Lib.hid hr2
        have HR3 := Lib.hid hr3
        clear hr2 hr3 hs1
        by_cases hin : a ≤ o ∧ o < a + X.size
        · obtain ⟨hin1, hin2⟩ := hin
          go_wp2_with (first | (go_at_call 11; ((with_reducible refine (HW1.out _).mono ?_); rintro e w1 ⟨rfl, hb1⟩)) | (go_at_call 12; ((with_reducible refine (HR1.out _).mono ?_); rintro e w' ⟨rfl, d3, rfl⟩)) | (go_at_call 12; ((with_reducible refine (HR2.out _).mono ?_); rintro e w' ⟨rfl, d3, rfl⟩)) | (go_at_call 12; ((with_reducible refine (HR3.out _).mono ?_); rintro e w' ⟨rfl, d3, rfl⟩)) | (go_at_call 13; refine (Right_any _ _ _ _ (by omega) (by omega) (by omega)).mono ?_; rintro e w' ⟨rfl, d4, rfl⟩) | (go_at_call 9; refine (alive_any _).mono ?_; rintro e w9 ⟨rfl, hb9⟩))
          all_goals go_ret
          all_goals exact ⟨rfl, (Bel.drewN _ _).trans (hbc.trans ((bel_grow _ _ _).trans (hb1.trans ((Bel.drewN _ _).trans hb9))))⟩
        · have hro := read_other h1 ho1 hin
          clear hin
          go_wp2_with (first | (go_at_call 11; ((with_reducible refine (HW1.out _).mono ?_); rintro e w1 ⟨rfl, hb1⟩)) | (go_at_call 12; ((with_reducible refine (HR1.out _).mono ?_); rintro e w' ⟨rfl, d3, rfl⟩)) | (go_at_call 12; ((with_reducible refine (HR2.out _).mono ?_); rintro e w' ⟨rfl, d3, rfl⟩)) | (go_at_call 12; ((with_reducible refine (HR3.out _).mono ?_); rintro e w' ⟨rfl, d3, rfl⟩)) | (go_at_call 13; refine (Right_any _ _ _ _ (by omega) (by omega) (by omega)).mono ?_; rintro e w' ⟨rfl, d4, rfl⟩) | (go_at_call 9; refine (alive_any _).mono ?_; rintro e w9 ⟨rfl, hb9⟩))
          all_goals go_ret
          all_goals exact ⟨rfl, (Bel.drewN _ _).trans (hbc.trans ((bel_grow _ _ _).trans (hb1.trans ((Bel.drewN _ _).trans hb9))))⟩

end Me
end Go.Proofs.Ytafbdfnbnkcoeaa
