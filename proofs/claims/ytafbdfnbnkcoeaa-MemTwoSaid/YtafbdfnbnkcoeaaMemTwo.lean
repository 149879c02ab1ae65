/- The statement MemTwo: two writes. -/
import Derived.Test.YtafbdfnbnkcoeaaMemWrite
set_option linter.unusedVariables false
set_option linter.unusedSimpArgs false
namespace Go.Proofs.Ytafbdfnbnkcoeaa
namespace Me
open Go.RowKit

theorem writeL_len {l : List UInt8} {a : Nat} {b : List UInt8} (h : a + b.length ≤ l.length) : (writeL l a b).length = l.length := by simp [writeL]; omega
theorem writeL_get {l : List UInt8} {a : Nat} {b : List UInt8} (h : a + b.length ≤ l.length) (i : Nat) : (writeL l a b)[i]? = if i < l.length then some (wl l a b i) else none := by
  by_cases hi : i < l.length
  · rw [if_pos hi]
    have h1 := writeL_take h i hi
    have h2 : (writeL l a b).length = l.length := writeL_len h
    rw [List.take_succ_eq_append_getElem (by omega)] at h1
    have h3 := List.append_cancel_left h1
    injection h3 with h3
    rw [List.getElem?_eq_getElem (by omega), h3]
  · rw [if_neg hi, List.getElem?_eq_none (by rw [writeL_len h]; omega)]
theorem writeL_ext {l l' : List UInt8} {a a' : Nat} {b b' : List UInt8} (h : a + b.length ≤ l.length) (h' : a' + b'.length ≤ l'.length) (hl : l.length = l'.length) (hw : ∀ i, i < l.length → wl l a b i = wl l' a' b' i) : writeL l a b = writeL l' a' b' := by
  apply List.ext_getElem?
  intro i
  rw [writeL_get h, writeL_get h', hl]
  split
  · rename_i hi; rw [hw i (by omega)]
  · rfl
theorem getD_write {l : List UInt8} {a : Nat} {b : List UInt8} (h : a + b.length ≤ l.length) {i : Nat} (hi : i < l.length) : (writeL l a b).getD i 0 = wl l a b i := by
  rw [List.getD, writeL_get h, if_pos hi]; rfl
theorem write_again {l : List UInt8} {a : Nat} {b : List UInt8} (h : a + b.length ≤ l.length) : writeL (writeL l a b) a b = writeL l a b := by
  refine writeL_ext (by rw [writeL_len h]; exact h) h (writeL_len h) fun i hi => ?_
  rw [writeL_len h] at hi
  unfold wl
  split
  · rfl
  · rename_i hn
    rw [getD_write h hi]
    unfold wl
    rw [if_neg hn]
theorem write_comm {l : List UInt8} {a c : Nat} {b d : List UInt8} (h : a + b.length ≤ l.length) (h' : c + d.length ≤ l.length) (hd : c + d.length ≤ a ∨ a + b.length ≤ c) : writeL (writeL l a b) c d = writeL (writeL l c d) a b := by
  refine writeL_ext (by rw [writeL_len h]; exact h') (by rw [writeL_len h']; exact h) (by rw [writeL_len h, writeL_len h']) fun i hi => ?_
  rw [writeL_len h] at hi
  unfold wl
  by_cases h1 : c ≤ i ∧ i < c + d.length
  · rw [if_pos h1, if_neg (by omega), getD_write h' hi]
    unfold wl
    rw [if_pos h1]
  · rw [if_neg h1, getD_write h hi]
    unfold wl
    by_cases h2 : a ≤ i ∧ i < a + b.length
    · rw [if_pos h2, if_pos h2]
    · rw [if_neg h2, if_neg h2, getD_write h' hi]
      unfold wl
      rw [if_neg h1]

theorem fits_of {m b : ByteArray} {a : Nat} (h : right m.size a (b.size : Int) = true) : a + b.data.toList.length ≤ m.data.toList.length := by
  have := (right_iff.1 h).2.2
  rw [str_len, str_len]; omega
theorem writeS_size {m b : ByteArray} {a : Nat} (h : right m.size a (b.size : Int) = true) : (writeS m a b).size = m.size := by
  have h1 := writeL_len (fits_of h)
  rw [str_len] at h1
  exact h1
theorem writeS_list (m b : ByteArray) (a : Nat) : (writeS m a b).data.toList = writeL m.data.toList a b.data.toList := rfl
theorem writeS_again {m b : ByteArray} {a : Nat} (h : right m.size a (b.size : Int) = true) : writeS (writeS m a b) a b = writeS m a b := by
  unfold writeS
  rw [show (ByteArray.mk (writeL m.data.toList a b.data.toList).toArray).data.toList = writeL m.data.toList a b.data.toList from rfl, write_again (fits_of h)]
theorem writeS_comm {m b d : ByteArray} {a c : Nat} (h : right m.size a (b.size : Int) = true) (h' : right m.size c (d.size : Int) = true) (hd : c + d.size ≤ a ∨ a + b.size ≤ c) : writeS (writeS m a b) c d = writeS (writeS m c d) a b := by
  show ByteArray.mk (writeL (writeL m.data.toList a b.data.toList) c d.data.toList).toArray = ByteArray.mk (writeL (writeL m.data.toList c d.data.toList) a b.data.toList).toArray
  rw [write_comm (fits_of h) (fits_of h') (by rw [str_len, str_len]; exact hd)]

theorem Write_no' (m : ByteArray) (a : Nat) (b : ByteArray) (w : World) (hn : m.size ≤ 600) (ha : a < 4294967296) (hb : b.size ≤ 600) (h : right m.size a (b.size : Int) = false) :
    Calls Try.prog 11 #[.string m, .int .u32 (a : Int), .string b] w fun e w' => e = .returned (.tuple #[.string ⟨#[]⟩, .int .i64 1]) ∧ Bel w w' :=
  (Write_no m a b w (by omega) ha (by omega) h).mono fun e w' ⟨h1, d, h2⟩ => ⟨h1, by rw [h2]; exact Bel.drewN w d⟩
theorem MemTwo_any (m : ByteArray) (a b : Nat) (x y : ByteArray) (w : World) (hm : m.size ≤ maxLen) (ha : a < 4294967296) (hb : b < 4294967296) (hx : x.size ≤ maxLen) (hy : y.size ≤ maxLen) :
    Calls Try.prog 4 #[.string m, .int .u32 (a : Int), .int .u32 (b : Int), .string x, .string y] w fun e w' => e = .returned (.bool true) ∧ Bel w w' := by
  go_enter Try.func4, Try.ntmps4
  go_wp2_with (first | (go_at_call_of 10 m; refine (short_any m _ hm).mono ?_; rintro e w' ⟨M, rfl, hM, d0, rfl⟩) | (go_at_call_of 10 x; refine (short_any x _ hx).mono ?_; rintro e w' ⟨X, rfl, hX, d1, rfl⟩) | (go_at_call_of 10 y; refine (short_any y _ hy).mono ?_; rintro e w' ⟨Y, rfl, hY, d2, rfl⟩))
  clear hm hx hy
  cases h1 : right M.size a (X.size : Int)
  · have HW1 := Lib.hid (fun W => Write_no' M a X W hM ha hX h1)
    clear h1
    go_wp2_with (first | (go_at_call 11; ((with_reducible refine (HW1.out _).mono ?_); rintro e w1 ⟨rfl, hb1⟩)) | (go_at_call 9; refine (alive_any _).mono ?_; rintro e w9 ⟨rfl, hb9⟩))
    go_ret
    exact ⟨rfl, (Bel.drewN _ _).trans (hb1.trans hb9)⟩
  · have HW1 := Lib.hid (fun W => Write_yes M a X W hM ha h1)
    have hs1 := writeS_size h1
    have hw2 := fun W => Write_yes (writeS M a X) a X W (by omega) ha (by rw [hs1]; exact h1)
    rw [writeS_again h1] at hw2
    have HW2 := Lib.hid hw2
    clear hw2
    cases h2 : right M.size b (Y.size : Int)
    · have HW3 := Lib.hid (fun W => Write_no' M b Y W hM hb hY h2)
      clear h1 h2 hs1
      go_wp2_with (first | (go_at_call 11; ((with_reducible refine (HW1.out _).mono ?_); rintro e w1 ⟨rfl, hb1⟩)) | (go_at_call 11; ((with_reducible refine (HW2.out _).mono ?_); rintro e w2 ⟨rfl, hb2⟩)) | (go_at_call 11; ((with_reducible refine (HW3.out _).mono ?_); rintro e w3 ⟨rfl, hb3⟩)) | (go_at_call 9; refine (alive_any _).mono ?_; rintro e w9 ⟨rfl, hb9⟩))
      go_ret
      exact ⟨rfl, (Bel.drewN _ _).trans (hb1.trans (hb2.trans (hb9.trans hb3)))⟩
    · have HW3 := Lib.hid (fun W => Write_yes M b Y W hM hb h2)
      have hs2 := writeS_size h2
      by_cases c1 : (a : Int) < b + Y.size
      · by_cases c2 : (b : Int) < a + X.size
        · clear h1 h2 hs1 hs2
          go_wp2_with (first | (go_at_call 11; ((with_reducible refine (HW1.out _).mono ?_); rintro e w1 ⟨rfl, hb1⟩)) | (go_at_call 11; ((with_reducible refine (HW2.out _).mono ?_); rintro e w2 ⟨rfl, hb2⟩)) | (go_at_call 11; ((with_reducible refine (HW3.out _).mono ?_); rintro e w3 ⟨rfl, hb3⟩)) | (go_at_call 9; refine (alive_any _).mono ?_; rintro e w9 ⟨rfl, hb9⟩))
          go_ret
          exact ⟨rfl, (Bel.drewN _ _).trans (hb1.trans (hb2.trans (hb9.trans hb3)))⟩
        · have HW4 := Lib.hid (fun W => Write_yes (writeS M a X) b Y W (by omega) hb (by rw [hs1]; exact h2))
          have hw5 := fun W => Write_yes (writeS M b Y) a X W (by omega) ha (by rw [hs2]; exact h1)
          rw [← writeS_comm h1 h2 (by omega)] at hw5
          have HW5 := Lib.hid hw5
          clear h1 h2 hs1 hs2 hw5
          go_wp2_with (first | (go_at_call 11; ((with_reducible refine (HW1.out _).mono ?_); rintro e w1 ⟨rfl, hb1⟩)) | (go_at_call 11; ((with_reducible refine (HW2.out _).mono ?_); rintro e w2 ⟨rfl, hb2⟩)) | (go_at_call 11; ((with_reducible refine (HW3.out _).mono ?_); rintro e w3 ⟨rfl, hb3⟩)) | (go_at_call 11; ((with_reducible refine (HW4.out _).mono ?_); rintro e w4 ⟨rfl, hb4⟩)) | (go_at_call 11; ((with_reducible refine (HW5.out _).mono ?_); rintro e w5 ⟨rfl, hb5⟩)) | (go_at_call 9; refine (alive_any _).mono ?_; rintro e w9 ⟨rfl, hb9⟩))
          go_ret
          exact ⟨rfl, (Bel.drewN _ _).trans (hb1.trans (hb2.trans (hb9.trans (hb3.trans (hb4.trans hb5)))))⟩
      · have HW4 := Lib.hid (fun W => Write_yes (writeS M a X) b Y W (by omega) hb (by rw [hs1]; exact h2))
        have hw5 := fun W => Write_yes (writeS M b Y) a X W (by omega) ha (by rw [hs2]; exact h1)
        rw [← writeS_comm h1 h2 (by omega)] at hw5
        have HW5 := Lib.hid hw5
        clear h1 h2 hs1 hs2 hw5
        go_wp2_with (first | (go_at_call 11; ((with_reducible refine (HW1.out _).mono ?_); rintro e w1 ⟨rfl, hb1⟩)) | (go_at_call 11; ((with_reducible refine (HW2.out _).mono ?_); rintro e w2 ⟨rfl, hb2⟩)) | (go_at_call 11; ((with_reducible refine (HW3.out _).mono ?_); rintro e w3 ⟨rfl, hb3⟩)) | (go_at_call 11; ((with_reducible refine (HW4.out _).mono ?_); rintro e w4 ⟨rfl, hb4⟩)) | (go_at_call 11; ((with_reducible refine (HW5.out _).mono ?_); rintro e w5 ⟨rfl, hb5⟩)) | (go_at_call 9; refine (alive_any _).mono ?_; rintro e w9 ⟨rfl, hb9⟩))
        go_ret
        exact ⟨rfl, (Bel.drewN _ _).trans (hb1.trans (hb2.trans (hb9.trans (hb3.trans (hb4.trans hb5)))))⟩

end Me
end Go.Proofs.Ytafbdfnbnkcoeaa
