/- Cleaning a memory, and the statements' own 'alive'. -/
import Derived.Test.YtafbdfnbnkcoeaaMemA
import Derived.Test.YtafbdfnbnkcoeaaBk
set_option linter.unusedVariables false
set_option linter.unusedSimpArgs false
namespace Go.Proofs.Ytafbdfnbnkcoeaa
namespace Me
open Go.RowKit

/-- the size of a memory of k bytes, cleaned -/
def cleanN (k : Nat) : Nat := if k ≤ 16 then 16 else if k ≤ 32 then 32 else if k ≤ 64 then 64 else if k ≤ 128 then 128 else 256
/-- a memory, cleaned -/
def cleanL (l : List UInt8) : List UInt8 := l.take 256 ++ List.replicate (cleanN (l.take 256).length - (l.take 256).length) 0
theorem cleanN_cases (k : Nat) : cleanN k = 16 ∨ cleanN k = 32 ∨ cleanN k = 64 ∨ cleanN k = 128 ∨ cleanN k = 256 := by
  unfold cleanN; repeat' split
  all_goals simp
theorem cleanN_ge {k : Nat} (h : k ≤ 256) : k ≤ cleanN k := by
  unfold cleanN; repeat' split
  all_goals omega
theorem cleanL_len (l : List UInt8) : (cleanL l).length = cleanN (min 256 l.length) := by
  have := cleanN_ge (k := min 256 l.length) (by omega)
  simp only [cleanL, List.length_append, List.length_take, List.length_replicate]; omega
theorem cleanL_clean (l : List UInt8) : cleanL (cleanL l) = cleanL l := by
  have hl := cleanL_len l
  have hc := cleanN_cases (min 256 l.length)
  generalize cleanL l = c at *
  unfold cleanL
  have h2 : c.length ≤ 256 := by omega
  rw [List.take_of_length_le h2]
  have : cleanN c.length = c.length := by rw [hl]; unfold cleanN at *; rcases hc with h | h | h | h | h <;> simp [h]
  rw [this]; simp
theorem cleanL_take (l : List UInt8) {k : Nat} (hk : k ≤ l.length) (h2 : k ≤ 256) : (cleanL l).take k = l.take k := by
  unfold cleanL
  rw [List.take_append_of_le_length (by rw [List.length_take]; omega), List.take_take, Nat.min_eq_left h2]

theorem u8info : (Try.prog.info? 5).map (fun i => (i.zero, i.size, i.bytes)) = some (some (.int .u8 0), 1, 1) := by kernel_rfl

theorem spl_zeros (k : Nat) (a : List UInt8) (h : a.length ≤ k) : spl (byteCells (List.replicate k 0)) 0 (byteCells a) = byteCells (a ++ List.replicate (k - a.length) 0) := by
  rw [spl_eq _ _ _ (by rw [byteCells_len, byteCells_len, List.length_replicate]; omega), byteCells_append, byteCells_len]
  simp [byteCells]
theorem zeros_made (k : Nat) : (madeCells (Value.cells (.int .u8 0)) (k * 1)).toList = byteCells (List.replicate k 0) := by
  rw [Nat.mul_one]
  refine (toList_madeCells_one _ _).trans ?_
  simp [byteCells]

theorem cleanN_of {n k : Nat} (hk : k = 16 ∨ k = 32 ∨ k = 64 ∨ k = 128 ∨ k = 256) (hk2 : k = 16 ∨ k < 2 * n) (h : n ≤ k) : cleanN n = k := by
  unfold cleanN; rcases hk with h | h | h | h | h <;> subst h <;> (repeat' split) <;> omega
theorem clean_done {M m : List UInt8} {k : Nat} (hM : M = m.take 256) (hk : cleanN M.length = k) : M ++ List.replicate (k - M.length) 0 = cleanL m := by
  subst hk hM; rfl
theorem val_str {a b : List UInt8} (h : a = b) : Ending.returned (.string ⟨a.toArray⟩) = .returned (.string ⟨b.toArray⟩) := by rw [h]

theorem Clean_any (m : ByteArray) (w : World) (hm : m.size ≤ 9223372036854775807) :
    Calls Try.prog 17 #[.string m] w fun e w' => e = .returned (.string ⟨(cleanL m.data.toList).toArray⟩) ∧ Bel w w' := by
  obtain ⟨i0, hi, hz0, hz1, hz2⟩ := info_parts u8info
  have hend : ∀ (k : Nat) (M : ByteArray) (W : World), M.size ≤ k → k ≤ 256 → Bk W w.heap.size 5 (spl (madeCells (Value.cells (.int .u8 0)) (k * 1)).toList 0 (byteCells (M.data.toList.take (min M.size k)))) →
      Rd W W.heap.size 1 (some ⟨w.heap.size, 0, none⟩) k k (byteCells (M.data.toList ++ List.replicate (k - M.data.toList.length) 0)) := by
    intro k M W h1 h2 hb
    rw [zeros_made, List.take_of_length_le (by rw [str_len]; omega), spl_zeros _ _ (by rw [str_len]; exact h1)] at hb
    have := hb.rd (sz := 1) (n := k) (c := k) (o := 0) (by rw [byteCells_len, List.length_append, List.length_replicate, str_len]; omega) (Nat.le_refl _) (by unfold maxLen; omega)
    rwa [List.drop_zero, List.take_of_length_le (by rw [byteCells_len, List.length_append, List.length_replicate, str_len]; omega)] at this
  by_cases h : 256 < m.size
  · go_enter Try.func17, Try.ntmps17
    go_wp2
    have hm1 := cut_list m 0 256
    have hm2 := cut_size m 0 256
    rw [List.drop_zero] at hm1
    generalize m.extract 0 256 = M at *
    have hM : M.size ≤ 256 := by omega
    have Hm := Lib.hid hm1
    clear hm1 hm2
    go_loop [3] (fun z => ∃ k : Nat, (k = 16 ∨ k = 32 ∨ k = 64 ∨ k = 128 ∨ k = 256) ∧ (k = 16 ∨ k < 2 * M.size) ∧ z = .int .i64 (k : Int)) (fun z => 512 - (intOf z).toNat)
    case atStart => exact ⟨16, by omega, by omega, rfl⟩
    case round =>
      obtain ⟨k, hk, hk2, rfl⟩ := hrel
      by_cases hlt : k < M.size
      · go_wp2
        go_round
        case rel => exact ⟨2 * k, by omega, by omega, by go_num⟩
        case measure => first | (simp [intOf]; done) | (simp [intOf]; omega)
      · have Hk := Lib.hid (cleanN_of hk hk2 (show M.size ≤ k by omega))
        have Hend := Lib.hid (fun W => hend k M W (by omega) (by omega))
        clear hend
        go_wp2_with (first | (at_make; refine wpList_make_full _ rfl _ _ 43 (by rfl) w.heap.size 5 i0 (.int .u8 0) 1 Try.underlying43 hi hz0 hz1 _ _ _ _ k (by rfl) (by rfl) rfl rfl (by rw [hz2]; omega) (by unfold maxLen; omega) (Nat.le_refl _) ?_; intro w1 hown hg; have hbk := Bk.of_own hown rfl) | (refine wpList_copy_str rfl _ _ 43 9 (by rfl) 5 Try.underlying43 (by rw [hi]; simp [hz1]) w.heap.size 0 k k M (by rfl) (by rfl) 5 _ hbk (by have := hown.1; omega) ?_; intro w2 hbk2 hg2) | (refine wpList_string rfl 43 9 5 _ (by rfl) Try.underlying43 Try.underlying5 Try.underlying9 (Hend.out _ hbk2) (by rfl) ?_))
        go_ret
        exact ⟨val_str (clean_done Hm.out (by rw [str_len]; exact Hk.out)), ((Bel.refl w).grown hg (by simp)).grown hg2 (by simp)⟩
  · go_enter Try.func17, Try.ntmps17
    go_wp2
    go_loop [3] (fun z => ∃ k : Nat, (k = 16 ∨ k = 32 ∨ k = 64 ∨ k = 128 ∨ k = 256) ∧ (k = 16 ∨ k < 2 * m.size) ∧ z = .int .i64 (k : Int)) (fun z => 512 - (intOf z).toNat)
    case atStart => exact ⟨16, by omega, by omega, rfl⟩
    case round =>
      obtain ⟨k, hk, hk2, rfl⟩ := hrel
      by_cases hlt : k < m.size
      · go_wp2
        go_round
        case rel => exact ⟨2 * k, by omega, by omega, by go_num⟩
        case measure => first | (simp [intOf]; done) | (simp [intOf]; omega)
      · have Hk := Lib.hid (cleanN_of hk hk2 (show m.size ≤ k by omega))
        have Hend := Lib.hid (fun W => hend k m W (by omega) (by omega))
        clear hend
        go_wp2_with (first | (at_make; refine wpList_make_full _ rfl _ _ 43 (by rfl) w.heap.size 5 i0 (.int .u8 0) 1 Try.underlying43 hi hz0 hz1 _ _ _ _ k (by rfl) (by rfl) rfl rfl (by rw [hz2]; omega) (by unfold maxLen; omega) (Nat.le_refl _) ?_; intro w1 hown hg; have hbk := Bk.of_own hown rfl) | (refine wpList_copy_str rfl _ _ 43 9 (by rfl) 5 Try.underlying43 (by rw [hi]; simp [hz1]) w.heap.size 0 k k m (by rfl) (by rfl) 5 _ hbk (by have := hown.1; omega) ?_; intro w2 hbk2 hg2) | (refine wpList_string rfl 43 9 5 _ (by rfl) Try.underlying43 Try.underlying5 Try.underlying9 (Hend.out _ hbk2) (by rfl) ?_))
        go_ret
        exact ⟨val_str (clean_done (by rw [List.take_of_length_le (by rw [str_len]; omega)]) (by rw [str_len]; exact Hk.out)), ((Bel.refl w).grown hg (by simp)).grown hg2 (by simp)⟩

theorem alive_any (w : World) : Calls Try.prog 9 #[] w fun e w' => e = .returned (.bool true) ∧ Bel w w' := by
  have h := fun W => Clean_any ⟨#[]⟩ W (by decide)
  rw [show (cleanL (ByteArray.mk #[]).data.toList) = List.replicate 16 0 from rfl] at h
  have H := Lib.hid h
  clear h
  go_enter Try.func9, Try.ntmps9
  go_wp2_with (go_at_call 17; refine (H.out _).mono ?_; rintro e w1 ⟨rfl, hb1⟩)
  go_ret
  exact ⟨rfl, hb1⟩

end Me
end Go.Proofs.Ytafbdfnbnkcoeaa
