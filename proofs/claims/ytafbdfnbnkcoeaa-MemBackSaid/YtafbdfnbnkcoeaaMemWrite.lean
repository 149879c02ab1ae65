/- Writing bytes into a memory: the mem package's Write and the reference's. -/
import Derived.Test.YtafbdfnbnkcoeaaMemClean
set_option linter.unusedVariables false
set_option linter.unusedSimpArgs false
namespace Go.Proofs.Ytafbdfnbnkcoeaa
namespace Me
open Go.RowKit

/-- l with the bytes b at place a -/
def writeL (l : List UInt8) (a : Nat) (b : List UInt8) : List UInt8 := l.take a ++ b ++ l.drop (a + b.length)
def writeS (m : ByteArray) (a : Nat) (b : ByteArray) : ByteArray := ⟨(writeL m.data.toList a b.data.toList).toArray⟩

theorem Write_no (m : ByteArray) (a : Nat) (b : ByteArray) (w : World) (hn : m.size ≤ 9223372036854775807) (ha : a < 4294967296) (hb : b.size ≤ 9223372036854775807) (h : right m.size a (b.size : Int) = false) :
    Calls Try.prog 11 #[.string m, .int .u32 (a : Int), .string b] w fun e w' => e = .returned (.tuple #[.string ⟨#[]⟩, .int .i64 1]) ∧ ∃ d, w' = w.drewN d := by
  go_enter Try.func11, Try.ntmps11
  go_wp2_with (go_at_call 13; refine (Right_any _ _ _ _ (by first | assumption | omega) (by first | assumption | omega) (by first | assumption | omega)).mono ?_; rintro e w' ⟨rfl, d, rfl⟩)
  go_ret2
  exact ⟨rfl, _, rfl⟩

theorem Rd.cells_eq {w : World} {B sz n c : Nat} {A : Option Addr} {xs ys : List Value} (h : Rd w B sz A n c xs) (e : xs = ys) : Rd w B sz A n c ys := e ▸ h
theorem head_cells (l : List UInt8) (z : List Value) (a : Nat) (h : a ≤ l.length) : ((byteCells l ++ z).drop 0).take (a * 1) = byteCells (l.take a) := by
  rw [List.drop_zero, Nat.mul_one, List.take_append_of_le_length (by rw [byteCells_len]; exact h)]
  simp [byteCells]
theorem tail_cells (l : List UInt8) (z : List Value) (k : Nat) (h : k ≤ l.length) : ((byteCells l ++ z).drop k).take ((l.length - k) * 1) = byteCells (l.drop k) := by
  rw [List.drop_append_of_le_length (by rw [byteCells_len]; exact h), Nat.mul_one, List.take_append_of_le_length (by rw [List.length_drop, byteCells_len]; exact Nat.le_refl _), List.take_of_length_le (by rw [List.length_drop, byteCells_len]; exact Nat.le_refl _)]
  simp [byteCells]
theorem val_s2 {a b : ByteArray} {c : Int} (h : a = b) : Ending.returned (.tuple #[.string a, .int .i64 c]) = .returned (.tuple #[.string b, .int .i64 c]) := by rw [h]

theorem Write_yes (m : ByteArray) (a : Nat) (b : ByteArray) (w : World) (hn : m.size ≤ 600) (ha : a < 4294967296) (h : right m.size a (b.size : Int) = true) :
    Calls Try.prog 11 #[.string m, .int .u32 (a : Int), .string b] w fun e w' => e = .returned (.tuple #[.string (writeS m a b), .int .i64 0]) ∧ Bel w w' := by
  have hr := right_iff.1 h
  have h1 : (a : Int) + b.size ≤ m.size := hr.2.2
  have h2 : 0 < b.size := by omega
  have hcat : (byteCells (m.data.toList.take a) ++ byteCells b.data.toList) ++ byteCells (m.data.toList.drop (a + b.size)) = byteCells (writeL m.data.toList a b.data.toList) := by
    rw [writeL, byteCells_append, byteCells_append, str_len]
  clear hr
  go_enter Try.func11, Try.ntmps11
  go_wp2_with (first | (go_at_call 13; refine (Right_any _ _ _ _ (by first | assumption | omega) (by first | assumption | omega) (by first | assumption | omega)).mono ?_; rintro e w' ⟨rfl, d, rfl⟩) | (refine wpList_tobytes rfl 9 43 5 _ (by rfl) Try.underlying9 Try.underlying43 Try.underlying5 m (by rfl) (by unfold maxLen; omega) ?_; intro cap w1 hc1 hc2 hbk hb1 hlt))
  unfold maxLen at hc2
  have hhead := fun n => Rd.cells_eq ((hbk.drewN n).rd (sz := 1) (n := a) (c := a) (o := 0) (by simp [byteCells_len]; omega) (Nat.le_refl _) (by unfold maxLen; omega)) (head_cells m.data.toList _ a (by rw [str_len]; omega))
  have htail := fun n => Rd.cells_eq ((hbk.drewN n).rd (sz := 1) (n := m.data.toList.length - (a + b.size)) (c := cap - (a + b.size)) (o := a + b.size) (by simp [byteCells_len]; omega) (by rw [str_len]; omega) (by unfold maxLen; omega)) (tail_cells m.data.toList _ (a + b.size) (by rw [str_len]; omega))
  rw [str_len] at htail
  have HhA := Lib.hid hhead
  have HtA := Lib.hid htail
  clear hhead htail
  have hH : w.heap.size < w1.heap.size := by simpa using hlt
  have hd : Bel w w1 := (Bel.drewN w d).trans hb1
  by_cases hcap : cap = a + b.size
  · subst hcap
    have hms : m.size = a + b.size := by omega
    have htl : ∀ W, Rd (w1.drewN W) w1.heap.size 1 (some ⟨w.heap.size, 0, none⟩) 0 0 (byteCells (m.data.toList.drop (a + b.size))) := by
      intro W
      refine ⟨by rw [byteCells_len, List.length_drop, str_len]; omega, by omega, by omega, fun hh => by omega⟩
    have HtB := Lib.hid htl
    clear htl HtA hms
    go_quiet (fail)
    have Hhead := Lib.hid (HhA.out nq)
    have Htail := Lib.hid (HtB.out nq)
    go_wp2_with (first | (at_builtin; refine wpList_app_str_full rfl (.tmp 33) (.tmp 34) 43 9 (by rfl) 5 Try.underlying43 Try.underlying9 u8info w.heap.size 0 a (byteCells (m.data.toList.take a)) (by rfl) _ Hhead.out b (by rfl) h2 (by omega) ?_; intro v2 w2 hown2 hg2) | (at_builtin; refine wpList_app_rd rfl (.tmp 35) (.tmp 36) 43 (by rfl) w1.heap.size 5 (.int .u8 0) 1 1 Try.underlying43 u8info rfl (by decide) v2 (a + b.size) _ (by rfl) hown2 _ _ _ _ (byteCells (m.data.toList.drop (a + b.size))) (by rfl) (Htail.out.grown hg2 (Nat.le_refl _) (by simp)) (byteCells_one _) (by omega) (by omega) hg2.size ?_; intro v3 w3 hown3 hg3; obtain ⟨A3, c3, rfl, hr3⟩ := Rd.of_own hown3; rw [hcat] at hr3; have Hr3 := Lib.hid hr3; clear hr3) | (refine wpList_string rfl 43 9 5 _ (by rfl) Try.underlying43 Try.underlying5 Try.underlying9 Hr3.out (by rfl) ?_))
    go_ret2
    exact ⟨rfl, (((hd.trans (Bel.drewN w1 nq)).grown hg2 (by simp)).then_grown hown2 hg3 (by simpa using hd.size))⟩
  · go_quiet (fail)
    have Hhead := Lib.hid (HhA.out nq)
    have Htail := Lib.hid (HtA.out nq)
    go_wp2_with (first | (at_builtin; refine wpList_app_str_full rfl (.tmp 33) (.tmp 34) 43 9 (by rfl) 5 Try.underlying43 Try.underlying9 u8info w.heap.size 0 a (byteCells (m.data.toList.take a)) (by rfl) _ Hhead.out b (by rfl) h2 (by omega) ?_; intro v2 w2 hown2 hg2) | (at_builtin; refine wpList_app_rd rfl (.tmp 35) (.tmp 36) 43 (by rfl) w1.heap.size 5 (.int .u8 0) 1 1 Try.underlying43 u8info rfl (by decide) v2 (a + b.size) _ (by rfl) hown2 _ _ _ _ (byteCells (m.data.toList.drop (a + b.size))) (by rfl) (Htail.out.grown hg2 (Nat.le_refl _) (by simp)) (byteCells_one _) (by omega) (by omega) hg2.size ?_; intro v3 w3 hown3 hg3; obtain ⟨A3, c3, rfl, hr3⟩ := Rd.of_own hown3; rw [hcat] at hr3; have Hr3 := Lib.hid hr3; clear hr3) | (refine wpList_string rfl 43 9 5 _ (by rfl) Try.underlying43 Try.underlying5 Try.underlying9 Hr3.out (by rfl) ?_))
    go_ret2
    exact ⟨rfl, (((hd.trans (Bel.drewN w1 nq)).grown hg2 (by simp)).then_grown hown2 hg3 (by simpa using hd.size))⟩

theorem getD_at {α : Type} {l : List α} {k : Nat} {d : α} (h : k < l.length) : l.getD k d = l[k] := by simp [List.getD, h]
def wl (l : List UInt8) (a : Nat) (b : List UInt8) (i : Nat) : UInt8 := if a ≤ i ∧ i < a + b.length then b.getD (i - a) 0 else l.getD i 0
theorem writeL_take {l : List UInt8} {a : Nat} {b : List UInt8} (h : a + b.length ≤ l.length) (k : Nat) (hk : k < l.length) : (writeL l a b).take (k + 1) = (writeL l a b).take k ++ [wl l a b k] := by
  have hl : (writeL l a b).length = l.length := by simp [writeL]; omega
  rw [List.take_succ_eq_append_getElem (by omega)]
  congr 2
  unfold writeL wl
  by_cases h1 : a ≤ k ∧ k < a + b.length
  · rw [if_pos h1, List.getElem_append_left (by simp; omega), List.getElem_append_right (by simp; omega)]
    simp [List.getD, show min a l.length = a by omega, show k - a < b.length by omega]
  · rw [if_neg h1]
    by_cases h2 : k < a
    · rw [List.getElem_append_left (by simp; omega), List.getElem_append_left (by simp; omega)]
      simp [List.getD, hk]
    · rw [List.getElem_append_right (by simp; omega)]
      simp [List.getD, hk, show min a l.length = a by omega, show a + b.length + (k - (a + b.length)) = k by omega]

theorem refWrite_yes (m : ByteArray) (a : Nat) (b : ByteArray) (w : World) (hn : m.size ≤ 600) (ha : a < 4294967296) (h : right m.size a (b.size : Int) = true) :
    Calls Try.prog 16 #[.string m, .int .u32 (a : Int), .string b] w fun e w' => e = .returned (.string (writeS m a b)) ∧ Bel w w' := by
  have hr := right_iff.1 h
  have h1 : (a : Int) + b.size ≤ m.size := hr.2.2
  have h2 : 0 < b.size := by omega
  clear hr
  have HT := Lib.hid (fun k hk => writeL_take (l := m.data.toList) (a := a) (b := b.data.toList) (by rw [str_len, str_len]; omega) k hk)
  have HL : Hid ((writeL m.data.toList a b.data.toList).length = m.size) := by
    show _ = _
    have := str_len m; have := str_len b
    simp [writeL]; omega
  go_enter Try.func16, Try.ntmps16
  go_wp2
  go_loopw [7, 8] (fun v i wr => ∃ k : Nat, k ≤ m.size ∧ i = .int .i64 (k : Int) ∧ wr.ownsRow w.heap.size 5 1 v k (byteCells ((writeL m.data.toList a b.data.toList).take k)) ∧ Bel w wr) (fun _ i _ => m.size - (intOf i).toNat)
  case atStart => exact ⟨0, by omega, rfl, own_empty _ _ _ _ (by simp), Bel.alloc _ _⟩
  case round =>
    obtain ⟨k, hk, rfl, hown, hbel⟩ := hrel
    by_cases hks : k < m.size
    · by_cases hin : a ≤ k ∧ k < a + b.size
      · obtain ⟨hin1, hin2⟩ := hin
        have hx : k - a < b.size := by omega
        have e1 : ((k : Int) - (a : Int)).toNat = k - a := by omega
        have hw : wl m.data.toList a b.data.toList k = b[k - a]'hx := by
          unfold wl
          rw [if_pos (by rw [str_len]; omega)]
          rw [getD_at (show k - a < b.data.toList.length by rw [str_len]; omega)]
          rfl
        have HW := Lib.hid hw
        clear hw
        go_wp2_with (at_builtin; go_must (refine wpList_app wr [.int .u8 (((b[k - a]'hx).toNat : Nat) : Int)] 1 rfl _ _ _ (by rfl) w.heap.size 5 (.int .u8 0) 1 1 Try.underlying43 u8info rfl (by decide) _ k _ (by rfl) hown (by rfl) rfl (by simp [Value.oneCell']) (by omega) (by omega) hbel.size ?_); intro v' w1 hown' hg')
        go_roundw
        case rel =>
          have h3 := HT.out k (by rw [str_len]; exact hks)
          rw [HW.out] at h3
          exact ⟨k + 1, by omega, by go_num, by rw [h3, byteCells_append]; exact hown', hbel.then_grown hown hg' (Nat.le_refl _)⟩
        case measure => first | (simp [intOf]; done) | (simp [intOf]; omega)
      · have hw : wl m.data.toList a b.data.toList k = m[k]'hks := by
          unfold wl
          rw [if_neg (by rw [str_len]; omega), getD_at (show k < m.data.toList.length by rw [str_len]; omega)]
          rfl
        have HW := Lib.hid hw
        clear hw
        by_cases hin1 : a ≤ k
        · have hin2 : ¬ k < a + b.size := fun h => hin ⟨hin1, h⟩
          clear hin
          go_wp2_with (at_builtin; refine wpList_app wr [.int .u8 (((m[k]'hks).toNat : Nat) : Int)] 1 rfl _ _ _ (by rfl) w.heap.size 5 (.int .u8 0) 1 1 Try.underlying43 u8info rfl (by decide) _ k _ (by rfl) hown (by rfl) rfl (by simp [Value.oneCell']) (by omega) (by omega) hbel.size ?_; intro v' w1 hown' hg')
          go_roundw
          case rel =>
            have h3 := HT.out k (by rw [str_len]; exact hks)
            rw [HW.out] at h3
            exact ⟨k + 1, by omega, by go_num, by rw [h3, byteCells_append]; exact hown', hbel.then_grown hown hg' (Nat.le_refl _)⟩
          case measure => first | (simp [intOf]; done) | (simp [intOf]; omega)
        · clear hin
          go_wp2_with (at_builtin; refine wpList_app wr [.int .u8 (((m[k]'hks).toNat : Nat) : Int)] 1 rfl _ _ _ (by rfl) w.heap.size 5 (.int .u8 0) 1 1 Try.underlying43 u8info rfl (by decide) _ k _ (by rfl) hown (by rfl) rfl (by simp [Value.oneCell']) (by omega) (by omega) hbel.size ?_; intro v' w1 hown' hg')
          go_roundw
          case rel =>
            have h3 := HT.out k (by rw [str_len]; exact hks)
            rw [HW.out] at h3
            exact ⟨k + 1, by omega, by go_num, by rw [h3, byteCells_append]; exact hown', hbel.then_grown hown hg' (Nat.le_refl _)⟩
          case measure => first | (simp [intOf]; done) | (simp [intOf]; omega)
    · obtain rfl : k = m.size := by omega
      obtain ⟨A3, c3, rfl, hr3⟩ := Rd.of_own hown
      rw [List.take_of_length_le (by have := HL.out; omega)] at hr3
      have Hr3 := Lib.hid hr3
      clear hr3 hown
      go_wp2_with (refine wpList_string rfl 43 9 5 _ (by rfl) Try.underlying43 Try.underlying5 Try.underlying9 Hr3.out (by rfl) ?_)
      go_ret
      exact ⟨rfl, hbel⟩

end Me
end Go.Proofs.Ytafbdfnbnkcoeaa
