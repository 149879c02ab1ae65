/- Bytes of words and words of bytes: the word package's functions and the reference's. -/
import Derived.Test.YtcahadkkjfijfaaWordRef
set_option linter.unusedVariables false
set_option linter.unusedSimpArgs false
namespace Go.Proofs.Ytcahadkkjfijfaa
namespace Wd
open Go.RowKit

theorem u8info : (Try.prog.info? 5).map (fun i => (i.zero, i.size, i.bytes)) = some (some (.int .u8 0), 1, 1) := by kernel_rfl

theorem val_ui {a b : Int} {c : Int} (h : a = b) : Ending.returned (.tuple #[.int .u32 a, .int .i64 c]) = .returned (.tuple #[.int .u32 b, .int .i64 c]) := by rw [h]

theorem join_step {s : ByteArray} {k : Nat} (h : s.size ≤ 4) (hlt : k < s.size) :
    bits BinOp.or IntKind.u32 ((joinL (s.data.toList.take k) : Nat) : Int) (((s[k]'hlt).toNat : Int) % 4294967296 * 2 ^ (8 * k) % 4294967296) = ((joinL (s.data.toList.take (k + 1)) : Nat) : Int) := by
  have hl : k < s.data.toList.length := by simpa using hlt
  have hb := (s[k]'hlt).toNat_lt
  have he : (s[k]'hlt) = s.data.toList[k]'hl := rfl
  have h2 := shl_lt (b := (s[k]'hlt).toNat) (by omega) (show k < 4 by omega)
  rw [joinL_take hl, ← he, ← u32_or_nat _ _ (joinL_lt32 (by simp; omega)) h2]
  congr 1
  rw [show (((s[k]'hlt).toNat : Nat) : Int) % 4294967296 = ((s[k]'hlt).toNat : Int) by omega, int_pow, ← Int.natCast_mul]
  omega

/-- what the bytes' row holds after k rounds -/
def half (x s k : Nat) : List Value := byteCells (bytesL x k) ++ List.replicate (s - k) (.int .u8 0)
theorem half_len {x s k : Nat} (h : k ≤ s) : (half x s k).length = s := by simp [half, byteCells_len, bytesL_len]; omega
theorem half_set {x s k : Nat} (h : k < s) : (half x s k).set k (.int .u8 ((x / 2 ^ (8 * k) % 256 : Nat) : Int)) = half x s (k + 1) := by
  have hl : (byteCells (bytesL x k)).length = k := by rw [byteCells_len, bytesL_len]
  unfold half
  rw [List.set_append_right _ _ (by rw [hl]; exact Nat.le_refl _), hl, Nat.sub_self, show s - k = (s - (k + 1)) + 1 by omega, List.replicate_succ, List.set_cons_zero, bytesL_snoc, byteCells_append]
  simp [byteCells]
theorem val_si {a b : ByteArray} {c : Int} (h : a = b) : Ending.returned (.tuple #[.string a, .int .i64 c]) = .returned (.tuple #[.string b, .int .i64 c]) := by rw [h]

set_option maxRecDepth 100000 in
theorem Bytes_any (x : Nat) (s : Nat) (w : World) (hx : x < 4294967296) (h : s ≤ 4) :
    Calls Try.prog 59 #[.int .u32 (x : Int), .int .i64 (s : Int)] w fun e w' => e = .returned (.tuple #[.string ⟨(bytesL x s).toArray⟩, .int .i64 0]) ∧ Bel w w' := by
  obtain ⟨i0, hi, hz0, hz1, hz2⟩ := info_parts u8info
  go_enter Try.func59, Try.ntmps59
  go_wp2_with (at_make; refine wpList_make_full _ rfl _ _ 99 (by rfl) w.heap.size 5 i0 (.int .u8 0) 1 Try.underlying99 hi hz0 hz1 _ _ _ _ s (by rfl) (by rfl) rfl rfl (by rw [hz2]; omega) (by unfold maxLen; omega) (Nat.le_refl _) ?_; intro w1 hown hg)
  have hbel : Bel w w1 := (Bel.refl w).grown hg (by simp)
  have hlt : w.heap.size < w1.heap.size := (hown.lt w.heap.size rfl).2
  rw [show (madeCells (Value.cells (.int .u8 0)) (s * 1)).toList = half x s 0 by rw [Nat.mul_one]; exact toList_madeCells_one _ _] at hown
  go_loopw [17] (fun i wr => ∃ k : Nat, k ≤ s ∧ i = .int .i64 (k : Int) ∧ wr.ownsRow w.heap.size 5 1 (.slice (some ⟨w.heap.size, 0, none⟩) s s) s (half x s k) ∧ Bel w wr) (fun i _ => s - (intOf i).toNat)
  case atStart => exact ⟨0, by omega, rfl, hown, hbel⟩
  case round =>
    obtain ⟨k, hk, rfl, hown, hbel⟩ := hrel
    by_cases hks : k < s
    · have hl := half_len (x := x) hk
      have hc := hown.cellAt k (by omega)
      rw [List.getElem?_eq_getElem (by omega)] at hc
      obtain ⟨u, hu⟩ : ∃ u, u = (half x s k)[k]'(by omega) := ⟨_, rfl⟩
      rw [← hu] at hc
      have hf := hown.frozenAt k
      have Ho := Lib.hid (hown.stored k (.int .u8 ((x / 2 ^ (8 * k) % 256 : Nat) : Int)))
      clear hu hown hl
      go_wp2
      go_roundw
      case rel =>
        have h1 := Ho.out.1
        rw [half_set hks] at h1
        rw [show ((x : Int) / 2 ^ (8 * k) % 256) = ((x / 2 ^ (8 * k) % 256 : Nat) : Int) by rw [shr_eq]; omega]
        exact ⟨k + 1, by omega, by go_num, h1, hbel.setCell (Nat.le_refl _) _⟩
      case measure => first | (simp [intOf]; done) | (simp [intOf]; omega)
    · obtain rfl : k = s := by omega
      rw [show half x k k = byteCells (bytesL x k) by simp [half]] at hown
      obtain ⟨A, c, e, hr⟩ := Rd.of_own hown
      injection e with e1 _ e2
      subst e1 e2
      have Hr := Lib.hid hr
      clear hr
      go_wp2_with (refine wpList_string rfl 99 9 5 _ (by rfl) Try.underlying99 Try.underlying5 Try.underlying9 Hr.out (by rfl) ?_)
      go_ret2
      exact ⟨rfl, hbel⟩

theorem Bytes_no (x : Nat) (s : Int) (w : World) (hs : -9223372036854775808 ≤ s ∧ s ≤ 9223372036854775807) (h : s < 0 ∨ 4 < s) :
    Calls Try.prog 59 #[.int .u32 (x : Int), .int .i64 s] w fun e w' => e = .returned (.tuple #[.string ⟨#[]⟩, .int .i64 1]) ∧ ∃ n, w' = w.drewN n := by
  by_cases h0 : s < 0
  · clear h
    go_enter Try.func59, Try.ntmps59
    go_wp2
    go_ret2
    exact ⟨rfl, 0, rfl⟩
  · have h1 : 4 < s := by omega
    clear h
    go_enter Try.func59, Try.ntmps59
    go_wp2
    go_ret2
    exact ⟨rfl, 0, rfl⟩
theorem refBytes_no (x : Nat) (s : Int) (w : World) (hs : -9223372036854775808 ≤ s ∧ s ≤ 9223372036854775807) (h : s < 0 ∨ 4 < s) :
    Calls Try.prog 60 #[.int .u32 (x : Int), .int .i64 s] w fun e w' => e = .returned (.tuple #[.string ⟨#[]⟩, .int .i64 1]) ∧ ∃ n, w' = w.drewN n := by
  by_cases h0 : s < 0
  · clear h
    go_enter Try.func60, Try.ntmps60
    go_wp2
    go_ret2
    exact ⟨rfl, 0, rfl⟩
  · have h1 : 4 < s := by omega
    clear h
    go_enter Try.func60, Try.ntmps60
    go_wp2
    go_ret2
    exact ⟨rfl, 0, rfl⟩

theorem byteCells_one_of (n : Nat) : byteCells [UInt8.ofNat n] = [.int .u8 ((n % 256 : Nat) : Int)] := by simp [byteCells]

set_option maxRecDepth 100000 in
theorem refBytes_any (x : Nat) (s : Nat) (w : World) (hx : x < 4294967296) (h : s ≤ 4) :
    Calls Try.prog 60 #[.int .u32 (x : Int), .int .i64 (s : Int)] w fun e w' => e = .returned (.tuple #[.string ⟨(bytesL x s).toArray⟩, .int .i64 0]) ∧ Bel w w' := by
  go_enter Try.func60, Try.ntmps60
  go_wp2
  go_loopw [6, 7] (fun v i wr => ∃ k : Nat, k ≤ s ∧ i = .int .i64 (k : Int) ∧ wr.ownsRow w.heap.size 5 1 v k (byteCells (bytesL x k)) ∧ Bel w wr) (fun _ i _ => s - (intOf i).toNat)
  case atStart => exact ⟨0, by omega, rfl, own_empty _ _ _ _ (by simp), Bel.alloc _ _⟩
  case round =>
    obtain ⟨k, hk, rfl, hown, hbel⟩ := hrel
    by_cases hks : k < s
    · have hbf := byte_field x k (by omega)
      have hF : ∀ W, Calls Try.prog 78 #[.int .u32 (x : Int), .int .i64 (8 * (k : Int)), .int .i64 8] W fun e w' => e = .returned (.int .u32 ((x / 2 ^ (8 * k) % 256 : Nat) : Int)) ∧ Bel W w' := by
        intro W
        have := refField_any x (8 * (k : Int)) 8 W hx (by omega) (by omega)
        rwa [hbf] at this
      have HF := Lib.hid hF
      have hlt : x / 2 ^ (8 * k) % 256 < 256 := Nat.mod_lt _ (by omega)
      clear hF hbf
      go_wp2_with (first | (go_at_call 78; refine (HF.out _).mono ?_; rintro e w1 ⟨rfl, hb1⟩; have hown1 := own_bel hown hb1) | (at_builtin; go_must (refine wpList_app w1 [.int .u8 ((x / 2 ^ (8 * k) % 256 : Nat) : Int)] 1 rfl _ _ _ (by rfl) w.heap.size 5 (.int .u8 0) 1 1 Try.underlying99 u8info rfl (by decide) _ k _ (by rfl) hown1 (by rfl) rfl (by simp [Value.oneCell']) (by omega) (by omega) (hbel.trans hb1).size ?_); intro v' w2 hown' hg'))
      go_roundw
      case rel =>
        rw [← byteCells_one_of, ← byteCells_append, ← bytesL_snoc] at hown'
        exact ⟨k + 1, by omega, by go_num, hown', (hbel.trans hb1).then_grown hown1 hg' (Nat.le_refl _)⟩
      case measure => first | (simp [intOf]; done) | (simp [intOf]; omega)
    · obtain rfl : k = s := by omega
      obtain ⟨A, c, rfl, hr⟩ := Rd.of_own hown
      have Hr := Lib.hid hr
      clear hr
      go_wp2_with (refine wpList_string rfl 99 9 5 _ (by rfl) Try.underlying99 Try.underlying5 Try.underlying9 Hr.out (by rfl) ?_)
      go_ret2
      exact ⟨rfl, hbel⟩

end Wd
end Go.Proofs.Ytcahadkkjfijfaa
