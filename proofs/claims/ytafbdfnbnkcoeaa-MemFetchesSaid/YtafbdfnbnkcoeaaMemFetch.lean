/- Fetching a program's words, and the statement MemFetches. -/
import Derived.Test.YtafbdfnbnkcoeaaMemClean
set_option linter.unusedVariables false
set_option linter.unusedSimpArgs false
namespace Go.Proofs.Ytafbdfnbnkcoeaa
namespace Me
open Go.RowKit

def u32s (zs : List Nat) : List Value := zs.map fun (z : Nat) => Value.int .u32 (z : Int)
theorem u32s_len (zs : List Nat) : (u32s zs).length = zs.length := by simp [u32s]
theorem u32s_at {zs : List Nat} {k : Nat} (h : k < zs.length) : (u32s zs)[k]? = some (.int .u32 ((zs[k]'h : Nat) : Int)) := by simp [u32s, h]

theorem Fetch_yes (A : Option Addr) (n c B : Nat) (zs : List Nat) (pc : Nat) (w : World) (hr : Rd w B 1 A n c (u32s zs)) (hp : pc < 4294967296) (h4 : pc % 4 = 0) (hl : pc / 4 < zs.length) :
    Calls Try.prog 8 #[.slice A n c, .int .u32 (pc : Int)] w fun e w' => e = .returned (.tuple #[.int .u32 ((zs[pc / 4]'hl : Nat) : Int), .bool true]) ∧ ∃ n, w' = w.drewN n := by
  have hc1 := hr.le
  have hc2 := hr.mx
  have hn := hr.len
  rw [u32s_len, Nat.mul_one] at hn
  unfold maxLen at hc2
  obtain ⟨g, o, u, rfl, _, hu, hc⟩ := hr.cell1 (k := pc / 4) (by omega)
  rw [u32s_at hl] at hu
  obtain rfl : _ = u := by injection hu
  have Hn := Lib.hid hn
  clear hu hn hr
  have hlt : pc / 4 < n := by have := Hn.out; omega
  have h5 : ((pc : Int) % 4 != 0) = false := by rw [bne_eq_false_iff_eq]; omega
  go_enter Try.func8, Try.ntmps8
  go_wp2
  go_ret2
  exact ⟨rfl, 0, rfl⟩

theorem Fetch_no (A : Option Addr) (n c B : Nat) (zs : List Nat) (pc : Nat) (w : World) (hr : Rd w B 1 A n c (u32s zs)) (hp : pc < 4294967296) (h : pc % 4 ≠ 0 ∨ n ≤ pc / 4) :
    Calls Try.prog 8 #[.slice A n c, .int .u32 (pc : Int)] w fun e w' => e = .returned (.tuple #[.int .u32 0, .bool false]) ∧ ∃ n, w' = w.drewN n := by
  have hc1 := hr.le
  have hc2 := hr.mx
  unfold maxLen at hc2
  clear hr
  by_cases h4 : pc % 4 = 0
  · have h6 : n ≤ pc / 4 := by omega
    have h5 : ((pc : Int) % 4 != 0) = false := by rw [bne_eq_false_iff_eq]; omega
    clear h
    go_enter Try.func8, Try.ntmps8
    go_wp2
    go_ret2
    exact ⟨rfl, 0, rfl⟩
  · have h5 : ((pc : Int) % 4 != 0) = true := by rw [bne_iff_ne]; omega
    clear h
    go_enter Try.func8, Try.ntmps8
    go_wp2
    go_ret2
    exact ⟨rfl, 0, rfl⟩

theorem Fetch_pc (A : Option Addr) (n c B : Nat) (zs : List Nat) (pc : Nat) (w : World) (hr : Rd w B 1 A n c (u32s zs)) (hp : pc < 4294967296) (h4 : (pc : Int) % 4 = 0) :
    Calls Try.prog 8 #[.slice A n c, .int .u32 (pc : Int)] w fun e w' => (∃ x : Int, e = .returned (.tuple #[.int .u32 x, .bool (decide ((pc : Int) / 4 < n))])) ∧ ∃ n, w' = w.drewN n := by
  have hn := hr.len
  rw [u32s_len, Nat.mul_one] at hn
  by_cases h : pc / 4 < zs.length
  · rw [show decide ((pc : Int) / 4 < n) = true by simp; omega]
    exact (Fetch_yes A n c B zs pc w hr hp (by omega) h).mono fun e w' ⟨h1, h2⟩ => ⟨⟨_, h1⟩, h2⟩
  · rw [show decide ((pc : Int) / 4 < n) = false by simp; omega]
    exact (Fetch_no A n c B zs pc w hr hp (by omega)).mono fun e w' ⟨h1, h2⟩ => ⟨⟨_, h1⟩, h2⟩

theorem Fetch_odd (A : Option Addr) (n c B : Nat) (zs : List Nat) (q : Int) (w : World) (hr : Rd w B 1 A n c (u32s zs)) (h0 : 0 ≤ q) (h1 : q < 4294967296) (h : ¬ q % 4 = 0) :
    Calls Try.prog 8 #[.slice A n c, .int .u32 q] w fun e w' => e = .returned (.tuple #[.int .u32 0, .bool false]) ∧ ∃ n, w' = w.drewN n := by
  obtain ⟨p, rfl⟩ := Int.eq_ofNat_of_zero_le h0
  exact Fetch_no A n c B zs p w hr (by omega) (.inl (by omega))

theorem and_one (a : Int) : bits .and .i64 a 1 = a % 2 := by
  show IntKind.i64.wrap ((BitVec.ofInt 64 a &&& BitVec.ofInt 64 1).toNat : Int) = _
  rw [BitVec.toNat_and, show (BitVec.ofInt 64 1).toNat = 1 from rfl, Nat.and_one_is_mod, BitVec.toNat_ofInt, IntKind.wrap_i64]
  omega

theorem u32s_take (zs : List Nat) (k : Nat) : (u32s zs).take (k * 1) = u32s (zs.take k) := by simp [u32s]

theorem MemFetches_any (A : Option Addr) (n c : Nat) (zs : List Nat) (a : Int) (pc : Nat) (w : World) (hr : Rd w w.heap.size 1 A n c (u32s zs)) (ha : -9223372036854775808 ≤ a ∧ a ≤ 9223372036854775807) (hp : pc < 4294967296) :
    Calls Try.prog 3 #[.slice A n c, .int .i64 a, .int .u32 (pc : Int)] w fun e w' => e = .returned (.bool true) ∧ Bel w w' := by
  have hc1 := hr.le
  have hc2 := hr.mx
  unfold maxLen at hc2
  obtain ⟨N, hN, hN1, hN2⟩ : ∃ N : Nat, (N : Int) = (if (200 : Int) < (n : Int) then 200 else (n : Int)) ∧ N ≤ n ∧ N ≤ 200 := ⟨min n 200, by split <;> omega, by omega, by omega⟩
  have HN := Lib.hid hN
  have hr2 := hr.to hN1
  rw [u32s_take] at hr2
  generalize zs.take N = ys at hr2
  clear hr hN
  have e1 := and_one a
  go_enter Try.func3, Try.ntmps3
  go_wp2_with (refine wpList_min rfl _ _ _ (by rfl) _ _ _ _ (N : Int) (by rfl) (by rfl) HN.out ?_)
  go_loopw [22] (fun i wr => ∃ k : Nat, k ≤ N ∧ i = .int .i64 (k : Int) ∧ ∃ d, wr = w.drewN d) (fun i _ => N - (intOf i).toNat)
  case atStart => exact ⟨0, by omega, rfl, 0, rfl⟩
  case round =>
    obtain ⟨k, hk, rfl, d, rfl⟩ := hrel
    by_cases hlt : k < N
    · obtain ⟨g, o, u, rfl, _, hu, hc⟩ := hr2.cell1 hlt
      have hl : k < ys.length := by have := hr2.len; rw [u32s_len] at this; omega
      rw [u32s_at hl] at hu
      obtain rfl : _ = u := by injection hu
      have hF : ∀ W, Calls Try.prog 8 #[.slice (some ⟨g, o, none⟩) N c, .int .u32 (4 * (k : Int))] (w.drewN W) fun e w' => e = .returned (.tuple #[.int .u32 ((ys[k]'hl : Nat) : Int), .bool true]) ∧ ∃ n, w' = (w.drewN W).drewN n := by
        intro W
        have := Fetch_yes (some ⟨g, o, none⟩) N c w.heap.size ys (4 * k) (w.drewN W) (hr2.drewN W) (by omega) (by omega) (by omega)
        simp only [show 4 * k / 4 = k by omega] at this
        exact this
      have HF := Lib.hid hF
      clear hu hF
      go_wp2_with (go_at_call 8; refine (HF.out _).mono ?_; rintro e w' ⟨rfl, d1, rfl⟩)
      go_roundw
      case rel => exact ⟨k + 1, by omega, by go_num, _, rfl⟩
      case measure => first | (simp [intOf]; done) | (simp [intOf]; omega)
    · by_cases h4 : (pc : Int) % 4 = 0
      · have HF := Lib.hid (fun W => Fetch_pc A N c w.heap.size ys pc (w.drewN W) (hr2.drewN W) hp h4)
        go_wp2_with (first | (go_at_call_of 8 (pc : Int); refine (HF.out _).mono ?_; rintro e w' ⟨⟨x, rfl⟩, d1, rfl⟩) | (go_at_call 8; refine (Fetch_odd A N c _ ys _ _ (hr2.drewN _) (by omega) (by omega) (by omega)).mono ?_; rintro e w' ⟨rfl, d1, rfl⟩) | (go_at_call 9; refine (alive_any _).mono ?_; rintro e w9 ⟨rfl, hb9⟩))
        all_goals go_ret
        all_goals exact ⟨rfl, (Bel.drewN _ _).trans hb9⟩
      · have hh : (if (pc : Int) % 4 = 0 then True else False) = False := by simp [h4]
        clear hh
        go_wp2_with (first | (go_at_call_of 8 (pc : Int); refine (Fetch_odd A N c _ ys _ _ (hr2.drewN _) (by omega) (by omega) h4).mono ?_; rintro e w' ⟨rfl, d1, rfl⟩) | (go_at_call 8; refine (Fetch_odd A N c _ ys _ _ (hr2.drewN _) (by omega) (by omega) (by omega)).mono ?_; rintro e w' ⟨rfl, d1, rfl⟩) | (go_at_call 9; refine (alive_any _).mono ?_; rintro e w9 ⟨rfl, hb9⟩))
        all_goals go_ret
        all_goals exact ⟨rfl, (Bel.drewN _ _).trans hb9⟩

end Me
end Go.Proofs.Ytafbdfnbnkcoeaa
