/- The reference of the word package: words gathered bit by bit. -/
import Derived.Test.YtcahadkkjfijfaaWordWalk
import Derived.Test.YtcahadkkjfijfaaSl
set_option linter.unusedVariables false
set_option linter.unusedSimpArgs false
namespace Go.Proofs.Ytcahadkkjfijfaa
namespace Wd
open Go.RowKit

def bitCells (l : List Nat) : List Value := l.map fun (b : Nat) => Value.int .u32 (b : Int)
theorem bitCells_at {l : List Nat} {k : Nat} (h : k < l.length) : (bitCells l)[k]? = some (.int .u32 ((l[k]'h : Nat) : Int)) := by
  unfold bitCells; simp [h]
theorem ofBits_drop {l : List Nat} {k : Nat} (h : k < l.length) : ofBits (l.drop k) = 2 * ofBits (l.drop (k + 1)) + l[k] := by
  rw [List.drop_eq_getElem_cons h, ofBits]
theorem ofBits_drop_lt {l : List Nat} (h : ∀ b ∈ l, b ≤ 1) (hl : l.length ≤ 32) (k : Nat) : ofBits (l.drop k) < 4294967296 := by
  have h1 := ofBits_lt (l.drop k) (fun b hb => h b (List.mem_of_mem_drop hb))
  have h2 : 2 ^ (l.drop k).length ≤ 2 ^ 32 := Nat.pow_le_pow_right (by omega) (by rw [List.length_drop]; omega)
  have e : (2 : Nat) ^ 32 = 4294967296 := rfl
  omega

theorem Of_any (l : List Nat) (A : Option Addr) (c B : Nat) (w : World) (hr : Rd w B 1 A l.length c (bitCells l)) (hl : l.length ≤ 32) (hb : ∀ b ∈ l, b ≤ 1) :
    Calls Try.prog 82 #[.slice A l.length c] w fun e w' => e = .returned (.int .u32 (ofBits l : Int)) ∧ ∃ n, w' = w.drewN n := by
  have Hb := Lib.hid hb
  clear hb
  go_enter Try.func82, Try.ntmps82
  go_wp2
  go_loop [3, 4] (fun x i => ∃ q : Int, -1 ≤ q ∧ q < l.length ∧ i = .int .i64 q ∧ x = .int .u32 (ofBits (l.drop (q + 1).toNat) : Int)) (fun _ i => (intOf i + 1).toNat)
  case atStart => exact ⟨_, by omega, by omega, rfl, by rw [show ((l.length : Int) - 1 + 1).toNat = l.length from by omega, List.drop_length]; rfl⟩
  case round =>
    obtain ⟨q, h1, h2, rfl, rfl⟩ := hrel
    by_cases hq : 0 ≤ q
    · obtain ⟨j, rfl⟩ := Int.eq_ofNat_of_zero_le hq
      have hj : j < l.length := by omega
      obtain ⟨g, o, u, rfl, _, hu, hc⟩ := hr.cell1 hj
      rw [bitCells_at hj] at hu
      obtain rfl : _ = u := by injection hu
      have e1 : ((j : Int) + 1).toNat = j + 1 := by omega
      rw [e1]
      have lt1 := ofBits_drop_lt Hb.out hl j
      have lt2 := ofBits_drop_lt Hb.out hl (j + 1)
      have Hd := Lib.hid (ofBits_drop hj)
      have hbd : 2 * ((ofBits (l.drop (j + 1)) : Nat) : Int) + ((l[j]'hj : Nat) : Int) < 4294967296 := by
        have := Hd.out; omega
      clear hu e1
      go_wp2
      go_round
      case rel => exact ⟨(j : Int) - 1, by omega, by omega, rfl, by rw [show ((j : Int) - 1 + 1).toNat = j from by omega, Hd.out, Int.natCast_add, Int.natCast_mul]; rfl⟩
      case measure => first | (simp [intOf]; done) | (simp [intOf]; omega)
    · obtain rfl : q = -1 := by omega
      go_wp2
      go_ret
      exact ⟨rfl, 0, rfl⟩

/-- the same for bits that are told by their place -/
theorem Of_fn (n : Nat) (f : Nat → Nat) (A : Option Addr) (c B : Nat) (w : World) (hr : Rd w B 1 A n c (bitCells ((List.range n).map f))) (hn : n ≤ 32) (hb : ∀ i, f i ≤ 1) :
    Calls Try.prog 82 #[.slice A n c] w fun e w' => e = .returned (.int .u32 (ofBits ((List.range n).map f) : Int)) ∧ ∃ m, w' = w.drewN m := by
  have h := Of_any ((List.range n).map f) A c B w (by rw [List.length_map, List.length_range]; exact hr) (by simpa using hn) (by
    intro b hb'
    simp only [List.mem_map] at hb'
    obtain ⟨j, _, rfl⟩ := hb'
    exact hb j)
  rw [List.length_map, List.length_range] at h
  exact h

theorem u32info : (Try.prog.info? 22).map (fun i => (i.zero, i.size, i.bytes)) = some (some (.int .u32 0), 1, 4) := by kernel_rfl
theorem bitCells_snoc (n : Nat) (f : Nat → Nat) : bitCells ((List.range n).map f) ++ [.int .u32 (f n : Int)] = bitCells ((List.range (n + 1)).map f) := by
  simp [bitCells, List.range_succ]
theorem bitCells_len (n : Nat) (f : Nat → Nat) : (bitCells ((List.range n).map f)).length = n := by simp [bitCells]
theorem bits_le (n : Nat) (f : Nat → Nat) (h : ∀ i, f i ≤ 1) : ∀ b ∈ (List.range n).map f, b ≤ 1 := by
  intro b hb
  simp only [List.mem_map] at hb
  obtain ⟨j, _, rfl⟩ := hb
  exact h j

theorem refField_any (x : Nat) (a s : Int) (w : World) (hx : x < 4294967296) (ha : -9223372036854775808 ≤ a ∧ a ≤ 9223372036854775807) (hs : -9223372036854775808 ≤ s ∧ s ≤ 9223372036854775807) :
    Calls Try.prog 78 #[.int .u32 (x : Int), .int .i64 a, .int .i64 s] w fun e w' => e = .returned (.int .u32 (fieldI x a s : Int)) ∧ Bel w w' := by
  cases hf : fits a s
  · rw [fieldI_no hf]
    go_enter Try.func78, Try.ntmps78
    go_wp2_with (go_at_call 80; refine (Fits_any _ _ _ (by assumption) (by assumption)).mono ?_; rintro e w' ⟨rfl, d, rfl⟩)
    go_ret
    exact ⟨rfl, Bel.drewN _ _⟩
  · rw [fieldI_yes hf]
    have hf' := hf
    rw [fits_iff] at hf'
    obtain ⟨n, rfl⟩ := Int.eq_ofNat_of_zero_le (show 0 ≤ a by omega)
    obtain ⟨m, rfl⟩ := Int.eq_ofNat_of_zero_le (show 0 ≤ s by omega)
    rw [Int.toNat_natCast, Int.toNat_natCast]
    go_enter Try.func78, Try.ntmps78
    go_wp2_with (go_at_call 80; refine (Fits_any _ _ _ (by assumption) (by assumption)).mono ?_; rintro e w' ⟨rfl, d, rfl⟩)
    go_loopw [7, 8] (fun v i wr => ∃ k : Nat, k ≤ m ∧ i = .int .i64 (k : Int) ∧ wr.ownsRow w.heap.size 22 1 v k (bitCells ((List.range k).map fun j => bitN x (n + j))) ∧ Bel w wr) (fun _ i _ => m - (intOf i).toNat)
    case atStart => exact ⟨0, by omega, rfl, own_empty _ _ _ _ (by simp), (Bel.drewN w d).trans (Bel.alloc _ _)⟩
    case round =>
      obtain ⟨k, hk, rfl, hown, hbel⟩ := hrel
      by_cases hkm : k < m
      · go_wp2_with (first
          | (go_at_call 81; refine (bit_any x (n + k) _ hx (by omega)).mono ?_; rintro e w' ⟨rfl, d1, rfl⟩)
          | (at_builtin; refine wpList_app (wr.drewN _) [.int .u32 (bitN x (n + k) : Int)] 1 rfl _ _ _ (by rfl) w.heap.size 22 (.int .u32 0) 1 4 Try.underlying66 u32info rfl (by decide) _ k _ (by rfl) (own_drewN hown _) (by rfl) rfl (by simp [Value.oneCell']) (by omega) (by omega) hbel.size ?_; intro v' w1 hown' hg'))
        go_roundw
        case rel => exact ⟨k + 1, by omega, by go_num, by rw [← bitCells_snoc]; exact hown', (hbel.trans (Bel.drewN wr d1)).then_grown (own_drewN hown d1) hg' (Nat.le_refl _)⟩
        case measure => first | (simp [intOf]; done) | (simp [intOf]; omega)
      · obtain rfl : k = m := by omega
        obtain ⟨A, c, rfl, hr⟩ := Rd.of_own hown
        have Hr := Lib.hid hr
        clear hr
        have He := Lib.hid (field_ofBits x n k)
        go_wp2_with (go_at_call 82; refine (Of_fn k (fun j => bitN x (n + j)) A c _ _ Hr.out (by omega) (fun i => bitN_le _ _)).mono ?_; rintro e w' ⟨rfl, d1, rfl⟩)
        go_ret
        exact ⟨val_u32 (by rw [He.out]), hbel.trans (Bel.drewN _ _)⟩

end Wd
end Go.Proofs.Ytcahadkkjfijfaa
