/- The cache package: lines, sets, places. -/
import Derived.Test.YtcahadkkjfijfaaCPlain
import Derived.Test.YtcahadkkjfijfaaQl
import Derived.Outline
import Derived.Deep.DeepCutAuto
set_option linter.unusedVariables false
set_option linter.unusedSimpArgs false
set_option maxRecDepth 100000
namespace Go.Proofs.Ytcahadkkjfijfaa
open Go.RowKit Go.Sort

theorem LineOf_any (x : Nat) (w : World) (hx : x < 4294967296) :
    Calls Try.prog 67 #[.int .u32 (x : Int)] w fun e w' => e = .returned (.int .u32 ((x - x % 16 : Nat) : Int)) ∧ ∃ d, w' = w.drewN d := by
  have h1 : (0 : Int) ≤ (x : Int) - (x : Int) % 16 := by omega
  go_enter Try.func67, Try.ntmps67
  go_wp2
  go_ret
  exact ⟨val_u32 (by omega), 0, rfl⟩
theorem refLineOf_any (x : Nat) (w : World) (hx : x < 4294967296) :
    Calls Try.prog 68 #[.int .u32 (x : Int)] w fun e w' => e = .returned (.int .u32 ((x - x % 16 : Nat) : Int)) ∧ ∃ d, w' = w.drewN d := by
  have h1 : (0 : Int) ≤ (x : Int) - (x : Int) % 16 := by omega
  go_enter Try.func68, Try.ntmps68
  go_wp2
  go_ret
  exact ⟨val_u32 (by omega), 0, rfl⟩

def cv (ways : Int) (A : Option Addr) (n c : Nat) : Value := .agg #[.int .i64 ways, .slice A n c]
theorem cTy : RowTy Try.prog 36 2 := ⟨_, Try.underlying36, rfl, by kernel_rfl⟩
theorem setOf_any (ways : Int) (A : Option Addr) (n c x : Nat) (w : World) (hn : n = 1 ∨ n = 2 ∨ n = 4) (hx : x < 4294967296) :
    Calls Try.prog 71 #[.agg #[.int .i64 ways, .slice A n c], .int .u32 (x : Int)] w fun e w' => e = .returned (.int .i64 ((x / 16 % n : Nat) : Int)) ∧ Bel w w' := by
  rcases hn with rfl | rfl | rfl
  all_goals
    go_enter Try.func71, Try.ntmps71
    go_wp2
    go_ret
    exact ⟨val_i64 (by omega), Bel.alloc _ _⟩
theorem refSetOf_any (ways : Int) (A : Option Addr) (n c x : Nat) (w : World) (hn : n = 1 ∨ n = 2 ∨ n = 4) (hx : x < 4294967296) :
    Calls Try.prog 61 #[.agg #[.int .i64 ways, .slice A n c], .int .u32 (x : Int)] w fun e w' => e = .returned (.int .i64 ((x / 16 % n : Nat) : Int)) ∧ Bel w w' := by
  rcases hn with rfl | rfl | rfl
  all_goals
    go_enter Try.func61, Try.ntmps61
    go_wp2
    go_ret
    exact ⟨val_i64 (by omega), Bel.alloc _ _⟩

set_option maxHeartbeats 1000000 in
/-- where a line stands among ways -/
theorem place_any (A : Option Addr) (n c : Nat) (q : List Wy) (x : Nat) (w : World) (hr : Rd w w.heap.size 3 A n c (wys q)) (at' : Nat) (b : Bool) (hb : (b = true ∧ ∃ v, At q x at' v ∧ ∀ j < at', ∀ u, q[j]? = some u → u.line ≠ x) ∨ (b = false ∧ at' = 0 ∧ NotIn q x)) :
    Calls Try.prog 72 #[.slice A n c, .int .u32 (x : Int)] w fun e w' => e = .returned (.tuple #[.int .i64 (at' : Int), .bool b]) ∧ Bel w w' := by
  have hc1 := hr.le
  have hc2 := hr.mx
  unfold maxLen at hc2
  have Hn := Lib.hid hr.wyslen
  have Hb := Lib.hid hb
  clear hb
  go_enter Try.func72, Try.ntmps72
  go_wp2
  go_loopw [10] (fun i wr => ∃ k : Nat, k ≤ n ∧ i = .int .i64 (k : Int) ∧ (∀ j < k, ∀ u, q[j]? = some u → u.line ≠ x) ∧ Bel w wr) (fun i _ => n - (intOf i).toNat)
  case atStart => exact ⟨0, by omega, rfl, fun j h => absurd h (by omega), Bel.refl w⟩
  case round =>
    obtain ⟨k, hk, rfl, hall, hbel⟩ := hrel
    have Hall := Lib.hid hall
    clear hall
    by_cases hkn : k < n
    · obtain ⟨hl, g, o, rfl, hg, hce⟩ := (hr.bel hbel).wyselem hkn
      replace hce := Lib.hid hce
      have hat : q[k]? = some (q[k]'hl) := List.getElem?_eq_getElem hl
      obtain ⟨v, hv⟩ : ∃ v, q[k]'hl = v := ⟨_, rfl⟩
      rw [hv] at hce hat
      clear hv
      replace hat := Lib.hid hat
      by_cases hx : v.line = x
      · have hxb : ((v.line : Int) == (x : Int)) = true := by simp [hx]
        have Hres : Hid (b = true ∧ at' = k) := by
          rcases Hb.out with ⟨hb1, u, ha, hf⟩ | ⟨hb1, _, hni⟩
          · refine ⟨hb1, ?_⟩
            rcases Nat.lt_trichotomy at' k with h | h | h
            · exact absurd ha.line (Hall.out at' h u ha.is)
            · exact h
            · exact absurd hx (hf k h v hat.out)
          · exact absurd hx (hni v (List.mem_iff_getElem?.2 ⟨k, hat.out⟩))
        clear hx
        go_wp2_with (first | (refine wpList_load_elem (by rfl) 49 (.tmp 13) (by rfl) g (o + k * 3) (by rfl) v.cells v.val rfl hce.out wysTy ?_) | (refine wpList_store_bk (by rfl) 49 (.tmp 7) (.tmp 14) (by rfl) wr.heap.size v.cells (by rfl) (by rfl) 49 wysZ ?_ rfl wysTy v.one ?_; exact Bk.new wr _ wysZ; intro w1 hk1 hs1 ho1 hbe1; have c0 : w1.cell? ⟨wr.heap.size, 0, none⟩ = some (.int .u32 (v.line : Int)) := hk1.cell 0; clear hs1 ho1))
        go_ret2
        obtain ⟨rfl, rfl⟩ := Hres.out
        exact ⟨rfl, hbel.trans (hbe1 _ (Bel.alloc _ _) (Nat.le_refl _))⟩
      · have hxb : ((v.line : Int) == (x : Int)) = false := by rw [beq_eq_false_iff_ne]; omega
        replace hx := Lib.hid hx
        go_wp2_with (first | (refine wpList_load_elem (by rfl) 49 (.tmp 13) (by rfl) g (o + k * 3) (by rfl) v.cells v.val rfl hce.out wysTy ?_) | (refine wpList_store_bk (by rfl) 49 (.tmp 7) (.tmp 14) (by rfl) wr.heap.size v.cells (by rfl) (by rfl) 49 wysZ ?_ rfl wysTy v.one ?_; exact Bk.new wr _ wysZ; intro w1 hk1 hs1 ho1 hbe1; have c0 : w1.cell? ⟨wr.heap.size, 0, none⟩ = some (.int .u32 (v.line : Int)) := hk1.cell 0; clear hs1 ho1))
        go_roundw
        case rel =>
          refine ⟨k + 1, by omega, by go_num, fun j hj u hu => ?_, hbel.trans (hbe1 _ (Bel.alloc _ _) (Nat.le_refl _))⟩
          rcases Nat.lt_or_ge j k with h | h
          · exact Hall.out j h u hu
          · obtain rfl : j = k := by omega
            have e := hat.out
            rw [hu] at e
            injection e with e
            rw [e]; exact hx.out
        case measure => first | (simp [intOf]; done) | (simp [intOf]; omega)
    · obtain rfl : k = n := by omega
      have Hres : Hid (b = false ∧ at' = 0) := by
        rcases Hb.out with ⟨hb1, u, ha, hf⟩ | ⟨hb1, h0, hni⟩
        · have hl := (List.getElem?_eq_some_iff.1 ha.is).1
          exact absurd ha.line (Hall.out at' (by have := Hn.out; omega) u ha.is)
        · exact ⟨hb1, h0⟩
      go_wp2
      go_ret2
      obtain ⟨rfl, rfl⟩ := Hres.out
      exact ⟨rfl, hbel⟩

end Go.Proofs.Ytcahadkkjfijfaa
