/- The guess package: two guesses alike (the document's own). -/
import Derived.Test.YtghekfdpgeopjaaGuessA
set_option linter.unusedVariables false
set_option linter.unusedSimpArgs false
set_option maxRecDepth 100000
namespace Go.Proofs.Ytghekfdpgeopjaa
open Go.RowKit

set_option maxHeartbeats 1000000 in
theorem Like_same (As : Option Addr) (cs : Nat) (sl : List Sl) (h : Nat) (Ar : Option Addr) (nr cr : Nat) (rets : List Nat) (w : World) (hsl : Rd w w.heap.size 2 As 8 cs (sls sl)) (hrt : Rd w w.heap.size 1 Ar nr cr (u32v rets)) (hh : h < 8) (hn4 : nr ≤ 4) :
    Calls Try.prog 9 #[.agg #[.slice As 8 cs, .int .u32 (h : Int), .slice Ar nr cr], .agg #[.slice As 8 cs, .int .u32 (h : Int), .slice Ar nr cr]] w fun e w' => e = .returned (.bool true) ∧ Bel w w' := by
  go_enter Try.func9, Try.ntmps9
  go_upto_region 1 with (fail)
  have hA := (Bk.new' w 27 [.slice As 8 cs, .int .u32 (h : Int), .slice Ar nr cr] w.heap.size rfl).alloc (.cells [Value.slice As 8 cs, .int .u32 (h : Int), .slice Ar nr cr].toArray 27)
  have hB := Bk.new' (w.alloc (.cells [Value.slice As 8 cs, .int .u32 (h : Int), .slice Ar nr cr].toArray 27)) 27 [.slice As 8 cs, .int .u32 (h : Int), .slice Ar nr cr] (w.heap.size + 1) (by simp)
  have hb := (Bel.alloc w (.cells [Value.slice As 8 cs, .int .u32 (h : Int), .slice Ar nr cr].toArray 27)).trans (Bel.alloc _ (.cells [Value.slice As 8 cs, .int .u32 (h : Int), .slice Ar nr cr].toArray 27))
  revert hA hB hb
  generalize (w.alloc _).alloc _ = W0
  intro hA hB hb
  have a0 := hA.cell_of 0 _ rfl
  have a1 := hA.cell_of 1 _ rfl
  have a2 := hA.cell_of 2 _ rfl
  have b0 := hB.cell_of 0 _ rfl
  have b1 := hB.cell_of 1 _ rfl
  have b2 := hB.cell_of 2 _ rfl
  replace hsl := hsl.bel hb
  replace hrt := hrt.bel hb
  replace hb := Lib.hid hb
  clear hA hB
  go_wp2
  go_loopw [5, 33] (fun _ i wr => ∃ k : Nat, k ≤ 8 ∧ i = .int .i64 (k : Int) ∧ ∃ d, wr = W0.drewN d) (fun _ i _ => 8 - (intOf i).toNat)
  case atStart => exact ⟨0, by omega, rfl, 0, rfl⟩
  case round =>
    obtain ⟨k, hk, rfl, d, rfl⟩ := hrel
    by_cases hkn : k < 8
    · obtain ⟨hl, g, o, rfl, hg, e0, e1⟩ := hsl.slsat hkn
      go_wp2
      go_quiet (fail)
      go_wp2
      go_roundw
      case rel => exact ⟨k + 1, by omega, by go_num, d + nq, rfl⟩
      case measure => first | (simp [intOf]; done) | (simp [intOf]; omega)
    · obtain rfl : k = 8 := by omega
      go_wp2
      go_loopw [6, 51] (fun _ i wr => ∃ j : Nat, j ≤ nr ∧ i = .int .i64 (j : Int) ∧ ∃ d, wr = W0.drewN d) (fun _ i _ => nr - (intOf i).toNat)
      case atStart => exact ⟨0, by omega, rfl, d, rfl⟩
      case round =>
        obtain ⟨j, hj, rfl, d2, rfl⟩ := hrel
        by_cases hjn : j < nr
        · obtain ⟨hl, g, o, rfl, hg, e0⟩ := hrt.u32at hjn
          go_wp2
          go_quiet (fail)
          go_wp2
          go_roundw
          case rel => exact ⟨j + 1, by omega, by go_num, d2 + nq, rfl⟩
          case measure => first | (simp [intOf]; done) | (simp [intOf]; omega)
        · obtain rfl : j = nr := by omega
          go_wp2
          go_ret
          exact ⟨rfl, hb.out.trans (Bel.drewN _ _)⟩

end Go.Proofs.Ytghekfdpgeopjaa
