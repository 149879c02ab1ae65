/- The retire package: Apply, Stored, the document's own; the statements RetireSteps and RetireZero. -/
import Derived.Test.YtcahadkkjfijfaaU32a
import Derived.Test.YtcahadkkjfijfaaStep
import Derived.Test.YtcahadkkjfijfaaPut
import Derived.Outline
import Derived.Deep.Cut
set_option linter.unusedVariables false
set_option linter.unusedSimpArgs false
namespace Go.Proofs.Ytcahadkkjfijfaa
open Go.RowKit

theorem Bel.setRow {a w : World} (h : Bel a w) {g : Nat} (hg : a.heap.size ≤ g) (cs : Array Value) : Bel a (w.setRow g cs) := by
  refine ⟨h.os, h.tape, h.output, Nat.le_trans h.size (by rw [size_setRow]; exact Nat.le_refl _), fun i hi => ?_⟩
  rw [setRow_other w g i cs (by omega)]
  exact h.block i hi
theorem info32 : (Try.prog.info? 23).map (·.size) = some 32 := by kernel_rfl
theorem info32' {R : Array Value} (h : R.size = 32) : (Try.prog.info? 23).map (·.size) = some R.size := by rw [h]; exact info32
theorem heap3 (w : World) (A B C : Obj) : (((w.alloc A).alloc B).alloc C).heap[w.heap.size]? = some A := by
  rw [Below.heap_alloc _ C _ (by simp; omega), Below.heap_alloc _ B _ (by simp)]
  exact heap_alloc_new w A
theorem heap3' (w : World) (A B C : Obj) : (((w.alloc A).alloc B).alloc C).heap[w.heap.size + 1 + 1]? = some C := by
  have := heap_alloc_new ((w.alloc A).alloc B) C
  simpa using this
theorem u32v_one (l : List Nat) : (u32v l).toArray.all (·.oneCell') = true := by
  rw [Array.all_eq_true_iff_forall_mem]
  intro u hu
  simp only [u32v, List.mem_toArray, List.mem_map] at hu
  obtain ⟨x, _, rfl⟩ := hu
  rfl
/-- thirty-two zeros -/
def zeros32 : Array Value := #[.int .u32 0, .int .u32 0, .int .u32 0, .int .u32 0, .int .u32 0, .int .u32 0, .int .u32 0, .int .u32 0, .int .u32 0, .int .u32 0, .int .u32 0, .int .u32 0, .int .u32 0, .int .u32 0, .int .u32 0, .int .u32 0, .int .u32 0, .int .u32 0, .int .u32 0, .int .u32 0, .int .u32 0, .int .u32 0, .int .u32 0, .int .u32 0, .int .u32 0, .int .u32 0, .int .u32 0, .int .u32 0, .int .u32 0, .int .u32 0, .int .u32 0, .int .u32 0]

theorem set_sz {l : List Nat} (hl : l.length = 32) (k : Nat) (u : Value) : ((u32v l).set k u).toArray.size = 32 := by simp [u32v_len, hl]
theorem u32v_sz {l : List Nat} (hl : l.length = 32) : (u32v l).toArray.size = 32 := by simp [u32v_len, hl]
theorem set_one {l : List Nat} (k x : Nat) : ((u32v l).set k (.int .u32 (x : Int))).toArray.all (·.oneCell') = true := by rw [u32v_set]; exact u32v_one _

set_option maxHeartbeats 400000 in
set_option maxRecDepth 100000 in
theorem Apply_yes (l : List Nat) (s : St) (w : World) (hl : l.length = 32) (h1 : 1 ≤ s.rd) (h2 : s.rd ≤ 31) (h3 : s.halt = 0) :
    Calls Try.prog 19 #[.agg (u32v l).toArray, s.val] w fun e w' => e = .returned (.agg (u32v (l.set s.rd.toNat s.value)).toArray) ∧ Bel w w' := by
  have b3 : (s.halt == 0) = true := by simp [h3]
  have hk : (u32v l)[s.rd.toNat]? = some (.int .u32 ((l[s.rd.toNat]'(by omega) : Nat) : Int)) := u32v_at (by omega)
  have SZ := set_sz hl s.rd.toNat (.int .u32 (s.value : Int))
  have ONE := set_one (l := l) s.rd.toNat s.value
  clear h3
  unfold St.val
  go_enter Try.func19, Try.ntmps19
  go_upto_region 3 with (fail)
  go_wp2_with (refine wpList_load_row rfl 23 (.tmp 2) (by rfl) w.heap.size (by rfl) 23 _ (0, 0) _ (heap3 _ _ _ _) Try.underlying23 rfl (info32' SZ) ?_; refine wpList_store_row rfl 23 (.tmp 4) (.tmp 23) (by rfl) (w.heap.size + 1 + 1) _ (by rfl) (by rfl) 23 _ (heap3' _ _ _ _) (info32' SZ) SZ.symm ONE ?_)
  refine bodyPost_ret (v := .agg _) (results_cell_row rfl _ _ (w.heap.size + 1 + 1) 23 _ (0, 0) _ (by rfl) (setRow_heap _ _ _ _ _ _ (heap3' _ _ _ _)) Try.underlying23 rfl (info32' SZ)) rfl ⟨?_, ?_⟩
  · rw [u32v_set]
  · exact (((Bel.alloc w _).trans (Bel.alloc _ _)).trans (Bel.alloc _ _)).setRow (by omega) _
set_option maxHeartbeats 400000 in
set_option maxRecDepth 100000 in
theorem Apply_no (l : List Nat) (s : St) (w : World) (hl : l.length = 32) (h : ¬ (1 ≤ s.rd ∧ s.rd ≤ 31 ∧ s.halt = 0)) :
    Calls Try.prog 19 #[.agg (u32v l).toArray, s.val] w fun e w' => e = .returned (.agg (u32v l).toArray) ∧ Bel w w' := by
  have SZ := u32v_sz hl
  have ONE := u32v_one l
  have key : ∀ Q : Prop, (¬ 1 ≤ s.rd → Q) → (1 ≤ s.rd → ¬ s.rd ≤ 31 → Q) → (1 ≤ s.rd → s.rd ≤ 31 → (s.halt == 0) = false → Q) → Q := by
    intro Q a b c
    by_cases h1 : 1 ≤ s.rd
    · by_cases h2 : s.rd ≤ 31
      · exact c h1 h2 (by simpa using fun h3 => h ⟨h1, h2, h3⟩)
      · exact b h1 h2
    · exact a h1
  clear h
  unfold St.val
  refine key _ (fun h1 => ?_) (fun h1 h2 => ?_) (fun h1 h2 h3 => ?_)
  all_goals
    clear key
    go_enter Try.func19, Try.ntmps19
    go_upto_region 3 with (fail)
    go_wp2_with (refine wpList_load_row rfl 23 (.tmp 2) (by rfl) w.heap.size (by rfl) 23 _ (0, 0) _ (heap3 _ _ _ _) Try.underlying23 rfl (info32' SZ) ?_; refine wpList_store_row rfl 23 (.tmp 4) (.tmp 23) (by rfl) (w.heap.size + 1 + 1) _ (by rfl) (by rfl) 23 _ (heap3' _ _ _ _) (info32' SZ) SZ.symm ONE ?_)
    refine bodyPost_ret (v := .agg _) (results_cell_row rfl _ _ (w.heap.size + 1 + 1) 23 _ (0, 0) _ (by rfl) (setRow_heap _ _ _ _ _ _ (heap3' _ _ _ _)) Try.underlying23 rfl (info32' SZ)) rfl ⟨rfl, ?_⟩
    exact (((Bel.alloc w _).trans (Bel.alloc _ _)).trans (Bel.alloc _ _)).setRow (by omega) _

/-- the reference's world within its loop -/
structure AW (w wr : World) (R : Array Value) (s : St) : Prop where
  bel : Bel w wr
  h1 : wr.heap[w.heap.size + 1]? = some (.cells s.cells.toArray 25 (0, 0))
  h2 : wr.heap[w.heap.size + 1 + 1]? = some (.cells zeros32 23 (0, 0))
  h3 : wr.heap[w.heap.size + 1 + 1 + 1]? = some (.cells R 23 (0, 0))
theorem AW.set_ {w wr : World} {R : Array Value} {s : St} (h : AW w wr R s) (k : Nat) (u : Value) : AW w (wr.setCell ⟨w.heap.size + 1 + 1 + 1, k, none⟩ u) (R.setIfInBounds k u) s :=
  ⟨h.bel.setCell (by simp; omega) u, (heap_setCell_other _ _ _ _ (by simp)).trans h.h1, (heap_setCell_other _ _ _ _ (by simp)).trans h.h2, heap_setCell_same _ _ _ _ _ _ h.h3⟩
theorem AW.cells {w wr : World} {R : Array Value} {s : St} (h : AW w wr R s) : wr.cell? ⟨w.heap.size + 1, 2, none⟩ = some (.int .i64 s.rd) ∧ wr.cell? ⟨w.heap.size + 1, 3, none⟩ = some (.int .u32 (s.value : Int)) ∧ wr.cell? ⟨w.heap.size + 1, 7, none⟩ = some (.int .i64 s.halt) := by
  refine ⟨?_, ?_, ?_⟩ <;> rw [cell_of_row _ _ _ _ _ _ h.h1] <;> rfl
theorem heap4 (w : World) (A B C D : Obj) : (∃ W, W = (((w.alloc A).alloc B).alloc C).alloc D ∧ W.heap[w.heap.size + 1]? = some B ∧ W.heap[w.heap.size + 1 + 1]? = some C ∧ W.heap[w.heap.size + 1 + 1 + 1]? = some D ∧ Bel w W) := by
  refine ⟨_, rfl, ?_, ?_, ?_, (((Bel.alloc w _).trans (Bel.alloc _ _)).trans (Bel.alloc _ _)).trans (Bel.alloc _ _)⟩
  · rw [Below.heap_alloc _ D _ (by simp), Below.heap_alloc _ C _ (by simp)]
    simpa using heap_alloc_new (w.alloc A) B
  · rw [Below.heap_alloc _ D _ (by simp)]
    exact heap3' w A B C
  · simpa using heap_alloc_new (((w.alloc A).alloc B).alloc C) D
theorem AW.start (w : World) (A : Obj) (s : St) (R : Array Value) (Z : Array Value) : AW w (((((w.alloc A).alloc (.cells s.cells.toArray 25)).alloc (.cells zeros32 23)).alloc (.cells Z 23)).setRow (w.heap.size + 1 + 1 + 1) R) R s := by
  obtain ⟨W, e, h1, h2, h3, hb⟩ := heap4 w A (.cells s.cells.toArray 25) (.cells zeros32 23) (.cells Z 23)
  rw [← e]
  exact ⟨hb.setRow (by omega) _, (setRow_other _ _ _ _ (by omega)).trans h1, (setRow_other _ _ _ _ (by omega)).trans h2, setRow_heap _ _ _ _ _ _ h3⟩

theorem heap4' (w : World) (A B C D : Obj) : ((((w.alloc A).alloc B).alloc C).alloc D).heap[w.heap.size + 1 + 1 + 1]? = some D := by
  simpa using heap_alloc_new (((w.alloc A).alloc B).alloc C) D
/-- what the loop has made of the row ahead of round k -/
def rowAt (l : List Nat) (r v k : Nat) : List Nat := if r < k then l.set r v else l
theorem rowAt_len {l : List Nat} (hl : l.length = 32) (r v k : Nat) : (rowAt l r v k).length = 32 := by unfold rowAt; split <;> simp [hl]
theorem rowAt_set {l : List Nat} (r v : Nat) : (u32v (rowAt l r v r)).toArray.setIfInBounds r (.int .u32 (v : Int)) = (u32v (rowAt l r v (r + 1))).toArray := by
  unfold rowAt
  rw [if_neg (by omega), if_pos (by omega), List.setIfInBounds_toArray, u32v_set]
set_option maxHeartbeats 400000 in
set_option maxRecDepth 100000 in
theorem refApply_yes (l : List Nat) (s : St) (w : World) (hl : l.length = 32) (h1 : 1 ≤ s.rd) (h2 : s.rd ≤ 31) (h3 : s.halt = 0) :
    Calls Try.prog 20 #[.agg (u32v l).toArray, s.val] w fun e w' => e = .returned (.agg (u32v (l.set s.rd.toNat s.value)).toArray) ∧ Bel w w' := by
  have SZ := u32v_sz hl
  have ONE := u32v_one l
  have b3 : (s.halt == 0) = true := by simp [h3]
  clear h3
  obtain ⟨r, hr⟩ := Int.eq_ofNat_of_zero_le (show 0 ≤ s.rd by omega)
  have hr1 : 1 ≤ r := by omega
  have hr2 : r ≤ 31 := by omega
  have Hr := Lib.hid hr
  clear hr h1 h2
  have hst := fun A Z => AW.start w A s (u32v l).toArray Z
  have Hst := Lib.hid hst
  clear hst
  unfold St.val
  go_enter Try.func20, Try.ntmps20
  go_upto_region 1 with (fail)
  go_wp2_with (first | (refine wpList_load_row rfl 23 (.tmp 2) (by rfl) w.heap.size (by rfl) 23 (u32v l).toArray (0, 0) _ ?_ Try.underlying23 rfl ?_ ?_; exact heap3 _ _ _ _; exact info32' SZ) | (refine wpList_store_row rfl 23 (.tmp 5) (.tmp 7) (by rfl) (w.heap.size + 1 + 1 + 1) _ (by rfl) (by rfl) 23 zeros32 ?_ ?_ ?_ ?_ ?_; exact heap4' _ _ _ _ _; exact info32' SZ; exact SZ.symm; exact ONE))
  go_loopw [6] (fun i wr => ∃ k : Nat, 1 ≤ k ∧ k ≤ 32 ∧ i = .int .i64 (k : Int) ∧ AW w wr (u32v (rowAt l r s.value k)).toArray s) (fun i _ => 32 - (intOf i).toNat)
  case atStart =>
    refine ⟨1, by omega, by omega, rfl, ?_⟩
    trace "B"
    rw [rowAt, if_neg (by omega)]
    trace "C"
    exact Hst.out _ _
  case round =>
    obtain ⟨k, hk1, hk2, rfl, haw⟩ := hrel
    replace haw := Lib.hid haw
    trace "D"
    obtain ⟨c2, c3, c7⟩ := haw.out.cells
    rw [Hr.out] at c2
    have lk := rowAt_len hl r s.value k
    have SZ2 := u32v_sz lk
    have ONE2 := u32v_one (rowAt l r s.value k)
    by_cases hkn : k < 32
    · obtain ⟨u, hc⟩ : ∃ u : Nat, wr.cell? ⟨w.heap.size + 1 + 1 + 1, k, none⟩ = some (.int .u32 (u : Int)) := by
        refine ⟨(rowAt l r s.value k)[k]'(by omega), ?_⟩
        rw [cell_of_row _ _ _ _ _ _ haw.out.h3]
        simpa using u32v_at (l := rowAt l r s.value k) (k := k) (by omega)
      have hf : wr.frozen? ⟨w.heap.size + 1 + 1 + 1, k, none⟩ = false := frozen_of_row _ _ _ _ _ haw.out.h3
      by_cases hkr : k = r
      · have b1 : ((k : Int) == (r : Int)) = true := by simp [hkr]
        have haw2 := haw.out.set_ k (.int .u32 (s.value : Int))
        subst hkr
        rw [rowAt_set] at haw2
        replace haw2 := Lib.hid haw2
        clear lk SZ2 ONE2
        go_wp2
        go_roundw
        case rel => exact ⟨k + 1, by omega, by omega, by go_num, haw2.out⟩
        case measure => first | (simp [intOf]; done) | (simp [intOf]; omega)
      · have b1 : ((k : Int) == (r : Int)) = false := by rw [beq_eq_false_iff_ne]; omega
        have haw2 := haw.out
        rw [show rowAt l r s.value k = rowAt l r s.value (k + 1) by unfold rowAt; by_cases h : r < k; · rw [if_pos h, if_pos (by omega)]
                                                                    · rw [if_neg h, if_neg (by omega)]] at haw2
        replace haw2 := Lib.hid haw2
        clear lk SZ2 ONE2 hkr
        go_wp2
        go_roundw
        case rel => exact ⟨k + 1, by omega, by omega, by go_num, haw2.out⟩
        case measure => first | (simp [intOf]; done) | (simp [intOf]; omega)
    · obtain rfl : k = 32 := by omega
      have e32 : rowAt l r s.value 32 = l.set s.rd.toNat s.value := by rw [rowAt, if_pos (by omega), Hr.out]; rfl
      replace e32 := Lib.hid e32
      go_upto_region 7 with (fail)
      go_wp2_with (refine wpList_load_row rfl 23 (.tmp 5) (by rfl) (w.heap.size + 1 + 1 + 1) (by rfl) 23 _ (0, 0) _ haw.out.h3 Try.underlying23 rfl (info32' SZ2) ?_; refine wpList_store_row rfl 23 (.tmp 4) (.tmp 25) (by rfl) (w.heap.size + 1 + 1) _ (by rfl) (by rfl) 23 _ haw.out.h2 (info32' SZ2) SZ2.symm ONE2 ?_)
      refine bodyPost_ret (v := .agg _) (results_cell_row rfl _ _ (w.heap.size + 1 + 1) 23 _ (0, 0) _ (by rfl) (setRow_heap _ _ _ _ _ _ haw.out.h2) Try.underlying23 rfl (info32' SZ2)) rfl ⟨?_, ?_⟩
      · rw [e32.out]
      · exact haw.out.bel.setRow (by omega) _

end Go.Proofs.Ytcahadkkjfijfaa
