/- Joined: Stp, RetP, Al20, OpenWay, OpenCache, OpenRq, OpenPut. -/
import Derived.Test.YtcahadkkjfijfaaZ1
import Derived.Test.YtcahadkkjfijfaaZ15
import Derived.Test.YtcahadkkjfijfaaZ4
import Derived.Outline
import Derived.Deep.Cut
import Derived.Test.YtcahadkkjfijfaaZ3
import Derived.ProofKit
import Derived.OpenShut
import Derived.Deep.Slices
import Derived.Deep.Fields
/- Records of type api.Step: as Lean records; rows of them as lists; what reads as such a row. -/
set_option linter.unusedVariables false
set_option linter.unusedSimpArgs false
namespace Go.Proofs.Ytcahadkkjfijfaa
open Go.RowKit

/-- api.Step -/
structure Stp where
  pc : Nat
  next : Nat
  rd : Int
  value : Nat
  addr : Nat
  size : Int
  store : Bool
  halt : Int
  took : Int
def Stp.cells (r : Stp) : List Value := [.int .u32 (r.pc : Int), .int .u32 (r.next : Int), .int .i64 r.rd, .int .u32 (r.value : Int), .int .u32 (r.addr : Int), .int .i64 r.size, .bool r.store, .int .i64 r.halt, .int .i64 r.took]
def Stp.val (r : Stp) : Value := .agg #[.int .u32 (r.pc : Int), .int .u32 (r.next : Int), .int .i64 r.rd, .int .u32 (r.value : Int), .int .u32 (r.addr : Int), .int .i64 r.size, .bool r.store, .int .i64 r.halt, .int .i64 r.took]
def sts (q : List Stp) : List Value := q.flatMap Stp.cells
theorem sts_len (q : List Stp) : (sts q).length = q.length * 9 := by
  induction q with
  | nil => rfl
  | cons r q ih =>
    have : sts (r :: q) = r.cells ++ sts q := rfl
    rw [this, List.length_append, ih, List.length_cons]
    simp [Stp.cells]; omega
theorem sts_at {q : List Stp} {k : Nat} (h : k < q.length) (j : Nat) (hj : j < 9) : (sts q)[k * 9 + j]? = (q[k]'h).cells[j]? := by
  induction q generalizing k with
  | nil => simp at h
  | cons r q ih =>
    have e : sts (r :: q) = r.cells ++ sts q := rfl
    have hl : r.cells.length = 9 := rfl
    cases k with
    | zero => rw [e, List.getElem?_append_left (by rw [hl]; omega)]; simp
    | succ k =>
      rw [e, List.getElem?_append_right (by rw [hl]; omega), hl, show (k + 1) * 9 + j - 9 = k * 9 + j by omega, ih (by simpa using h)]
      simp
theorem sts_one (q : List Stp) : ∀ u ∈ sts q, u.oneCell' = true := by
  intro u hu
  simp only [sts, List.mem_flatMap, Stp.cells, List.mem_cons, List.not_mem_nil, or_false] at hu
  obtain ⟨r, _, h⟩ := hu
  rcases h with h | h | h | h | h | h | h | h | h <;> subst h <;> rfl
theorem sts_append (p q : List Stp) : sts (p ++ q) = sts p ++ sts q := by simp [sts]
theorem sts_take (q : List Stp) (k : Nat) : (sts q).take (k * 9) = sts (q.take k) := by
  induction q generalizing k with
  | nil => simp [sts]
  | cons r q ih =>
    have e : sts (r :: q) = r.cells ++ sts q := rfl
    have hl : r.cells.length = 9 := rfl
    cases k with
    | zero => simp [sts]
    | succ k =>
      rw [e, List.take_append, hl, show (k + 1) * 9 - 9 = k * 9 by omega, ih, List.take_succ_cons, List.take_of_length_le (by rw [hl]; omega)]
      rfl
theorem sts_drop (q : List Stp) (k : Nat) : (sts q).drop (k * 9) = sts (q.drop k) := by
  induction q generalizing k with
  | nil => simp [sts]
  | cons r q ih =>
    have e : sts (r :: q) = r.cells ++ sts q := rfl
    have hl : r.cells.length = 9 := rfl
    cases k with
    | zero => simp [sts]
    | succ k =>
      rw [e, List.drop_append, hl, show (k + 1) * 9 - 9 = k * 9 by omega, ih, List.drop_succ_cons, List.drop_of_length_le (by rw [hl]; omega)]
      rfl
theorem Rd.stslen {w : World} {B n c : Nat} {A : Option Addr} {q : List Stp} (h : Rd w B 9 A n c (sts q)) : q.length = n := by
  have hn := h.len
  rw [sts_len] at hn
  omega

/-- what an element's cells hold -/
theorem Rd.stsat {w : World} {B n c : Nat} {A : Option Addr} {q : List Stp} (h : Rd w B 9 A n c (sts q)) {k : Nat} (hk : k < n) :
    ∃ (hl : k < q.length) (g o : Nat), A = some ⟨g, o, none⟩ ∧ g < B ∧ w.cell? ⟨g, o + k * 9, none⟩ = some (.int .u32 (q[k].pc : Int)) ∧ w.cell? ⟨g, o + k * 9 + 1, none⟩ = some (.int .u32 (q[k].next : Int)) ∧ w.cell? ⟨g, o + k * 9 + 2, none⟩ = some (.int .i64 q[k].rd) ∧ w.cell? ⟨g, o + k * 9 + 3, none⟩ = some (.int .u32 (q[k].value : Int)) ∧ w.cell? ⟨g, o + k * 9 + 4, none⟩ = some (.int .u32 (q[k].addr : Int)) ∧ w.cell? ⟨g, o + k * 9 + 5, none⟩ = some (.int .i64 q[k].size) ∧ w.cell? ⟨g, o + k * 9 + 6, none⟩ = some (.bool q[k].store) ∧ w.cell? ⟨g, o + k * 9 + 7, none⟩ = some (.int .i64 q[k].halt) ∧ w.cell? ⟨g, o + k * 9 + 8, none⟩ = some (.int .i64 q[k].took) := by
  have hl : k < q.length := by rw [h.stslen]; exact hk
  obtain ⟨g, o, e, hb, hc⟩ := h.at_ (by omega)
  refine ⟨hl, g, o, e, hb, ?_, ?_, ?_, ?_, ?_, ?_, ?_, ?_, ?_⟩
  · simpa using hc (k * 9 + 0) _ (sts_at hl 0 (by omega))
  · simpa [Nat.add_assoc] using hc (k * 9 + 1) _ (sts_at hl 1 (by omega))
  · simpa [Nat.add_assoc] using hc (k * 9 + 2) _ (sts_at hl 2 (by omega))
  · simpa [Nat.add_assoc] using hc (k * 9 + 3) _ (sts_at hl 3 (by omega))
  · simpa [Nat.add_assoc] using hc (k * 9 + 4) _ (sts_at hl 4 (by omega))
  · simpa [Nat.add_assoc] using hc (k * 9 + 5) _ (sts_at hl 5 (by omega))
  · simpa [Nat.add_assoc] using hc (k * 9 + 6) _ (sts_at hl 6 (by omega))
  · simpa [Nat.add_assoc] using hc (k * 9 + 7) _ (sts_at hl 7 (by omega))
  · simpa [Nat.add_assoc] using hc (k * 9 + 8) _ (sts_at hl 8 (by omega))
/-- the zero value's cells -/
def stsZ : List Value := [.int .u32 0, .int .u32 0, .int .i64 0, .int .u32 0, .int .u32 0, .int .i64 0, .bool false, .int .i64 0, .int .i64 0]
theorem stsTy : RowTy Try.prog 25 9 := ⟨_, Try.underlying25, rfl, by kernel_rfl⟩
theorem Stp.one (r : Stp) : ∀ u ∈ r.cells, u.oneCell' = true := fun u hu => sts_one [r] u (by simpa [sts] using hu)
/-- an element, whole -/
theorem Rd.stselem {w : World} {B n c : Nat} {A : Option Addr} {q : List Stp} (h : Rd w B 9 A n c (sts q)) {k : Nat} (hk : k < n) :
    ∃ (hl : k < q.length) (g o : Nat), A = some ⟨g, o, none⟩ ∧ g < B ∧ ∀ j u, (q[k]'hl).cells[j]? = some u → w.cell? ⟨g, o + k * 9 + j, none⟩ = some u := by
  have hl : k < q.length := by rw [h.stslen]; exact hk
  obtain ⟨g, o, e, hb, hc⟩ := h.at_ (by omega)
  refine ⟨hl, g, o, e, hb, fun j u hu => ?_⟩
  have hj : j < 9 := (List.getElem?_eq_some_iff.1 hu).1
  rw [Nat.add_assoc]
  exact hc _ _ ((sts_at hl j hj).trans hu)

theorem sts_spl (q : List Stp) (k : Nat) (r : Stp) (hk : k < q.length) : spl (sts q) (k * 9) r.cells = sts (q.set k r) := by
  have hl : r.cells.length = 9 := rfl
  rw [spl_eq _ _ _ (by rw [sts_len, hl]; omega), hl, show k * 9 + 9 = (k + 1) * 9 by omega, sts_take, sts_drop, List.set_eq_take_append_cons_drop, if_pos hk, sts_append]
  simp [sts]

end Go.Proofs.Ytcahadkkjfijfaa

/- The retire package: Apply, Stored, the document's own; the statements RetireSteps and RetireZero. -/
set_option linter.unusedVariables false
set_option linter.unusedSimpArgs false
namespace Go.Proofs.Ytcahadkkjfijfaa
open Go.RowKit

theorem Bel.setRow {a w : World} (h : Bel a w) {g : Nat} (hg : a.heap.size ≤ g) (cs : Array Value) : Bel a (w.setRow g cs) := by
  refine ⟨h.os, h.tape, h.output, Nat.le_trans h.size (by rw [size_setRow]; exact Nat.le_refl _), fun i hi => ?_⟩
  rw [setRow_other w g i cs (by omega)]
  exact h.block i hi
theorem info32 : (Try.prog.info? 23).map (·.size) = some 32 := by kernel_rfl
theorem info32' {R : Array Value} (h : R.size = 32) : (Try.prog.info? 23).map (·.size) = some R.size := by rw [h]; exact info32
theorem heap3 (w : World) (A B C : Obj) : (((w.alloc A).alloc B).alloc C).heap[w.heap.size]? = some A := by
  rw [Below.heap_alloc _ C _ (by simp; omega), Below.heap_alloc _ B _ (by simp)]
  exact heap_alloc_new w A
theorem heap3' (w : World) (A B C : Obj) : (((w.alloc A).alloc B).alloc C).heap[w.heap.size + 1 + 1]? = some C := by
  have := heap_alloc_new ((w.alloc A).alloc B) C
  simpa using this
theorem u32v_one (l : List Nat) : (u32v l).toArray.all (·.oneCell') = true := by
  rw [Array.all_eq_true_iff_forall_mem]
  intro u hu
  simp only [u32v, List.mem_toArray, List.mem_map] at hu
  obtain ⟨x, _, rfl⟩ := hu
  rfl
/-- thirty-two zeros -/
def zeros32 : Array Value := #[.int .u32 0, .int .u32 0, .int .u32 0, .int .u32 0, .int .u32 0, .int .u32 0, .int .u32 0, .int .u32 0, .int .u32 0, .int .u32 0, .int .u32 0, .int .u32 0, .int .u32 0, .int .u32 0, .int .u32 0, .int .u32 0, .int .u32 0, .int .u32 0, .int .u32 0, .int .u32 0, .int .u32 0, .int .u32 0, .int .u32 0, .int .u32 0, .int .u32 0, .int .u32 0, .int .u32 0, .int .u32 0, .int .u32 0, .int .u32 0, .int .u32 0, .int .u32 0]

theorem set_sz {l : List Nat} (hl : l.length = 32) (k : Nat) (u : Value) : ((u32v l).set k u).toArray.size = 32 := by simp [u32v_len, hl]
theorem u32v_sz {l : List Nat} (hl : l.length = 32) : (u32v l).toArray.size = 32 := by simp [u32v_len, hl]
theorem set_one {l : List Nat} (k x : Nat) : ((u32v l).set k (.int .u32 (x : Int))).toArray.all (·.oneCell') = true := by rw [u32v_set]; exact u32v_one _

set_option maxHeartbeats 400000 in
set_option maxRecDepth 100000 in
theorem Apply_yes (l : List Nat) (s : Stp) (w : World) (hl : l.length = 32) (h1 : 1 ≤ s.rd) (h2 : s.rd ≤ 31) (h3 : s.halt = 0) :
    Calls Try.prog 19 #[.agg (u32v l).toArray, s.val] w fun e w' => e = .returned (.agg (u32v (l.set s.rd.toNat s.value)).toArray) ∧ Bel w w' := by
  have b3 : (s.halt == 0) = true := by simp [h3]
  have hk : (u32v l)[s.rd.toNat]? = some (.int .u32 ((l[s.rd.toNat]'(by omega) : Nat) : Int)) := u32v_at (by omega)
  have SZ := set_sz hl s.rd.toNat (.int .u32 (s.value : Int))
  have ONE := set_one (l := l) s.rd.toNat s.value
  clear h3
  unfold Stp.val
  go_enter Try.func19, Try.ntmps19
  go_upto_region 3 with (fail)
  go_wp2_with (refine wpList_load_row rfl 23 (.tmp 2) (by rfl) w.heap.size (by rfl) 23 _ (0, 0) _ (heap3 _ _ _ _) Try.underlying23 rfl (info32' SZ) ?_; refine wpList_store_row rfl 23 (.tmp 4) (.tmp 23) (by rfl) (w.heap.size + 1 + 1) _ (by rfl) (by rfl) 23 _ (heap3' _ _ _ _) (info32' SZ) SZ.symm ONE ?_)
  refine bodyPost_ret (v := .agg _) (results_cell_row rfl _ _ (w.heap.size + 1 + 1) 23 _ (0, 0) _ (by rfl) (setRow_heap _ _ _ _ _ _ (heap3' _ _ _ _)) Try.underlying23 rfl (info32' SZ)) rfl ⟨?_, ?_⟩
  · rw [u32v_set]
  · exact (((Bel.alloc w _).trans (Bel.alloc _ _)).trans (Bel.alloc _ _)).setRow (by omega) _
set_option maxHeartbeats 400000 in
set_option maxRecDepth 100000 in
theorem Apply_no (l : List Nat) (s : Stp) (w : World) (hl : l.length = 32) (h : ¬ (1 ≤ s.rd ∧ s.rd ≤ 31 ∧ s.halt = 0)) :
    Calls Try.prog 19 #[.agg (u32v l).toArray, s.val] w fun e w' => e = .returned (.agg (u32v l).toArray) ∧ Bel w w' := by
  have SZ := u32v_sz hl
  have ONE := u32v_one l
  have key : ∀ Q : Prop, (¬ 1 ≤ s.rd → Q) → (1 ≤ s.rd → ¬ s.rd ≤ 31 → Q) → (1 ≤ s.rd → s.rd ≤ 31 → (s.halt == 0) = false → Q) → Q := by
    intro Q a b c
    by_cases h1 : 1 ≤ s.rd
    · by_cases h2 : s.rd ≤ 31
      · exact c h1 h2 (by simpa using fun h3 => h ⟨h1, h2, h3⟩)
      · exact b h1 h2
    · exact a h1
  clear h
  unfold Stp.val
  refine key _ (fun h1 => ?_) (fun h1 h2 => ?_) (fun h1 h2 h3 => ?_)
  all_goals
    clear key
    go_enter Try.func19, Try.ntmps19
    go_upto_region 3 with (fail)
    go_wp2_with (refine wpList_load_row rfl 23 (.tmp 2) (by rfl) w.heap.size (by rfl) 23 _ (0, 0) _ (heap3 _ _ _ _) Try.underlying23 rfl (info32' SZ) ?_; refine wpList_store_row rfl 23 (.tmp 4) (.tmp 23) (by rfl) (w.heap.size + 1 + 1) _ (by rfl) (by rfl) 23 _ (heap3' _ _ _ _) (info32' SZ) SZ.symm ONE ?_)
    refine bodyPost_ret (v := .agg _) (results_cell_row rfl _ _ (w.heap.size + 1 + 1) 23 _ (0, 0) _ (by rfl) (setRow_heap _ _ _ _ _ _ (heap3' _ _ _ _)) Try.underlying23 rfl (info32' SZ)) rfl ⟨rfl, ?_⟩
    exact (((Bel.alloc w _).trans (Bel.alloc _ _)).trans (Bel.alloc _ _)).setRow (by omega) _

/-- the reference's world within its loop -/
structure AW (w wr : World) (R : Array Value) (s : Stp) : Prop where
  bel : Bel w wr
  h1 : wr.heap[w.heap.size + 1]? = some (.cells s.cells.toArray 25 (0, 0))
  h2 : wr.heap[w.heap.size + 1 + 1]? = some (.cells zeros32 23 (0, 0))
  h3 : wr.heap[w.heap.size + 1 + 1 + 1]? = some (.cells R 23 (0, 0))
theorem AW.set_ {w wr : World} {R : Array Value} {s : Stp} (h : AW w wr R s) (k : Nat) (u : Value) : AW w (wr.setCell ⟨w.heap.size + 1 + 1 + 1, k, none⟩ u) (R.setIfInBounds k u) s :=
  ⟨h.bel.setCell (by simp; omega) u, (heap_setCell_other _ _ _ _ (by simp)).trans h.h1, (heap_setCell_other _ _ _ _ (by simp)).trans h.h2, heap_setCell_same _ _ _ _ _ _ h.h3⟩
theorem AW.cells {w wr : World} {R : Array Value} {s : Stp} (h : AW w wr R s) : wr.cell? ⟨w.heap.size + 1, 2, none⟩ = some (.int .i64 s.rd) ∧ wr.cell? ⟨w.heap.size + 1, 3, none⟩ = some (.int .u32 (s.value : Int)) ∧ wr.cell? ⟨w.heap.size + 1, 7, none⟩ = some (.int .i64 s.halt) := by
  refine ⟨?_, ?_, ?_⟩ <;> rw [cell_of_row _ _ _ _ _ _ h.h1] <;> rfl
theorem heap4 (w : World) (A B C D : Obj) : (∃ W, W = (((w.alloc A).alloc B).alloc C).alloc D ∧ W.heap[w.heap.size + 1]? = some B ∧ W.heap[w.heap.size + 1 + 1]? = some C ∧ W.heap[w.heap.size + 1 + 1 + 1]? = some D ∧ Bel w W) := by
  refine ⟨_, rfl, ?_, ?_, ?_, (((Bel.alloc w _).trans (Bel.alloc _ _)).trans (Bel.alloc _ _)).trans (Bel.alloc _ _)⟩
  · rw [Below.heap_alloc _ D _ (by simp), Below.heap_alloc _ C _ (by simp)]
    simpa using heap_alloc_new (w.alloc A) B
  · rw [Below.heap_alloc _ D _ (by simp)]
    exact heap3' w A B C
  · simpa using heap_alloc_new (((w.alloc A).alloc B).alloc C) D
theorem AW.start (w : World) (A : Obj) (s : Stp) (R : Array Value) (Z : Array Value) : AW w (((((w.alloc A).alloc (.cells s.cells.toArray 25)).alloc (.cells zeros32 23)).alloc (.cells Z 23)).setRow (w.heap.size + 1 + 1 + 1) R) R s := by
  obtain ⟨W, e, h1, h2, h3, hb⟩ := heap4 w A (.cells s.cells.toArray 25) (.cells zeros32 23) (.cells Z 23)
  rw [← e]
  exact ⟨hb.setRow (by omega) _, (setRow_other _ _ _ _ (by omega)).trans h1, (setRow_other _ _ _ _ (by omega)).trans h2, setRow_heap _ _ _ _ _ _ h3⟩

theorem heap4' (w : World) (A B C D : Obj) : ((((w.alloc A).alloc B).alloc C).alloc D).heap[w.heap.size + 1 + 1 + 1]? = some D := by
  simpa using heap_alloc_new (((w.alloc A).alloc B).alloc C) D
/-- what the loop has made of the row ahead of round k -/
def rowAt (l : List Nat) (r v k : Nat) : List Nat := if r < k then l.set r v else l
theorem rowAt_len {l : List Nat} (hl : l.length = 32) (r v k : Nat) : (rowAt l r v k).length = 32 := by unfold rowAt; split <;> simp [hl]
theorem rowAt_set {l : List Nat} (r v : Nat) : (u32v (rowAt l r v r)).toArray.setIfInBounds r (.int .u32 (v : Int)) = (u32v (rowAt l r v (r + 1))).toArray := by
  unfold rowAt
  rw [if_neg (by omega), if_pos (by omega), List.setIfInBounds_toArray, u32v_set]
set_option maxHeartbeats 400000 in
set_option maxRecDepth 100000 in
theorem refApply_yes (l : List Nat) (s : Stp) (w : World) (hl : l.length = 32) (h1 : 1 ≤ s.rd) (h2 : s.rd ≤ 31) (h3 : s.halt = 0) :
    Calls Try.prog 20 #[.agg (u32v l).toArray, s.val] w fun e w' => e = .returned (.agg (u32v (l.set s.rd.toNat s.value)).toArray) ∧ Bel w w' := by
  have SZ := u32v_sz hl
  have ONE := u32v_one l
  have b3 : (s.halt == 0) = true := by simp [h3]
  clear h3
  obtain ⟨r, hr⟩ := Int.eq_ofNat_of_zero_le (show 0 ≤ s.rd by omega)
  have hr1 : 1 ≤ r := by omega
  have hr2 : r ≤ 31 := by omega
  have Hr := Lib.hid hr
  clear hr h1 h2
  have hst := fun A Z => AW.start w A s (u32v l).toArray Z
  have Hst := Lib.hid hst
  clear hst
  unfold Stp.val
  go_enter Try.func20, Try.ntmps20
  go_upto_region 1 with (fail)
  go_wp2_with (first | (refine wpList_load_row rfl 23 (.tmp 2) (by rfl) w.heap.size (by rfl) 23 (u32v l).toArray (0, 0) _ ?_ Try.underlying23 rfl ?_ ?_; exact heap3 _ _ _ _; exact info32' SZ) | (refine wpList_store_row rfl 23 (.tmp 5) (.tmp 7) (by rfl) (w.heap.size + 1 + 1 + 1) _ (by rfl) (by rfl) 23 zeros32 ?_ ?_ ?_ ?_ ?_; exact heap4' _ _ _ _ _; exact info32' SZ; exact SZ.symm; exact ONE))
  go_loopw [6] (fun i wr => ∃ k : Nat, 1 ≤ k ∧ k ≤ 32 ∧ i = .int .i64 (k : Int) ∧ AW w wr (u32v (rowAt l r s.value k)).toArray s) (fun i _ => 32 - (intOf i).toNat)
  case atStart =>
    refine ⟨1, by omega, by omega, rfl, ?_⟩
    trace "B"
    rw [rowAt, if_neg (by omega)]
    trace "C"
    exact Hst.out _ _
  case round =>
    obtain ⟨k, hk1, hk2, rfl, haw⟩ := hrel
    replace haw := Lib.hid haw
    trace "D"
    obtain ⟨c2, c3, c7⟩ := haw.out.cells
    rw [Hr.out] at c2
    have lk := rowAt_len hl r s.value k
    have SZ2 := u32v_sz lk
    have ONE2 := u32v_one (rowAt l r s.value k)
    by_cases hkn : k < 32
    · obtain ⟨u, hc⟩ : ∃ u : Nat, wr.cell? ⟨w.heap.size + 1 + 1 + 1, k, none⟩ = some (.int .u32 (u : Int)) := by
        refine ⟨(rowAt l r s.value k)[k]'(by omega), ?_⟩
        rw [cell_of_row _ _ _ _ _ _ haw.out.h3]
        simpa using u32v_at (l := rowAt l r s.value k) (k := k) (by omega)
      have hf : wr.frozen? ⟨w.heap.size + 1 + 1 + 1, k, none⟩ = false := frozen_of_row _ _ _ _ _ haw.out.h3
      by_cases hkr : k = r
      · have b1 : ((k : Int) == (r : Int)) = true := by simp [hkr]
        have haw2 := haw.out.set_ k (.int .u32 (s.value : Int))
        subst hkr
        rw [rowAt_set] at haw2
        replace haw2 := Lib.hid haw2
        clear lk SZ2 ONE2
        go_wp2
        go_roundw
        case rel => exact ⟨k + 1, by omega, by omega, by go_num, haw2.out⟩
        case measure => first | (simp [intOf]; done) | (simp [intOf]; omega)
      · have b1 : ((k : Int) == (r : Int)) = false := by rw [beq_eq_false_iff_ne]; omega
        have haw2 := haw.out
        rw [show rowAt l r s.value k = rowAt l r s.value (k + 1) by unfold rowAt; by_cases h : r < k; · rw [if_pos h, if_pos (by omega)]
                                                                    · rw [if_neg h, if_neg (by omega)]] at haw2
        replace haw2 := Lib.hid haw2
        clear lk SZ2 ONE2 hkr
        go_wp2
        go_roundw
        case rel => exact ⟨k + 1, by omega, by omega, by go_num, haw2.out⟩
        case measure => first | (simp [intOf]; done) | (simp [intOf]; omega)
    · obtain rfl : k = 32 := by omega
      have e32 : rowAt l r s.value 32 = l.set s.rd.toNat s.value := by rw [rowAt, if_pos (by omega), Hr.out]; rfl
      replace e32 := Lib.hid e32
      go_upto_region 7 with (fail)
      go_wp2_with (refine wpList_load_row rfl 23 (.tmp 5) (by rfl) (w.heap.size + 1 + 1 + 1) (by rfl) 23 _ (0, 0) _ haw.out.h3 Try.underlying23 rfl (info32' SZ2) ?_; refine wpList_store_row rfl 23 (.tmp 4) (.tmp 25) (by rfl) (w.heap.size + 1 + 1) _ (by rfl) (by rfl) 23 _ haw.out.h2 (info32' SZ2) SZ2.symm ONE2 ?_)
      refine bodyPost_ret (v := .agg _) (results_cell_row rfl _ _ (w.heap.size + 1 + 1) 23 _ (0, 0) _ (by rfl) (setRow_heap _ _ _ _ _ _ haw.out.h2) Try.underlying23 rfl (info32' SZ2)) rfl ⟨?_, ?_⟩
      · rw [e32.out]
      · exact haw.out.bel.setRow (by omega) _

end Go.Proofs.Ytcahadkkjfijfaa

/- retire: the statements' alive. -/
set_option linter.unusedVariables false
set_option linter.unusedSimpArgs false
set_option maxRecDepth 100000
namespace Go.Proofs.Ytcahadkkjfijfaa
open Go.RowKit

def after5 : List Nat := (List.replicate 32 0).set 1 5
theorem after5_len : after5.length = 32 := by simp [after5]
def one5 : Stp := ⟨0, 0, 1, 5, 0, 0, false, 0, 0⟩
set_option maxHeartbeats 4000000 in
theorem alive20_any (w : World) :
    Calls Try.prog 18 #[] w fun e w' => e = .returned (.bool true) ∧ Bel w w' := by
  have ha : ∀ W, Calls Try.prog 19 #[.agg (u32v (List.replicate 32 0)).toArray, one5.val] W fun e w' => e = .returned (.agg (u32v after5).toArray) ∧ Bel W w' := fun W => Apply_yes (List.replicate 32 0) one5 W (by simp) (by decide) (by decide) rfl
  have HA := Lib.hid ha
  clear ha
  go_enter Try.func18, Try.ntmps18
  go_wp2_with (first | (go_at_call 19; refine (HA.out _).mono ?_; rintro e w1 ⟨rfl, hb1⟩) | (refine wpList_store_row rfl 23 (.tmp 1) (.tmp 4) (by rfl) w1.heap.size _ (by rfl) (by rfl) 23 zeros32 ?_ ?_ ?_ ?_ ?_; exact heap_alloc_new _ _; exact info32' (u32v_sz after5_len); exact (u32v_sz after5_len).symm; exact u32v_one _; have hcell : ((w1.alloc (.cells zeros32 23)).setRow w1.heap.size (u32v after5).toArray).cell? ⟨w1.heap.size, 1, none⟩ = some (.int .u32 5) := cell_setRow_same _ _ _ _ _ _ _ (heap_alloc_new _ _); unfold zeros32 at hcell))
  go_ret
  exact ⟨rfl, (hb1.trans (Bel.alloc _ _)).setRow hb1.size _⟩

end Go.Proofs.Ytcahadkkjfijfaa

/- Arguments of type api.Way, and slices of it, opened to what the walks ask. -/
set_option linter.unusedVariables false
set_option linter.unusedSimpArgs false
set_option maxRecDepth 100000
namespace Go.Proofs.Ytcahadkkjfijfaa
open Go.RowKit Go.ChangeShapes Go.WideShapes Go.ChangeAt Go.Deep

def WyFit (r : Wy) : Prop := r.line < 4294967296 ∧ True ∧ r.data.size ≤ maxLen

theorem wys_struct : ∃ f0 f1 f2 : Field, Try.prog.underlying 49 = some (.struct #[f0, f1, f2]) ∧ (f0.offset = 0 ∧ Try.prog.cellsOf f0.type = 1 ∧ Try.prog.underlying f0.type = some (.int .u32)) ∧ (f1.offset = 1 ∧ Try.prog.cellsOf f1.type = 1 ∧ Try.prog.underlying f1.type = some .bool) ∧ (f2.offset = 2 ∧ Try.prog.cellsOf f2.type = 1 ∧ Try.prog.underlying f2.type = some .string) := by
  refine ⟨_, _, _, Try.underlying49, ⟨?_, ?_, ?_⟩, ⟨?_, ?_, ?_⟩, ⟨?_, ?_, ?_⟩⟩ <;> kernel_rfl

theorem open_wys1 {H : Type} {enc : TypeId × Value → H} {W : World} {base fuel : Nat} {spare : Nat → Bool} {held : Bool} {cs : List Value} {x : DataW H × List MemPlace} (h : DataW.trod enc Try.prog W base spare held fuel 49 cs = some x) :
    ∃ r : Wy, cs = r.cells ∧ WyFit r := by
  obtain ⟨f0, f1, f2, hu, ⟨o0, k0, u0⟩, ⟨o1, k1, u1⟩, ⟨o2, k2, u2⟩⟩ := wys_struct
  obtain ⟨ys, n, _, _, hl, hyl, hf⟩ := DataW.trod_struct hu h
  have hl3 : cs.length = 3 := hl.trans (by kernel_rfl)
  match cs, hl3 with
  | [a0, a1, a2], _ =>
    match ys, hyl with
    | [y0, y1, y2], _ =>
      have g0 := hf 0 f0 rfl
      have g1 := hf 1 f1 rfl
      have g2 := hf 2 f2 rfl
      rw [o0, k0] at g0
      rw [o1, k1] at g1
      rw [o2, k2] at g2
      obtain ⟨n0, e0, _, w0⟩ := DataW.trod_int u0 g0
      have b0 := bounds_u32 w0
      obtain ⟨m0, rfl⟩ := Int.eq_ofNat_of_zero_le b0.1
      obtain ⟨n1, e1, _⟩ := DataW.trod_bool u1 g1
      obtain ⟨n2, e2, _, w2⟩ := DataW.trod_string u2 g2
      simp at e0 e1 e2
      subst e0
      subst e1
      subst e2
      exact ⟨⟨m0, n1, n2⟩, rfl, (show m0 < 4294967296 by omega), trivial, w2⟩

theorem open_wysv {H : Type} {enc : TypeId × Value → H} {W : World} {base : Nat} {v : Value} {d : DataW H} {p : List MemPlace}
    (hv : Value.okWide Try.prog W .any base 49 v) (h : DataW.Trod enc Try.prog W 0 (fun _ => true) true 49 v d p) : ∃ r : Wy, v = r.val ∧ WyFit r := by
  obtain ⟨f0, f1, f2, hu, _⟩ := wys_struct
  obtain ⟨cs, rfl, _⟩ := okWide_struct hu hv
  obtain ⟨fuel, hf⟩ := h
  obtain ⟨r, e, hr⟩ := open_wys1 hf
  refine ⟨r, ?_, hr⟩
  have e' : cs.toList = r.cells := e
  have : cs = r.cells.toArray := by rw [← e']
  rw [this]; rfl

theorem an_wys (g o j : Nat) : (⟨g, o, none⟩ : Addr).add j = ⟨g, o + j, none⟩ := by unfold Addr.add; split <;> simp_all
theorem open_wys0 {H : Type} {enc : TypeId × Value → H} {W : World} {fuel : Nat} {T : TypeId} {cs : List Value} {x : DataW H × List MemPlace} (hT : Try.prog.underlying T = some (.slice 49))
    (hf : DataW.trod enc Try.prog W 0 (fun _ => true) true fuel T cs = some x) :
    ∃ A n c, ∃ q : List Wy, cs = [.slice A n c] ∧ Rd W W.heap.size 3 A n c (wys q) ∧ ∀ r ∈ q, WyFit r := by
  have hC : Try.prog.cellsOf 49 = 3 := by kernel_rfl
  rcases open_slice hT hf with ⟨rfl, _⟩ | ⟨a, l, cc, m, f, D, Pl, rfl, _, hl, hm, hmm, _, hi⟩
  · exact ⟨none, 0, 0, [], rfl, Rd.nil (Nat.zero_le _), by simp⟩
  · have hmm' : m = cc := by simpa using hmm
    subst hmm'
    rw [hC] at hi
    have hq : ∀ i : Fin l, ∃ r : Wy, WyFit r ∧ ∀ j < 3, W.cell? ((a.add (i.1 * 3)).add j) = r.cells[j]? := by
      intro i
      obtain ⟨cs', hc, ht⟩ := hi i.1 (by omega)
      obtain ⟨r, rfl, hr⟩ := open_wys1 ht
      obtain ⟨_, hcl, hat⟩ := World.cells?_some hc
      exact ⟨r, hr, fun j hj => hat j hj⟩
    let g := fun i : Fin l => Classical.choose (hq i)
    have hg : ∀ i, WyFit (g i) ∧ ∀ j < 3, W.cell? ((a.add (i.1 * 3)).add j) = (g i).cells[j]? := fun i => Classical.choose_spec (hq i)
    refine ⟨some a, l, m, List.ofFn g, rfl, ⟨by rw [wys_len, List.length_ofFn], hl, hm, fun hn => ?_⟩, ?_⟩
    · obtain ⟨b, o, spot⟩ := a
      have h0 := (hg ⟨0, hn⟩).2 0 (by omega)
      have hs : ∃ v0, W.cell? ⟨b, o, spot⟩ = some v0 := by
        have : ((⟨b, o, spot⟩ : Addr).add (0 * 3)).add 0 = ⟨b, o, spot⟩ := by unfold Addr.add; cases spot <;> simp
        rw [this] at h0
        exact ⟨_, h0⟩
      obtain ⟨v0, h0'⟩ := hs
      have hs : spot = none := World.cell?_spot h0'
      subst hs
      refine ⟨b, o, rfl, World.block_lt_of_cell? W _ h0', fun j u hu => ?_⟩
      have hj := (List.getElem?_eq_some_iff.1 hu).1
      rw [wys_len, List.length_ofFn] at hj
      have hk : j / 3 < l := by omega
      have hr := wys_at (q := List.ofFn g) (k := j / 3) (by rw [List.length_ofFn]; exact hk) (j % 3) (by omega)
      rw [show j / 3 * 3 + j % 3 = j by omega, hu, List.getElem_ofFn] at hr
      have h1 := (hg ⟨j / 3, hk⟩).2 (j % 3) (by omega)
      have e1 : ((⟨b, o, none⟩ : Addr).add ((j / 3) * 3)).add (j % 3) = ⟨b, o + j, none⟩ := by
        have e2 : o + j / 3 * 3 + j % 3 = o + j := by omega
        rw [an_wys, an_wys, e2]
      rw [e1] at h1
      rw [h1, hr]
    · intro r hr
      simp only [List.mem_ofFn] at hr
      obtain ⟨i, rfl⟩ := hr
      exact (hg i).1

theorem open_wys {H : Type} {enc : TypeId × Value → H} {W : World} {base : Nat} {v : Value} {d : DataW H} {p : List MemPlace} {T : TypeId} (hT : Try.prog.underlying T = some (.slice 49))
    (hv : Value.okWide Try.prog W .any base T v) (h : DataW.Trod enc Try.prog W 0 (fun _ => true) true T v d p) :
    ∃ A n c, ∃ q : List Wy, v = .slice A n c ∧ Rd W W.heap.size 3 A n c (wys q) ∧ ∀ r ∈ q, WyFit r := by
  obtain ⟨A, n, c, rfl⟩ := okWide_slice hT hv
  obtain ⟨fuel, hf⟩ := h
  have hf' : DataW.trod enc Try.prog W 0 (fun _ => true) true fuel T [.slice A n c] = _ := hf
  obtain ⟨A', n', c', q, e, hr, hq⟩ := open_wys0 hT hf'
  injection e with e _
  injection e with e1 e2 e3
  subst e1 e2 e3
  exact ⟨A, n, c, q, rfl, hr, hq⟩

end Go.Proofs.Ytcahadkkjfijfaa

/- Arguments of type api.Cache, opened. -/
set_option linter.unusedVariables false
set_option linter.unusedSimpArgs false
set_option maxRecDepth 100000
namespace Go.Proofs.Ytcahadkkjfijfaa
open Go.RowKit Go.ChangeShapes Go.WideShapes Go.ChangeAt Go.Deep

theorem open_css0 {H : Type} {enc : TypeId × Value → H} {W : World} {fuel : Nat} {T : TypeId} {cs : List Value} {x : DataW H × List MemPlace} (hT : Try.prog.underlying T = some (.slice 62))
    (hf : DataW.trod enc Try.prog W 0 (fun _ => true) true fuel T cs = some x) :
    ∃ A n c, ∃ S : List Cs, cs = [.slice A n c] ∧ RdS W W.heap.size A n c S ∧ SOk S := by
  have hC : Try.prog.cellsOf 62 = 1 := by kernel_rfl
  rcases open_slice hT hf with ⟨rfl, _⟩ | ⟨a, l, cc, m, f, D, Pl, rfl, _, hl, hm, hmm, _, hi⟩
  · exact ⟨none, 0, 0, [], rfl, RdS.nil (Nat.zero_le _), fun s hs => by cases hs⟩
  · have hmm' : m = cc := by simpa using hmm
    subst hmm'
    rw [hC] at hi
    have hq : ∀ i : Fin l, ∃ s : Cs, Rd W W.heap.size 3 s.A s.n s.c (wys s.ws) ∧ (∀ r ∈ s.ws, WyFit r) ∧ W.cell? (a.add i.1) = some s.val := by
      intro i
      obtain ⟨cs', hc, ht⟩ := hi i.1 (by omega)
      obtain ⟨A, n, c, q, rfl, hr, hq⟩ := open_wys0 Try.underlying62 ht
      obtain ⟨_, hcl, hat⟩ := World.cells?_some hc
      refine ⟨⟨A, n, c, q⟩, hr, hq, ?_⟩
      have := hat 0 (by omega)
      rw [Nat.mul_one] at this
      have e : (a.add i.1).add 0 = a.add i.1 := by unfold Addr.add; simp
      rw [e] at this
      exact this
    let g := fun i : Fin l => Classical.choose (hq i)
    have hg : ∀ i, Rd W W.heap.size 3 (g i).A (g i).n (g i).c (wys (g i).ws) ∧ (∀ r ∈ (g i).ws, WyFit r) ∧ W.cell? (a.add i.1) = some (g i).val := fun i => Classical.choose_spec (hq i)
    refine ⟨some a, l, m, List.ofFn g, rfl, ⟨⟨by rw [csv_len, List.length_ofFn, Nat.mul_one], hl, hm, fun hn => ?_⟩, ?_⟩, ?_⟩
    · obtain ⟨b, o, spot⟩ := a
      have h0 := (hg ⟨0, hn⟩).2.2
      have hs : ∃ v0, W.cell? ⟨b, o, spot⟩ = some v0 := by
        have : (⟨b, o, spot⟩ : Addr).add 0 = ⟨b, o, spot⟩ := by unfold Addr.add; simp
        rw [this] at h0
        exact ⟨_, h0⟩
      obtain ⟨v0, h0'⟩ := hs
      have hs : spot = none := World.cell?_spot h0'
      subst hs
      refine ⟨b, o, rfl, World.block_lt_of_cell? W _ h0', fun j u hu => ?_⟩
      have hj := (List.getElem?_eq_some_iff.1 hu).1
      rw [csv_len, List.length_ofFn] at hj
      rw [csv_at (by rw [List.length_ofFn]; exact hj), List.getElem_ofFn] at hu
      have h1 := (hg ⟨j, hj⟩).2.2
      rw [an_wys] at h1
      rw [h1]; exact hu
    · intro s hs
      simp only [List.mem_ofFn] at hs
      obtain ⟨i, rfl⟩ := hs
      exact (hg i).1
    · intro s hs v hv
      simp only [List.mem_ofFn] at hs
      obtain ⟨i, rfl⟩ := hs
      exact ⟨((hg i).2.1 v hv).1, ((hg i).2.1 v hv).2.2⟩

theorem cache_struct : ∃ f0 f1 : Field, Try.prog.underlying 36 = some (.struct #[f0, f1]) ∧ (f0.offset = 0 ∧ Try.prog.cellsOf f0.type = 1 ∧ Try.prog.underlying f0.type = some (.int .i64)) ∧ (f1.offset = 1 ∧ Try.prog.cellsOf f1.type = 1 ∧ Try.prog.underlying f1.type = some (.slice 62)) := by
  refine ⟨_, _, Try.underlying36, ⟨?_, ?_, ?_⟩, ⟨?_, ?_, ?_⟩⟩ <;> kernel_rfl

theorem open_cache {H : Type} {enc : TypeId × Value → H} {W : World} {base : Nat} {v : Value} {d : DataW H} {p : List MemPlace}
    (hv : Value.okWide Try.prog W .any base 36 v) (h : DataW.Trod enc Try.prog W 0 (fun _ => true) true 36 v d p) :
    ∃ (ways : Int) (A : Option Addr) (n c : Nat) (S : List Cs), v = .agg #[.int .i64 ways, .slice A n c] ∧ RdS W W.heap.size A n c S ∧ SOk S ∧ (-9223372036854775808 ≤ ways ∧ ways ≤ 9223372036854775807) := by
  obtain ⟨f0, f1, hu, ⟨o0, k0, u0⟩, ⟨o1, k1, u1⟩⟩ := cache_struct
  obtain ⟨cs, rfl, hsz⟩ := okWide_struct hu hv
  obtain ⟨fuel, hf⟩ := h
  obtain ⟨ys, n, _, _, hl, hyl, hg⟩ := DataW.trod_struct hu hf
  have hl2 : cs.toList.length = 2 := hl.trans (by kernel_rfl)
  obtain ⟨l⟩ := cs
  match l, hl2 with
  | [a0, a1], _ =>
    match ys, hyl with
    | [y0, y1], _ =>
      have g0 := hg 0 f0 rfl
      have g1 := hg 1 f1 rfl
      rw [o0, k0] at g0
      rw [o1, k1] at g1
      obtain ⟨n0, e0, _, w0⟩ := DataW.trod_int u0 g0
      obtain ⟨A, n1, c1, S, e1, r1, s1⟩ := open_css0 u1 g1
      have b0 := bounds_i64 w0
      simp [Value.cells] at e0 e1
      subst e0 e1
      exact ⟨n0, A, n1, c1, S, rfl, r1, s1, b0⟩

end Go.Proofs.Ytcahadkkjfijfaa

/- Arguments that are slices of requests, opened to what the walks ask. -/
set_option linter.unusedVariables false
set_option linter.unusedSimpArgs false
set_option maxRecDepth 100000
namespace Go.Proofs.Ytcahadkkjfijfaa
open Go.RowKit Go.ChangeShapes Go.WideShapes Go.ChangeAt Go.Deep

def RqOk (r : Rq) : Prop := (-9223372036854775808 ≤ r.kind ∧ r.kind ≤ 9223372036854775807) ∧ r.line < 4294967296 ∧ (-9223372036854775808 ≤ r.left ∧ r.left ≤ 9223372036854775807) ∧ r.data.size ≤ maxLen

theorem add_none (g o j : Nat) : (⟨g, o, none⟩ : Addr).add j = ⟨g, o + j, none⟩ := by unfold Addr.add; split <;> simp_all

theorem rq_struct : ∃ f0 f1 f2 f3 : Field, Try.prog.underlying 79 = some (.struct #[f0, f1, f2, f3]) ∧ (f0.offset = 0 ∧ Try.prog.cellsOf f0.type = 1 ∧ Try.prog.underlying f0.type = some (.int .i64)) ∧ (f1.offset = 1 ∧ Try.prog.cellsOf f1.type = 1 ∧ Try.prog.underlying f1.type = some (.int .u32)) ∧
    (f2.offset = 2 ∧ Try.prog.cellsOf f2.type = 1 ∧ Try.prog.underlying f2.type = some (.int .i64)) ∧ (f3.offset = 3 ∧ Try.prog.cellsOf f3.type = 1 ∧ Try.prog.underlying f3.type = some .string) := by
  refine ⟨_, _, _, _, Try.underlying79, ⟨?_, ?_, ?_⟩, ⟨?_, ?_, ?_⟩, ⟨?_, ?_, ?_⟩, ⟨?_, ?_, ?_⟩⟩ <;> kernel_rfl

theorem open_rq {H : Type} {enc : TypeId × Value → H} {W : World} {base fuel : Nat} {spare : Nat → Bool} {held : Bool} {cs : List Value} {x : DataW H × List MemPlace} (h : DataW.trod enc Try.prog W base spare held fuel 79 cs = some x) :
    ∃ r : Rq, cs = r.cells ∧ RqOk r := by
  obtain ⟨f0, f1, f2, f3, hu, ⟨o0, k0, u0⟩, ⟨o1, k1, u1⟩, ⟨o2, k2, u2⟩, ⟨o3, k3, u3⟩⟩ := rq_struct
  obtain ⟨ys, n, _, _, hl, hyl, hf⟩ := DataW.trod_struct hu h
  have hl4 : cs.length = 4 := hl.trans (by kernel_rfl)
  match cs, hl4 with
  | [a0, a1, a2, a3], _ =>
    match ys, hyl with
    | [y0, y1, y2, y3], _ =>
      have g0 := hf 0 f0 rfl
      have g1 := hf 1 f1 rfl
      have g2 := hf 2 f2 rfl
      have g3 := hf 3 f3 rfl
      rw [o0, k0] at g0
      rw [o1, k1] at g1
      rw [o2, k2] at g2
      rw [o3, k3] at g3
      obtain ⟨n0, e0, _, w0⟩ := DataW.trod_int u0 g0
      obtain ⟨n1, e1, _, w1⟩ := DataW.trod_int u1 g1
      obtain ⟨n2, e2, _, w2⟩ := DataW.trod_int u2 g2
      obtain ⟨s3, e3, _, w3⟩ := DataW.trod_string u3 g3
      have b0 := bounds_i64 w0
      have b1 := bounds_u32 w1
      have b2 := bounds_i64 w2
      obtain ⟨m1, rfl⟩ := Int.eq_ofNat_of_zero_le b1.1
      simp at e0 e1 e2 e3
      subst e0 e1 e2 e3
      exact ⟨⟨n0, m1, n2, s3⟩, rfl, b0, by show m1 < 4294967296; omega, b2, w3⟩

theorem open_rqs {H : Type} {enc : TypeId × Value → H} {W : World} {base : Nat} {v : Value} {d : DataW H} {p : List MemPlace}
    (hv : Value.okWide Try.prog W .any base 37 v) (h : DataW.Trod enc Try.prog W 0 (fun _ => true) true 37 v d p) :
    ∃ A n c, ∃ q : List Rq, v = .slice A n c ∧ Rd W W.heap.size 4 A n c (rqs q) ∧ ∀ r ∈ q, RqOk r := by
  obtain ⟨A, n, c, rfl⟩ := okWide_slice Try.underlying37 hv
  obtain ⟨fuel, hf⟩ := h
  have hC : Try.prog.cellsOf 79 = 4 := by kernel_rfl
  rcases open_slice Try.underlying37 hf with ⟨hcs, _⟩ | ⟨a, l, cc, m, f, D, Pl, hcs, _, hl, hm, hmm, _, hi⟩
  · simp [Value.cells] at hcs
    obtain ⟨rfl, rfl, rfl⟩ := hcs
    exact ⟨none, 0, 0, [], rfl, Rd.nil (by simp [maxLen]), by simp⟩
  · simp [Value.cells] at hcs
    obtain ⟨rfl, rfl, rfl⟩ := hcs
    have hmm' : m = c := by simpa using hmm
    subst hmm'
    rw [hC] at hi
    have hq : ∀ i : Fin n, ∃ r : Rq, RqOk r ∧ ∀ j < 4, W.cell? ((a.add (i.1 * 4)).add j) = r.cells[j]? := by
      intro i
      obtain ⟨cs', hc, ht⟩ := hi i.1 (by omega)
      obtain ⟨r, rfl, hr⟩ := open_rq ht
      obtain ⟨_, hcl, hat⟩ := World.cells?_some hc
      exact ⟨r, hr, fun j hj => hat j hj⟩
    let g := fun i : Fin n => Classical.choose (hq i)
    have hg : ∀ i, RqOk (g i) ∧ ∀ j < 4, W.cell? ((a.add (i.1 * 4)).add j) = (g i).cells[j]? := fun i => Classical.choose_spec (hq i)
    refine ⟨some a, n, m, List.ofFn g, rfl, ⟨by rw [rqs_len, List.length_ofFn], hl, hm, fun hn => ?_⟩, ?_⟩
    · obtain ⟨b, o, spot⟩ := a
      have h0 := (hg ⟨0, hn⟩).2 0 (by omega)
      have h0' : W.cell? ⟨b, o, spot⟩ = some (.int .i64 (g ⟨0, hn⟩).kind) := by
        have : ((⟨b, o, spot⟩ : Addr).add (0 * 4)).add 0 = ⟨b, o, spot⟩ := by unfold Addr.add; cases spot <;> simp
        rw [this] at h0
        exact h0
      have hs : spot = none := World.cell?_spot h0'
      subst hs
      refine ⟨b, o, rfl, World.block_lt_of_cell? W _ h0', fun j u hu => ?_⟩
      have hj := (List.getElem?_eq_some_iff.1 hu).1
      rw [rqs_len, List.length_ofFn] at hj
      have hk : j / 4 < n := by omega
      have hr := rqs_at (q := List.ofFn g) (k := j / 4) (by rw [List.length_ofFn]; exact hk) (j % 4) (by omega)
      rw [show j / 4 * 4 + j % 4 = j by omega, hu, List.getElem_ofFn] at hr
      have h1 := (hg ⟨j / 4, hk⟩).2 (j % 4) (by omega)
      have e1 : ((⟨b, o, none⟩ : Addr).add ((j / 4) * 4)).add (j % 4) = ⟨b, o + j, none⟩ := by
        have e2 : o + j / 4 * 4 + j % 4 = o + j := by omega
        rw [add_none, add_none, e2]
      rw [e1] at h1
      rw [h1, hr]
    · intro r hr
      simp only [List.mem_ofFn] at hr
      obtain ⟨i, rfl⟩ := hr
      exact (hg i).1

end Go.Proofs.Ytcahadkkjfijfaa

/- Arguments of type api.Put, and slices of it, opened to what the walks ask. -/
set_option linter.unusedVariables false
set_option linter.unusedSimpArgs false
set_option maxRecDepth 100000
namespace Go.Proofs.Ytcahadkkjfijfaa
open Go.RowKit Go.ChangeShapes Go.WideShapes Go.ChangeAt Go.Deep

def PuOk (r : Pu) : Prop := r.addr < 4294967296 ∧ r.data.size ≤ maxLen

theorem pus_struct : ∃ f0 f1 : Field, Try.prog.underlying 27 = some (.struct #[f0, f1]) ∧ (f0.offset = 0 ∧ Try.prog.cellsOf f0.type = 1 ∧ Try.prog.underlying f0.type = some (.int .u32)) ∧ (f1.offset = 1 ∧ Try.prog.cellsOf f1.type = 1 ∧ Try.prog.underlying f1.type = some .string) := by
  refine ⟨_, _, Try.underlying27, ⟨?_, ?_, ?_⟩, ⟨?_, ?_, ?_⟩⟩ <;> kernel_rfl

theorem open_pus1 {H : Type} {enc : TypeId × Value → H} {W : World} {base fuel : Nat} {spare : Nat → Bool} {held : Bool} {cs : List Value} {x : DataW H × List MemPlace} (h : DataW.trod enc Try.prog W base spare held fuel 27 cs = some x) :
    ∃ r : Pu, cs = r.cells ∧ PuOk r := by
  obtain ⟨f0, f1, hu, ⟨o0, k0, u0⟩, ⟨o1, k1, u1⟩⟩ := pus_struct
  obtain ⟨ys, n, _, _, hl, hyl, hf⟩ := DataW.trod_struct hu h
  have hl2 : cs.length = 2 := hl.trans (by kernel_rfl)
  match cs, hl2 with
  | [a0, a1], _ =>
    match ys, hyl with
    | [y0, y1], _ =>
      have g0 := hf 0 f0 rfl
      have g1 := hf 1 f1 rfl
      rw [o0, k0] at g0
      rw [o1, k1] at g1
      obtain ⟨n0, e0, _, w0⟩ := DataW.trod_int u0 g0
      have b0 := bounds_u32 w0
      obtain ⟨m0, rfl⟩ := Int.eq_ofNat_of_zero_le b0.1
      obtain ⟨n1, e1, _, w1⟩ := DataW.trod_string u1 g1
      simp at e0 e1
      subst e0
      subst e1
      exact ⟨⟨m0, n1⟩, rfl, (show m0 < 4294967296 by omega), w1⟩

theorem open_pusv {H : Type} {enc : TypeId × Value → H} {W : World} {base : Nat} {v : Value} {d : DataW H} {p : List MemPlace}
    (hv : Value.okWide Try.prog W .any base 27 v) (h : DataW.Trod enc Try.prog W 0 (fun _ => true) true 27 v d p) : ∃ r : Pu, v = r.val ∧ PuOk r := by
  obtain ⟨f0, f1, hu, _⟩ := pus_struct
  obtain ⟨cs, rfl, _⟩ := okWide_struct hu hv
  obtain ⟨fuel, hf⟩ := h
  obtain ⟨r, e, hr⟩ := open_pus1 hf
  refine ⟨r, ?_, hr⟩
  have e' : cs.toList = r.cells := e
  have : cs = r.cells.toArray := by rw [← e']
  rw [this]; rfl

theorem an_pus (g o j : Nat) : (⟨g, o, none⟩ : Addr).add j = ⟨g, o + j, none⟩ := by unfold Addr.add; split <;> simp_all
theorem open_pus0 {H : Type} {enc : TypeId × Value → H} {W : World} {fuel : Nat} {T : TypeId} {cs : List Value} {x : DataW H × List MemPlace} (hT : Try.prog.underlying T = some (.slice 27))
    (hf : DataW.trod enc Try.prog W 0 (fun _ => true) true fuel T cs = some x) :
    ∃ A n c, ∃ q : List Pu, cs = [.slice A n c] ∧ Rd W W.heap.size 2 A n c (pus q) ∧ ∀ r ∈ q, PuOk r := by
  have hC : Try.prog.cellsOf 27 = 2 := by kernel_rfl
  rcases open_slice hT hf with ⟨rfl, _⟩ | ⟨a, l, cc, m, f, D, Pl, rfl, _, hl, hm, hmm, _, hi⟩
  · exact ⟨none, 0, 0, [], rfl, Rd.nil (Nat.zero_le _), by simp⟩
  · have hmm' : m = cc := by simpa using hmm
    subst hmm'
    rw [hC] at hi
    have hq : ∀ i : Fin l, ∃ r : Pu, PuOk r ∧ ∀ j < 2, W.cell? ((a.add (i.1 * 2)).add j) = r.cells[j]? := by
      intro i
      obtain ⟨cs', hc, ht⟩ := hi i.1 (by omega)
      obtain ⟨r, rfl, hr⟩ := open_pus1 ht
      obtain ⟨_, hcl, hat⟩ := World.cells?_some hc
      exact ⟨r, hr, fun j hj => hat j hj⟩
    let g := fun i : Fin l => Classical.choose (hq i)
    have hg : ∀ i, PuOk (g i) ∧ ∀ j < 2, W.cell? ((a.add (i.1 * 2)).add j) = (g i).cells[j]? := fun i => Classical.choose_spec (hq i)
    refine ⟨some a, l, m, List.ofFn g, rfl, ⟨by rw [pus_len, List.length_ofFn], hl, hm, fun hn => ?_⟩, ?_⟩
    · obtain ⟨b, o, spot⟩ := a
      have h0 := (hg ⟨0, hn⟩).2 0 (by omega)
      have hs : ∃ v0, W.cell? ⟨b, o, spot⟩ = some v0 := by
        have : ((⟨b, o, spot⟩ : Addr).add (0 * 2)).add 0 = ⟨b, o, spot⟩ := by unfold Addr.add; cases spot <;> simp
        rw [this] at h0
        exact ⟨_, h0⟩
      obtain ⟨v0, h0'⟩ := hs
      have hs : spot = none := World.cell?_spot h0'
      subst hs
      refine ⟨b, o, rfl, World.block_lt_of_cell? W _ h0', fun j u hu => ?_⟩
      have hj := (List.getElem?_eq_some_iff.1 hu).1
      rw [pus_len, List.length_ofFn] at hj
      have hk : j / 2 < l := by omega
      have hr := pus_at (q := List.ofFn g) (k := j / 2) (by rw [List.length_ofFn]; exact hk) (j % 2) (by omega)
      rw [show j / 2 * 2 + j % 2 = j by omega, hu, List.getElem_ofFn] at hr
      have h1 := (hg ⟨j / 2, hk⟩).2 (j % 2) (by omega)
      have e1 : ((⟨b, o, none⟩ : Addr).add ((j / 2) * 2)).add (j % 2) = ⟨b, o + j, none⟩ := by
        have e2 : o + j / 2 * 2 + j % 2 = o + j := by omega
        rw [an_pus, an_pus, e2]
      rw [e1] at h1
      rw [h1, hr]
    · intro r hr
      simp only [List.mem_ofFn] at hr
      obtain ⟨i, rfl⟩ := hr
      exact (hg i).1

theorem open_pus {H : Type} {enc : TypeId × Value → H} {W : World} {base : Nat} {v : Value} {d : DataW H} {p : List MemPlace} {T : TypeId} (hT : Try.prog.underlying T = some (.slice 27))
    (hv : Value.okWide Try.prog W .any base T v) (h : DataW.Trod enc Try.prog W 0 (fun _ => true) true T v d p) :
    ∃ A n c, ∃ q : List Pu, v = .slice A n c ∧ Rd W W.heap.size 2 A n c (pus q) ∧ ∀ r ∈ q, PuOk r := by
  obtain ⟨A, n, c, rfl⟩ := okWide_slice hT hv
  obtain ⟨fuel, hf⟩ := h
  have hf' : DataW.trod enc Try.prog W 0 (fun _ => true) true fuel T [.slice A n c] = _ := hf
  obtain ⟨A', n', c', q, e, hr, hq⟩ := open_pus0 hT hf'
  injection e with e _
  injection e with e1 e2 e3
  subst e1 e2 e3
  exact ⟨A, n, c, q, rfl, hr, hq⟩

end Go.Proofs.Ytcahadkkjfijfaa
