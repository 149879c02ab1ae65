/- Rows of requests: as lists; the bus package's functions that read them. -/
import Derived.Test.YthjmkmfpabphgaaBk
set_option linter.unusedVariables false
set_option linter.unusedSimpArgs false
namespace Go.Proofs.Ythjmkmfpabphgaa
open Go.RowKit

/-- a request on the bus -/
structure Rq where
  kind : Int
  line : Nat
  left : Int
  data : ByteArray
def Rq.cells (r : Rq) : List Value := [.int .i64 r.kind, .int .u32 (r.line : Int), .int .i64 r.left, .string r.data]
def Rq.val (r : Rq) : Value := .agg #[.int .i64 r.kind, .int .u32 (r.line : Int), .int .i64 r.left, .string r.data]
def rqs (q : List Rq) : List Value := q.flatMap Rq.cells
theorem rqs_len (q : List Rq) : (rqs q).length = q.length * 4 := by
  induction q with
  | nil => rfl
  | cons r q ih =>
    have : rqs (r :: q) = r.cells ++ rqs q := rfl
    rw [this, List.length_append, ih, List.length_cons]
    simp [Rq.cells]; omega
theorem rqs_at {q : List Rq} {k : Nat} (h : k < q.length) (j : Nat) (hj : j < 4) : (rqs q)[k * 4 + j]? = (q[k]'h).cells[j]? := by
  induction q generalizing k with
  | nil => simp at h
  | cons r q ih =>
    have e : rqs (r :: q) = r.cells ++ rqs q := rfl
    have hl : r.cells.length = 4 := rfl
    cases k with
    | zero => rw [e, List.getElem?_append_left (by rw [hl]; omega)]; simp
    | succ k =>
      rw [e, List.getElem?_append_right (by rw [hl]; omega), hl, show (k + 1) * 4 + j - 4 = k * 4 + j by omega, ih (by simpa using h)]
      simp
theorem rqs_one (q : List Rq) : ∀ u ∈ rqs q, u.oneCell' = true := by
  intro u hu
  simp only [rqs, List.mem_flatMap, Rq.cells, List.mem_cons, List.not_mem_nil, or_false] at hu
  obtain ⟨r, _, h⟩ := hu
  rcases h with h | h | h | h <;> subst h <;> rfl
theorem rqs_append (p q : List Rq) : rqs (p ++ q) = rqs p ++ rqs q := by simp [rqs]
theorem rqs_take (q : List Rq) (k : Nat) : (rqs q).take (k * 4) = rqs (q.take k) := by
  induction q generalizing k with
  | nil => simp [rqs]
  | cons r q ih =>
    have e : rqs (r :: q) = r.cells ++ rqs q := rfl
    have hl : r.cells.length = 4 := rfl
    cases k with
    | zero => simp [rqs]
    | succ k =>
      rw [e, List.take_append, hl, show (k + 1) * 4 - 4 = k * 4 by omega, ih, List.take_succ_cons, List.take_of_length_le (by rw [hl]; omega)]
      rfl
theorem rqs_drop (q : List Rq) (k : Nat) : (rqs q).drop (k * 4) = rqs (q.drop k) := by
  induction q generalizing k with
  | nil => simp [rqs]
  | cons r q ih =>
    have e : rqs (r :: q) = r.cells ++ rqs q := rfl
    have hl : r.cells.length = 4 := rfl
    cases k with
    | zero => simp [rqs]
    | succ k =>
      rw [e, List.drop_append, hl, show (k + 1) * 4 - 4 = k * 4 by omega, ih, List.drop_succ_cons, List.drop_of_length_le (by rw [hl]; omega)]
      rfl

/-- what an element's cells hold -/
theorem Rd.rq {w : World} {B n c : Nat} {A : Option Addr} {q : List Rq} (h : Rd w B 4 A n c (rqs q)) {k : Nat} (hk : k < n) :
    ∃ (hl : k < q.length) (g o : Nat), A = some ⟨g, o, none⟩ ∧ g < B ∧ w.cell? ⟨g, o + k * 4, none⟩ = some (.int .i64 q[k].kind) ∧ w.cell? ⟨g, o + k * 4 + 1, none⟩ = some (.int .u32 (q[k].line : Int)) ∧
      w.cell? ⟨g, o + k * 4 + 2, none⟩ = some (.int .i64 q[k].left) ∧ w.cell? ⟨g, o + k * 4 + 3, none⟩ = some (.string q[k].data) := by
  have hn := h.len
  rw [rqs_len] at hn
  have hl : k < q.length := by omega
  obtain ⟨g, o, e, hb, hc⟩ := h.at_ (by omega)
  refine ⟨hl, g, o, e, hb, ?_, ?_, ?_, ?_⟩
  · simpa using hc (k * 4 + 0) _ (rqs_at hl 0 (by omega))
  · simpa [Nat.add_assoc] using hc (k * 4 + 1) _ (rqs_at hl 1 (by omega))
  · simpa [Nat.add_assoc] using hc (k * 4 + 2) _ (rqs_at hl 2 (by omega))
  · simpa [Nat.add_assoc] using hc (k * 4 + 3) _ (rqs_at hl 3 (by omega))

/-- how many requests do not write -/
def readsL : List Rq → Nat
  | [] => 0
  | r :: q => (if r.kind = 4 then 0 else 1) + readsL q
theorem readsL_snoc (q : List Rq) (r : Rq) : readsL (q ++ [r]) = readsL q + if r.kind = 4 then 0 else 1 := by
  induction q with
  | nil => simp [readsL]
  | cons x q ih => simp only [List.cons_append, readsL, ih]; omega
theorem readsL_le (q : List Rq) : readsL q ≤ q.length := by
  induction q with
  | nil => simp [readsL]
  | cons x q ih => simp only [readsL, List.length_cons]; split <;> omega
theorem readsL_append (p q : List Rq) : readsL (p ++ q) = readsL p + readsL q := by
  induction p with
  | nil => simp [readsL]
  | cons x p ih => simp only [List.cons_append, readsL, ih]; omega

theorem Reads_any (A : Option Addr) (n c : Nat) (q : List Rq) (w : World) (hr : Rd w w.heap.size 4 A n c (rqs q)) :
    Calls Try.prog 8 #[.slice A n c] w fun e w' => e = .returned (.int .i64 (readsL q : Int)) ∧ Bel w w' := by
  have hc1 := hr.le
  have hc2 := hr.mx
  unfold maxLen at hc2
  have hn := hr.len
  rw [rqs_len] at hn
  go_enter Try.func8, Try.ntmps8
  go_wp2
  go_loopw [3, 8] (fun m i wr => ∃ k : Nat, k ≤ n ∧ i = .int .i64 (k : Int) ∧ m = .int .i64 (readsL (q.take k) : Int) ∧ Bel w wr) (fun _ i _ => n - (intOf i).toNat)
  case atStart => exact ⟨0, by omega, rfl, rfl, Bel.refl w⟩
  case round =>
    obtain ⟨k, hk, rfl, rfl, hbel⟩ := hrel
    by_cases hkn : k < n
    · obtain ⟨hl, g, o, rfl, hg, c0, c1, c2, c3⟩ := (hr.bel hbel).rq hkn
      have hle := readsL_le (q.take k)
      rw [List.length_take] at hle
      have hb : (readsL (q.take k) : Int) < 9223372036854775807 := by omega
      have hs := readsL_snoc (q.take k) (q[k]'hl)
      rw [← List.take_succ_eq_append_getElem hl] at hs
      by_cases h4 : (q[k]'hl).kind = 4
      · rw [if_pos h4] at hs
        have Hs := Lib.hid hs
        have h5 : ((q[k]'hl).kind != 4) = false := by simp [h4]
        clear hn hs hle h4
        go_wp2
        go_roundw
        case rel => exact ⟨k + 1, by omega, by go_num, by rw [Hs.out]; rfl, hbel.trans (Bel.alloc _ _)⟩
        case measure => first | (simp [intOf]; done) | (simp [intOf]; omega)
      · rw [if_neg h4] at hs
        have Hs := Lib.hid hs
        have h5 : ((q[k]'hl).kind != 4) = true := by simpa using h4
        clear hn hs hle h4
        go_wp2
        go_roundw
        case rel => exact ⟨k + 1, by omega, by go_num, by rw [Hs.out]; go_num, hbel.trans (Bel.alloc _ _)⟩
        case measure => first | (simp [intOf]; done) | (simp [intOf]; omega)
    · obtain rfl : k = n := by omega
      go_wp2
      go_ret
      exact ⟨val_i64 (by rw [List.take_of_length_le (by omega)]), hbel⟩

/-- does a request of one of these kinds wait for a line? -/
def hasL (q : List Rq) (line : Nat) (ks : List Int) : Bool := q.any fun r => ks.any fun t => decide (r.line = line ∧ r.kind = t)
def i64s (ks : List Int) : List Value := ks.map (Value.int .i64)
theorem i64s_len (ks : List Int) : (i64s ks).length = ks.length := by simp [i64s]
theorem i64s_at {ks : List Int} {k : Nat} (h : k < ks.length) : (i64s ks)[k]? = some (.int .i64 (ks[k]'h)) := by simp [i64s, h]
theorem any_take_succ {α : Type} (l : List α) (p : α → Bool) {k : Nat} (h : k < l.length) : (l.take (k + 1)).any p = ((l.take k).any p || p (l[k]'h)) := by
  rw [List.take_succ_eq_append_getElem h, List.any_append]; simp
theorem any_of_at {α : Type} {l : List α} {p : α → Bool} {k : Nat} (h : k < l.length) (hp : p (l[k]'h) = true) : l.any p = true := by
  rw [List.any_eq_true]; exact ⟨_, List.getElem_mem h, hp⟩

theorem Has_any (A : Option Addr) (n c : Nat) (q : List Rq) (line : Nat) (A' : Option Addr) (m c' : Nat) (ks : List Int) (w : World) (hr : Rd w w.heap.size 4 A n c (rqs q)) (hk : Rd w w.heap.size 1 A' m c' (i64s ks)) :
    Calls Try.prog 7 #[.slice A n c, .int .u32 (line : Int), .slice A' m c'] w fun e w' => e = .returned (.bool (hasL q line ks)) ∧ Bel w w' := by
  have hc1 := hr.le
  have hc2 := hr.mx
  have hd1 := hk.le
  have hd2 := hk.mx
  unfold maxLen at hc2 hd2
  have Hn := Lib.hid hr.len
  have Hm := Lib.hid hk.len
  go_enter Try.func7, Try.ntmps7
  go_wp2
  go_loopw [13] (fun i wr => ∃ k : Nat, k ≤ n ∧ i = .int .i64 (k : Int) ∧ hasL (q.take k) line ks = false ∧ Bel w wr) (fun i _ => n - (intOf i).toNat)
  case atStart => exact ⟨0, by omega, rfl, rfl, Bel.refl w⟩
  case round =>
    obtain ⟨k, hkk, rfl, hno, hbel⟩ := hrel
    have Hno := Lib.hid hno
    clear hno
    by_cases hkn : k < n
    · obtain ⟨hl, g, o, rfl, hg, c0, c1, c2, c3⟩ := (hr.bel hbel).rq hkn
      go_wp2
      go_loop [19] (fun i => ∃ j : Nat, j ≤ m ∧ i = .int .i64 (j : Int) ∧ (ks.take j).any (fun t => decide ((q[k]'hl).line = line ∧ (q[k]'hl).kind = t)) = false) (fun i => m - (intOf i).toNat)
      case atStart => exact ⟨0, by omega, rfl, rfl⟩
      case round =>
        obtain ⟨j, hj, rfl, hnj⟩ := hrel
        have Hnj := Lib.hid hnj
        clear hnj
        by_cases hjm : j < m
        · obtain ⟨g', o', u, rfl, hg', hu, hcu⟩ := (hk.bel hbel).cell1 hjm
          have hlj : j < ks.length := by have := Hm.out; rw [i64s_len] at this; omega
          rw [i64s_at hlj] at hu
          obtain rfl : _ = u := by injection hu
          clear hu
          have ha := any_take_succ ks (fun t => decide ((q[k]'hl).line = line ∧ (q[k]'hl).kind = t)) hlj
          rw [Hnj.out, Bool.false_or] at ha
          by_cases h1 : (q[k]'hl).line = line
          · by_cases h2 : (q[k]'hl).kind = ks[j]'hlj
            · have Hyes : Hid (hasL q line ks = true) := any_of_at hl (any_of_at hlj (by simp [h1, h2]))
              have b1 : (((q[k]'hl).line : Int) == (line : Int)) = true := by simp [h1]
              have b2 : ((q[k]'hl).kind == ks[j]'hlj) = true := by simp [h2]
              clear h1 h2 ha
              go_wp2
              go_ret
              exact ⟨val_bool (by rw [Hyes.out]), hbel.trans (Bel.alloc _ _)⟩
            · have Ha : Hid ((ks.take (j + 1)).any (fun t => decide ((q[k]'hl).line = line ∧ (q[k]'hl).kind = t)) = false) := ha.trans (by simp [h2])
              have b1 : (((q[k]'hl).line : Int) == (line : Int)) = true := by simp [h1]
              have b2 : ((q[k]'hl).kind == ks[j]'hlj) = false := by simpa using h2
              clear h1 h2 ha
              go_wp2
              go_round
              case rel => exact ⟨j + 1, by omega, by go_num, Ha.out⟩
              case measure => first | (simp [intOf]; done) | (simp [intOf]; omega)
          · have Ha : Hid ((ks.take (j + 1)).any (fun t => decide ((q[k]'hl).line = line ∧ (q[k]'hl).kind = t)) = false) := ha.trans (by simp [h1])
            have b1 : (((q[k]'hl).line : Int) == (line : Int)) = false := by rw [beq_eq_false_iff_ne]; omega
            clear h1 ha
            go_wp2
            go_round
            case rel => exact ⟨j + 1, by omega, by go_num, Ha.out⟩
            case measure => first | (simp [intOf]; done) | (simp [intOf]; omega)
        · obtain rfl : j = m := by omega
          have ha := any_take_succ q (fun r => ks.any fun t => decide (r.line = line ∧ r.kind = t)) hl
          have hnj := Hnj.out
          rw [List.take_of_length_le (by have := Hm.out; rw [i64s_len] at this; omega)] at hnj
          have hno := Hno.out
          unfold hasL at hno
          rw [hno, hnj, Bool.or_false] at ha
          have Ha := Lib.hid ha
          clear ha hnj hno
          go_wp2
          go_roundw
          case rel => exact ⟨k + 1, by omega, by go_num, Ha.out, hbel.trans (Bel.alloc _ _)⟩
          case measure => first | (simp [intOf]; done) | (simp [intOf]; omega)
    · have hq : q.take k = q := List.take_of_length_le (by have := Hn.out; rw [rqs_len] at this; omega)
      have hno := Hno.out
      rw [hq] at hno
      have Hz := Lib.hid hno
      clear hno hq
      go_wp2
      go_ret
      exact ⟨val_bool (by rw [Hz.out]), hbel⟩

end Go.Proofs.Ythjmkmfpabphgaa
