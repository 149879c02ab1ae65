/- The statement BusOrder: what it needs: Push's slice is the call's own; rows of requests by number. -/
import Derived.Test.YthjmkmfpabphgaaBusLaws
set_option linter.unusedVariables false
set_option linter.unusedSimpArgs false
namespace Go.Proofs.Ythjmkmfpabphgaa
open Go.RowKit

theorem own_lt {w : World} {base : Nat} {e : TypeId} {sz : Nat} {v : Value} {n : Nat} {xs : List Value} (h : w.ownsRow base e sz v n xs) : ∀ g, v.ownBlock = some g → g < w.heap.size := by
  intro g hg
  rcases h.2 with ⟨rfl, _⟩ | ⟨g', cap, cur, rfl, _, hb, _⟩
  · cases hg
  · cases hg
    exact (Array.getElem?_eq_some_iff.1 hb).1
theorem own_far {w w' : World} {base : Nat} {e : TypeId} {sz : Nat} {v : Value} {n : Nat} {xs : List Value} {row : Option Nat} (h : w.ownsRow base e sz v n xs) (hg : w.grownBy w' row) (hr : ∀ g, row = some g → g < base) : w'.ownsRow base e sz v n xs := by
  refine ⟨h.1, ?_⟩
  rcases h.2 with h1 | ⟨g', cap, cur, rfl, h2, hb, h3⟩
  · exact .inl h1
  · refine .inr ⟨g', cap, cur, rfl, h2, ?_, h3⟩
    rw [hg.block g' (Array.getElem?_eq_some_iff.1 hb).1 (fun he => by have := hr g' he.symm; omega)]
    exact hb

/-- the requests of BusOrder, from the i-th on -/
def mkq (i : Nat) : List Int → List Rq
  | [] => []
  | l :: ls => ⟨1, 16 * i, l, ⟨#[]⟩⟩ :: mkq (i + 1) ls
theorem mkq_snoc (i : Nat) (ls : List Int) (l : Int) : mkq i (ls ++ [l]) = mkq i ls ++ [⟨1, 16 * (i + ls.length), l, ⟨#[]⟩⟩] := by
  induction ls generalizing i with
  | nil => simp [mkq]
  | cons x ls ih => simp only [List.cons_append, mkq, ih, List.length_cons]; rw [show i + 1 + ls.length = i + (ls.length + 1) by omega]
theorem mkq_len (i : Nat) (ls : List Int) : (mkq i ls).length = ls.length := by
  induction ls generalizing i with
  | nil => rfl
  | cons x ls ih => simp [mkq, ih]
/-- the sums up to each -/
def ends (s : Int) : List Int → List Int
  | [] => []
  | l :: ls => (s + l) :: ends (s + l) ls
theorem ends_snoc (s : Int) (ls : List Int) (l : Int) : ends s (ls ++ [l]) = ends s ls ++ [s + (ls.sum + l)] := by
  induction ls generalizing s with
  | nil => simp [ends]
  | cons x ls ih => simp only [List.cons_append, ends, ih, List.sum_cons]; rw [show s + x + (ls.sum + l) = s + (x + ls.sum + l) by omega]
theorem ends_len (s : Int) (ls : List Int) : (ends s ls).length = ls.length := by
  induction ls generalizing s with
  | nil => rfl
  | cons x ls ih => simp [ends, ih]
theorem ends_at (s : Int) (ls : List Int) {k : Nat} (h : k < ls.length) : (ends s ls)[k]? = some (s + (ls.take (k + 1)).sum) := by
  induction ls generalizing s k with
  | nil => simp at h
  | cons x ls ih =>
    cases k with
    | zero => simp [ends]
    | succ k =>
      simp only [List.length_cons] at h
      simp only [ends, List.getElem?_cons_succ, List.take_succ_cons, List.sum_cons]
      rw [ih (s + x) (by omega), Int.add_assoc]
def capL (z : Int) : Int := min (max z 1) 20
theorem capL_le (z : Int) : 1 ≤ capL z ∧ capL z ≤ 20 := by unfold capL; omega
theorem sum_le (ls : List Int) (h : ∀ l ∈ ls, 1 ≤ l ∧ l ≤ 20) : (ls.length : Int) ≤ ls.sum ∧ ls.sum ≤ 20 * ls.length := by
  induction ls with
  | nil => simp
  | cons x ls ih =>
    have h1 := h x (by simp)
    have h2 := ih (fun l hl => h l (by simp [hl]))
    simp only [List.sum_cons, List.length_cons]
    push_cast
    omega
theorem sum_take_succ (ls : List Int) {k : Nat} (h : k < ls.length) : (ls.take (k + 1)).sum = (ls.take k).sum + ls[k]'h := by
  rw [List.take_succ_eq_append_getElem h, List.sum_append]
  simp only [List.sum_cons, List.sum_nil, Int.add_zero]

theorem Push_own (A : Option Addr) (n c : Nat) (q : List Rq) (kind : Int) (line : Nat) (left : Int) (data : ByteArray) (w : World) (hr : Rd w w.heap.size 4 A n c (rqs q)) (hn : n ≤ 1000000) (hl : -9223372036854775808 ≤ left ∧ left ≤ 9223372036854775807) :
    Calls Try.prog 10 #[.slice A n c, .int .i64 kind, .int .u32 (line : Int), .int .i64 left, .string data] w fun e w' => ∃ v, e = .returned v ∧ w'.ownsRow w.heap.size 32 4 v (n + 1) (rqs (q ++ [⟨kind, line, max left 1, data⟩])) ∧ Bel w w' := by
  obtain ⟨i0, hi, hz0, hz1, hz2⟩ := info_parts rqinfo
  obtain ⟨M, hM, hM2⟩ : ∃ M : Int, M = (if (1 : Int) > left then 1 else left) ∧ M = max left 1 := ⟨max left 1, by split <;> omega, rfl⟩
  have HM := Lib.hid hM
  have HM2 := Lib.hid hM2
  clear hM hM2
  go_enter Try.func10, Try.ntmps10
  go_wp2_with (first
    | (at_make; refine wpList_make_own _ rfl _ _ 22 (by rfl) w.heap.size 32 i0 _ 4 Try.underlying22 hi hz0 hz1 _ _ _ (n + 1) (by rfl) (by rfl) (by omega) (by rw [hz2]; omega) (by unfold maxLen; omega) (Nat.le_refl _) ?_; intro w1 hown1 hg1; have hb1 := (Bel.refl w).grown hg1 (by simp))
    | (at_builtin; refine wpList_app_rd rfl (.tmp 16) (.tmp 17) 22 (by rfl) w.heap.size 32 _ 4 40 Try.underlying22 rqinfo rfl (by decide) _ 0 [] (by rfl) hown1 _ _ _ _ (rqs q) (by rfl) (hr.below hb1) (rqs_one q) (by omega) (by omega) hb1.size ?_; intro v2 w2 hown2 hg2; have hb2 := hb1.then_grown hown1 hg2 (Nat.le_refl _))
    | (refine wpList_max rfl _ _ _ (by rfl) _ _ _ _ M (by rfl) (by rfl) HM.out ?_)
    | (at_builtin; refine wpList_app w2 (Rq.cells ⟨kind, line, M, data⟩) 1 rfl (.tmp 19) (.tmp 26) 22 (by rfl) w.heap.size 32 _ 4 40 Try.underlying22 rqinfo rfl (by decide) v2 (0 + n) _ (by rfl) hown2 (by rfl) rfl (rqs_one [⟨kind, line, M, data⟩]) (by omega) (by omega) hb2.size ?_; intro v3 w3 hown3 hg3))
  go_ret
  rw [Nat.zero_add, List.nil_append, HM2.out] at hown3
  refine ⟨_, rfl, ?_, hb2.then_grown hown2 hg3 (Nat.le_refl _)⟩
  rw [rqs_append]
  exact hown3

theorem i64s_one (ks : List Int) : ∀ u ∈ i64s ks, u.oneCell' = true := by
  intro u hu
  simp only [i64s, List.mem_map] at hu
  obtain ⟨r, _, rfl⟩ := hu
  rfl
theorem i64s_append (a b : List Int) : i64s (a ++ b) = i64s a ++ i64s b := by simp [i64s]
theorem i64info : (Try.prog.info? 3).map (fun i => (i.zero, i.size, i.bytes)) = some (some (.int .i64 0), 1, 8) := by kernel_rfl
theorem own_nil (w : World) (base : Nat) (e : TypeId) (sz : Nat) : w.ownsRow base e sz (.slice none 0 0) 0 [] := ⟨by simp, .inl ⟨rfl, rfl⟩⟩

end Go.Proofs.Ythjmkmfpabphgaa
