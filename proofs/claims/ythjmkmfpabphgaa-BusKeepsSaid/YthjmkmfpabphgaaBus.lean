/- The bus package: Push, Tick, LineOf; the statements' own 'few'; rows alike. -/
import Derived.Test.YthjmkmfpabphgaaReq
set_option linter.unusedVariables false
set_option linter.unusedSimpArgs false
namespace Go.Proofs.Ythjmkmfpabphgaa
open Go.RowKit

theorem rqinfo : (Try.prog.info? 32).map (fun i => (i.zero, i.size, i.bytes)) = some (some (.agg #[.int .i64 0, .int .u32 0, .int .i64 0, .string ⟨#[]⟩]), 4, 40) := by kernel_rfl

theorem LineOf_any (x : Nat) (w : World) (hx : x < 4294967296) :
    Calls Try.prog 13 #[.int .u32 (x : Int)] w fun e w' => e = .returned (.int .u32 ((x - x % 16 : Nat) : Int)) ∧ ∃ d, w' = w.drewN d := by
  have h1 : (0 : Int) ≤ (x : Int) - (x : Int) % 16 := by omega
  go_enter Try.func13, Try.ntmps13
  go_wp2
  go_ret
  exact ⟨val_u32 (by omega), 0, rfl⟩

/-- a slice of requests that came back: it reads as q' -/
def BackRq (w w' : World) (v : Value) (n : Nat) (q : List Rq) : Prop := ∃ A c, v = .slice A n c ∧ Rd w' w'.heap.size 4 A n c (rqs q)

theorem Push_any (A : Option Addr) (n c : Nat) (q : List Rq) (kind : Int) (line : Nat) (left : Int) (data : ByteArray) (w : World) (hr : Rd w w.heap.size 4 A n c (rqs q)) (hn : n ≤ 1000000) (hl : -9223372036854775808 ≤ left ∧ left ≤ 9223372036854775807) :
    Calls Try.prog 10 #[.slice A n c, .int .i64 kind, .int .u32 (line : Int), .int .i64 left, .string data] w fun e w' => ∃ v, e = .returned v ∧ BackRq w w' v (n + 1) (q ++ [⟨kind, line, max left 1, data⟩]) ∧ Bel w w' := by
  obtain ⟨i0, hi, hz0, hz1, hz2⟩ := info_parts rqinfo
  obtain ⟨M, hM, hM2⟩ : ∃ M : Int, M = (if (1 : Int) > left then 1 else left) ∧ M = max left 1 := ⟨max left 1, by split <;> omega, rfl⟩
  have HM := Lib.hid hM
  have HM2 := Lib.hid hM2
  clear hM hM2
  go_enter Try.func10, Try.ntmps10
  go_wp2_with (first
    | (at_make; refine wpList_make_own _ rfl _ _ 22 (by rfl) w.heap.size 32 i0 _ 4 Try.underlying22 hi hz0 hz1 _ _ _ (n + 1) (by rfl) (by rfl) (by omega) (by rw [hz2]; omega) (by unfold maxLen; omega) (Nat.le_refl _) ?_; intro w1 hown1 hg1; have hb1 := (Bel.refl w).grown hg1 (by simp))
    | (at_builtin; refine wpList_app_rd rfl (.tmp 16) (.tmp 17) 22 (by rfl) w.heap.size 32 _ 4 40 Try.underlying22 rqinfo rfl (by decide) _ 0 [] (by rfl) hown1 _ _ _ _ (rqs q) (by rfl) (hr.below hb1) (rqs_one q) (by omega) (by omega) hb1.size ?_; intro v2 w2 hown2 hg2; have hb2 := hb1.then_grown hown1 hg2 (Nat.le_refl _))
    | (refine wpList_max rfl _ _ _ (by rfl) _ _ _ _ M (by rfl) (by rfl) HM.out ?_)
    | (at_builtin; refine wpList_app w2 (Rq.cells ⟨kind, line, M, data⟩) 1 rfl (.tmp 19) (.tmp 26) 22 (by rfl) w.heap.size 32 _ 4 40 Try.underlying22 rqinfo rfl (by decide) v2 (0 + n) _ (by rfl) hown2 (by rfl) rfl (rqs_one [⟨kind, line, M, data⟩]) (by omega) (by omega) hb2.size ?_; intro v3 w3 hown3 hg3))
  go_ret
  obtain ⟨A3, c3, rfl, hr3⟩ := Rd.of_own hown3
  rw [Nat.zero_add, List.nil_append, HM2.out] at hr3
  refine ⟨_, rfl, ⟨A3, c3, by (rw [Nat.zero_add]; rfl), ?_⟩, hb2.then_grown hown2 hg3 (Nat.le_refl _)⟩
  rw [rqs_append]
  exact hr3

def zrq : Rq := ⟨0, 0, 0, ⟨#[]⟩⟩

theorem Tick_nil (A : Option Addr) (c : Nat) (w : World) :
    Calls Try.prog 11 #[.slice A 0 c] w fun e w' => e = .returned (.tuple #[.slice A 0 c, zrq.val, .bool false]) ∧ Bel w w' := by
  obtain ⟨i0, hi, hz0, hz1, hz2⟩ := info_parts rqinfo
  go_enter Try.func11, Try.ntmps11
  go_wp2
  go_returns
  exact ⟨rfl, Bel.alloc _ _⟩

theorem Like_quiet (A A' : Option Addr) (n c c' : Nat) (q : List Rq) (w : World) (hr : Rd w w.heap.size 4 A n c (rqs q)) (hs : Rd w w.heap.size 4 A' n c' (rqs q)) :
    Calls Try.prog 12 #[.slice A n c, .slice A' n c'] w fun e w' => e = .returned (.bool true) ∧ ∃ d, w' = w.drewN d := by
  have hc1 := hr.le
  have hc2 := hr.mx
  have hc3 := hs.le
  have hc4 := hs.mx
  unfold maxLen at hc2 hc4
  go_enter Try.func12, Try.ntmps12
  go_wp2
  go_loopw [13] (fun i wr => ∃ k : Nat, k ≤ n ∧ i = .int .i64 (k : Int) ∧ ∃ d, wr = w.drewN d) (fun i _ => n - (intOf i).toNat)
  case atStart => exact ⟨0, by omega, rfl, 0, rfl⟩
  case round =>
    obtain ⟨k, hk, rfl, d, rfl⟩ := hrel
    by_cases hkn : k < n
    · obtain ⟨hl, g, o, rfl, hg, c0, c1, c2, c3⟩ := hr.rq hkn
      obtain ⟨hl', g', o', rfl, hg', d0, d1, d2, d3⟩ := hs.rq hkn
      go_wp2
      go_quiet (fail)
      go_wp2
      go_roundw
      case rel => exact ⟨k + 1, by omega, by go_num, d + nq, rfl⟩
      case measure => first | (simp [intOf]; done) | (simp [intOf]; omega)
    · obtain rfl : k = n := by omega
      go_wp2
      go_ret
      exact ⟨rfl, d, rfl⟩
theorem Like_same (A A' : Option Addr) (n c c' : Nat) (q : List Rq) (w : World) (hr : Rd w w.heap.size 4 A n c (rqs q)) (hs : Rd w w.heap.size 4 A' n c' (rqs q)) :
    Calls Try.prog 12 #[.slice A n c, .slice A' n c'] w fun e w' => e = .returned (.bool true) ∧ Bel w w' := by
  refine (Like_quiet A A' n c c' q w hr hs).mono ?_
  rintro e w' ⟨rfl, d, rfl⟩
  exact ⟨rfl, Bel.drewN w d⟩

theorem Bk.rd_all {w : World} {g : Nat} {t : TypeId} {cs ds : List Value} (h : Bk w g t cs) (e : cs = ds) {sz n : Nat} (hn : ds.length = n * sz) (hm : n ≤ maxLen) : Rd w w.heap.size sz (some ⟨g, 0, none⟩) n n ds := by
  subst e
  have := h.rd (sz := sz) (n := n) (c := n) (o := 0) (by omega) (Nat.le_refl _) hm
  rwa [List.drop_zero, List.take_of_length_le (by omega)] at this

theorem Rd.cells_to {w : World} {B sz n c : Nat} {A : Option Addr} {xs ys : List Value} (h : Rd w B sz A n c xs) (e : xs = ys) : Rd w B sz A n c ys := e ▸ h

theorem Tick_some (A : Option Addr) (c : Nat) (r : Rq) (rest : List Rq) (w : World) (hr : Rd w w.heap.size 4 A (rest.length + 1) c (rqs (r :: rest))) (hn : rest.length ≤ 1000000) (h0 : wrap64 (r.left - 1) > 0) :
    Calls Try.prog 11 #[.slice A (rest.length + 1) c] w fun e w' => ∃ v, e = .returned (.tuple #[v, zrq.val, .bool false]) ∧ BackRq w w' v (rest.length + 1) ({ r with left := wrap64 (r.left - 1) } :: rest) ∧ Bel w w' := by
  obtain ⟨i0, hi, hz0, hz1, hz2⟩ := info_parts rqinfo
  have he : ∀ o, (w.alloc o).heap.size = w.heap.size + 1 := by intro o; simp
  go_enter Try.func11, Try.ntmps11
  go_wp2_with (first
    | (at_make; refine wpList_make_full _ rfl _ _ 22 (by rfl) (w.heap.size + 1) 32 i0 _ 4 Try.underlying22 hi hz0 hz1 _ _ _ _ (rest.length + 1) (by rfl) (by rfl) (by omega) (by omega) (by rw [hz2]; omega) (by unfold maxLen; omega) (by simp) ?_; intro w1 hown1 hg1; have hb1 := (Bel.alloc w _).grown hg1 (by simp); have hbk1 := Bk.of_own hown1 rfl; rw [he] at hbk1; have hv1 := (Bk.new w 32 zrq.cells).grown hg1 (by simp); clear hown1)
    | (refine wpList_copy_rd rfl (.tmp 14) (.tmp 15) 22 (by rfl) 32 Try.underlying22 4 (by kernel_rfl) (w.heap.size + 1) 0 (rest.length + 1) (rest.length + 1) A c (by rfl) (by rfl) w1.heap.size (rqs (r :: rest)) (hr.bel hb1) (rqs_one _) 32 _ hbk1 (by simp [madeCells]) ?_; intro w2 hbk2 hg2; rw [spl_all _ _ (by rw [rqs_len]; simp [madeCells])] at hbk2; have hv2 := hv1.grown hg2 (by simp); have hb2 : Bel w w2 := hb1.grown hg2 (by intro g hg; injection hg; omega); have cs2 := fun i => hbk2.cell i; have c0 : w2.cell? ⟨w.heap.size + 1, 0, none⟩ = some (.int .i64 r.kind) := cs2 0; have c1 : w2.cell? ⟨w.heap.size + 1, 1, none⟩ = some (.int .u32 (r.line : Int)) := cs2 1; have c2 : w2.cell? ⟨w.heap.size + 1, 2, none⟩ = some (.int .i64 r.left) := cs2 2; have c3 : w2.cell? ⟨w.heap.size + 1, 3, none⟩ = some (.string r.data) := cs2 3; have f2 := hbk2.frozen (i := 2) (by rw [rqs_len, List.length_cons]; omega); have d0 : w2.cell? ⟨w.heap.size, 0, none⟩ = some (.int .i64 0) := hv2.cell 0; have d1 : w2.cell? ⟨w.heap.size, 1, none⟩ = some (.int .u32 0) := hv2.cell 1; have d2 : w2.cell? ⟨w.heap.size, 2, none⟩ = some (.int .i64 0) := hv2.cell 2; have d3 : w2.cell? ⟨w.heap.size, 3, none⟩ = some (.string ⟨#[]⟩) := hv2.cell 3; have e0 := hv2.frozen (i := 0) (by decide); have e1 := hv2.frozen (i := 1) (by decide); have e2 := hv2.frozen (i := 2) (by decide); have e3 := hv2.frozen (i := 3) (by decide); have l2 := hbk2.lt; clear cs2 hg1 hg2 hbk1))
  have hz := ((((hbk2.set_ 2 (.int .i64 (wrap64 (r.left - 1)))).far (p := ⟨w.heap.size, 0, none⟩) (by simp) (.int .i64 0)).far (p := ⟨w.heap.size, 1, none⟩) (by simp) (.int .u32 0)).far (p := ⟨w.heap.size, 2, none⟩) (by simp) (.int .i64 0)).far (p := ⟨w.heap.size, 3, none⟩) (by simp) (.string ⟨#[]⟩)
  have hv := ((((hv2.far (p := ⟨w.heap.size + 1, 2, none⟩) (by simp) (.int .i64 (wrap64 (r.left - 1)))).set_ 0 (.int .i64 0)).set_ 1 (.int .u32 0)).set_ 2 (.int .i64 0)).set_ 3 (.string ⟨#[]⟩)
  have hb : Bel w _ := ((((hb2.setCell (p := ⟨w.heap.size + 1, 2, none⟩) (by simp) (.int .i64 (wrap64 (r.left - 1)))).setCell (p := ⟨w.heap.size, 0, none⟩) (by simp) (.int .i64 0)).setCell (p := ⟨w.heap.size, 1, none⟩) (by simp) (.int .u32 0)).setCell (p := ⟨w.heap.size, 2, none⟩) (by simp) (.int .i64 0)).setCell (p := ⟨w.heap.size, 3, none⟩) (by simp) (.string ⟨#[]⟩)
  revert hz hv hb
  generalize ((((w2.setCell ⟨w.heap.size + 1, 2, none⟩ (.int .i64 (wrap64 (r.left - 1)))).setCell ⟨w.heap.size, 0, none⟩ (.int .i64 0)).setCell ⟨w.heap.size, 1, none⟩ (.int .u32 0)).setCell ⟨w.heap.size, 2, none⟩ (.int .i64 0)).setCell ⟨w.heap.size, 3, none⟩ (.string ⟨#[]⟩) = W
  intro hz hv hb
  have d0 : W.cell? ⟨w.heap.size, 0, none⟩ = some (.int .i64 0) := hv.cell 0
  have d1 : W.cell? ⟨w.heap.size, 1, none⟩ = some (.int .u32 0) := hv.cell 1
  have d2 : W.cell? ⟨w.heap.size, 2, none⟩ = some (.int .i64 0) := hv.cell 2
  have d3 : W.cell? ⟨w.heap.size, 3, none⟩ = some (.string ⟨#[]⟩) := hv.cell 3
  refine bodyPost_ret (v := .tuple #[.slice (some ⟨w.heap.size + 1, 0, none⟩) (rest.length + 1) (rest.length + 1), zrq.val, .bool false]) (by simp [results, Try.results11, go_sem, d0, d1, d2, d3, zrq, Rq.val]) rfl ?_
  refine ⟨_, rfl, ⟨_, _, rfl, Bk.rd_all hz (ds := rqs ({ r with left := wrap64 (r.left - 1) } :: rest)) rfl (by rw [rqs_len]; rfl) (by unfold maxLen; omega)⟩, hb⟩

theorem Tick_done (A : Option Addr) (c : Nat) (r : Rq) (rest : List Rq) (w : World) (hr : Rd w w.heap.size 4 A (rest.length + 1) c (rqs (r :: rest))) (hn : rest.length ≤ 1000000) (h0 : ¬ wrap64 (r.left - 1) > 0) :
    Calls Try.prog 11 #[.slice A (rest.length + 1) c] w fun e w' => ∃ v, e = .returned (.tuple #[v, Rq.val { r with left := wrap64 (r.left - 1) }, .bool true]) ∧ BackRq w w' v rest.length rest ∧ Bel w w' := by
  obtain ⟨i0, hi, hz0, hz1, hz2⟩ := info_parts rqinfo
  have he : ∀ o, (w.alloc o).heap.size = w.heap.size + 1 := by intro o; simp
  go_enter Try.func11, Try.ntmps11
  go_wp2_with (first
    | (at_make; refine wpList_make_full _ rfl _ _ 22 (by rfl) (w.heap.size + 1) 32 i0 _ 4 Try.underlying22 hi hz0 hz1 _ _ _ _ (rest.length + 1) (by rfl) (by rfl) (by omega) (by omega) (by rw [hz2]; omega) (by unfold maxLen; omega) (by simp) ?_; intro w1 hown1 hg1; have hb1 := (Bel.alloc w _).grown hg1 (by simp); have hbk1 := Bk.of_own hown1 rfl; rw [he] at hbk1; have hv1 := (Bk.new w 32 zrq.cells).grown hg1 (by simp); clear hown1)
    | (refine wpList_copy_rd rfl (.tmp 14) (.tmp 15) 22 (by rfl) 32 Try.underlying22 4 (by kernel_rfl) (w.heap.size + 1) 0 (rest.length + 1) (rest.length + 1) A c (by rfl) (by rfl) w1.heap.size (rqs (r :: rest)) (hr.bel hb1) (rqs_one _) 32 _ hbk1 (by simp [madeCells]) ?_; intro w2 hbk2 hg2; rw [spl_all _ _ (by rw [rqs_len]; simp [madeCells])] at hbk2; have hv2 := hv1.grown hg2 (by simp); have hb2 : Bel w w2 := hb1.grown hg2 (by intro g hg; injection hg; omega); have cs2 := fun i => hbk2.cell i; have c0 : w2.cell? ⟨w.heap.size + 1, 0, none⟩ = some (.int .i64 r.kind) := cs2 0; have c1 : w2.cell? ⟨w.heap.size + 1, 1, none⟩ = some (.int .u32 (r.line : Int)) := cs2 1; have c2 : w2.cell? ⟨w.heap.size + 1, 2, none⟩ = some (.int .i64 r.left) := cs2 2; have c3 : w2.cell? ⟨w.heap.size + 1, 3, none⟩ = some (.string r.data) := cs2 3; have f2 := hbk2.frozen (i := 2) (by rw [rqs_len, List.length_cons]; omega); have d0 : w2.cell? ⟨w.heap.size, 0, none⟩ = some (.int .i64 0) := hv2.cell 0; have d1 : w2.cell? ⟨w.heap.size, 1, none⟩ = some (.int .u32 0) := hv2.cell 1; have d2 : w2.cell? ⟨w.heap.size, 2, none⟩ = some (.int .i64 0) := hv2.cell 2; have d3 : w2.cell? ⟨w.heap.size, 3, none⟩ = some (.string ⟨#[]⟩) := hv2.cell 3; have e0 := hv2.frozen (i := 0) (by decide); have e1 := hv2.frozen (i := 1) (by decide); have e2 := hv2.frozen (i := 2) (by decide); have e3 := hv2.frozen (i := 3) (by decide); have l2 := hbk2.lt; clear cs2 hg1 hg2 hbk1))
  have hz := ((((hbk2.set_ 2 (.int .i64 (wrap64 (r.left - 1)))).far (p := ⟨w.heap.size, 0, none⟩) (by simp) (.int .i64 r.kind)).far (p := ⟨w.heap.size, 1, none⟩) (by simp) (.int .u32 (r.line : Int))).far (p := ⟨w.heap.size, 2, none⟩) (by simp) (.int .i64 (wrap64 (r.left - 1)))).far (p := ⟨w.heap.size, 3, none⟩) (by simp) (.string r.data)
  have hv := ((((hv2.far (p := ⟨w.heap.size + 1, 2, none⟩) (by simp) (.int .i64 (wrap64 (r.left - 1)))).set_ 0 (.int .i64 r.kind)).set_ 1 (.int .u32 (r.line : Int))).set_ 2 (.int .i64 (wrap64 (r.left - 1)))).set_ 3 (.string r.data)
  have hb : Bel w _ := ((((hb2.setCell (p := ⟨w.heap.size + 1, 2, none⟩) (by simp) (.int .i64 (wrap64 (r.left - 1)))).setCell (p := ⟨w.heap.size, 0, none⟩) (by simp) (.int .i64 r.kind)).setCell (p := ⟨w.heap.size, 1, none⟩) (by simp) (.int .u32 (r.line : Int))).setCell (p := ⟨w.heap.size, 2, none⟩) (by simp) (.int .i64 (wrap64 (r.left - 1)))).setCell (p := ⟨w.heap.size, 3, none⟩) (by simp) (.string r.data)
  have Hz := Lib.hid hz
  have Hv := Lib.hid hv
  have Hb := Lib.hid hb
  clear hz hv hb
  go_region
  all_goals try go_wp2
  all_goals
    have hz := Hz.out
    have hv := Hv.out
    have hb := Hb.out
    revert hz hv hb
    clear Hz Hv Hb
    generalize ((((w2.setCell ⟨w.heap.size + 1, 2, none⟩ (.int .i64 (wrap64 (r.left - 1)))).setCell ⟨w.heap.size, 0, none⟩ (.int .i64 r.kind)).setCell ⟨w.heap.size, 1, none⟩ (.int .u32 (r.line : Int))).setCell ⟨w.heap.size, 2, none⟩ (.int .i64 (wrap64 (r.left - 1)))).setCell ⟨w.heap.size, 3, none⟩ (.string r.data) = W
    intro hz hv hb
    have d0 : W.cell? ⟨w.heap.size, 0, none⟩ = some (.int .i64 r.kind) := hv.cell 0
    have d1 : W.cell? ⟨w.heap.size, 1, none⟩ = some (.int .u32 (r.line : Int)) := hv.cell 1
    have d2 : W.cell? ⟨w.heap.size, 2, none⟩ = some (.int .i64 (wrap64 (r.left - 1))) := hv.cell 2
    have d3 : W.cell? ⟨w.heap.size, 3, none⟩ = some (.string r.data) := hv.cell 3
    refine bodyPost_ret (v := .tuple #[_, Rq.val { r with left := wrap64 (r.left - 1) }, .bool true]) (by simp [results, Try.results11, go_sem, d0, d1, d2, d3, Rq.val]; rfl) rfl ?_
  · obtain rfl : rest = [] := by assumption
    exact ⟨_, rfl, ⟨_, _, rfl, Rd.nil (by unfold maxLen; omega)⟩, hb.trans (Bel.drew W)⟩
  · have hz4 := hz.rd (sz := 4) (n := rest.length) (c := rest.length) (o := 4) (by have := rqs_len (r :: rest); rw [List.length_set, this, List.length_cons]; omega) (Nat.le_refl _) (by unfold maxLen; omega)
    have e4 : (((rqs (r :: rest)).set 2 (.int .i64 (wrap64 (r.left - 1)))).drop 4).take (rest.length * 4) = rqs rest := by
      have : ((rqs (r :: rest)).set 2 (.int .i64 (wrap64 (r.left - 1)))).drop 4 = rqs rest := rfl
      rw [this, List.take_of_length_le (by rw [rqs_len]; exact Nat.le_refl _)]
    have hz5 := Rd.cells_to hz4 e4
    exact ⟨_, rfl, ⟨_, _, rfl, hz5.bel (Bel.drew W)⟩, hb.trans (Bel.drew W)⟩

end Go.Proofs.Ythjmkmfpabphgaa
