/- The cache package: with (a cache with another set of a number). -/
import Derived.Test.YtcahadkkjfijfaaCFind
set_option linter.unusedVariables false
set_option linter.unusedSimpArgs false
set_option maxRecDepth 100000
namespace Go.Proofs.Ytcahadkkjfijfaa
open Go.RowKit Go.Sort

theorem setinfo : (Try.prog.info? 62).map (fun i => (i.zero, i.size, i.bytes)) = some (some (.slice none 0 0), 1, 24) := by kernel_rfl
set_option maxHeartbeats 1000000 in
theorem with_any (ways : Int) (A : Option Addr) (n c : Nat) (S : List Cs) (k : Nat) (A2 : Option Addr) (n2 c2 : Nat) (q2 : List Wy) (w : World) (hr : RdS w w.heap.size A n c S) (hn : n ≤ 1000) (hk : k < n) (h2 : Rd w w.heap.size 3 A2 n2 c2 (wys q2)) :
    Calls Try.prog 66 #[.agg #[.int .i64 ways, .slice A n c], .int .i64 (k : Int), .slice A2 n2 c2] w fun e w' => ∃ g, e = .returned (.agg #[.int .i64 ways, .slice (some ⟨g, 0, none⟩) n n]) ∧ RdS w' w'.heap.size (some ⟨g, 0, none⟩) n n (S.set k ⟨A2, n2, c2, q2⟩) ∧ w.heap.size ≤ g ∧ Bel w w' := by
  obtain ⟨i0, hi, hz0, hz1, hz2⟩ := info_parts setinfo
  have hc1 := hr.rd.le
  have hc2 := hr.rd.mx
  unfold maxLen at hc2
  have hki : (k : Int) < (n : Int) := by omega
  go_enter Try.func66, Try.ntmps66
  go_upto_region 1 with (fail)
  have hkC := (Bk.new' w 36 [.int .i64 ways, .slice A n c] w.heap.size rfl).alloc (.cells [Value.int .i64 0, .slice none 0 0].toArray 36)
  have hkR := Bk.new' (w.alloc (.cells [Value.int .i64 ways, .slice A n c].toArray 36)) 36 [.int .i64 0, .slice none 0 0] (w.heap.size + 1) (by simp)
  have hbel := (Bel.alloc w (.cells [Value.int .i64 ways, .slice A n c].toArray 36)).trans (Bel.alloc _ (.cells [Value.int .i64 0, .slice none 0 0].toArray 36))
  revert hkC hkR hbel
  generalize (w.alloc _).alloc _ = W0
  intro hkC hkR hbel
  replace hbel := Lib.hid hbel
  have hC := hkC.lt
  have hRl := hkR.lt
  have c0 := hkC.cell_of 0 _ rfl
  have c1 := hkC.cell_of 1 _ rfl
  go_wp2_with (first | (at_make; refine wpList_make_full _ rfl _ _ 34 (by rfl) W0.heap.size 62 i0 _ 1 Try.underlying34 hi hz0 hz1 _ _ _ _ n (by rfl) (by rfl) (by omega) (by omega) (by rw [hz2]; omega) (by unfold maxLen; omega) (Nat.le_refl _) ?_; intro w1 hown1 hg1; have hbS := Bk.of_own hown1 rfl; have hn1 := (Bel.refl W0).grown hg1 (by simp); replace hkC := hkC.bel hn1; replace hkR := hkR.bel hn1; have c0 := hkC.cell_of 0 _ rfl; have c1 := hkC.cell_of 1 _ rfl; replace hbel := Lib.hid (hbel.out.trans hn1); clear hown1 hg1 hn1) | (refine wpList_copy_rd rfl (.tmp 12) (.tmp 14) 34 (by rfl) 62 Try.underlying34 1 (by kernel_rfl) W0.heap.size 0 n n A c (by rfl) (by rfl) w.heap.size (csv S) (hr.rd.below hbel.out) (csv_one S) 62 _ hbS (by simp [madeCells, Value.cells]) ?_; intro w2 hbS2 hg2; rw [spl_all _ _ (by rw [csv_len, hr.slen]; simp [madeCells, Value.cells])] at hbS2; replace hkC := hkC.grown hg2 (by simp; omega); replace hkR := hkR.grown hg2 (by simp; omega); have c0 := hkC.cell_of 0 _ rfl; have c1 := hkC.cell_of 1 _ rfl; have hf := hbS2.frozen (i := k) (by rw [csv_len, hr.slen]; omega); have hck := hbS2.cell_of k _ (csv_at (by rw [hr.slen]; omega)); replace hbel := Lib.hid (hbel.out.grown hg2 (by intro g hg; injection hg; omega)); clear hg2) | (refine wpList_store_bk (by rfl) 36 (.tmp 6) (.tmp 23) (by rfl) (w.heap.size + 1) [.int .i64 ways, .slice (some ⟨W0.heap.size, 0, none⟩) n n] (by rfl) (by rfl) 36 _ (hkR.far (p := ⟨W0.heap.size, k, none⟩) (by simp; omega) _) rfl cTy (by simp [Value.oneCell']) ?_; intro w3 hk3 hs3 ho3 hbe3; replace hs3 := Lib.hid hs3))
  have hb3 := hbe3 w (hbel.out.setCell (p := ⟨W0.heap.size, k, none⟩) (show w.heap.size ≤ W0.heap.size by omega) _) (by omega)
  have hbS3 := (hbS2.set_ k (Cs.val ⟨A2, n2, c2, q2⟩)).keep (ho3 _ (by omega))
  rw [csv_set] at hbS3
  refine bodyPost_ret (res_c rfl (by rfl) hk3 cTy) rfl ⟨W0.heap.size, rfl, ⟨hbS3.rdAll rfl (by rw [csv_len, List.length_set, hr.slen, Nat.mul_one]) (by unfold maxLen; omega), fun s hs => ?_⟩, by omega, hb3⟩
  rcases List.mem_or_eq_of_mem_set hs with h | h
  · exact ((hr.sets s h).below hb3).more hb3.size
  · subst h
    exact (h2.below hb3).more hb3.size

end Go.Proofs.Ytcahadkkjfijfaa
