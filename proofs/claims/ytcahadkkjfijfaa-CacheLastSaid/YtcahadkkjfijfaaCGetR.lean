/- The document's Get. -/
import Derived.Test.YtcahadkkjfijfaaCFindR
set_option linter.unusedVariables false
set_option linter.unusedSimpArgs false
set_option maxRecDepth 100000
namespace Go.Proofs.Ytcahadkkjfijfaa
open Go.RowKit Go.Sort

theorem refGet_any (ways : Int) (A : Option Addr) (n c : Nat) (S : List Cs) (x k at' : Nat) (set : List Wy) (v : Wy) (w : World) (hr : RdS w w.heap.size A n c S) (hk : k < n) (hset : (cont S)[k]? = some set) (hv : set[at']? = some v)
    (HF : Hid (∀ W, Bel w W → Calls Try.prog 34 #[.agg #[.int .i64 ways, .slice A n c], .int .u32 (x : Int)] W fun e w' => e = .returned (.tuple #[.int .i64 (k : Int), .int .i64 (at' : Int), .bool true]) ∧ Bel W w')) :
    Calls Try.prog 47 #[.agg #[.int .i64 ways, .slice A n c], .int .u32 (x : Int)] w fun e w' => e = .returned v.val ∧ Bel w w' := by
  obtain ⟨hl, g0, o0, hA, hg0, hcs, hs⟩ := hr.at_ hk
  rw [cont_at hl] at hset
  have hset' : (S[k]'hl).ws = set := by injection hset
  obtain ⟨s, hs'⟩ : ∃ s, S[k]'hl = s := ⟨_, rfl⟩
  rw [hs'] at hcs hs hset'
  obtain ⟨sA, m, sc, ws⟩ := s
  simp only at hcs hs hset'
  subst hset'
  have hat : at' < m := by have := (List.getElem?_eq_some_iff.1 hv).1; have := hs.wyslen; omega
  obtain ⟨hlj, g, o, hB, hg, hce⟩ := hs.wyselem hat
  have hvv : ws[at']'hlj = v := (List.getElem?_eq_some_iff.1 hv).2
  rw [hvv] at hce
  have hki : (k : Int) < (n : Int) := by omega
  have hk0 : (0 : Int) ≤ (k : Int) := by omega
  have hai : (at' : Int) < (m : Int) := by omega
  have ha0 : (0 : Int) ≤ (at' : Int) := by omega
  have hc1 := hr.rd.le
  have hc2 := hr.rd.mx
  have hm1 := hs.le
  have hm2 := hs.mx
  unfold maxLen at hc2 hm2
  replace hcs := Lib.hid hcs
  replace hce := Lib.hid hce
  replace hA := Lib.hid hA
  obtain rfl := hB
  clear hset hs' hv hvv hs
  go_enter Try.func47, Try.ntmps47
  go_upto_region 1 with (fail)
  have hkC := (Bk.new' w 36 [.int .i64 ways, .slice A n c] w.heap.size rfl).alloc (.cells wysZ.toArray 49); have hkR := Bk.new' (w.alloc (.cells [Value.int .i64 ways, .slice A n c].toArray 36)) 49 wysZ (w.heap.size + 1) (by simp); have hbel := (Bel.alloc w (.cells [Value.int .i64 ways, .slice A n c].toArray 36)).trans (Bel.alloc _ (.cells wysZ.toArray 49)); unfold wysZ at hkC hkR hbel; revert hkC hkR hbel; generalize (w.alloc _).alloc _ = W0; intro hkC hkR hbel; replace hbel := Lib.hid hbel; have hRl := hkR.lt
  go_upto_region 2 with (first | (refine wpList_load_bk (by rfl) 36 (.tmp 2) (by rfl) w.heap.size (by rfl) 36 _ _ rfl hkC cTy ?_) | (go_at_call 34; refine (HF.out _ hbel.out).mono ?_; rintro e w1 ⟨rfl, hn1⟩; replace hkC := hkC.bel hn1; replace hkR := hkR.bel hn1; replace hbel := Lib.hid (hbel.out.trans hn1); clear hn1))
  obtain rfl := hA.out
  have c1 := hkC.cell_of 1 _ rfl
  have ccs := hbel.out.cell_of hcs.out
  have hce1 := Lib.hid (fun j u hu => hbel.out.cell_of (hce.out j u hu))
  go_wp2_with (first | (refine wpList_load_elem (by rfl) 49 (.tmp 21) (by rfl) g (o + at' * 3) (by rfl) v.cells v.val rfl hce1.out wysTy ?_) | (refine wpList_store_bk (by rfl) 49 (.tmp 4) (.tmp 22) (by rfl) (w.heap.size + 1) v.cells (by rfl) (by rfl) 49 _ hkR rfl wysTy v.one ?_; intro w3 hk3 hs3 ho3 hbe3))
  exact bodyPost_ret (res_c rfl (by rfl) hk3 wysTy) rfl ⟨rfl, hbe3 w hbel.out (by omega)⟩
end Go.Proofs.Ytcahadkkjfijfaa
