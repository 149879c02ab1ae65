/- The document's Find. -/
import Derived.Test.YtcahadkkjfijfaaCFind
import Derived.Test.YtcahadkkjfijfaaCRightR
set_option linter.unusedVariables false
set_option linter.unusedSimpArgs false
set_option maxRecDepth 100000
namespace Go.Proofs.Ytcahadkkjfijfaa
open Go.RowKit Go.Sort

theorem refFind_no (ways : Int) (A : Option Addr) (n c : Nat) (S : List Cs) (x : Nat) (w : World) (hr : RdS w w.heap.size A n c S) (ho : SOk S) (hno : ¬ RightP ways (cont S)) :
    Calls Try.prog 34 #[.agg #[.int .i64 ways, .slice A n c], .int .u32 (x : Int)] w fun e w' => e = .returned (.tuple #[.int .i64 0, .int .i64 0, .bool false]) ∧ Bel w w' := by
  have HR := Lib.hid (fun W (hw : Bel w W) => refRight_any ways A n c S W (hr.bel hw) ho false ⟨fun h => (by cases h), fun h => absurd h hno⟩)
  go_enter Try.func34, Try.ntmps34
  go_upto_region 1 with (fail)
  have hkC := Bk.new' w 36 [.int .i64 ways, .slice A n c] w.heap.size rfl; have hbel := Bel.alloc w (.cells [Value.int .i64 ways, .slice A n c].toArray 36); revert hkC hbel; generalize w.alloc _ = W0; intro hkC hbel; replace hbel := Lib.hid hbel
  go_wp2_with (first | (refine wpList_load_bk (by rfl) 36 (.tmp 2) (by rfl) w.heap.size (by rfl) 36 _ _ rfl hkC cTy ?_) | (go_at_call 22; refine (HR.out _ hbel.out).mono ?_; rintro e w1 ⟨rfl, hn1⟩))
  go_ret3
  exact ⟨rfl, hbel.out.trans hn1⟩

set_option maxHeartbeats 1000000 in
theorem refFind_any (ways : Int) (A : Option Addr) (n c : Nat) (S : List Cs) (x : Nat) (w : World) (hr : RdS w w.heap.size A n c S) (ho : SOk S) (hx : x < 4294967296) (hR : RightP ways (cont S)) (k : Nat) (hk : x / 16 % n = k) (set : List Wy) (hset : (cont S)[k]? = some set) (at' : Nat) (b : Bool)
    (hb : (b = true ∧ ∃ v, At set (x - x % 16) at' v ∧ ∀ j < at', ∀ u, set[j]? = some u → u.line ≠ x - x % 16) ∨ (b = false ∧ at' = 0 ∧ NotIn set (x - x % 16))) :
    Calls Try.prog 34 #[.agg #[.int .i64 ways, .slice A n c], .int .u32 (x : Int)] w fun e w' => e = .returned (.tuple #[.int .i64 (k : Int), .int .i64 (at' : Int), .bool b]) ∧ Bel w w' := by
  have hn : n = 1 ∨ n = 2 ∨ n = 4 := by have := hR.hn; rwa [cont_len, hr.slen] at this
  have HR := Lib.hid (fun W (hw : Bel w W) => refRight_any ways A n c S W (hr.bel hw) ho true ⟨fun _ => hR, fun _ => rfl⟩)
  have hkn : k < n := by rw [← hk]; exact Nat.mod_lt _ (by omega)
  obtain ⟨hl, g0, o0, rfl, hg0, hcs, hs⟩ := hr.at_ hkn
  have hso := ho _ (List.getElem_mem hl)
  rw [cont_at hl] at hset
  have hset' : (S[k]'hl).ws = set := by injection hset
  obtain ⟨s, hs'⟩ : ∃ s, S[k]'hl = s := ⟨_, rfl⟩
  rw [hs'] at hcs hs hset' hso
  obtain ⟨sA, m, sc, ws⟩ := s
  simp only at hcs hs hset' hso
  subst hset'
  have HL := Lib.hid (fun W => refLineOf_any x W hx)
  have hxx : (x - x % 16) / 16 % n = k := by rw [← hk]; congr 1; omega
  have HS := Lib.hid (fun W => refSetOf_any ways (some ⟨g0, o0, none⟩) n c (x - x % 16) W hn (by omega))
  rw [hxx] at HS
  have Hcs := Lib.hid hcs
  have hki : (k : Int) < (n : Int) := by omega
  have hk0 : (0 : Int) ≤ (k : Int) := by omega
  have hc1 := hr.rd.le
  have hc2 := hr.rd.mx
  have hm1 := hs.le
  have hm2 := hs.mx
  unfold maxLen at hc2 hm2
  have hwl := Lib.hid hs.wyslen
  replace hso := Lib.hid hso
  clear hk hxx hset hs' hcs hn
  revert HL HS hb
  generalize x - x % 16 = lo
  intro hb HL HS
  replace hb := Lib.hid hb
  go_enter Try.func34, Try.ntmps34
  go_upto_region 1 with (fail)
  have hkC := Bk.new' w 36 [.int .i64 ways, .slice (some ⟨g0, o0, none⟩) n c] w.heap.size rfl
  have hbel := Bel.alloc w (.cells [Value.int .i64 ways, .slice (some ⟨g0, o0, none⟩) n c].toArray 36)
  revert hkC hbel
  generalize w.alloc _ = W0
  intro hkC hbel
  replace hbel := Lib.hid hbel
  go_wp2_with (first | (refine wpList_load_bk (by rfl) 36 (.tmp 2) (by rfl) w.heap.size (by rfl) 36 _ _ rfl hkC cTy ?_) | (go_at_call 22; refine (HR.out _ hbel.out).mono ?_; rintro e w1 ⟨rfl, hn1⟩; replace hkC := hkC.bel hn1; replace hbel := Lib.hid (hbel.out.trans hn1); clear hn1) | (go_at_call 68; refine (HL.out _).mono ?_; rintro e w2 ⟨rfl, d2, rfl⟩; replace hkC := hkC.drewN d2; replace hbel := Lib.hid (hbel.out.trans (Bel.drewN _ d2))) | (go_at_call 61; refine (HS.out _).mono ?_; rintro e w3 ⟨rfl, hn3⟩; replace hkC := hkC.bel hn3; replace hbel := Lib.hid (hbel.out.trans hn3); have cc := hkC.cell_of 1 _ rfl; have ccs := hbel.out.cell_of Hcs.out; clear hn3))
  clear cc ccs
  have hset := Lib.hid (hs.bel hbel.out)
  have hlast : Hid (at' ≤ m) := by
    show at' ≤ m
    rcases hb.out with ⟨_, v, hv, _⟩ | ⟨_, h, _⟩
    · have := (List.getElem?_eq_some_iff.1 hv.is).1
      have := hwl.out
      omega
    · omega
  go_loopw [25] (fun i wr => ∃ j : Nat, j ≤ m ∧ i = .int .i64 (j : Int) ∧ (∀ i < j, ∀ u, ws[i]? = some u → u.line ≠ lo) ∧ Bel w3 wr) (fun i _ => m - (intOf i).toNat)
  case atStart => exact ⟨0, by omega, rfl, fun i h => absurd h (by omega), Bel.refl w3⟩
  case round =>
    obtain ⟨j, hj, rfl, hnd, hbi⟩ := hrel
    replace hnd := Lib.hid hnd
    by_cases hjm : j < m
    · obtain ⟨hlj, g, o, rfl, hg, hce⟩ := (hset.out.bel hbi).wyselem hjm
      have hat : ws[j]? = some (ws[j]'hlj) := List.getElem?_eq_getElem hlj
      have hvo := hso.out _ (List.getElem_mem hlj)
      obtain ⟨v, hv⟩ : ∃ v, ws[j]'hlj = v := ⟨_, rfl⟩
      rw [hv] at hce hat hvo
      clear hv
      replace hce := Lib.hid hce
      replace hat := Lib.hid hat
      go_upto_region 8 with (first | (refine wpList_load_elem (by rfl) 49 (.tmp 28) (by rfl) g (o + j * 3) (by rfl) v.cells v.val rfl hce.out wysTy ?_) | (refine wpList_store_bk (by rfl) 49 (.tmp 10) (.tmp 29) (by rfl) wr.heap.size v.cells (by rfl) (by rfl) 49 wysZ ?_ rfl wysTy v.one ?_; exact Bk.new wr _ wysZ; intro w1 hk1 hs1 ho1 hbe1; clear hs1 ho1))
      go_frame
      have hb1 := hbi.trans (hbe1 _ (Bel.alloc _ _) (Nat.le_refl _))
      replace hbe1 := Lib.hid hbe1
      have d0 := hk1.cell_of 0 _ rfl
      by_cases hvl : v.line = lo
      · have hvb : ((v.line : Int) == (lo : Int)) = true := by simp [hvl]
        have hres : j = at' ∧ b = true := by
          rcases hb.out with ⟨rfl, u, hu, hf⟩ | ⟨rfl, _, hno⟩
          · refine ⟨?_, rfl⟩
            rcases Nat.lt_trichotomy j at' with h | h | h
            · exact absurd hvl (hf j h v hat.out)
            · exact h
            · exact absurd hu.line (hnd.out at' h u hu.is)
          · exact absurd hvl (hno v (List.mem_of_getElem? hat.out))
        obtain ⟨rfl, rfl⟩ := hres
        clear hvl
        go_wp2
        go_ret3
        exact ⟨rfl, hbel.out.trans hb1⟩
      · have hvb : ¬ ((v.line : Int) = (lo : Int)) := fun h => hvl (by exact_mod_cast h)
        replace hvl := Lib.hid hvl
        go_wp2
        go_roundw
        case rel =>
          refine ⟨j + 1, by omega, by go_num, fun i hi u hu => ?_, hb1⟩
          rcases Nat.lt_or_ge i j with h | h
          · exact hnd.out i h u hu
          · obtain rfl : i = j := by omega
            have e := hat.out
            rw [hu] at e
            injection e with e
            subst e
            exact hvl.out
        case measure => first | (simp [intOf]; done) | (simp [intOf]; omega)
    · obtain rfl : j = m := by omega
      have hres : b = false ∧ at' = 0 := by
        rcases hb.out with ⟨rfl, u, hu, hf⟩ | ⟨rfl, h, hno⟩
        · exact absurd hu.line (hnd.out at' (by have := (List.getElem?_eq_some_iff.1 hu.is).1; have := hwl.out; omega) u hu.is)
        · exact ⟨rfl, h⟩
      obtain ⟨rfl, rfl⟩ := hres
      go_wp2
      go_ret3
      exact ⟨rfl, hbel.out.trans hbi⟩
end Go.Proofs.Ytcahadkkjfijfaa
