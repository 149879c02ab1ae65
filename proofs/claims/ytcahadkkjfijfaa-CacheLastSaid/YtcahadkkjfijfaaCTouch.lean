/- The cache package: Touch. -/
import Derived.Test.YtcahadkkjfijfaaCWith
import Derived.Deep.RegionHeld3
set_option linter.unusedVariables false
set_option linter.unusedSimpArgs false
set_option maxRecDepth 100000
namespace Go.Proofs.Ytcahadkkjfijfaa
open Go.RowKit Go.Sort

/-- a cache that came back: it reads as these sets -/
def CB (w : World) (ways : Int) (v : Value) (C : List (List Wy)) : Prop := ∃ A n c S, v = .agg #[.int .i64 ways, .slice A n c] ∧ RdS w w.heap.size A n c S ∧ cont S = C

theorem keep2 {w : World} {R : Nat} (u v x : Value) {p : Addr} (h : w.cell? p = some x) (hp : p.block ≠ R) : ((w.setCell ⟨R, 0, none⟩ u).setCell ⟨R, 1, none⟩ v).cell? p = some x :=
  (World.cell?_of_block ((Below.heap_setCell _ _ _ p.block hp).trans (Below.heap_setCell _ _ _ p.block hp))).trans h
set_option maxHeartbeats 1000000 in
/-- a line that is not there -/
theorem Touch_same (ways : Int) (A : Option Addr) (n c x k : Nat) (at' : Nat) (w : World)
    (HF : Hid (∀ W, Bel w W → Calls Try.prog 33 #[.agg #[.int .i64 ways, .slice A n c], .int .u32 (x : Int)] W fun e w' => e = .returned (.tuple #[.int .i64 (k : Int), .int .i64 (at' : Int), .bool false]) ∧ Bel W w')) :
    Calls Try.prog 31 #[.agg #[.int .i64 ways, .slice A n c], .int .u32 (x : Int)] w fun e w' => e = .returned (.agg #[.int .i64 ways, .slice A n c]) ∧ Bel w w' := by
  go_enter Try.func31, Try.ntmps31
  go_upto_region 1 with (fail)
  have hkC := (Bk.new' w 36 [.int .i64 ways, .slice A n c] w.heap.size rfl).alloc (.cells [Value.int .i64 0, .slice none 0 0].toArray 36); have hkR := Bk.new' (w.alloc (.cells [Value.int .i64 ways, .slice A n c].toArray 36)) 36 [.int .i64 0, .slice none 0 0] (w.heap.size + 1) (by simp); have hbel := (Bel.alloc w (.cells [Value.int .i64 ways, .slice A n c].toArray 36)).trans (Bel.alloc _ (.cells [Value.int .i64 0, .slice none 0 0].toArray 36)); revert hkC hkR hbel; generalize (w.alloc _).alloc _ = W0; intro hkC hkR hbel; replace hbel := Lib.hid hbel; have hRl := hkR.lt
  go_wp2_with (first | (refine wpList_load_bk (by rfl) 36 (.tmp 2) (by rfl) w.heap.size (by rfl) 36 _ _ rfl hkC cTy ?_) | (go_at_call 33; refine (HF.out _ hbel.out).mono ?_; rintro e w1 ⟨rfl, hn1⟩; replace hkC := hkC.bel hn1; replace hkR := hkR.bel hn1; replace hbel := Lib.hid (hbel.out.trans hn1); clear hn1) | (refine wpList_store_bk (by rfl) 36 (.tmp 4) (.tmp 17) (by rfl) (w.heap.size + 1) [.int .i64 ways, .slice A n c] (by rfl) (by rfl) 36 _ hkR rfl cTy (by simp [Value.oneCell']) ?_; intro w3 hk3 hs3 ho3 hbe3))
  exact bodyPost_ret (res_c rfl (by rfl) hk3 cTy) rfl ⟨rfl, hbe3 w hbel.out (by omega)⟩
set_option maxHeartbeats 1000000 in
theorem Touch_yes (ways : Int) (A : Option Addr) (n c : Nat) (S : List Cs) (x k at' : Nat) (set : List Wy) (v : Wy) (w : World) (hr : RdS w w.heap.size A n c S) (hn : n ≤ 1000) (hk : k < n) (hset : (cont S)[k]? = some set) (hsl : set.length ≤ 1000) (hv : set[at']? = some v)
    (HF : Hid (∀ W, Bel w W → Calls Try.prog 33 #[.agg #[.int .i64 ways, .slice A n c], .int .u32 (x : Int)] W fun e w' => e = .returned (.tuple #[.int .i64 (k : Int), .int .i64 (at' : Int), .bool true]) ∧ Bel W w')) :
    Calls Try.prog 31 #[.agg #[.int .i64 ways, .slice A n c], .int .u32 (x : Int)] w fun e w' => ∃ v', e = .returned v' ∧ CB w' ways v' ((cont S).set k (frontL set at' v)) ∧ Bel w w' := by
  obtain ⟨hl, g0, o0, hA, hg0, hcs, hs⟩ := hr.at_ hk
  rw [cont_at hl] at hset
  have hset' : (S[k]'hl).ws = set := by injection hset
  obtain ⟨s, hs'⟩ : ∃ s, S[k]'hl = s := ⟨_, rfl⟩
  rw [hs'] at hcs hs hset'
  obtain ⟨sA, m, sc, ws⟩ := s
  simp only at hcs hs hset'
  subst hset'
  have hml := hs.wyslen
  have HFr := Lib.hid (fun W (hw : Bel w W) => front_any sA m sc ws at' v W (hs.bel hw) (by omega) hv)
  have HW := Lib.hid (fun A2 c2 W (hw : Bel w W) h2 => with_any ways A n c S k A2 m c2 (frontL ws at' v) W (hr.bel hw) hn hk h2)
  have hki : (k : Int) < (n : Int) := by omega
  have hk0 : (0 : Int) ≤ (k : Int) := by omega
  have hc1 := hr.rd.le
  have hc2 := hr.rd.mx
  unfold maxLen at hc2
  replace hcs := Lib.hid hcs
  clear hset hs' hv hml
  replace hA := Lib.hid hA
  go_enter Try.func31, Try.ntmps31
  go_upto_region 1 with (fail)
  have hkC := (Bk.new' w 36 [.int .i64 ways, .slice A n c] w.heap.size rfl).alloc (.cells [Value.int .i64 0, .slice none 0 0].toArray 36); have hkR := Bk.new' (w.alloc (.cells [Value.int .i64 ways, .slice A n c].toArray 36)) 36 [.int .i64 0, .slice none 0 0] (w.heap.size + 1) (by simp); have hbel := (Bel.alloc w (.cells [Value.int .i64 ways, .slice A n c].toArray 36)).trans (Bel.alloc _ (.cells [Value.int .i64 0, .slice none 0 0].toArray 36)); revert hkC hkR hbel; generalize (w.alloc _).alloc _ = W0; intro hkC hkR hbel; replace hbel := Lib.hid hbel; have hRl := hkR.lt
  go_upto_region 4 with (first | (refine wpList_load_bk (by rfl) 36 (.tmp 2) (by rfl) w.heap.size (by rfl) 36 _ _ rfl hkC cTy ?_) | (go_at_call 33; refine (HF.out _ hbel.out).mono ?_; rintro e w1 ⟨rfl, hn1⟩; replace hkC := hkC.bel hn1; replace hkR := hkR.bel hn1; replace hbel := Lib.hid (hbel.out.trans hn1); clear hn1))
  obtain rfl := hA.out
  have c0 := hkC.cell_of 0 _ rfl
  have c1 := hkC.cell_of 1 _ rfl
  have ccs := hbel.out.cell_of hcs.out
  have hkRd : Bk w1.drew (w.heap.size + 1) 36 _ := hkR
  have hlt1 := hkR.lt
  go_region_held3 (fun w' => w'.cell? ⟨w.heap.size, 0, none⟩ = some (.int .i64 ways) ∧ w'.cell? ⟨w.heap.size, 1, none⟩ = some (.slice (some ⟨g0, o0, none⟩) n c) ∧ w'.cell? ⟨g0, o0 + k, none⟩ = some (.slice sA m sc)) (first | (refine (fun (hq : Bel w1 _) => ⟨hq.cell_of c0, hq.cell_of c1, hq.cell_of ccs⟩) ?_; first | exact (Bel.drew w1).trans hn2 | exact ((Bel.drew w1).trans hn2).trans hn3) | exact ⟨keep2 _ _ _ ((((Bel.drew w1).trans hn2).trans hn3).cell_of c0) (by show w.heap.size ≠ _; omega), keep2 _ _ _ ((((Bel.drew w1).trans hn2).trans hn3).cell_of c1) (by show w.heap.size ≠ _; omega), keep2 _ _ _ ((((Bel.drew w1).trans hn2).trans hn3).cell_of ccs) (by show g0 ≠ _; omega)⟩ | go_keep) (first | (go_at_call 65; refine (HFr.out _ (hbel.out.trans (Bel.drew w1))).mono ?_; rintro e w2 ⟨A2, c2, rfl, hr2, hge2, hn2⟩) | (go_at_call 66; refine (HW.out _ _ _ (hbel.out.trans ((Bel.drew w1).trans hn2)) hr2).mono ?_; rintro e w3 ⟨g, rfl, hr3, hg3, hn3⟩; have k3 := (hkRd.bel hn2).bel hn3; have r03 := k3.cell_of 0 _ rfl; have r13 := k3.cell_of 1 _ rfl; have f03 := k3.frozen (i := 0) (by simp); have f13 := k3.frozen (i := 1) (by simp)))
  have hk5 := (k3.set_ 0 (.int .i64 ways)).set_ 1 (.slice (some ⟨g, 0, none⟩) n n)
  have hb3 := hbel.out.trans (((Bel.drew w1).trans hn2).trans hn3)
  have hb5 := (hb3.setCell (p := ⟨w.heap.size + 1, 0, none⟩) (show w.heap.size ≤ w.heap.size + 1 by omega) (.int .i64 ways)).setCell (p := ⟨w.heap.size + 1, 1, none⟩) (show w.heap.size ≤ w.heap.size + 1 by omega) (.slice (some ⟨g, 0, none⟩) n n)
  have ho5 : ∀ b, b ≠ w.heap.size + 1 → ((w3.setCell ⟨w.heap.size + 1, 0, none⟩ (.int .i64 ways)).setCell ⟨w.heap.size + 1, 1, none⟩ (.slice (some ⟨g, 0, none⟩) n n)).heap[b]? = w3.heap[b]? := fun b hb => (Below.heap_setCell _ _ _ b hb).trans (Below.heap_setCell _ _ _ b hb)
  have hs5 : ((w3.setCell ⟨w.heap.size + 1, 0, none⟩ (.int .i64 ways)).setCell ⟨w.heap.size + 1, 1, none⟩ (.slice (some ⟨g, 0, none⟩) n n)).heap.size = w3.heap.size := by simp [World.setCell]
  have hl1 : w1.drew.heap.size = w1.heap.size := rfl
  have hl2 := hn2.size
  clear r03 r13 f03 f13
  revert hk5 hb5 ho5 hs5
  generalize (w3.setCell _ _).setCell _ _ = w5
  intro hk5 hb5 ho5 hs5
  replace ho5 := Lib.hid ho5
  go_wp2_with (fail)
  refine bodyPost_ret (res_c rfl (by rfl) hk5 cTy) rfl ⟨_, rfl, ⟨some ⟨g, 0, none⟩, n, n, S.set k ⟨A2, m, c2, frontL ws at' v⟩, rfl, ⟨hr3.rd.stay (fun g' o e => ho5.out _ (by injection e with e; injection e with e1 _; omega)) (by omega), fun s hs => ?_⟩, by rw [cont_set]⟩, hb5⟩
  rcases List.mem_or_eq_of_mem_set hs with h | h
  · exact ((hr.sets s h).below hb5).more hb5.size
  · subst h
    exact (hr3.sets _ (by rw [List.mem_iff_getElem]; exact ⟨k, by simp; omega, by simp⟩)).stay (fun g' o e => ho5.out _ (by have := hge2 g' o e; omega)) (by omega)

end Go.Proofs.Ytcahadkkjfijfaa
