/- The guess package: Next; the statements' own alive. -/
import Derived.Test.YtghekfdpgeopjaaGuessT
import Derived.Test.YtghekfdpgeopjaaMin
set_option linter.unusedVariables false
set_option linter.unusedSimpArgs false
set_option maxRecDepth 100000
namespace Go.Proofs.Ytghekfdpgeopjaa
open Go.RowKit

def beq5 : Ins := ⟨5, 0, 0, 0, 0⟩

/-- what returns from a call: the place that the call laid -/
theorem Next_back (As Ar : Option Addr) (cs h nr cr pc : Nat) (rets : List Nat) (x : Nat) (i : Ins) (w : World) (h1 : h < 8) (h2 : nr ≤ 4) (hi : -9223372036854775808 ≤ i.op ∧ i.op ≤ 9223372036854775807) (hk : kindI i.op = 5) (hb : backB i = true) (hn0 : 0 < nr)
    (hrt : Rd w w.heap.size 1 Ar nr cr (u32v rets)) (hx : rets[nr - 1]? = some x) :
    Calls Try.prog 8 #[gv As 8 cs h Ar nr cr, .int .u32 (pc : Int), i.val] w fun e w' => e = .returned (.int .u32 (x : Int)) ∧ Bel w w' := by
  have HR := Lib.hid (fun W => Right_yes As Ar cs h nr cr W h1 h2)
  have HK := Lib.hid (fun W => Kind_any i W hi)
  rw [hk] at HK
  have HB := Lib.hid (fun W => back_any i W)
  rw [hb] at HB
  clear hk hb
  obtain ⟨hl, g, o, rfl, hg, hc⟩ := hrt.u32at (k := nr - 1) (by omega)
  rw [List.getElem?_eq_getElem hl] at hx
  have hx' : rets[nr - 1]'hl = x := by injection hx
  rw [hx'] at hc
  have Hc := Lib.hid hc
  clear hx hx' hl hc
  unfold gv at *
  rw [show i.val = .agg i.cells.toArray from rfl]
  go_enter Try.func8, Try.ntmps8
  go_upto_region 1 with (fail)
  (have hk4 : Bk ((w.alloc (.cells #[.slice As 8 cs, .int .u32 (h : Int), .slice (some ⟨g, o, none⟩) nr cr] 27)).alloc (.cells i.cells.toArray 31)) w.heap.size 27 [.slice As 8 cs, .int .u32 (h : Int), .slice (some ⟨g, o, none⟩) nr cr] := ((Bk.new' w _ _ _ rfl).alloc _); have hk7 : Bk ((w.alloc (.cells #[.slice As 8 cs, .int .u32 (h : Int), .slice (some ⟨g, o, none⟩) nr cr] 27)).alloc (.cells i.cells.toArray 31)) (w.heap.size + 1) 31 i.cells := Bk.new' _ _ _ _ (by simp); have hbel : Bel w ((w.alloc (.cells #[.slice As 8 cs, .int .u32 (h : Int), .slice (some ⟨g, o, none⟩) nr cr] 27)).alloc (.cells i.cells.toArray 31)) := (Bel.alloc w _).trans (Bel.alloc _ _); revert hk4 hk7 hbel; generalize (w.alloc _).alloc _ = W0; intro hk4 hk7 hbel; replace hbel := Lib.hid hbel; have c40 := hk4.cell_of 0 _ rfl; have c41 := hk4.cell_of 1 _ rfl; have c42 := hk4.cell_of 2 _ rfl)
  go_wp2_with (first | (go_at_call 12; refine (HR.out _).mono ?_; rintro e w1 ⟨rfl, hn⟩; replace hk4 := hk4.bel hn; replace hk7 := hk7.bel hn; have c40 := hk4.cell_of 0 _ rfl; have c41 := hk4.cell_of 1 _ rfl; have c42 := hk4.cell_of 2 _ rfl; replace hbel := Lib.hid (hbel.out.trans hn); clear hn) | (go_at_call 13; refine (HK.out _).mono ?_; rintro e w2 ⟨rfl, hn⟩; replace hk4 := hk4.bel hn; replace hk7 := hk7.bel hn; have c40 := hk4.cell_of 0 _ rfl; have c41 := hk4.cell_of 1 _ rfl; have c42 := hk4.cell_of 2 _ rfl; replace hbel := Lib.hid (hbel.out.trans hn); clear hn) | (go_at_call 16; refine (HB.out _).mono ?_; rintro e w3 ⟨rfl, hn⟩; replace hk4 := hk4.bel hn; replace hk7 := hk7.bel hn; have c40 := hk4.cell_of 0 _ rfl; have c41 := hk4.cell_of 1 _ rfl; have c42 := hk4.cell_of 2 _ rfl; replace hbel := Lib.hid (hbel.out.trans hn); have hcx := hbel.out.cell_of Hc.out; clear hn) | (refine wpList_load_bk (by rfl) 27 (.tmp 3) (by rfl) w.heap.size (by rfl) 27 _ _ rfl hk4 gTy ?_) | (refine wpList_load_bk (by rfl) 31 (.tmp 5) (by rfl) (w.heap.size + 1) (by rfl) 31 i.cells i.val rfl hk7 inssTy ?_))
  go_ret
  exact ⟨rfl, hbel.out⟩

theorem slotOf_lit (g o : Nat) (w : World) :
    Calls Try.prog 14 #[gv (some ⟨g, o, none⟩) 8 8 0 none 0 0, .int .u32 8] w fun e w' => e = .returned (.int .i64 2) ∧ Bel w w' := by
  have hx : bits .xor .u32 2 0 = 2 := by decide
  have hx0 : (0 : Int) ≤ bits .xor .u32 2 0 := by rw [hx]; decide
  unfold gv
  go_enter Try.func14, Try.ntmps14
  go_wp2
  go_ret
  exact ⟨rfl, Bel.alloc _ _⟩
set_option maxHeartbeats 1000000 in
/-- a place that is not known -/
theorem Next_new (g o : Nat) (w : World) (hsl : Rd w w.heap.size 2 (some ⟨g, o, none⟩) 8 8 (sls (List.replicate 8 ⟨0, 0⟩))) :
    Calls Try.prog 8 #[gv (some ⟨g, o, none⟩) 8 8 0 none 0 0, .int .u32 8, beq5.val] w fun e w' => e = .returned (.int .u32 12) ∧ Bel w w' := by
  have hr : ∀ W, Calls Try.prog 12 #[gv (some ⟨g, o, none⟩) 8 8 0 none 0 0] W fun e w' => e = .returned (.bool true) ∧ Bel W w' := fun W => Right_yes _ none 8 0 0 0 W (by omega) (by omega)
  have HR := Lib.hid hr
  have hkk : ∀ W, Calls Try.prog 13 #[beq5.val] W fun e w' => e = .returned (.int .i64 5) ∧ Bel W w' := fun W => Kind_any beq5 W (by decide)
  have HK := Lib.hid hkk
  have hb : ∀ W, Calls Try.prog 16 #[beq5.val] W fun e w' => e = .returned (.bool false) ∧ Bel W w' := fun W => back_any beq5 W
  have HB := Lib.hid hb
  have HS := Lib.hid (fun W => slotOf_lit g o W)
  have hcell : ∀ s, s < 8 → w.cell? ⟨g, o + s * 2, none⟩ = some (.int .u32 0) ∧ w.cell? ⟨g, o + s * 2 + 1, none⟩ = some (.int .u32 0) ∧ g < w.heap.size := by
    intro s hs
    obtain ⟨hl, g', o', e, hg, d0, d1⟩ := hsl.slsat hs
    injection e with e
    injection e with e1 e2
    subst e1 e2
    simp only [List.getElem_replicate] at d0 d1
    exact ⟨d0, d1, hg⟩
  have Hcell := Lib.hid hcell
  have hgw := (hcell 0 (by omega)).2.2
  clear hr hkk hb hcell hsl
  unfold gv at *
  rw [show beq5.val = .agg beq5.cells.toArray from rfl]
  go_enter Try.func8, Try.ntmps8
  go_upto_region 1 with (fail)
  (have hk4 : Bk ((w.alloc (.cells #[.slice (some ⟨g, o, none⟩) 8 8, .int .u32 0, .slice none 0 0] 27)).alloc (.cells beq5.cells.toArray 31)) w.heap.size 27 [.slice (some ⟨g, o, none⟩) 8 8, .int .u32 0, .slice none 0 0] := ((Bk.new' w _ _ _ rfl).alloc _); have hk7 : Bk ((w.alloc (.cells #[.slice (some ⟨g, o, none⟩) 8 8, .int .u32 0, .slice none 0 0] 27)).alloc (.cells beq5.cells.toArray 31)) (w.heap.size + 1) 31 beq5.cells := Bk.new' _ _ _ _ (by simp); have hbel : Bel w ((w.alloc (.cells #[.slice (some ⟨g, o, none⟩) 8 8, .int .u32 0, .slice none 0 0] 27)).alloc (.cells beq5.cells.toArray 31)) := (Bel.alloc w _).trans (Bel.alloc _ _); revert hk4 hk7 hbel; generalize (w.alloc _).alloc _ = W0; intro hk4 hk7 hbel; replace hbel := Lib.hid hbel; have c40 := hk4.cell_of 0 _ rfl; have c41 := hk4.cell_of 1 _ rfl; have c42 := hk4.cell_of 2 _ rfl)
  go_upto_region 6 with (first | (go_at_call 12; refine (HR.out _).mono ?_; rintro e w1 ⟨rfl, hn⟩; replace hk4 := hk4.bel hn; replace hk7 := hk7.bel hn; have c40 := hk4.cell_of 0 _ rfl; have c41 := hk4.cell_of 1 _ rfl; have c42 := hk4.cell_of 2 _ rfl; replace hbel := Lib.hid (hbel.out.trans hn); clear hn) | (go_at_call 13; refine (HK.out _).mono ?_; rintro e w2 ⟨rfl, hn⟩; replace hk4 := hk4.bel hn; replace hk7 := hk7.bel hn; have c40 := hk4.cell_of 0 _ rfl; have c41 := hk4.cell_of 1 _ rfl; have c42 := hk4.cell_of 2 _ rfl; replace hbel := Lib.hid (hbel.out.trans hn); clear hn) | (go_at_call 16; refine (HB.out _).mono ?_; rintro e w3 ⟨rfl, hn⟩; replace hk4 := hk4.bel hn; replace hk7 := hk7.bel hn; have c40 := hk4.cell_of 0 _ rfl; have c41 := hk4.cell_of 1 _ rfl; have c42 := hk4.cell_of 2 _ rfl; replace hbel := Lib.hid (hbel.out.trans hn); clear hn) | (refine wpList_load_bk (by rfl) 27 (.tmp 3) (by rfl) w.heap.size (by rfl) 27 _ _ rfl hk4 gTy ?_) | (refine wpList_load_bk (by rfl) 31 (.tmp 5) (by rfl) (w.heap.size + 1) (by rfl) 31 beq5.cells beq5.val rfl hk7 inssTy ?_))
  have hlt := hk4.lt
  have hgs : g < w3.heap.size := Nat.lt_of_lt_of_le hgw hbel.out.size
  have e0 : w3.cell? ⟨g, o + 4, none⟩ = some (.int .u32 0) := hbel.out.cell_of (Hcell.out 2 (by omega)).1
  have e1 : w3.cell? ⟨g, o + 4 + 1, none⟩ = some (.int .u32 0) := hbel.out.cell_of (Hcell.out 2 (by omega)).2.1
  have hg1 : g < w3.heap.size + 1 := by omega
  have hlt1 : w.heap.size < w3.heap.size + 1 := by omega
  clear HR HK HB Hcell hgw
  go_region_with ((go_at_call 14; refine (HS.out _).mono ?_; rintro e w5 ⟨rfl, hn⟩; obtain ⟨hc5, hf5⟩ := bcell hn; have f0 : w5.cell? ⟨g, o + 4, none⟩ = some (.int .u32 0) := hn.cell_of (by first | exact e0 | exact (World.cell?_alloc_lt _ _ _ hgs).trans e0); have f1 : w5.cell? ⟨g, o + 4 + 1, none⟩ = some (.int .u32 0) := hn.cell_of (by first | exact e1 | exact (World.cell?_alloc_lt _ _ _ hgs).trans e1); have d0 := hn.cell_of (p := ⟨w.heap.size, 0, none⟩) (by first | exact c40 | exact (World.cell?_alloc_lt _ _ _ hlt).trans c40); have d1 := hn.cell_of (p := ⟨w.heap.size, 1, none⟩) (by first | exact c41 | exact (World.cell?_alloc_lt _ _ _ hlt).trans c41); have d2 := hn.cell_of (p := ⟨w.heap.size, 2, none⟩) (by first | exact c42 | exact (World.cell?_alloc_lt _ _ _ hlt).trans c42); have hg5 : g < w5.heap.size := Nat.lt_of_lt_of_le (by first | exact hgs | (simp <;> omega)) hn.size; have hw5 : w.heap.size < w5.heap.size := Nat.lt_of_lt_of_le (by first | exact hlt | (simp <;> omega)) hn.size))
  all_goals
    have hw3 : w.heap.size ≤ w3.heap.size := Nat.le_of_lt hlt
    go_wp2
    go_ret
    first
      | exact ⟨rfl, (hbel.out.trans ((Bel.drew _).trans hn)).trans (Bel.alloc _ _)⟩
      | exact ⟨rfl, ((hbel.out.trans ((Bel.drew _).trans ((Bel.alloc _ _).trans hn))).setCell (p := ⟨w3.heap.size, 0, none⟩) hw3 _).setCell (p := ⟨w3.heap.size, 1, none⟩) hw3 _⟩
      | trace_state

end Go.Proofs.Ytghekfdpgeopjaa
