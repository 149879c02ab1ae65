/- The taint package: what is visible; the statement TaintFront: the walks. -/
import Derived.Test.YtbfllafbklfcjaaTaint
import Derived.Test.YtbfllafbklfcjaaOpenEntry
import Derived.Deep.Cut
set_option linter.unusedVariables false
set_option linter.unusedSimpArgs false
set_option maxRecDepth 100000
namespace Go.Proofs.Ytbfllafbklfcjaa
open Go.RowKit

theorem Visible_yes (A : Option Addr) (n c : Nat) (q : List En) (i : Int) (w : World) (hr : Rd w w.heap.size 17 A n c (ens q)) (hq : opOk q) (h0 : 0 ≤ i) (h1 : i ≤ (frontL q : Int)) :
    Calls Try.prog 13 #[.slice A n c, .int .i64 i] w fun e w' => e = .returned (.bool true) ∧ Bel w w' := by
  have hn := hr.enslen
  have hfl := frontL_le q
  have h2 : i ≤ (n : Int) := by omega
  have HF := Lib.hid (Front_any A n c q w hr hq)
  clear hn hfl
  generalize frontL q = f at *
  go_enter Try.func13, Try.ntmps13
  go_wp2_with (go_at_call 10; refine HF.out.mono ?_; rintro e w1 ⟨rfl, hb1⟩)
  go_ret
  exact ⟨rfl, hb1⟩
theorem Visible_no (A : Option Addr) (n c : Nat) (q : List En) (i : Int) (w : World) (hr : Rd w w.heap.size 17 A n c (ens q)) (hq : opOk q) (h : i < 0 ∨ (frontL q : Int) < i) :
    Calls Try.prog 13 #[.slice A n c, .int .i64 i] w fun e w' => e = .returned (.bool false) ∧ Bel w w' := by
  have HF := Lib.hid (Front_any A n c q w hr hq)
  have hn := hr.enslen
  by_cases h0 : i < 0
  · clear h hn
    go_enter Try.func13, Try.ntmps13
    go_wp2_with fail
    go_ret
    exact ⟨rfl, Bel.refl w⟩
  · have h1 : 0 ≤ i := by omega
    have h3 : (frontL q : Int) < i := by omega
    clear h h0 hn
    by_cases h2 : i ≤ (n : Int)
    · have hd : decide (i ≤ (frontL q : Int)) = false := by simpa using h3
      generalize frontL q = f at *
      go_enter Try.func13, Try.ntmps13
      go_wp2_with (go_at_call 10; refine HF.out.mono ?_; rintro e w1 ⟨rfl, hb1⟩)
      go_ret
      exact ⟨rfl, hb1⟩
    · go_enter Try.func13, Try.ntmps13
      go_wp2_with fail
      go_ret
      exact ⟨rfl, Bel.refl w⟩

theorem few_any (A : Option Addr) (n c : Nat) (q : List En) (w : World) (hr : Rd w w.heap.size 17 A n c (ens q)) (hq : opOk q) :
    Calls Try.prog 9 #[.slice A n c] w fun e w' => ∃ m q', e = .returned (.slice A m c) ∧ m ≤ 20 ∧ Rd w w.heap.size 17 A m c (ens q') ∧ opOk q' ∧ Bel w w' := by
  have hc1 := hr.le
  have hc2 := hr.mx
  unfold maxLen at hc2
  obtain ⟨N, hN, hN1, hN2⟩ : ∃ N : Nat, ((N : Nat) : Int) = (if (20 : Int) < (n : Int) then 20 else (n : Int)) ∧ N ≤ n ∧ N ≤ 20 := ⟨min n 20, by split <;> omega, by omega, by omega⟩
  have HN := Lib.hid hN
  have Hq := Lib.hid hq
  clear hN hq
  go_enter Try.func9, Try.ntmps9
  go_wp2_with (refine wpList_min rfl _ _ _ (by rfl) _ _ _ _ (N : Int) (by rfl) (by rfl) HN.out ?_)
  go_ret
  refine ⟨N, q.take N, rfl, hN2, ?_, fun e he => Hq.out e (List.mem_of_mem_take he), Bel.refl w⟩
  rw [← ens_take]
  exact hr.to hN1

def plainE : En := ⟨0, 0, ⟨28, 0, 0, 0, 0⟩, 0, 0, 0, 0, 0, 0, 0, 0, false, false⟩
def jumpE : En := ⟨0, 0, ⟨5, 0, 0, 0, 0⟩, 0, 0, 0, 0, 0, 0, 0, 0, false, false⟩
theorem alive_any (w : World) :
    Calls Try.prog 12 #[] w fun e w' => e = .returned (.bool true) ∧ Bel w w' := by
  have h1 : ∀ W, Calls Try.prog 11 #[.agg #[.int .i64 0, .int .u32 0, .int .i64 28, .int .i64 0, .int .i64 0, .int .i64 0, .int .u32 0, .int .u32 0, .int .i64 0, .int .i64 0, .int .u32 0, .int .u32 0, .int .u32 0, .int .i64 0, .int .i64 0, .bool false, .bool false]] W fun x w' => x = .returned (.bool true) ∧ Bel W w' := fun W => Safe_any plainE W (by decide)
  have h2 : ∀ W, Calls Try.prog 11 #[.agg #[.int .i64 0, .int .u32 0, .int .i64 5, .int .i64 0, .int .i64 0, .int .i64 0, .int .u32 0, .int .u32 0, .int .i64 0, .int .i64 0, .int .u32 0, .int .u32 0, .int .u32 0, .int .i64 0, .int .i64 0, .bool false, .bool false]] W fun x w' => x = .returned (.bool false) ∧ Bel W w' := fun W => Safe_any jumpE W (by decide)
  have H1 := Lib.hid h1
  have H2 := Lib.hid h2
  clear h1 h2
  go_enter Try.func12, Try.ntmps12
  go_wp2_with (first | (go_at_call 11; with_reducible refine (H1.out _).mono ?_; rintro x w1 ⟨rfl, hb1⟩) | (go_at_call 11; with_reducible refine (H2.out _).mono ?_; rintro x w2 ⟨rfl, hb2⟩))
  go_ret
  exact ⟨rfl, hb1.trans hb2⟩

theorem frontL_take (q : List En) : frontL (q.take (frontL q)) = frontL q := by
  have hl := frontL_le q
  rw [frontL_all (l := q.take (frontL q)) fun j hj => ?_, List.length_take]
  · omega
  · have hj' : j < frontL q := by rw [List.length_take] at hj; omega
    obtain ⟨h1, h2⟩ := frontL_safe hj'
    rw [List.getElem_take]; exact h2
theorem safe_halt {e : En} (h : safeB e = true) : e.halt = 0 := by
  unfold safeB at h
  split at h
  · assumption
  · cases h

set_option maxHeartbeats 1000000 in
theorem TaintFront_any (A : Option Addr) (n c : Nat) (q : List En) (w : World) (hr : Rd w w.heap.size 17 A n c (ens q)) (hq0 : ∀ r ∈ q, EnOk r) :
    Calls Try.prog 3 #[.slice A n c] w fun e w' => e = .returned (.bool true) ∧ Bel w w' := by
  have hq : opOk q := fun r hr => (hq0 r hr).2.2.1.1
  have HFEW := Lib.hid (few_any A n c q w hr hq)
  clear hq0 hq hr
  go_enter Try.func3, Try.ntmps3
  go_upto_region 2 with (go_at_call 9; refine HFEW.out.mono ?_; rintro e w1 ⟨m, q1, rfl, hm, hr1, hq1, hb1⟩)
  clear HFEW
  have hc1 := hr1.le
  have hc2 := hr1.mx
  unfold maxLen at hc2
  have hl1 := hr1.enslen
  have hfl := frontL_le q1
  rw [hl1] at hfl
  have Hr := Lib.hid (hr1.bel hb1)
  have HF := Lib.hid (fun W (hw : Bel w1 W) => Front_any A m c q1 W ((hr1.bel hb1).bel hw) hq1)
  have HFT := Lib.hid (fun W (hw : Bel w1 W) => Front_any A (frontL q1) c (q1.take (frontL q1)) W (by have := ((hr1.bel hb1).bel hw).to hfl; rwa [ens_take] at this) (fun e he => hq1 e (List.mem_of_mem_take he)))
  rw [frontL_take] at HFT
  have HV1 := Lib.hid (fun W (hw : Bel w1 W) => Visible_yes A m c q1 (frontL q1) W ((hr1.bel hb1).bel hw) hq1 (by omega) (by omega))
  have HV2 := Lib.hid (fun W (hw : Bel w1 W) => Visible_no A m c q1 ((frontL q1 : Int) + 1) W ((hr1.bel hb1).bel hw) hq1 (.inr (by omega)))
  have hsafe := fun j hj => frontL_safe (l := q1) (j := j) hj
  have Hsafe := Lib.hid hsafe
  have hun := @frontL_unsafe q1
  have Hun := Lib.hid hun
  have Hl1 := Lib.hid hl1
  have Hq1 := Lib.hid hq1
  clear hsafe hun hl1 hq1 hr1
  generalize hf : frontL q1 = f at *
  have hd0 : decide ((f : Int) < 0) = false := by simp
  have hd1 : decide (m < f) = false := by simpa using hfl
  by_cases hfm : f < m
  · have hd2 : decide (f < m) = true := by simpa using hfm
    have hlt : f < q1.length := by rw [Hl1.out]; exact hfm
    have hs : safeB (q1[f]'hlt) = false := Hun.out hlt
    clear hf
    obtain ⟨hl0, g0, o0, hA0, hg0, hce0⟩ := Hr.out.enselem hfm
    subst hA0
    have HS0 := Lib.hid (fun W => Safe_any (q1[f]'hl0) W (Hq1.out _ (List.getElem_mem hl0)))
    rw [hs] at HS0
    obtain ⟨e0, he0⟩ : ∃ e0, q1[f]'hl0 = e0 := ⟨_, rfl⟩
    rw [he0] at HS0 hce0
    replace hce0 := Lib.hid hce0
    clear hs he0
    go_upto_region 5 with (first | (go_at_call 10; refine (HF.out _ (Bel.refl _)).mono ?_; rintro x w2 ⟨rfl, hb2⟩; replace hce0 := Lib.hid (fun j u hu => (hb2.cell_of (hce0.out j u hu))); have hrw2 := Lib.hid hb2) | (refine wpList_load_elem (by rfl) 30 (.tmp 26) (by rfl) g0 (o0 + f * 17) (by rfl) e0.cells e0.val rfl hce0.out ensTy ?_) | (go_at_call 11; refine (HS0.out _).mono ?_; rintro x W ⟨rfl, hb3⟩))
    have hbW := Lib.hid (hb2.trans hb3)
    have hb01 := Lib.hid hb1
    clear hb1 hb2 hb3 hrw2 HS0 hce0
    go_wp2
    go_loopw [35] (fun i wr => ∃ k : Nat, k ≤ f ∧ i = .int .i64 (k : Int) ∧ Bel W wr) (fun i _ => f - (intOf i).toNat)
    case atStart => exact ⟨0, by omega, rfl, Bel.refl W⟩
    case round =>
      obtain ⟨k, hk, rfl, hbel⟩ := hrel
      by_cases hkn : k < f
      · obtain ⟨hl, g, o, hA, hg, hce⟩ := (Hr.out.bel (hbW.out.trans hbel)).enselem (k := k) (by omega)
        injection hA with hA; injection hA with hA1 hA2; subst hA1 hA2
        replace hce := Lib.hid hce
        obtain ⟨_, hs⟩ := Hsafe.out k hkn
        have hh := safe_halt hs
        have HS := Lib.hid (fun W => Safe_any (q1[k]'hl) W (Hq1.out _ (List.getElem_mem hl)))
        rw [hs] at HS
        obtain ⟨e, he⟩ : ∃ e, q1[k]'hl = e := ⟨_, rfl⟩
        rw [he] at HS hce hh
        clear hs he
        replace hh := Lib.hid hh
        go_wp2_with (first | (refine wpList_load_elem rfl 30 (.tmp 37) (by rfl) g0 (o0 + k * 17) (by rfl) e.cells e.val rfl hce.out ensTy ?_) | (refine wpList_store_bk rfl 30 (.tmp 5) (.tmp 38) (by rfl) wr.heap.size e.cells (by rfl) (by rfl) 30 ensZ ?_ rfl ensTy e.one ?_; go_must (exact Bk.new wr _ ensZ; intro w2 hk2 hs2 ho2 hbe2; have c9 : w2.cell? ⟨wr.heap.size, 13, none⟩ = some (.int .i64 e.halt) := hk2.cell 13; replace ho2 := Lib.hid ho2)) | (refine wpList_load_bk rfl 30 (.tmp 5) (by rfl) wr.heap.size (by rfl) 30 e.cells e.val rfl hk2 ensTy ?_) | (go_at_call 11; refine (HS.out _).mono ?_; rintro x w3 ⟨rfl, hb3⟩; have c9' : w3.cell? ⟨wr.heap.size, 13, none⟩ = some (.int .i64 0) := by rw [← hh.out]; exact hb3.cell_of c9))
        go_roundw
        case rel => exact ⟨k + 1, by omega, by go_num, hbel.trans ((hbe2 _ (Bel.alloc _ _) (Nat.le_refl _)).trans hb3)⟩
        case measure => first | (simp [intOf]; done) | (simp [intOf]; omega)
      · obtain rfl : k = f := by omega
        replace hbel := Lib.hid (hbW.out.trans hbel)
        go_wp2_with (first | (go_at_call 12; refine (alive_any _).mono ?_; rintro x w4 ⟨rfl, hnew⟩; replace hbel := Lib.hid (hbel.out.trans hnew); clear hnew) | (go_at_call 10; refine (HFT.out _ hbel.out).mono ?_; rintro x w5 ⟨rfl, hnew⟩; replace hbel := Lib.hid (hbel.out.trans hnew); clear hnew) | (go_at_call 13; with_reducible refine (HV1.out _ hbel.out).mono ?_; rintro x w6 ⟨rfl, hnew⟩; replace hbel := Lib.hid (hbel.out.trans hnew); clear hnew) | (go_at_call 13; with_reducible refine (HV2.out _ hbel.out).mono ?_; rintro x w7 ⟨rfl, hnew⟩; replace hbel := Lib.hid (hbel.out.trans hnew); clear hnew))
        go_ret
        exact ⟨rfl, hb01.out.trans hbel.out⟩
  · obtain rfl : f = m := by omega
    have hd2 : decide (f < f) = false := by simp
    clear hf
    go_upto_region 5 with (first | (go_at_call 10; refine (HF.out _ (Bel.refl _)).mono ?_; rintro x W ⟨rfl, hb2⟩))
    have hbW := Lib.hid hb2
    have hb01 := Lib.hid hb1
    clear hb1 hb2
    go_wp2
    go_loopw [35] (fun i wr => ∃ k : Nat, k ≤ f ∧ i = .int .i64 (k : Int) ∧ Bel W wr) (fun i _ => f - (intOf i).toNat)
    case atStart => exact ⟨0, by omega, rfl, Bel.refl W⟩
    case round =>
      obtain ⟨k, hk, rfl, hbel⟩ := hrel
      by_cases hkn : k < f
      · obtain ⟨hl, g, o, hA, hg, hce⟩ := (Hr.out.bel (hbW.out.trans hbel)).enselem (k := k) (by omega)
        subst hA
        replace hce := Lib.hid hce
        obtain ⟨_, hs⟩ := Hsafe.out k hkn
        have hh := safe_halt hs
        have HS := Lib.hid (fun W => Safe_any (q1[k]'hl) W (Hq1.out _ (List.getElem_mem hl)))
        rw [hs] at HS
        obtain ⟨e, he⟩ : ∃ e, q1[k]'hl = e := ⟨_, rfl⟩
        rw [he] at HS hce hh
        clear hs he
        replace hh := Lib.hid hh
        go_wp2_with (first | (refine wpList_load_elem rfl 30 (.tmp 37) (by rfl) g (o + k * 17) (by rfl) e.cells e.val rfl hce.out ensTy ?_) | (refine wpList_store_bk rfl 30 (.tmp 5) (.tmp 38) (by rfl) wr.heap.size e.cells (by rfl) (by rfl) 30 ensZ ?_ rfl ensTy e.one ?_; go_must (exact Bk.new wr _ ensZ; intro w2 hk2 hs2 ho2 hbe2; have c9 : w2.cell? ⟨wr.heap.size, 13, none⟩ = some (.int .i64 e.halt) := hk2.cell 13; replace ho2 := Lib.hid ho2)) | (refine wpList_load_bk rfl 30 (.tmp 5) (by rfl) wr.heap.size (by rfl) 30 e.cells e.val rfl hk2 ensTy ?_) | (go_at_call 11; refine (HS.out _).mono ?_; rintro x w3 ⟨rfl, hb3⟩; have c9' : w3.cell? ⟨wr.heap.size, 13, none⟩ = some (.int .i64 0) := by rw [← hh.out]; exact hb3.cell_of c9))
        go_roundw
        case rel => exact ⟨k + 1, by omega, by go_num, hbel.trans ((hbe2 _ (Bel.alloc _ _) (Nat.le_refl _)).trans hb3)⟩
        case measure => first | (simp [intOf]; done) | (simp [intOf]; omega)
      · obtain rfl : k = f := by omega
        replace hbel := Lib.hid (hbW.out.trans hbel)
        go_wp2_with (first | (go_at_call 12; refine (alive_any _).mono ?_; rintro x w4 ⟨rfl, hnew⟩; replace hbel := Lib.hid (hbel.out.trans hnew); clear hnew) | (go_at_call 10; refine (HFT.out _ hbel.out).mono ?_; rintro x w5 ⟨rfl, hnew⟩; replace hbel := Lib.hid (hbel.out.trans hnew); clear hnew) | (go_at_call 13; with_reducible refine (HV1.out _ hbel.out).mono ?_; rintro x w6 ⟨rfl, hnew⟩; replace hbel := Lib.hid (hbel.out.trans hnew); clear hnew) | (go_at_call 13; with_reducible refine (HV2.out _ hbel.out).mono ?_; rintro x w7 ⟨rfl, hnew⟩; replace hbel := Lib.hid (hbel.out.trans hnew); clear hnew))
        go_ret
        exact ⟨rfl, hb01.out.trans hbel.out⟩

end Go.Proofs.Ytbfllafbklfcjaa
