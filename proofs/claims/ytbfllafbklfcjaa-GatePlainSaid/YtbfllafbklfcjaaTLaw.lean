/- taint: what the laws' walks meet: few, alive, Visible; entries' instructions within rows. -/
import Derived.Test.YtbfllafbklfcjaaTRoots
set_option linter.unusedVariables false
set_option linter.unusedSimpArgs false
set_option maxRecDepth 100000
namespace Go.Proofs.Ytbfllafbklfcjaa
open Go.RowKit Go.Sort

theorem ens_inst {q : List En} {k : Nat} {e : En} (h : q[k]? = some e) : ∀ i u, e.inst.cells[i]? = some u → (ens q)[k * 17 + 2 + i]? = some u := fun i u hu => by
  have hi : i < 5 := (List.getElem?_eq_some_iff.1 hu).1
  have : e.cells[2 + i]? = some u := by
    match i, hi with
    | 0, _ => exact hu
    | 1, _ => exact hu
    | 2, _ => exact hu
    | 3, _ => exact hu
    | 4, _ => exact hu
  rw [Nat.add_assoc]
  exact Rows.el (f := ens) h this
theorem few14_any (A : Option Addr) (n c : Nat) (q : List En) (w : World) (hr : Rd w w.heap.size 17 A n c (ens q)) (hq : ensOk q) :
    Calls Try.prog 9 #[.slice A n c] w fun e w' => ∃ m q', e = .returned (.slice A m c) ∧ m ≤ 20 ∧ ensOk q' ∧ q'.length = m ∧ Out w [rowD 17 A n c (ens q)] w' [rowD 17 A m c (ens q')] := by
  have hF := St.start w [rowD 17 A n c (ens q)] (fun d hd => by obtain rfl := List.mem_singleton.1 hd; exact hr)
  have hql := hr.enslen
  have hc1 := hr.le
  have hc2 := hr.mx
  unfold maxLen at hc2
  obtain ⟨N, hN, hN1, hN2⟩ : ∃ N : Nat, ((N : Nat) : Int) = (if (20 : Int) < (n : Int) then 20 else (n : Int)) ∧ N ≤ n ∧ N ≤ 20 := ⟨min n 20, by split <;> omega, by omega, by omega⟩
  have HN := Lib.hid hN
  have Hq := Lib.hid hq
  clear hN hq
  go_enter Try.func9, Try.ntmps9
  go_wp2_with (first | (refine w_min (N : Int) rfl rfl rfl ?_ (hN := HN.out)) | ((first | (refine w_box rfl hF rfl ?_; clear hF; intro gN wN hF) | (refine w_alloc rfl hF ?_; clear hF; intro gN wN hF) | (refine w_ld1 rfl hF rfl ?_) | (refine w_ld rfl hF rfl ?_) | (refine w_st1 rfl hF rfl rfl ?_; clear hF; intro wN hF; (try simp only [List.set_cons_zero, List.set_cons_succ, List.eraseIdx_cons_zero, List.eraseIdx_cons_succ] at hF)) | (refine w_st rfl hF rfl rfl ?_; clear hF; intro wN hF; (try simp only [List.set_cons_zero, List.set_cons_succ, List.eraseIdx_cons_zero, List.eraseIdx_cons_succ] at hF)) | (refine w_fldB rfl rfl ?_) | (refine w_fld rfl hF rfl ?_) | (refine w_ix rfl hF rfl rfl ?_) | (refine w_lde1 rfl hF rfl ?_) | (refine w_lde rfl hF rfl ?_) | (refine w_bs1 rfl hF rfl ?_; clear hF; intro gN wN hF) | (refine w_bs0 rfl hF ?_; clear hF; intro gN wN hF) | (refine w_app rfl hF rfl rfl ?_; clear hF; intro vN wN hF; (try simp only [List.set_cons_zero, List.set_cons_succ, List.eraseIdx_cons_zero, List.eraseIdx_cons_succ] at hF)) | (refine w_appD rfl hF rfl rfl ?_; clear hF; intro vN wN hF; (try simp only [List.set_cons_zero, List.set_cons_succ, List.eraseIdx_cons_zero, List.eraseIdx_cons_succ] at hF)) | (refine w_ld1o rfl hF rfl ?_) | (refine w_st1o rfl hF rfl rfl ?_; clear hF; intro wN hF; (try simp only [List.set_cons_zero, List.set_cons_succ, List.eraseIdx_cons_zero, List.eraseIdx_cons_succ] at hF)) | (refine w_make0 rfl hF rfl rfl ?_; clear hF; intro gN wN hF) | (refine w_to rfl hF rfl rfl ?_; clear hF; intro hF) | (refine w_from rfl hF rfl rfl ?_; clear hF; intro hF)); (try simp only [Act.put, List.setIfInBounds_toArray, List.set_cons_zero, List.set_cons_succ, Nat.zero_add, Nat.zero_mul, Nat.reduceAdd])))
  go_ret
  rw [ens_take] at hF
  exact ⟨N, q.take N, rfl, hN2, Hq.out.take N, by rw [List.length_take]; omega, hF.outA⟩
theorem few15_any (A : Option Addr) (n c : Nat) (q : List En) (w : World) (hr : Rd w w.heap.size 17 A n c (ens q)) (hq : ensOk q) :
    Calls Try.prog 19 #[.slice A n c] w fun e w' => ∃ m q', e = .returned (.slice A m c) ∧ m ≤ 20 ∧ ensOk q' ∧ q'.length = m ∧ Out w [rowD 17 A n c (ens q)] w' [rowD 17 A m c (ens q')] := by
  have hF := St.start w [rowD 17 A n c (ens q)] (fun d hd => by obtain rfl := List.mem_singleton.1 hd; exact hr)
  have hql := hr.enslen
  have hc1 := hr.le
  have hc2 := hr.mx
  unfold maxLen at hc2
  obtain ⟨N, hN, hN1, hN2⟩ : ∃ N : Nat, ((N : Nat) : Int) = (if (20 : Int) < (n : Int) then 20 else (n : Int)) ∧ N ≤ n ∧ N ≤ 20 := ⟨min n 20, by split <;> omega, by omega, by omega⟩
  have HN := Lib.hid hN
  have Hq := Lib.hid hq
  clear hN hq
  go_enter Try.func19, Try.ntmps19
  go_wp2_with (first | (refine w_min (N : Int) rfl rfl rfl ?_ (hN := HN.out)) | ((first | (refine w_box rfl hF rfl ?_; clear hF; intro gN wN hF) | (refine w_alloc rfl hF ?_; clear hF; intro gN wN hF) | (refine w_ld1 rfl hF rfl ?_) | (refine w_ld rfl hF rfl ?_) | (refine w_st1 rfl hF rfl rfl ?_; clear hF; intro wN hF; (try simp only [List.set_cons_zero, List.set_cons_succ, List.eraseIdx_cons_zero, List.eraseIdx_cons_succ] at hF)) | (refine w_st rfl hF rfl rfl ?_; clear hF; intro wN hF; (try simp only [List.set_cons_zero, List.set_cons_succ, List.eraseIdx_cons_zero, List.eraseIdx_cons_succ] at hF)) | (refine w_fldB rfl rfl ?_) | (refine w_fld rfl hF rfl ?_) | (refine w_ix rfl hF rfl rfl ?_) | (refine w_lde1 rfl hF rfl ?_) | (refine w_lde rfl hF rfl ?_) | (refine w_bs1 rfl hF rfl ?_; clear hF; intro gN wN hF) | (refine w_bs0 rfl hF ?_; clear hF; intro gN wN hF) | (refine w_app rfl hF rfl rfl ?_; clear hF; intro vN wN hF; (try simp only [List.set_cons_zero, List.set_cons_succ, List.eraseIdx_cons_zero, List.eraseIdx_cons_succ] at hF)) | (refine w_appD rfl hF rfl rfl ?_; clear hF; intro vN wN hF; (try simp only [List.set_cons_zero, List.set_cons_succ, List.eraseIdx_cons_zero, List.eraseIdx_cons_succ] at hF)) | (refine w_ld1o rfl hF rfl ?_) | (refine w_st1o rfl hF rfl rfl ?_; clear hF; intro wN hF; (try simp only [List.set_cons_zero, List.set_cons_succ, List.eraseIdx_cons_zero, List.eraseIdx_cons_succ] at hF)) | (refine w_make0 rfl hF rfl rfl ?_; clear hF; intro gN wN hF) | (refine w_to rfl hF rfl rfl ?_; clear hF; intro hF) | (refine w_from rfl hF rfl rfl ?_; clear hF; intro hF)); (try simp only [Act.put, List.setIfInBounds_toArray, List.set_cons_zero, List.set_cons_succ, Nat.zero_add, Nat.zero_mul, Nat.reduceAdd])))
  go_ret
  rw [ens_take] at hF
  exact ⟨N, q.take N, rfl, hN2, Hq.out.take N, by rw [List.length_take]; omega, hF.outA⟩
def plainE : En := ⟨0, 0, ⟨28, 0, 0, 0, 0⟩, 0, 0, 0, 0, 0, 0, 0, 0, false, false⟩
def jumpE : En := ⟨0, 0, ⟨5, 0, 0, 0, 0⟩, 0, 0, 0, 0, 0, 0, 0, 0, false, false⟩
theorem alive14_any (w : World) :
    Calls Try.prog 12 #[] w fun e w' => e = .returned (.bool true) ∧ Bel w w' := by
  have h1 : ∀ W, Calls Try.prog 11 #[.agg #[.int .i64 0, .int .u32 0, .int .i64 28, .int .i64 0, .int .i64 0, .int .i64 0, .int .u32 0, .int .u32 0, .int .i64 0, .int .i64 0, .int .u32 0, .int .u32 0, .int .u32 0, .int .i64 0, .int .i64 0, .bool false, .bool false]] W fun x w' => x = .returned (.bool true) ∧ Bel W w' := fun W => Safe_any plainE W (by decide)
  have h2 : ∀ W, Calls Try.prog 11 #[.agg #[.int .i64 0, .int .u32 0, .int .i64 5, .int .i64 0, .int .i64 0, .int .i64 0, .int .u32 0, .int .u32 0, .int .i64 0, .int .i64 0, .int .u32 0, .int .u32 0, .int .u32 0, .int .i64 0, .int .i64 0, .bool false, .bool false]] W fun x w' => x = .returned (.bool false) ∧ Bel W w' := fun W => Safe_any jumpE W (by decide)
  have H1 := Lib.hid h1
  have H2 := Lib.hid h2
  clear h1 h2
  go_enter Try.func12, Try.ntmps12
  go_wp2_with (first | (go_at_call 11; with_reducible refine (H1.out _).mono ?_; rintro x w1 ⟨rfl, hb1⟩) | (go_at_call 11; with_reducible refine (H2.out _).mono ?_; rintro x w2 ⟨rfl, hb2⟩))
  go_ret
  exact ⟨rfl, hb1.trans hb2⟩
theorem Visible_any (A : Option Addr) (n c : Nat) (q : List En) (i : Int) (w : World) (hr : Rd w w.heap.size 17 A n c (ens q)) (hq : ensOk q) (h0 : 0 ≤ i) :
    Calls Try.prog 13 #[.slice A n c, .int .i64 i] w fun e w' => e = .returned (.bool (decide (i ≤ (frontL q : Int)))) ∧ Bel w w' := by
  have HF := Lib.hid (Front_any A n c q w hr hq.op)
  have hn := hr.enslen
  have hfl := frontL_le q
  generalize frontL q = f at *
  by_cases h2 : i ≤ (n : Int)
  · clear hn hfl
    go_enter Try.func13, Try.ntmps13
    go_wp2_with (go_at_call 10; refine HF.out.mono ?_; rintro e w1 ⟨rfl, hb1⟩)
    go_ret
    exact ⟨rfl, hb1⟩
  · have h3 : decide (i ≤ (f : Int)) = false := by simp; omega
    rw [h3]
    clear hn hfl h3
    go_enter Try.func13, Try.ntmps13
    go_wp2_with fail
    go_ret
    exact ⟨rfl, Bel.refl w⟩
end Go.Proofs.Ytbfllafbklfcjaa
