/- RetireMoves: the walk. -/
import Derived.Test.YtcahadkkjfijfaaZ12
import Derived.Test.YtcahadkkjfijfaaZ14
import Derived.Test.YtcahadkkjfijfaaZ15
import Derived.Test.YtcahadkkjfijfaaZ16
set_option linter.unusedVariables false
set_option linter.unusedSimpArgs false
set_option maxRecDepth 100000
namespace Go.Proofs.Ytcahadkkjfijfaa
open Go.RowKit Go.Sort

set_option maxHeartbeats 8000000 in
theorem RetireMoves_any (As : Option Addr) (ns cs : Nat) (ss : List Pu) (ways : Int) (A : Option Addr) (n c : Nat) (S : List Cs) (Aq : Option Addr) (nq cq : Nat) (q : List Rq) (m : ByteArray) (x : Nat) (left : Int) (w : World)
    (hrs : Rd w w.heap.size 2 As ns cs (pus ss)) (hp0 : ∀ p ∈ ss, PuOk p) (hr : RdS w w.heap.size A n c S) (hso : SOk S) (hwb : -9223372036854775808 ≤ ways ∧ ways ≤ 9223372036854775807) (hrq : Rd w w.heap.size 4 Aq nq cq (rqs q)) (hq0 : ∀ r ∈ q, RqOk r) (hm : m.size ≤ maxLen) (hx : x < 4294967296) (hl : -9223372036854775808 ≤ left ∧ left ≤ 9223372036854775807) :
    Calls Try.prog 14 #[.slice As ns cs, .agg #[.int .i64 ways, .slice A n c], .slice Aq nq cq, .string m, .int .u32 (x : Int), .int .i64 left] w fun e w' => e = .returned (.bool true) ∧ Bel w w' := by
  have hF := St.start w _ (allD_ok hr hrq hrs)
  unfold allD at hF
  obtain ⟨P1, eP⟩ : ∃ P1, shortP ss = P1 := ⟨_, rfl⟩
  obtain ⟨Q1, eQ⟩ : ∃ Q1, shortQ q = Q1 := ⟨_, rfl⟩
  obtain ⟨C1, eC⟩ : ∃ C1, shortC (cont S) = C1 := ⟨_, rfl⟩
  obtain ⟨m1, em⟩ : ∃ m1, shortM m = m1 := ⟨_, rfl⟩
  have hPo : ∀ p ∈ P1, p.addr < 4294967296 ∧ p.data.size ≤ 40 := by rw [← eP]; exact shortP_ok hp0
  have hQo : ∀ r ∈ Q1, r.line < 4294967296 ∧ r.data.size ≤ 40 := by rw [← eQ]; exact shortQ_ok fun r hr => (hq0 r hr).2.1
  have hok40 : ∀ ws ∈ C1, ∀ v ∈ ws, v.line < 4294967296 ∧ v.data.size ≤ 40 := by rw [← eC]; exact shortC_ok hso
  have hok : COk C1 := fun ws hw v hv => ⟨(hok40 ws hw v hv).1, by have := (hok40 ws hw v hv).2; unfold maxLen; omega⟩
  have hm1 : m1.size ≤ 300 := by rw [← em]; exact shortM_size m
  have hP10 : P1.length ≤ 10 := by rw [← eP]; exact shortP_len ss
  have hQ10 : Q1.length ≤ 10 := by rw [← eQ]; exact shortQ_len q
  have hmm : m1.size ≤ maxLen := by unfold maxLen; omega
  have hm6 : m1.size ≤ 1000000 := by omega
  have hQn : Q1.length ≤ 1000000 := by omega
  have hPn : P1.length ≤ 1000000 := by omega
  have hQl : ∀ r ∈ Q1, r.line < 4294967296 := fun r hr => (hQo r hr).1
  have hQm : ∀ r ∈ Q1, r.line < 4294967296 ∧ r.data.size ≤ maxLen := fun r hr => ⟨(hQo r hr).1, by have := (hQo r hr).2; unfold maxLen; omega⟩
  have hPm : ∀ p ∈ P1, p.addr < 4294967296 ∧ p.data.size ≤ maxLen := fun r hr => ⟨(hPo r hr).1, by have := (hPo r hr).2; unfold maxLen; omega⟩
  have hP4 : ∀ p ∈ P1, p.addr < 4294967296 ∧ p.data.size ≤ 140737488355328 := fun r hr => ⟨(hPo r hr).1, by have := (hPo r hr).2; omega⟩
  have hPa : ∀ p ∈ P1, p.addr < 4294967296 := fun r hr => (hPo r hr).1
  obtain ⟨CB, QB, bB, hB⟩ := bring_ex ways C1 Q1 (bl m1) x left
  obtain ⟨PD, CD, bD, hD⟩ := drain_ex ways P1 C1
  clear hp0 hq0 hso hok40 hPo hQo
  go_enter Try.func14, Try.ntmps14
  go_wp2_with (first | (go_at_call 21; refine (short20_any ways A n c S Aq nq cq q As ns cs ss m _ hF.rds hF.rdA hF.rdA).mono ?_; rintro e wN ⟨_, _, _, rfl, hSR⟩; rw [eP, eC, eQ] at hSR; rw [em]; obtain ⟨As1, cs1, A1, n1, c1, S1, Aq1, cq1, rfl, rfl, rfl, hO, hC1⟩ := hSR; replace hF := hF.call4A hO; clear hO; have hso1 : SOk S1 := (COk.sok (by rw [hC1]; exact hok))) | (go_at_call 53; refine (Bring_all hx hso1 hmm hQn hQl hl (by rw [hC1]; exact hB) _ hF.rds hF.rdA).mono ?_; rintro e wN ⟨_, _, rfl, A2, n2, c2, S2, Aq2, cq2, rfl, rfl, hO, hC2⟩; replace hF := hF.call3A hO; clear hO) | (go_at_call 55; refine (refBring_all hx hso1 hm6 hQn hQm hl (by rw [hC1]; exact hB) _ hF.rds hF.rdA).mono ?_; rintro e wN ⟨_, _, rfl, A3, n3, c3, S3, Aq3, cq3, rfl, rfl, hO, hC3⟩; replace hF := hF.call3A hO; clear hO) | (go_at_call 24; refine (Drain_all hso1 hPm (by rw [hC1]; exact hD) _ hF.rds hF.rdA).mono ?_; rintro e wN ⟨_, _, rfl, As4, cs4, A4, n4, c4, S4, rfl, rfl, hO, hC4⟩; replace hF := hF.call3A hO; clear hO) | (go_at_call 56; refine (refDrain_all hso1 hP4 (by rw [hC1]; exact hD) _ hF.rds hF.rdA).mono ?_; rintro e wN ⟨_, _, rfl, As5, cs5, A5, n5, c5, S5, rfl, rfl, hO, hC5⟩; replace hF := hF.call3A hO; clear hO) | (go_at_call 18; refine (alive20_any _).mono ?_; rintro e wN ⟨rfl, hb⟩; replace hF := hF.grow hb; clear hb) | (go_at_call 26; refine (like_yes _ _ _ _ _ _ _ _ _ _ hF.rds hF.rds (by first | exact hC2.trans hC3.symm | exact hC4.trans hC5.symm)).mono ?_; rintro e wN ⟨rfl, hb⟩; replace hF := hF.grow hb; clear hb) | (go_at_call 54; refine (likeRq_yes _ _ _ _ _ _ _ _ _ hF.rdA hF.rdA rfl).mono ?_; rintro e wN ⟨rfl, hb⟩; replace hF := hF.grow hb; clear hb) | (go_at_call 25; refine (likePu_yes _ _ _ _ _ _ _ _ _ hF.rdA hF.rdA rfl).mono ?_; rintro e wN ⟨rfl, hb⟩; replace hF := hF.grow hb; clear hb) | ((first | (refine w_box rfl hF rfl ?_; clear hF; intro gN wN hF) | (refine w_alloc rfl hF ?_; clear hF; intro gN wN hF) | (refine w_ld1 rfl hF rfl ?_) | (refine w_ld rfl hF rfl ?_) | (refine w_st1 rfl hF rfl rfl ?_; clear hF; intro wN hF; (try simp only [List.set_cons_zero, List.set_cons_succ, List.eraseIdx_cons_zero, List.eraseIdx_cons_succ] at hF)) | (refine w_st rfl hF rfl rfl ?_; clear hF; intro wN hF; (try simp only [List.set_cons_zero, List.set_cons_succ, List.eraseIdx_cons_zero, List.eraseIdx_cons_succ] at hF)) | (refine w_fldB rfl rfl ?_) | (refine w_fld rfl hF rfl ?_) | (refine w_ix rfl hF rfl rfl ?_) | (refine w_lde1 rfl hF rfl ?_) | (refine w_lde rfl hF rfl ?_) | (refine w_bs1 rfl hF rfl ?_; clear hF; intro gN wN hF) | (refine w_bs0 rfl hF ?_; clear hF; intro gN wN hF) | (refine w_app rfl hF rfl rfl ?_; clear hF; intro vN wN hF; (try simp only [List.set_cons_zero, List.set_cons_succ, List.eraseIdx_cons_zero, List.eraseIdx_cons_succ] at hF)) | (refine w_appD rfl hF rfl rfl ?_; clear hF; intro vN wN hF; (try simp only [List.set_cons_zero, List.set_cons_succ, List.eraseIdx_cons_zero, List.eraseIdx_cons_succ] at hF)) | (refine w_ld1o rfl hF rfl ?_) | (refine w_st1o rfl hF rfl rfl ?_; clear hF; intro wN hF; (try simp only [List.set_cons_zero, List.set_cons_succ, List.eraseIdx_cons_zero, List.eraseIdx_cons_succ] at hF)) | (refine w_make0 rfl hF rfl rfl ?_; clear hF; intro gN wN hF) | (refine w_to rfl hF rfl rfl ?_; clear hF; intro hF) | (refine w_from rfl hF rfl rfl ?_; clear hF; intro hF)); (try simp only [Act.put, List.setIfInBounds_toArray, List.set_cons_zero, List.set_cons_succ, Nat.zero_add, Nat.zero_mul, Nat.reduceAdd])))
  go_ret
  exact ⟨rfl, hF.bel⟩
end Go.Proofs.Ytcahadkkjfijfaa
