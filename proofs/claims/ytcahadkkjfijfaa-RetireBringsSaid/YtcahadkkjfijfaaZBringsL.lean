/- RetireBrings: the walk. -/
import Derived.Test.YtcahadkkjfijfaaZ14
import Derived.Test.YtcahadkkjfijfaaZ15
import Derived.Test.YtcahadkkjfijfaaZ16
set_option linter.unusedVariables false
set_option linter.unusedSimpArgs false
set_option maxRecDepth 100000
namespace Go.Proofs.Ytcahadkkjfijfaa
open Go.RowKit Go.Sort

theorem St.dup {w0 w : World} {D0 D : List Da} {M : List Mu} (h : St w0 D0 w M D) {d : Da} (hd : d ∈ D) : St w0 D0 w M (d :: D) := h.part d (h.dat d hd) fun g hg => ⟨d, hd, hg⟩
set_option maxHeartbeats 8000000 in
theorem RetireBrings_any (ways : Int) (A : Option Addr) (n c : Nat) (S : List Cs) (Aq : Option Addr) (nq cq : Nat) (q : List Rq) (m : ByteArray) (x : Nat) (left : Int) (w : World)
    (hr : RdS w w.heap.size A n c S) (hso : SOk S) (hwb : -9223372036854775808 ≤ ways ∧ ways ≤ 9223372036854775807) (hrq : Rd w w.heap.size 4 Aq nq cq (rqs q)) (hq0 : ∀ r ∈ q, RqOk r) (hm : m.size ≤ maxLen) (hx : x < 4294967296) (hl : -9223372036854775808 ≤ left ∧ left ≤ 9223372036854775807) :
    Calls Try.prog 13 #[.agg #[.int .i64 ways, .slice A n c], .slice Aq nq cq, .string m, .int .u32 (x : Int), .int .i64 left] w fun e w' => e = .returned (.bool true) ∧ Bel w w' := by
  have hrs : Rd w w.heap.size 2 none 0 0 (pus []) := Rd.nil (Nat.zero_le _)
  have hF := St.start w _ (allD_ok hr hrq hrs)
  obtain ⟨ss, hss⟩ : ∃ ss : List Pu, ss = [] := ⟨_, rfl⟩
  have hp0 : ∀ p ∈ ss, PuOk p := by rw [hss]; simp
  unfold allD at hF
  obtain ⟨P1, eP⟩ : ∃ P1, shortP [] = P1 := ⟨_, rfl⟩
  obtain ⟨Q1, eQ⟩ : ∃ Q1, shortQ q = Q1 := ⟨_, rfl⟩
  obtain ⟨C1, eC⟩ : ∃ C1, shortC (cont S) = C1 := ⟨_, rfl⟩
  obtain ⟨m1, em⟩ : ∃ m1, shortM m = m1 := ⟨_, rfl⟩
  have hPo : ∀ p ∈ P1, p.addr < 4294967296 ∧ p.data.size ≤ 40 := by rw [← eP]; exact shortP_ok (by simp)
  have hQo : ∀ r ∈ Q1, r.line < 4294967296 ∧ r.data.size ≤ 40 := by rw [← eQ]; exact shortQ_ok fun r hr => (hq0 r hr).2.1
  have hok40 : ∀ ws ∈ C1, ∀ v ∈ ws, v.line < 4294967296 ∧ v.data.size ≤ 40 := by rw [← eC]; exact shortC_ok hso
  have hok : COk C1 := fun ws hw v hv => ⟨(hok40 ws hw v hv).1, by have := (hok40 ws hw v hv).2; unfold maxLen; omega⟩
  have hm1 : m1.size ≤ 300 := by rw [← em]; exact shortM_size m
  have hP10 : P1.length ≤ 10 := by rw [← eP]; exact shortP_len []
  have hQ10 : Q1.length ≤ 10 := by rw [← eQ]; exact shortQ_len q
  have hmm : m1.size ≤ maxLen := by unfold maxLen; omega
  have hm6 : m1.size ≤ 1000000 := by omega
  have hQn : Q1.length ≤ 1000000 := by omega
  have hPn : P1.length ≤ 1000000 := by omega
  have hQl : ∀ r ∈ Q1, r.line < 4294967296 := fun r hr => (hQo r hr).1
  have hQm : ∀ r ∈ Q1, r.line < 4294967296 ∧ r.data.size ≤ maxLen := fun r hr => ⟨(hQo r hr).1, by have := (hQo r hr).2; unfold maxLen; omega⟩
  have hPm : ∀ p ∈ P1, p.addr < 4294967296 ∧ p.data.size ≤ maxLen := fun r hr => ⟨(hPo r hr).1, by have := (hPo r hr).2; unfold maxLen; omega⟩
  have hP4 : ∀ p ∈ P1, p.addr < 4294967296 ∧ p.data.size ≤ 140737488355328 := fun r hr => ⟨(hPo r hr).1, by have := (hPo r hr).2; omega⟩
  have hPa : ∀ p ∈ P1, p.addr < 4294967296 := fun r hr => (hPo r hr).1
  clear hss hp0 ss
  by_cases hR : RightP ways C1
  · obtain ⟨CB, QB, bB, hB⟩ := bring_ex ways C1 Q1 (bl m1) x left
    obtain ⟨kB, hf2⟩ := hB.first hR
    have hB2 := hB.twice hR
    have hok2 := hB.cok hok hx (by rw [bl_len]; exact hmm)
    have hQn2 : QB.length ≤ 1000000 := by have := hB.qlen; omega
    have hQm2 := hB.qok hok hQm
    have hQl2 : ∀ r ∈ QB, r.line < 4294967296 := fun r hr => (hQm2 r hr).1
    have hQn0 : QB.length ≤ 11 := by have := hB.qlen; omega
    clear hQm2 hq0 hso hok40 hPo hQo
    cases bB
    · obtain rfl : Q1 = QB := hB.same.symm
      go_enter Try.func13, Try.ntmps13
      go_wp2_with (first | (go_at_call 21; refine (short20_any ways A n c S Aq nq cq q none 0 0 [] m _ hF.rds hF.rdA hF.rdA).mono ?_; rintro e wN ⟨_, _, _, rfl, hSR⟩; rw [eP, eC, eQ] at hSR; rw [em]; obtain ⟨As1, cs1, A1, n1, c1, S1, Aq1, cq1, rfl, rfl, rfl, hO, hC1⟩ := hSR; replace hF := hF.call4A hO; clear hO; have hso1 : SOk S1 := (COk.sok (by rw [hC1]; exact hok))) | (go_at_call 22; refine (refRight_all hso1 (by rw [hC1]; exact yesR hR) _ hF.rds).mono ?_; rintro e wN ⟨rfl, hb⟩; replace hF := hF.grow hb; clear hb) | (go_at_call 53; refine (g_bring hF.rds hF.rdA (by assumption) (by assumption) (by assumption) hx hmm (by assumption) (by assumption) hl).mono ?_; rintro e wN ⟨_, _, rfl, A2, n2, c2, S2, Aq2, cq2, rfl, rfl, hO, hC2⟩; replace hF := hF.call3A hO; clear hO) | (go_at_call 34; refine (g_find hF.rds (by assumption) (by assumption) (by assumption) hx).mono ?_; rintro e wN ⟨rfl, hb⟩; replace hF := hF.grow hb; clear hb) | (go_at_call 18; refine (alive20_any _).mono ?_; rintro e wN ⟨rfl, hb⟩; replace hF := hF.grow hb; clear hb) | (go_at_call 26; refine (g_like hF.rds hF.rds (by assumption) (by assumption)).mono ?_; rintro e wN ⟨rfl, hb⟩; replace hF := hF.grow hb; clear hb) | (go_at_call 54; refine (likeRq_yes _ _ _ _ _ _ _ _ _ hF.rdA hF.rdA rfl).mono ?_; rintro e wN ⟨rfl, hb⟩; replace hF := hF.grow hb; clear hb) | ((first | (refine w_box rfl hF rfl ?_; clear hF; intro gN wN hF) | (refine w_alloc rfl hF ?_; clear hF; intro gN wN hF) | (refine w_ld1 rfl hF rfl ?_) | (refine w_ld rfl hF rfl ?_) | (refine w_st1 rfl hF rfl rfl ?_; clear hF; intro wN hF; (try simp only [List.set_cons_zero, List.set_cons_succ, List.eraseIdx_cons_zero, List.eraseIdx_cons_succ] at hF)) | (refine w_st rfl hF rfl rfl ?_; clear hF; intro wN hF; (try simp only [List.set_cons_zero, List.set_cons_succ, List.eraseIdx_cons_zero, List.eraseIdx_cons_succ] at hF)) | (refine w_fldB rfl rfl ?_) | (refine w_fld rfl hF rfl ?_) | (refine w_ix rfl hF rfl rfl ?_) | (refine w_lde1 rfl hF rfl ?_) | (refine w_lde rfl hF rfl ?_) | (refine w_bs1 rfl hF rfl ?_; clear hF; intro gN wN hF) | (refine w_bs0 rfl hF ?_; clear hF; intro gN wN hF) | (refine w_app rfl hF rfl rfl ?_; clear hF; intro vN wN hF; (try simp only [List.set_cons_zero, List.set_cons_succ, List.eraseIdx_cons_zero, List.eraseIdx_cons_succ] at hF)) | (refine w_appD rfl hF rfl rfl ?_; clear hF; intro vN wN hF; (try simp only [List.set_cons_zero, List.set_cons_succ, List.eraseIdx_cons_zero, List.eraseIdx_cons_succ] at hF)) | (refine w_ld1o rfl hF rfl ?_) | (refine w_st1o rfl hF rfl rfl ?_; clear hF; intro wN hF; (try simp only [List.set_cons_zero, List.set_cons_succ, List.eraseIdx_cons_zero, List.eraseIdx_cons_succ] at hF)) | (refine w_make0 rfl hF rfl rfl ?_; clear hF; intro gN wN hF) | (refine w_to rfl hF rfl rfl ?_; clear hF; intro hF) | (refine w_from rfl hF rfl rfl ?_; clear hF; intro hF)); (try simp only [Act.put, List.setIfInBounds_toArray, List.set_cons_zero, List.set_cons_succ, Nat.zero_add, Nat.zero_mul, Nat.reduceAdd])))
      go_ret
      exact ⟨rfl, hF.bel⟩
    · obtain ⟨gone, _, eQB⟩ := hB.more
      have hlen : (QB.length : Int) = (Q1.length : Int) + 1 := by rw [eQB]; simp
      have hlb : ((QB.length : Int) == (Q1.length : Int) + 1) = true := by rw [hlen]; exact beq_self_eq_true _
      have hlen2 : Q1.length < QB.length := by omega
      have hlen3 : Q1.length ≤ QB.length := by omega
      have htk : Hid ((rqs QB).take (Q1.length * 4) = rqs Q1) := Lib.hid (by rw [rqs_take, eQB, List.take_left])
      have hel : (rqs QB)[Q1.length * 4 + 0]? = some (.int .i64 4) := by
        have hg : QB[Q1.length]? = some ⟨4, gone.line, max left 1, gone.data⟩ := by rw [eQB, List.getElem?_append_right (Nat.le_refl _), Nat.sub_self]; rfl
        exact Rows.el (f := rqs) hg rfl
      have hel0 : (rqs QB)[Q1.length * 4]? = some (.int .i64 4) := hel
      clear eQB hlen
      go_enter Try.func13, Try.ntmps13
      go_upto_region 6 with (first | (go_at_call 21; refine (short20_any ways A n c S Aq nq cq q none 0 0 [] m _ hF.rds hF.rdA hF.rdA).mono ?_; rintro e wN ⟨_, _, _, rfl, hSR⟩; rw [eP, eC, eQ] at hSR; rw [em]; obtain ⟨As1, cs1, A1, n1, c1, S1, Aq1, cq1, rfl, rfl, rfl, hO, hC1⟩ := hSR; replace hF := hF.call4A hO; clear hO; have hso1 : SOk S1 := (COk.sok (by rw [hC1]; exact hok))) | (go_at_call 22; refine (refRight_all hso1 (by rw [hC1]; exact yesR hR) _ hF.rds).mono ?_; rintro e wN ⟨rfl, hb⟩; replace hF := hF.grow hb; clear hb) | (go_at_call 53; refine (g_bring hF.rds hF.rdA (by assumption) (by assumption) (by assumption) hx hmm (by assumption) (by assumption) hl).mono ?_; rintro e wN ⟨_, _, rfl, A2, n2, c2, S2, Aq2, cq2, rfl, rfl, hO, hC2⟩; replace hF := hF.call3A hO; clear hO) | (go_at_call 34; refine (g_find hF.rds (by assumption) (by assumption) (by assumption) hx).mono ?_; rintro e wN ⟨rfl, hb⟩; replace hF := hF.grow hb; clear hb) | ((first | (refine w_box rfl hF rfl ?_; clear hF; intro gN wN hF) | (refine w_alloc rfl hF ?_; clear hF; intro gN wN hF) | (refine w_ld1 rfl hF rfl ?_) | (refine w_ld rfl hF rfl ?_) | (refine w_st1 rfl hF rfl rfl ?_; clear hF; intro wN hF; (try simp only [List.set_cons_zero, List.set_cons_succ, List.eraseIdx_cons_zero, List.eraseIdx_cons_succ] at hF)) | (refine w_st rfl hF rfl rfl ?_; clear hF; intro wN hF; (try simp only [List.set_cons_zero, List.set_cons_succ, List.eraseIdx_cons_zero, List.eraseIdx_cons_succ] at hF)) | (refine w_fldB rfl rfl ?_) | (refine w_fld rfl hF rfl ?_) | (refine w_ix rfl hF rfl rfl ?_) | (refine w_lde1 rfl hF rfl ?_) | (refine w_lde rfl hF rfl ?_) | (refine w_bs1 rfl hF rfl ?_; clear hF; intro gN wN hF) | (refine w_bs0 rfl hF ?_; clear hF; intro gN wN hF) | (refine w_app rfl hF rfl rfl ?_; clear hF; intro vN wN hF; (try simp only [List.set_cons_zero, List.set_cons_succ, List.eraseIdx_cons_zero, List.eraseIdx_cons_succ] at hF)) | (refine w_appD rfl hF rfl rfl ?_; clear hF; intro vN wN hF; (try simp only [List.set_cons_zero, List.set_cons_succ, List.eraseIdx_cons_zero, List.eraseIdx_cons_succ] at hF)) | (refine w_ld1o rfl hF rfl ?_) | (refine w_st1o rfl hF rfl rfl ?_; clear hF; intro wN hF; (try simp only [List.set_cons_zero, List.set_cons_succ, List.eraseIdx_cons_zero, List.eraseIdx_cons_succ] at hF)) | (refine w_make0 rfl hF rfl rfl ?_; clear hF; intro gN wN hF) | (refine w_to rfl hF rfl rfl ?_; clear hF; intro hF) | (refine w_from rfl hF rfl rfl ?_; clear hF; intro hF)); (try simp only [Act.put, List.setIfInBounds_toArray, List.set_cons_zero, List.set_cons_succ, Nat.zero_add, Nat.zero_mul, Nat.reduceAdd])))
      go_wp2_with (first | (go_at_call 53; refine (g_bring hF.rds hF.rdA (by assumption) (by assumption) (by assumption) hx hmm (by assumption) (by assumption) hl).mono ?_; rintro e wN ⟨_, _, rfl, A3, n3, c3, S3, Aq3, cq3, rfl, rfl, hO, hC3⟩; replace hF := hF.call3A hO; clear hO) | (go_at_call 18; refine (alive20_any _).mono ?_; rintro e wN ⟨rfl, hb⟩; replace hF := hF.grow hb; clear hb) | (go_at_call 26; refine (g_like hF.rds hF.rds (by assumption) (by assumption)).mono ?_; rintro e wN ⟨rfl, hb⟩; replace hF := hF.grow hb; clear hb) | (go_at_call 54; refine (likeRq_yes _ _ _ _ _ _ _ _ _ hF.rdA hF.rdA rfl).mono ?_; rintro e wN ⟨rfl, hb⟩; replace hF := hF.grow hb; clear hb) | (refine w_to rfl hF rfl rfl ?_; clear hF; intro hF; rw [htk.out] at hF; replace hF := hF.dup (d := rowD 4 Aq2 QB.length cq2 (rqs QB)) (by ((repeat (first | exact List.Mem.head _ | refine List.Mem.tail _ ?_)) <;> exact List.Mem.head _))) | ((first | (refine w_box rfl hF rfl ?_; clear hF; intro gN wN hF) | (refine w_alloc rfl hF ?_; clear hF; intro gN wN hF) | (refine w_ld1 rfl hF rfl ?_) | (refine w_ld rfl hF rfl ?_) | (refine w_st1 rfl hF rfl rfl ?_; clear hF; intro wN hF; (try simp only [List.set_cons_zero, List.set_cons_succ, List.eraseIdx_cons_zero, List.eraseIdx_cons_succ] at hF)) | (refine w_st rfl hF rfl rfl ?_; clear hF; intro wN hF; (try simp only [List.set_cons_zero, List.set_cons_succ, List.eraseIdx_cons_zero, List.eraseIdx_cons_succ] at hF)) | (refine w_fldB rfl rfl ?_) | (refine w_fld rfl hF rfl ?_) | (refine w_ix rfl hF rfl rfl ?_) | (refine w_lde1 rfl hF rfl ?_) | (refine w_lde rfl hF rfl ?_) | (refine w_bs1 rfl hF rfl ?_; clear hF; intro gN wN hF) | (refine w_bs0 rfl hF ?_; clear hF; intro gN wN hF) | (refine w_app rfl hF rfl rfl ?_; clear hF; intro vN wN hF; (try simp only [List.set_cons_zero, List.set_cons_succ, List.eraseIdx_cons_zero, List.eraseIdx_cons_succ] at hF)) | (refine w_appD rfl hF rfl rfl ?_; clear hF; intro vN wN hF; (try simp only [List.set_cons_zero, List.set_cons_succ, List.eraseIdx_cons_zero, List.eraseIdx_cons_succ] at hF)) | (refine w_ld1o rfl hF rfl ?_) | (refine w_st1o rfl hF rfl rfl ?_; clear hF; intro wN hF; (try simp only [List.set_cons_zero, List.set_cons_succ, List.eraseIdx_cons_zero, List.eraseIdx_cons_succ] at hF)) | (refine w_make0 rfl hF rfl rfl ?_; clear hF; intro gN wN hF) | (refine w_to rfl hF rfl rfl ?_; clear hF; intro hF) | (refine w_from rfl hF rfl rfl ?_; clear hF; intro hF)); (try simp only [Act.put, List.setIfInBounds_toArray, List.set_cons_zero, List.set_cons_succ, Nat.zero_add, Nat.zero_mul, Nat.reduceAdd])))
      go_ret
      exact ⟨rfl, hF.bel⟩
  · go_enter Try.func13, Try.ntmps13
    go_wp2_with (first | (go_at_call 21; refine (short20_any ways A n c S Aq nq cq q none 0 0 [] m _ hF.rds hF.rdA hF.rdA).mono ?_; rintro e wN ⟨_, _, _, rfl, hSR⟩; rw [eP, eC, eQ] at hSR; rw [em]; obtain ⟨As1, cs1, A1, n1, c1, S1, Aq1, cq1, rfl, rfl, rfl, hO, hC1⟩ := hSR; replace hF := hF.call4A hO; clear hO; have hso1 : SOk S1 := (COk.sok (by rw [hC1]; exact hok))) | (go_at_call 22; refine (refRight_all hso1 (by rw [hC1]; exact noR hR) _ hF.rds).mono ?_; rintro e wN ⟨rfl, hb⟩; replace hF := hF.grow hb; clear hb) | (go_at_call 18; refine (alive20_any _).mono ?_; rintro e wN ⟨rfl, hb⟩; replace hF := hF.grow hb; clear hb) | ((first | (refine w_box rfl hF rfl ?_; clear hF; intro gN wN hF) | (refine w_alloc rfl hF ?_; clear hF; intro gN wN hF) | (refine w_ld1 rfl hF rfl ?_) | (refine w_ld rfl hF rfl ?_) | (refine w_st1 rfl hF rfl rfl ?_; clear hF; intro wN hF; (try simp only [List.set_cons_zero, List.set_cons_succ, List.eraseIdx_cons_zero, List.eraseIdx_cons_succ] at hF)) | (refine w_st rfl hF rfl rfl ?_; clear hF; intro wN hF; (try simp only [List.set_cons_zero, List.set_cons_succ, List.eraseIdx_cons_zero, List.eraseIdx_cons_succ] at hF)) | (refine w_fldB rfl rfl ?_) | (refine w_fld rfl hF rfl ?_) | (refine w_ix rfl hF rfl rfl ?_) | (refine w_lde1 rfl hF rfl ?_) | (refine w_lde rfl hF rfl ?_) | (refine w_bs1 rfl hF rfl ?_; clear hF; intro gN wN hF) | (refine w_bs0 rfl hF ?_; clear hF; intro gN wN hF) | (refine w_app rfl hF rfl rfl ?_; clear hF; intro vN wN hF; (try simp only [List.set_cons_zero, List.set_cons_succ, List.eraseIdx_cons_zero, List.eraseIdx_cons_succ] at hF)) | (refine w_appD rfl hF rfl rfl ?_; clear hF; intro vN wN hF; (try simp only [List.set_cons_zero, List.set_cons_succ, List.eraseIdx_cons_zero, List.eraseIdx_cons_succ] at hF)) | (refine w_ld1o rfl hF rfl ?_) | (refine w_st1o rfl hF rfl rfl ?_; clear hF; intro wN hF; (try simp only [List.set_cons_zero, List.set_cons_succ, List.eraseIdx_cons_zero, List.eraseIdx_cons_succ] at hF)) | (refine w_make0 rfl hF rfl rfl ?_; clear hF; intro gN wN hF) | (refine w_to rfl hF rfl rfl ?_; clear hF; intro hF) | (refine w_from rfl hF rfl rfl ?_; clear hF; intro hF)); (try simp only [Act.put, List.setIfInBounds_toArray, List.set_cons_zero, List.set_cons_succ, Nat.zero_add, Nat.zero_mul, Nat.reduceAdd])))
    go_ret
    exact ⟨rfl, hF.bel⟩
end Go.Proofs.Ytcahadkkjfijfaa
