/- Joined: VBr2, VDr, VLaw2, VGen. -/
import Derived.Test.YtcahadkkjfijfaaZ12
import Derived.Test.YtcahadkkjfijfaaZ13
import Derived.Test.YtcahadkkjfijfaaZ5
import Derived.Test.YtcahadkkjfijfaaZ11
/- Bring of the document; Drain of both. -/
set_option linter.unusedVariables false
set_option linter.unusedSimpArgs false
set_option maxRecDepth 100000
namespace Go.Proofs.Ytcahadkkjfijfaa
open Go.RowKit Go.Sort

theorem ref_bring_cut {m : ByteArray} {q : List Rq} {x : Nat} {D : ByteArray} (h : bl D = cutL (belowL q (bl m)) x) : cutS (ovS m (writesL q)) x = D := by
  apply bl_ext
  rw [bl_cutS, bl_ovS, h]
  rfl
set_option maxHeartbeats 8000000 in
theorem refBring_all {ways : Int} {A : Option Addr} {n c : Nat} {S : List Cs} {Aq : Option Addr} {nq cq : Nat} {q : List Rq} {m : ByteArray} {x : Nat} {left : Int} {C' : List (List Wy)} {q' : List Rq} {b : Bool}
    (hx : x < 4294967296) (hso : SOk S) (hm : m.size ≤ 1000000) (hqn : nq ≤ 1000000) (hq : ∀ r ∈ q, r.line < 4294967296 ∧ r.data.size ≤ maxLen) (hl : -9223372036854775808 ≤ left ∧ left ≤ 9223372036854775807) (h : BringR ways (cont S) q (bl m) x left C' q' b)
    (w : World) (hr : RdS w w.heap.size A n c S) (hrq : Rd w w.heap.size 4 Aq nq cq (rqs q)) :
    Calls Try.prog 55 #[.agg #[.int .i64 ways, .slice A n c], .slice Aq nq cq, .string m, .int .u32 (x : Int), .int .i64 left] w fun e w' => ∃ y z, e = .returned (.tuple #[y, z, .bool b]) ∧ BRes w (cqD A n c S Aq nq cq q) ways y z w' C' q' := by
  have hF := St.start w _ (cqD_ok hr hrq)
  unfold cqD at hF
  have hql := hrq.rqslen
  have hc1 := hr.rd.le
  have hc2 := hr.rd.mx
  unfold maxLen at hc2
  cases h with
  | no h he hq hb =>
    subst he hq hb
    have HR := Lib.hid (refRight_all (ways := ways) (A := A) (n := n) (c := c) hso (noR h))
    go_enter Try.func55, Try.ntmps55
    go_wp2_with (first | (go_at_call 22; refine (HR.out _ hF.rds).mono ?_; rintro e wN ⟨rfl, hb⟩; replace hF := hF.grow hb; clear hb) | ((first | (refine w_box rfl hF rfl ?_; clear hF; intro gN wN hF) | (refine w_alloc rfl hF ?_; clear hF; intro gN wN hF) | (refine w_ld1 rfl hF rfl ?_) | (refine w_ld rfl hF rfl ?_) | (refine w_st1 rfl hF rfl rfl ?_; clear hF; intro wN hF; (try simp only [List.set_cons_zero, List.set_cons_succ, List.eraseIdx_cons_zero, List.eraseIdx_cons_succ] at hF)) | (refine w_st rfl hF rfl rfl ?_; clear hF; intro wN hF; (try simp only [List.set_cons_zero, List.set_cons_succ, List.eraseIdx_cons_zero, List.eraseIdx_cons_succ] at hF)) | (refine w_fldB rfl rfl ?_) | (refine w_fld rfl hF rfl ?_) | (refine w_ix rfl hF rfl rfl ?_) | (refine w_lde1 rfl hF rfl ?_) | (refine w_lde rfl hF rfl ?_) | (refine w_bs1 rfl hF rfl ?_; clear hF; intro gN wN hF) | (refine w_bs0 rfl hF ?_; clear hF; intro gN wN hF) | (refine w_app rfl hF rfl rfl ?_; clear hF; intro vN wN hF; (try simp only [List.set_cons_zero, List.set_cons_succ, List.eraseIdx_cons_zero, List.eraseIdx_cons_succ] at hF)) | (refine w_appD rfl hF rfl rfl ?_; clear hF; intro vN wN hF; (try simp only [List.set_cons_zero, List.set_cons_succ, List.eraseIdx_cons_zero, List.eraseIdx_cons_succ] at hF)) | (refine w_ld1o rfl hF rfl ?_) | (refine w_st1o rfl hF rfl rfl ?_; clear hF; intro wN hF; (try simp only [List.set_cons_zero, List.set_cons_succ, List.eraseIdx_cons_zero, List.eraseIdx_cons_succ] at hF)) | (refine w_make0 rfl hF rfl rfl ?_; clear hF; intro gN wN hF) | (refine w_to rfl hF rfl rfl ?_; clear hF; intro hF) | (refine w_from rfl hF rfl rfl ?_; clear hF; intro hF)); (try simp only [Act.put, List.setIfInBounds_toArray, List.set_cons_zero, List.set_cons_succ, Nat.zero_add, Nat.zero_mul, Nat.reduceAdd])))
    ((try simp only [Exit.inBlock, Exit.then]); refine bodyPost_ret (w_rescss rfl hF) rfl ?_)
    exact ⟨_, _, rfl, A, n, c, S, Aq, cq, rfl, by rw [hql]; rfl, by rw [hql]; exact hF.outA, rfl⟩
  | hit k i h hT hq hb =>
    subst hq hb
    have HR := Lib.hid (refRight_all (ways := ways) (A := A) (n := n) (c := c) hso (yesR h.at_.1))
    have HFi := Lib.hid (refFind_all (ways := ways) (A := A) (n := n) (c := c) hx hso h)
    replace hT := Lib.hid hT
    clear h
    go_enter Try.func55, Try.ntmps55
    go_wp2_with (first | (go_at_call 22; refine (HR.out _ hF.rds).mono ?_; rintro e wN ⟨rfl, hb⟩; replace hF := hF.grow hb; clear hb) | (go_at_call 34; refine (HFi.out _ hF.rds).mono ?_; rintro e wN ⟨rfl, hb⟩; replace hF := hF.grow hb; clear hb) | (go_at_call 32; refine (refTouch_all hx hso hT.out _ hF.rds).mono ?_; rintro e wN ⟨_, rfl, A2, n2, c2, S2, rfl, hO, hC2⟩; replace hF := hF.callA hO; clear hO) | ((first | (refine w_box rfl hF rfl ?_; clear hF; intro gN wN hF) | (refine w_alloc rfl hF ?_; clear hF; intro gN wN hF) | (refine w_ld1 rfl hF rfl ?_) | (refine w_ld rfl hF rfl ?_) | (refine w_st1 rfl hF rfl rfl ?_; clear hF; intro wN hF; (try simp only [List.set_cons_zero, List.set_cons_succ, List.eraseIdx_cons_zero, List.eraseIdx_cons_succ] at hF)) | (refine w_st rfl hF rfl rfl ?_; clear hF; intro wN hF; (try simp only [List.set_cons_zero, List.set_cons_succ, List.eraseIdx_cons_zero, List.eraseIdx_cons_succ] at hF)) | (refine w_fldB rfl rfl ?_) | (refine w_fld rfl hF rfl ?_) | (refine w_ix rfl hF rfl rfl ?_) | (refine w_lde1 rfl hF rfl ?_) | (refine w_lde rfl hF rfl ?_) | (refine w_bs1 rfl hF rfl ?_; clear hF; intro gN wN hF) | (refine w_bs0 rfl hF ?_; clear hF; intro gN wN hF) | (refine w_app rfl hF rfl rfl ?_; clear hF; intro vN wN hF; (try simp only [List.set_cons_zero, List.set_cons_succ, List.eraseIdx_cons_zero, List.eraseIdx_cons_succ] at hF)) | (refine w_appD rfl hF rfl rfl ?_; clear hF; intro vN wN hF; (try simp only [List.set_cons_zero, List.set_cons_succ, List.eraseIdx_cons_zero, List.eraseIdx_cons_succ] at hF)) | (refine w_ld1o rfl hF rfl ?_) | (refine w_st1o rfl hF rfl rfl ?_; clear hF; intro wN hF; (try simp only [List.set_cons_zero, List.set_cons_succ, List.eraseIdx_cons_zero, List.eraseIdx_cons_succ] at hF)) | (refine w_make0 rfl hF rfl rfl ?_; clear hF; intro gN wN hF) | (refine w_to rfl hF rfl rfl ?_; clear hF; intro hF) | (refine w_from rfl hF rfl rfl ?_; clear hF; intro hF)); (try simp only [Act.put, List.setIfInBounds_toArray, List.set_cons_zero, List.set_cons_succ, Nat.zero_add, Nat.zero_mul, Nat.reduceAdd])))
    ((try simp only [Exit.inBlock, Exit.then]); refine bodyPost_ret (w_rescss rfl hF) rfl ?_)
    exact ⟨_, _, rfl, A2, n2, c2, S2, Aq, cq, rfl, by rw [hql]; rfl, by rw [hql]; exact hF.outA, hC2⟩
  | put k i hR h D hD gone went hp hb hq' =>
    have HR := Lib.hid (refRight_all (ways := ways) (A := A) (n := n) (c := c) hso (yesR hR))
    have HFi := Lib.hid (refFind_all (ways := ways) (A := A) (n := n) (c := c) hx hso h)
    have hP := Lib.hid hp
    have hcut := Lib.hid (ref_bring_cut hD)
    clear h hR hD hp
    obtain ⟨gl, gd, gb⟩ := gone
    replace hq' := Lib.hid hq'
    replace hb := Lib.hid hb
    go_enter Try.func55, Try.ntmps55
    go_upto_region 8 with (first | (go_at_call 22; refine (HR.out _ hF.rds).mono ?_; rintro e wN ⟨rfl, hb⟩; replace hF := hF.grow hb; clear hb) | (go_at_call 34; refine (HFi.out _ hF.rds).mono ?_; rintro e wN ⟨rfl, hb⟩; replace hF := hF.grow hb; clear hb) | (go_at_call 58; refine (refBelow_any _ _ _ _ _ _ hF.rdA hm hqn hq).mono ?_; rintro e wN ⟨rfl, hb⟩; replace hF := hF.grow hb; clear hb) | (go_at_call 57; refine (refCut_any _ _ _ (by rw [ovS_size]; exact hm) hx).mono ?_; rw [hcut.out]; rintro e wN ⟨rfl, hb⟩; replace hF := hF.grow hb; clear hb) | (go_at_call 29; refine (refPut_all hx hso hP.out _ hF.rds).mono ?_; rintro e wN ⟨_, rfl, A2, n2, c2, S2, rfl, hO, hC2⟩; replace hF := hF.callA hO; clear hO) | ((first | (refine w_box rfl hF rfl ?_; clear hF; intro gN wN hF) | (refine w_alloc rfl hF ?_; clear hF; intro gN wN hF) | (refine w_ld1 rfl hF rfl ?_) | (refine w_ld rfl hF rfl ?_) | (refine w_st1 rfl hF rfl rfl ?_; clear hF; intro wN hF; (try simp only [List.set_cons_zero, List.set_cons_succ, List.eraseIdx_cons_zero, List.eraseIdx_cons_succ] at hF)) | (refine w_st rfl hF rfl rfl ?_; clear hF; intro wN hF; (try simp only [List.set_cons_zero, List.set_cons_succ, List.eraseIdx_cons_zero, List.eraseIdx_cons_succ] at hF)) | (refine w_fldB rfl rfl ?_) | (refine w_fld rfl hF rfl ?_) | (refine w_ix rfl hF rfl rfl ?_) | (refine w_lde1 rfl hF rfl ?_) | (refine w_lde rfl hF rfl ?_) | (refine w_bs1 rfl hF rfl ?_; clear hF; intro gN wN hF) | (refine w_bs0 rfl hF ?_; clear hF; intro gN wN hF) | (refine w_app rfl hF rfl rfl ?_; clear hF; intro vN wN hF; (try simp only [List.set_cons_zero, List.set_cons_succ, List.eraseIdx_cons_zero, List.eraseIdx_cons_succ] at hF)) | (refine w_appD rfl hF rfl rfl ?_; clear hF; intro vN wN hF; (try simp only [List.set_cons_zero, List.set_cons_succ, List.eraseIdx_cons_zero, List.eraseIdx_cons_succ] at hF)) | (refine w_ld1o rfl hF rfl ?_) | (refine w_st1o rfl hF rfl rfl ?_; clear hF; intro wN hF; (try simp only [List.set_cons_zero, List.set_cons_succ, List.eraseIdx_cons_zero, List.eraseIdx_cons_succ] at hF)) | (refine w_make0 rfl hF rfl rfl ?_; clear hF; intro gN wN hF) | (refine w_to rfl hF rfl rfl ?_; clear hF; intro hF) | (refine w_from rfl hF rfl rfl ?_; clear hF; intro hF)); (try simp only [Act.put, List.setIfInBounds_toArray, List.set_cons_zero, List.set_cons_succ, Nat.zero_add, Nat.zero_mul, Nat.reduceAdd])))
    obtain ⟨gG, gD, gR, gC, rfl, rfl, rfl, rfl⟩ := hF.names4
    · have hb' := hb.out
      have hq2 := hq'.out
      clear hb hq'
      cases went
      · rw [Bool.false_and] at hb'
        subst hb'
        rw [if_neg (by decide)] at hq2
        subst hq2
        (go_wp2_with (first | ((first | (refine w_box rfl hF rfl ?_; clear hF; intro gN wN hF) | (refine w_alloc rfl hF ?_; clear hF; intro gN wN hF) | (refine w_ld1 rfl hF rfl ?_) | (refine w_ld rfl hF rfl ?_) | (refine w_st1 rfl hF rfl rfl ?_; clear hF; intro wN hF; (try simp only [List.set_cons_zero, List.set_cons_succ, List.eraseIdx_cons_zero, List.eraseIdx_cons_succ] at hF)) | (refine w_st rfl hF rfl rfl ?_; clear hF; intro wN hF; (try simp only [List.set_cons_zero, List.set_cons_succ, List.eraseIdx_cons_zero, List.eraseIdx_cons_succ] at hF)) | (refine w_fldB rfl rfl ?_) | (refine w_fld rfl hF rfl ?_) | (refine w_ix rfl hF rfl rfl ?_) | (refine w_lde1 rfl hF rfl ?_) | (refine w_lde rfl hF rfl ?_) | (refine w_bs1 rfl hF rfl ?_; clear hF; intro gN wN hF) | (refine w_bs0 rfl hF ?_; clear hF; intro gN wN hF) | (refine w_app rfl hF rfl rfl ?_; clear hF; intro vN wN hF; (try simp only [List.set_cons_zero, List.set_cons_succ, List.eraseIdx_cons_zero, List.eraseIdx_cons_succ] at hF)) | (refine w_appD rfl hF rfl rfl ?_; clear hF; intro vN wN hF; (try simp only [List.set_cons_zero, List.set_cons_succ, List.eraseIdx_cons_zero, List.eraseIdx_cons_succ] at hF)) | (refine w_ld1o rfl hF rfl ?_) | (refine w_st1o rfl hF rfl rfl ?_; clear hF; intro wN hF; (try simp only [List.set_cons_zero, List.set_cons_succ, List.eraseIdx_cons_zero, List.eraseIdx_cons_succ] at hF)) | (refine w_make0 rfl hF rfl rfl ?_; clear hF; intro gN wN hF) | (refine w_to rfl hF rfl rfl ?_; clear hF; intro hF) | (refine w_from rfl hF rfl rfl ?_; clear hF; intro hF)); (try simp only [Act.put, List.setIfInBounds_toArray, List.set_cons_zero, List.set_cons_succ, Nat.zero_add, Nat.zero_mul, Nat.reduceAdd]))); ((try simp only [Exit.inBlock, Exit.then]); refine bodyPost_ret (w_rescss rfl hF) rfl ?_); exact ⟨_, _, rfl, A2, n2, c2, S2, Aq, cq, rfl, by rw [hql]; rfl, by rw [hql]; exact hF.outA, hC2⟩)
      · cases gd
        · rw [Bool.false_and, Bool.and_false] at hb'
          subst hb'
          rw [if_neg (by decide)] at hq2
          subst hq2
          (go_wp2_with (first | ((first | (refine w_box rfl hF rfl ?_; clear hF; intro gN wN hF) | (refine w_alloc rfl hF ?_; clear hF; intro gN wN hF) | (refine w_ld1 rfl hF rfl ?_) | (refine w_ld rfl hF rfl ?_) | (refine w_st1 rfl hF rfl rfl ?_; clear hF; intro wN hF; (try simp only [List.set_cons_zero, List.set_cons_succ, List.eraseIdx_cons_zero, List.eraseIdx_cons_succ] at hF)) | (refine w_st rfl hF rfl rfl ?_; clear hF; intro wN hF; (try simp only [List.set_cons_zero, List.set_cons_succ, List.eraseIdx_cons_zero, List.eraseIdx_cons_succ] at hF)) | (refine w_fldB rfl rfl ?_) | (refine w_fld rfl hF rfl ?_) | (refine w_ix rfl hF rfl rfl ?_) | (refine w_lde1 rfl hF rfl ?_) | (refine w_lde rfl hF rfl ?_) | (refine w_bs1 rfl hF rfl ?_; clear hF; intro gN wN hF) | (refine w_bs0 rfl hF ?_; clear hF; intro gN wN hF) | (refine w_app rfl hF rfl rfl ?_; clear hF; intro vN wN hF; (try simp only [List.set_cons_zero, List.set_cons_succ, List.eraseIdx_cons_zero, List.eraseIdx_cons_succ] at hF)) | (refine w_appD rfl hF rfl rfl ?_; clear hF; intro vN wN hF; (try simp only [List.set_cons_zero, List.set_cons_succ, List.eraseIdx_cons_zero, List.eraseIdx_cons_succ] at hF)) | (refine w_ld1o rfl hF rfl ?_) | (refine w_st1o rfl hF rfl rfl ?_; clear hF; intro wN hF; (try simp only [List.set_cons_zero, List.set_cons_succ, List.eraseIdx_cons_zero, List.eraseIdx_cons_succ] at hF)) | (refine w_make0 rfl hF rfl rfl ?_; clear hF; intro gN wN hF) | (refine w_to rfl hF rfl rfl ?_; clear hF; intro hF) | (refine w_from rfl hF rfl rfl ?_; clear hF; intro hF)); (try simp only [Act.put, List.setIfInBounds_toArray, List.set_cons_zero, List.set_cons_succ, Nat.zero_add, Nat.zero_mul, Nat.reduceAdd]))); ((try simp only [Exit.inBlock, Exit.then]); refine bodyPost_ret (w_rescss rfl hF) rfl ?_); exact ⟨_, _, rfl, A2, n2, c2, S2, Aq, cq, rfl, by rw [hql]; rfl, by rw [hql]; exact hF.outA, hC2⟩)
        · by_cases hz : gb.size = 0
          · have hemp := isEmpty_yes hz
            rw [Bool.true_and, Bool.true_and, decide_eq_false (fun h => h hz)] at hb'
            subst hb'
            rw [if_neg (by decide)] at hq2
            subst hq2
            clear hz
            (go_wp2_with (first | ((first | (refine w_box rfl hF rfl ?_; clear hF; intro gN wN hF) | (refine w_alloc rfl hF ?_; clear hF; intro gN wN hF) | (refine w_ld1 rfl hF rfl ?_) | (refine w_ld rfl hF rfl ?_) | (refine w_st1 rfl hF rfl rfl ?_; clear hF; intro wN hF; (try simp only [List.set_cons_zero, List.set_cons_succ, List.eraseIdx_cons_zero, List.eraseIdx_cons_succ] at hF)) | (refine w_st rfl hF rfl rfl ?_; clear hF; intro wN hF; (try simp only [List.set_cons_zero, List.set_cons_succ, List.eraseIdx_cons_zero, List.eraseIdx_cons_succ] at hF)) | (refine w_fldB rfl rfl ?_) | (refine w_fld rfl hF rfl ?_) | (refine w_ix rfl hF rfl rfl ?_) | (refine w_lde1 rfl hF rfl ?_) | (refine w_lde rfl hF rfl ?_) | (refine w_bs1 rfl hF rfl ?_; clear hF; intro gN wN hF) | (refine w_bs0 rfl hF ?_; clear hF; intro gN wN hF) | (refine w_app rfl hF rfl rfl ?_; clear hF; intro vN wN hF; (try simp only [List.set_cons_zero, List.set_cons_succ, List.eraseIdx_cons_zero, List.eraseIdx_cons_succ] at hF)) | (refine w_appD rfl hF rfl rfl ?_; clear hF; intro vN wN hF; (try simp only [List.set_cons_zero, List.set_cons_succ, List.eraseIdx_cons_zero, List.eraseIdx_cons_succ] at hF)) | (refine w_ld1o rfl hF rfl ?_) | (refine w_st1o rfl hF rfl rfl ?_; clear hF; intro wN hF; (try simp only [List.set_cons_zero, List.set_cons_succ, List.eraseIdx_cons_zero, List.eraseIdx_cons_succ] at hF)) | (refine w_make0 rfl hF rfl rfl ?_; clear hF; intro gN wN hF) | (refine w_to rfl hF rfl rfl ?_; clear hF; intro hF) | (refine w_from rfl hF rfl rfl ?_; clear hF; intro hF)); (try simp only [Act.put, List.setIfInBounds_toArray, List.set_cons_zero, List.set_cons_succ, Nat.zero_add, Nat.zero_mul, Nat.reduceAdd]))); ((try simp only [Exit.inBlock, Exit.then]); refine bodyPost_ret (w_rescss rfl hF) rfl ?_); exact ⟨_, _, rfl, A2, n2, c2, S2, Aq, cq, rfl, by rw [hql]; rfl, by rw [hql]; exact hF.outA, hC2⟩)
          · have hemp := isEmpty_no hz
            rw [Bool.true_and, Bool.true_and, decide_eq_true hz] at hb'
            subst hb'
            rw [if_pos rfl] at hq2
            have hq3 : q'.length = nq + 1 := by rw [hq2, List.length_append, hql]; rfl
            subst hq2
            clear hz
            go_wp2_with (first | ((first | (refine w_box rfl hF rfl ?_; clear hF; intro gN wN hF) | (refine w_alloc rfl hF ?_; clear hF; intro gN wN hF) | (refine w_ld1 rfl hF rfl ?_) | (refine w_ld rfl hF rfl ?_) | (refine w_st1 rfl hF rfl rfl ?_; clear hF; intro wN hF; (try simp only [List.set_cons_zero, List.set_cons_succ, List.eraseIdx_cons_zero, List.eraseIdx_cons_succ] at hF)) | (refine w_st rfl hF rfl rfl ?_; clear hF; intro wN hF; (try simp only [List.set_cons_zero, List.set_cons_succ, List.eraseIdx_cons_zero, List.eraseIdx_cons_succ] at hF)) | (refine w_fldB rfl rfl ?_) | (refine w_fld rfl hF rfl ?_) | (refine w_ix rfl hF rfl rfl ?_) | (refine w_lde1 rfl hF rfl ?_) | (refine w_lde rfl hF rfl ?_) | (refine w_bs1 rfl hF rfl ?_; clear hF; intro gN wN hF) | (refine w_bs0 rfl hF ?_; clear hF; intro gN wN hF) | (refine w_app rfl hF rfl rfl ?_; clear hF; intro vN wN hF; (try simp only [List.set_cons_zero, List.set_cons_succ, List.eraseIdx_cons_zero, List.eraseIdx_cons_succ] at hF)) | (refine w_appD rfl hF rfl rfl ?_; clear hF; intro vN wN hF; (try simp only [List.set_cons_zero, List.set_cons_succ, List.eraseIdx_cons_zero, List.eraseIdx_cons_succ] at hF)) | (refine w_ld1o rfl hF rfl ?_) | (refine w_st1o rfl hF rfl rfl ?_; clear hF; intro wN hF; (try simp only [List.set_cons_zero, List.set_cons_succ, List.eraseIdx_cons_zero, List.eraseIdx_cons_succ] at hF)) | (refine w_make0 rfl hF rfl rfl ?_; clear hF; intro gN wN hF) | (refine w_to rfl hF rfl rfl ?_; clear hF; intro hF) | (refine w_from rfl hF rfl rfl ?_; clear hF; intro hF)); (try simp only [Act.put, List.setIfInBounds_toArray, List.set_cons_zero, List.set_cons_succ, Nat.zero_add, Nat.zero_mul, Nat.reduceAdd])))
            refine wp_region_st (by kernel_rfl) hF [.blk gG 49 [.int .u32 (gl : Int), .bool true, .string gb], .blk gD 36 [.int .i64 ways, .slice A2 n2 c2]] _ (by ((repeat (first | exact subn_nil | refine subn_cons (by ((repeat (first | exact List.Mem.head _ | refine List.Mem.tail _ ?_)) <;> exact List.Mem.head _)) ?_)) <;> exact subn_nil)) (fun _ h => h) ?_
            clear hF; intro hF hH
            (first | refine w_take (i := 0) rfl (y_ld1 rfl rfl) hH ?_ | refine w_take (i := 0) rfl (y_ld rfl rfl) hH ?_ | refine w_take (i := 0) rfl (y_lde1 rfl rfl) hH ?_ | refine w_take (i := 0) rfl (y_lde rfl rfl) hH ?_); (try simp only [Act.put, List.setIfInBounds_toArray, List.set_cons_zero, List.set_cons_succ, Nat.zero_add, Nat.zero_mul, Nat.reduceAdd])
            (refine w_take (i := 1) rfl (y_move rfl rfl) hH ?_); (try simp only [Act.put, List.setIfInBounds_toArray, List.set_cons_zero, List.set_cons_succ, Nat.zero_add, Nat.zero_mul, Nat.reduceAdd])
            (first | refine w_take (i := 2) rfl (y_fldB rfl rfl) hH ?_ | refine w_take (i := 2) rfl (y_fld rfl rfl) hH ?_); (try simp only [Act.put, List.setIfInBounds_toArray, List.set_cons_zero, List.set_cons_succ, Nat.zero_add, Nat.zero_mul, Nat.reduceAdd])
            (first | refine w_take (i := 3) rfl (y_ld1 rfl rfl) hH ?_ | refine w_take (i := 3) rfl (y_ld rfl rfl) hH ?_ | refine w_take (i := 3) rfl (y_lde1 rfl rfl) hH ?_ | refine w_take (i := 3) rfl (y_lde rfl rfl) hH ?_); (try simp only [Act.put, List.setIfInBounds_toArray, List.set_cons_zero, List.set_cons_succ, Nat.zero_add, Nat.zero_mul, Nat.reduceAdd])
            (refine w_take (i := 4) rfl (y_move rfl rfl) hH ?_); (try simp only [Act.put, List.setIfInBounds_toArray, List.set_cons_zero, List.set_cons_succ, Nat.zero_add, Nat.zero_mul, Nat.reduceAdd])
            (first | refine w_take (i := 5) rfl (y_fldB rfl rfl) hH ?_ | refine w_take (i := 5) rfl (y_fld rfl rfl) hH ?_); (try simp only [Act.put, List.setIfInBounds_toArray, List.set_cons_zero, List.set_cons_succ, Nat.zero_add, Nat.zero_mul, Nat.reduceAdd])
            (first | refine w_take (i := 6) rfl (y_ld1 rfl rfl) hH ?_ | refine w_take (i := 6) rfl (y_ld rfl rfl) hH ?_ | refine w_take (i := 6) rfl (y_lde1 rfl rfl) hH ?_ | refine w_take (i := 6) rfl (y_lde rfl rfl) hH ?_); (try simp only [Act.put, List.setIfInBounds_toArray, List.set_cons_zero, List.set_cons_succ, Nat.zero_add, Nat.zero_mul, Nat.reduceAdd])
            refine wpAnyH_ready (rs := [7]) (by kernel_rfl) (by simp) (ready_cons rfl (fun K hK => ?_) AllReadyH.nil)
            go_wp2_with (first | (go_at_call 77; refine (refPush_any _ _ _ _ _ _ _ _ _ hF.rdA hqn hl).mono ?_; rintro e wN ⟨A3, c3, rfl, hO⟩; replace hF := hF.call1A hO; clear hO))
            have hH := hH.nextA hF; refine hK.out _ _ hH ?_; clear hK; (try simp only [Act.put, List.setIfInBounds_toArray, List.set_cons_zero, List.set_cons_succ, Nat.zero_add, Nat.zero_mul, Nat.reduceAdd])
            refine wpAnyH_ready (rs := [8]) (by kernel_rfl) (by simp) (ready_cons rfl (fun K hK => ?_) AllReadyH.nil)
            go_wp2_with ((first | (refine w_st1 rfl hF rfl rfl ?_; clear hF; intro wN hF; (try simp only [List.set_cons_zero, List.set_cons_succ, List.eraseIdx_cons_zero, List.eraseIdx_cons_succ] at hF)) | (refine w_st rfl hF rfl rfl ?_; clear hF; intro wN hF; (try simp only [List.set_cons_zero, List.set_cons_succ, List.eraseIdx_cons_zero, List.eraseIdx_cons_succ] at hF)) | (refine w_st1o rfl hF rfl rfl ?_; clear hF; intro wN hF; (try simp only [List.set_cons_zero, List.set_cons_succ, List.eraseIdx_cons_zero, List.eraseIdx_cons_succ] at hF))); (try simp only [Act.put, List.setIfInBounds_toArray, List.set_cons_zero, List.set_cons_succ, Nat.zero_add, Nat.zero_mul, Nat.reduceAdd]))
            have hH := hH.nextA hF; refine hK.out _ _ hH ?_; clear hK; (try simp only [Act.put, List.setIfInBounds_toArray, List.set_cons_zero, List.set_cons_succ, Nat.zero_add, Nat.zero_mul, Nat.reduceAdd])
            (refine w_take (i := 9) rfl (y_assign rfl rfl) hH ?_); (try simp only [Act.put, List.setIfInBounds_toArray, List.set_cons_zero, List.set_cons_succ, Nat.zero_add, Nat.zero_mul, Nat.reduceAdd])
            (refine w_take (i := 10) rfl (y_assign rfl rfl) hH ?_); (try simp only [Act.put, List.setIfInBounds_toArray, List.set_cons_zero, List.set_cons_succ, Nat.zero_add, Nat.zero_mul, Nat.reduceAdd])
            refine wpAnyH_done (by kernel_rfl) ?_ _
            (go_wp2; ((try simp only [Exit.inBlock, Exit.then]); refine bodyPost_ret (w_rescss rfl hF) rfl ?_); exact ⟨_, _, rfl, A2, n2, c2, S2, A3, c3, rfl, by rw [hq3]; rfl, by rw [hq3]; exact hF.outA, hC2⟩)
end Go.Proofs.Ytcahadkkjfijfaa

/- Drain of both: the first store goes into the cache. -/
set_option linter.unusedVariables false
set_option linter.unusedSimpArgs false
set_option maxRecDepth 100000
namespace Go.Proofs.Ytcahadkkjfijfaa
open Go.RowKit Go.Sort

/-- stores and a cache that a call hands back -/
def DRes (w : World) (D0 : List Da) (ways : Int) (v1 v2 : Value) (w' : World) (ss : List Pu) (C : List (List Wy)) : Prop :=
  ∃ A2 c2 A n c S, v1 = .slice A2 ss.length c2 ∧ v2 = .agg #[.int .i64 ways, .slice A n c] ∧ Out w D0 w' [rowD 2 A2 ss.length c2 (pus ss), rowD 1 A n c (csv S), elemsD S] ∧ cont S = C
def scD (As : Option Addr) (ns cs : Nat) (ss : List Pu) (A : Option Addr) (n c : Nat) (S : List Cs) : List Da := [rowD 2 As ns cs (pus ss), rowD 1 A n c (csv S), elemsD S]
theorem scD_ok {w : World} {A : Option Addr} {n c : Nat} {S : List Cs} {As : Option Addr} {ns cs : Nat} {ss : List Pu} (hr : RdS w w.heap.size A n c S) (hrs : Rd w w.heap.size 2 As ns cs (pus ss)) : ∀ d ∈ scD As ns cs ss A n c S, d.ok w := fun d hd => by
  rcases List.mem_cons.1 hd with rfl | hd
  · exact hrs
  · rcases List.mem_cons.1 hd with rfl | hd
    · exact hr.rd
    · obtain rfl := List.mem_singleton.1 hd; exact hr.sets
set_option maxHeartbeats 8000000 in
theorem Drain_all {ways : Int} {A : Option Addr} {n c : Nat} {S : List Cs} {As : Option Addr} {ns cs : Nat} {ss : List Pu} {C' : List (List Wy)} {ss' : List Pu} {b : Bool}
    (hso : SOk S) (hss : ∀ p ∈ ss, p.addr < 4294967296 ∧ p.data.size ≤ maxLen) (h : DrainR ways ss (cont S) ss' C' b)
    (w : World) (hr : RdS w w.heap.size A n c S) (hrs : Rd w w.heap.size 2 As ns cs (pus ss)) :
    Calls Try.prog 24 #[.slice As ns cs, .agg #[.int .i64 ways, .slice A n c]] w fun e w' => ∃ y z, e = .returned (.tuple #[y, z, .bool b]) ∧ DRes w (scD As ns cs ss A n c S) ways y z w' ss' C' := by
  have hF := St.start w _ (scD_ok hr hrs)
  unfold scD at hF
  have hsl := hrs.puslen
  have hc1 := hrs.le
  have hc2 := hrs.mx
  unfold maxLen at hc2
  by_cases h0 : ss = []
  · obtain ⟨rfl, rfl, rfl⟩ : ss' = ss ∧ C' = cont S ∧ b = false := by
      cases h with
      | none h hs he hb => exact ⟨hs, he, hb⟩
      | no s r h => rw [h] at h0; cases h0
      | yes s r h => rw [h] at h0; cases h0
    subst h0
    obtain rfl : ns = 0 := by rw [← hsl]; rfl
    go_enter Try.func24, Try.ntmps24
    go_wp2_with (first | ((first | (refine w_box rfl hF rfl ?_; clear hF; intro gN wN hF) | (refine w_alloc rfl hF ?_; clear hF; intro gN wN hF) | (refine w_ld1 rfl hF rfl ?_) | (refine w_ld rfl hF rfl ?_) | (refine w_st1 rfl hF rfl rfl ?_; clear hF; intro wN hF; (try simp only [List.set_cons_zero, List.set_cons_succ, List.eraseIdx_cons_zero, List.eraseIdx_cons_succ] at hF)) | (refine w_st rfl hF rfl rfl ?_; clear hF; intro wN hF; (try simp only [List.set_cons_zero, List.set_cons_succ, List.eraseIdx_cons_zero, List.eraseIdx_cons_succ] at hF)) | (refine w_fldB rfl rfl ?_) | (refine w_fld rfl hF rfl ?_) | (refine w_ix rfl hF rfl rfl ?_) | (refine w_lde1 rfl hF rfl ?_) | (refine w_lde rfl hF rfl ?_) | (refine w_bs1 rfl hF rfl ?_; clear hF; intro gN wN hF) | (refine w_bs0 rfl hF ?_; clear hF; intro gN wN hF) | (refine w_app rfl hF rfl rfl ?_; clear hF; intro vN wN hF; (try simp only [List.set_cons_zero, List.set_cons_succ, List.eraseIdx_cons_zero, List.eraseIdx_cons_succ] at hF)) | (refine w_appD rfl hF rfl rfl ?_; clear hF; intro vN wN hF; (try simp only [List.set_cons_zero, List.set_cons_succ, List.eraseIdx_cons_zero, List.eraseIdx_cons_succ] at hF)) | (refine w_ld1o rfl hF rfl ?_) | (refine w_st1o rfl hF rfl rfl ?_; clear hF; intro wN hF; (try simp only [List.set_cons_zero, List.set_cons_succ, List.eraseIdx_cons_zero, List.eraseIdx_cons_succ] at hF)) | (refine w_make0 rfl hF rfl rfl ?_; clear hF; intro gN wN hF) | (refine w_to rfl hF rfl rfl ?_; clear hF; intro hF) | (refine w_from rfl hF rfl rfl ?_; clear hF; intro hF)); (try simp only [Act.put, List.setIfInBounds_toArray, List.set_cons_zero, List.set_cons_succ, Nat.zero_add, Nat.zero_mul, Nat.reduceAdd])))
    obtain ⟨gR, gC, rfl, rfl⟩ := hF.names2
    refine wp_region_st (by kernel_rfl) hF [.blk gC 36 [.int .i64 ways, .slice A n c]] _ (by ((repeat (first | exact subn_nil | refine subn_cons (by ((repeat (first | exact List.Mem.head _ | refine List.Mem.tail _ ?_)) <;> exact List.Mem.head _)) ?_)) <;> exact subn_nil)) (fun _ h => h) ?_
    clear hF; intro hF hH
    (refine w_take (i := 0) rfl (y_move rfl rfl) hH ?_); (try simp only [Act.put, List.setIfInBounds_toArray, List.set_cons_zero, List.set_cons_succ, Nat.zero_add, Nat.zero_mul, Nat.reduceAdd])
    (first | refine w_take (i := 1) rfl (y_ld1 rfl rfl) hH ?_ | refine w_take (i := 1) rfl (y_ld rfl rfl) hH ?_ | refine w_take (i := 1) rfl (y_lde1 rfl rfl) hH ?_ | refine w_take (i := 1) rfl (y_lde rfl rfl) hH ?_); (try simp only [Act.put, List.setIfInBounds_toArray, List.set_cons_zero, List.set_cons_succ, Nat.zero_add, Nat.zero_mul, Nat.reduceAdd])
    (refine w_take (i := 2) rfl (y_assign rfl rfl) hH ?_); (try simp only [Act.put, List.setIfInBounds_toArray, List.set_cons_zero, List.set_cons_succ, Nat.zero_add, Nat.zero_mul, Nat.reduceAdd])
    refine wpAnyH_ready (rs := [3]) (by kernel_rfl) (by simp) (ready_cons rfl (fun K hK => ?_) AllReadyH.nil)
    go_wp2_with ((first | (refine w_st1 rfl hF rfl rfl ?_; clear hF; intro wN hF; (try simp only [List.set_cons_zero, List.set_cons_succ, List.eraseIdx_cons_zero, List.eraseIdx_cons_succ] at hF)) | (refine w_st rfl hF rfl rfl ?_; clear hF; intro wN hF; (try simp only [List.set_cons_zero, List.set_cons_succ, List.eraseIdx_cons_zero, List.eraseIdx_cons_succ] at hF)) | (refine w_st1o rfl hF rfl rfl ?_; clear hF; intro wN hF; (try simp only [List.set_cons_zero, List.set_cons_succ, List.eraseIdx_cons_zero, List.eraseIdx_cons_succ] at hF))); (try simp only [Act.put, List.setIfInBounds_toArray, List.set_cons_zero, List.set_cons_succ, Nat.zero_add, Nat.zero_mul, Nat.reduceAdd]))
    have hH := hH.nextA hF; refine hK.out _ _ hH ?_; clear hK; (try simp only [Act.put, List.setIfInBounds_toArray, List.set_cons_zero, List.set_cons_succ, Nat.zero_add, Nat.zero_mul, Nat.reduceAdd])
    (refine w_take (i := 4) rfl (y_assign rfl rfl) hH ?_); (try simp only [Act.put, List.setIfInBounds_toArray, List.set_cons_zero, List.set_cons_succ, Nat.zero_add, Nat.zero_mul, Nat.reduceAdd])
    refine wpAnyH_done (by kernel_rfl) ?_ _
    (go_wp2; ((try simp only [Exit.inBlock, Exit.then]); refine bodyPost_ret (w_resscs rfl hF) rfl ?_); exact ⟨_, _, rfl, As, cs, A, n, c, S, rfl, rfl, hF.outA, rfl⟩)
  · obtain ⟨s, r, CW, h1, hw, hb⟩ : ∃ s r CW, ss = s :: r ∧ WriteR ways (cont S) s.addr s.data CW b ∧ (b = false ∧ ss' = ss ∧ C' = cont S ∧ CW = cont S ∨ b = true ∧ ss' = r ∧ C' = CW) := by
      cases h with
      | none h => exact absurd h h0
      | no s r h hw hs he hb => exact ⟨s, r, _, h, by rw [hb]; exact hw, .inl ⟨hb, hs, he, rfl⟩⟩
      | yes s r h hw hs hb => exact ⟨s, r, _, h, by rw [hb]; exact hw, .inr ⟨hb, hs, rfl⟩⟩
    subst h1
    obtain ⟨hpa, hpd⟩ := hss s (List.mem_cons_self ..)
    obtain ⟨pa, pd⟩ := s
    have hn0 : 0 < ns := by rw [← hsl]; exact Nat.zero_lt_succ _
    have hn1 : 1 ≤ ns := hn0
    have hu0 : (pus (⟨pa, pd⟩ :: r))[0]? = some (.int .u32 (pa : Int)) := rfl
    have hu1 : (pus (⟨pa, pd⟩ :: r))[1]? = some (.string pd) := rfl
    have hW := Lib.hid hw
    have hne : ¬ ((ns : Int) = 0) := by omega
    have hrl : ns - 1 = r.length := by rw [← hsl]; rfl
    have hF := hF.fromPart (k := 1) (sz := 2) (A := As) (n := ns) (c := cs) (xs := pus (⟨pa, pd⟩ :: r)) (by ((repeat (first | exact List.Mem.head _ | refine List.Mem.tail _ ?_)) <;> exact List.Mem.head _)) hn1
    rw [show (pus (⟨pa, pd⟩ :: r)).drop (1 * 2) = pus r from rfl] at hF
    clear hss hw h h0
    replace hb := Lib.hid hb
    go_enter Try.func24, Try.ntmps24
    go_upto_region 3 with (first | ((refine w_eqF rfl rfl rfl ?_); (try simp only [Act.put, List.setIfInBounds_toArray, List.set_cons_zero, List.set_cons_succ, Nat.zero_add, Nat.zero_mul, Nat.reduceAdd])) | ((first | (refine w_box rfl hF rfl ?_; clear hF; intro gN wN hF) | (refine w_alloc rfl hF ?_; clear hF; intro gN wN hF) | (refine w_ld1 rfl hF rfl ?_) | (refine w_ld rfl hF rfl ?_) | (refine w_st1 rfl hF rfl rfl ?_; clear hF; intro wN hF; (try simp only [List.set_cons_zero, List.set_cons_succ, List.eraseIdx_cons_zero, List.eraseIdx_cons_succ] at hF)) | (refine w_st rfl hF rfl rfl ?_; clear hF; intro wN hF; (try simp only [List.set_cons_zero, List.set_cons_succ, List.eraseIdx_cons_zero, List.eraseIdx_cons_succ] at hF)) | (refine w_fldB rfl rfl ?_) | (refine w_fld rfl hF rfl ?_) | (refine w_ix rfl hF rfl rfl ?_) | (refine w_lde1 rfl hF rfl ?_) | (refine w_lde rfl hF rfl ?_) | (refine w_bs1 rfl hF rfl ?_; clear hF; intro gN wN hF) | (refine w_bs0 rfl hF ?_; clear hF; intro gN wN hF) | (refine w_app rfl hF rfl rfl ?_; clear hF; intro vN wN hF; (try simp only [List.set_cons_zero, List.set_cons_succ, List.eraseIdx_cons_zero, List.eraseIdx_cons_succ] at hF)) | (refine w_appD rfl hF rfl rfl ?_; clear hF; intro vN wN hF; (try simp only [List.set_cons_zero, List.set_cons_succ, List.eraseIdx_cons_zero, List.eraseIdx_cons_succ] at hF)) | (refine w_ld1o rfl hF rfl ?_) | (refine w_st1o rfl hF rfl rfl ?_; clear hF; intro wN hF; (try simp only [List.set_cons_zero, List.set_cons_succ, List.eraseIdx_cons_zero, List.eraseIdx_cons_succ] at hF)) | (refine w_make0 rfl hF rfl rfl ?_; clear hF; intro gN wN hF) | (refine w_to rfl hF rfl rfl ?_; clear hF; intro hF) | (refine w_from rfl hF rfl rfl ?_; clear hF; intro hF)); (try simp only [Act.put, List.setIfInBounds_toArray, List.set_cons_zero, List.set_cons_succ, Nat.zero_add, Nat.zero_mul, Nat.reduceAdd])))
    rename_i K hK
    obtain ⟨gR, gC, rfl, rfl⟩ := hF.names2
    go_cut [7, 8] (fun p s wx => ∃ gW A2 n2 c2 S2, p = .pointer (some ⟨gW, 0, none⟩) ∧ s = .bool b ∧ Hid (cont S2 = CW) ∧ St w [rowD 2 As ns cs (pus (⟨pa, pd⟩ :: r)), rowD 1 A n c (csv S), elemsD S] wx [.blk gW 36 [.int .i64 ways, .slice A2 n2 c2], .blk gR 36 [.int .i64 0, .slice none 0 0], .blk gC 36 [.int .i64 ways, .slice A n c]] [rowD 1 A2 n2 c2 (csv S2), elemsD S2, rowD 2 (cutA As 1 cs 2) (ns - 1) (cs - 1) (pus r), rowD 2 As ns cs (pus (⟨pa, pd⟩ :: r)), rowD 1 A n c (csv S), elemsD S])
    case first =>
      refine wp_region_st (by kernel_rfl) hF [.blk gC 36 [.int .i64 ways, .slice A n c]] _ (by ((repeat (first | exact subn_nil | refine subn_cons (by ((repeat (first | exact List.Mem.head _ | refine List.Mem.tail _ ?_)) <;> exact List.Mem.head _)) ?_)) <;> exact subn_nil)) (fun _ h => h) ?_
      clear hF; intro hF hH
      (first | refine w_take (i := 0) rfl (y_ld1 rfl rfl) hH ?_ | refine w_take (i := 0) rfl (y_ld rfl rfl) hH ?_ | refine w_take (i := 0) rfl (y_lde1 rfl rfl) hH ?_ | refine w_take (i := 0) rfl (y_lde rfl rfl) hH ?_); (try simp only [Act.put, List.setIfInBounds_toArray, List.set_cons_zero, List.set_cons_succ, Nat.zero_add, Nat.zero_mul, Nat.reduceAdd])
      (refine w_take (i := 1) rfl (y_move rfl rfl) hH ?_); (try simp only [Act.put, List.setIfInBounds_toArray, List.set_cons_zero, List.set_cons_succ, Nat.zero_add, Nat.zero_mul, Nat.reduceAdd])
      (first | refine w_take (i := 2) rfl (y_ix rfl rfl rfl) hH ?_ | refine w_take (i := 2) rfl (y_ixB rfl rfl rfl) hH ?_); (try simp only [Act.put, List.setIfInBounds_toArray, List.set_cons_zero, List.set_cons_succ, Nat.zero_add, Nat.zero_mul, Nat.reduceAdd])
      (first | refine w_take (i := 3) rfl (y_fldB rfl rfl) hH ?_ | refine w_take (i := 3) rfl (y_fld rfl rfl) hH ?_); (try simp only [Act.put, List.setIfInBounds_toArray, List.set_cons_zero, List.set_cons_succ, Nat.zero_add, Nat.zero_mul, Nat.reduceAdd])
      (first | refine w_take (i := 4) rfl (y_ld1 rfl rfl) hH ?_ | refine w_take (i := 4) rfl (y_ld rfl rfl) hH ?_ | refine w_take (i := 4) rfl (y_lde1 rfl rfl) hH ?_ | refine w_take (i := 4) rfl (y_lde rfl rfl) hH ?_); (try simp only [Act.put, List.setIfInBounds_toArray, List.set_cons_zero, List.set_cons_succ, Nat.zero_add, Nat.zero_mul, Nat.reduceAdd])
      (refine w_take (i := 5) rfl (y_move rfl rfl) hH ?_); (try simp only [Act.put, List.setIfInBounds_toArray, List.set_cons_zero, List.set_cons_succ, Nat.zero_add, Nat.zero_mul, Nat.reduceAdd])
      (first | refine w_take (i := 6) rfl (y_ix rfl rfl rfl) hH ?_ | refine w_take (i := 6) rfl (y_ixB rfl rfl rfl) hH ?_); (try simp only [Act.put, List.setIfInBounds_toArray, List.set_cons_zero, List.set_cons_succ, Nat.zero_add, Nat.zero_mul, Nat.reduceAdd])
      (first | refine w_take (i := 7) rfl (y_fldB rfl rfl) hH ?_ | refine w_take (i := 7) rfl (y_fld rfl rfl) hH ?_); (try simp only [Act.put, List.setIfInBounds_toArray, List.set_cons_zero, List.set_cons_succ, Nat.zero_add, Nat.zero_mul, Nat.reduceAdd])
      (first | refine w_take (i := 8) rfl (y_ld1 rfl rfl) hH ?_ | refine w_take (i := 8) rfl (y_ld rfl rfl) hH ?_ | refine w_take (i := 8) rfl (y_lde1 rfl rfl) hH ?_ | refine w_take (i := 8) rfl (y_lde rfl rfl) hH ?_); (try simp only [Act.put, List.setIfInBounds_toArray, List.set_cons_zero, List.set_cons_succ, Nat.zero_add, Nat.zero_mul, Nat.reduceAdd])
      refine wpAnyH_ready (rs := [9, 13]) (by kernel_rfl) (by simp) (ready_cons rfl (fun K hK => ?_) (ready_cons rfl (fun K hK => ?_) AllReadyH.nil))
      · go_wp2_with (first | (go_at_call 44; refine (Write_all hpa hpd hso hW.out _ hF.rds).mono ?_; rintro e wN ⟨_, rfl, A2, n2, c2, S2, rfl, hO, hC2⟩; replace hF := hF.callA hO; clear hO))
        have hH := hH.nextA hF; refine hK.out _ _ hH ?_; clear hK; (try simp only [Act.put, List.setIfInBounds_toArray, List.set_cons_zero, List.set_cons_succ, Nat.zero_add, Nat.zero_mul, Nat.reduceAdd])
        (refine w_take (i := 10) rfl (y_move rfl rfl) hH ?_); (try simp only [Act.put, List.setIfInBounds_toArray, List.set_cons_zero, List.set_cons_succ, Nat.zero_add, Nat.zero_mul, Nat.reduceAdd])
        (refine rg_take (i := 11) (v := ?_) rfl rfl (by kernel_rfl) (by kernel_rfl) (by kernel_rfl) (fun _ _ _ h => h) ?_ hH ?_; rotate_left; (first | exact yi_eq y_skip (by rfl) | (refine yi_pure (by rfl) ?_; intro w; go_simp; done) | (refine yi_pure (by rfl) ?_; intro w; go_simp; with_reducible rfl) | (refine yi_pure (by rfl) ?_; intro w; simp only [Wy.cells]; go_simp; with_reducible rfl)); (try simp only [Act.put, List.setIfInBounds_toArray, List.set_cons_zero, List.set_cons_succ, Nat.zero_add, Nat.zero_mul, Nat.reduceAdd]))
        (refine rg_take (i := 12) (v := ?_) rfl rfl (by kernel_rfl) (by kernel_rfl) (by kernel_rfl) (fun _ _ _ h => h) ?_ hH ?_; rotate_left; (first | exact yi_eq y_skip (by rfl) | (refine yi_pure (by rfl) ?_; intro w; go_simp; done) | (refine yi_pure (by rfl) ?_; intro w; go_simp; with_reducible rfl) | (refine yi_pure (by rfl) ?_; intro w; simp only [Wy.cells]; go_simp; with_reducible rfl)); (try simp only [Act.put, List.setIfInBounds_toArray, List.set_cons_zero, List.set_cons_succ, Nat.zero_add, Nat.zero_mul, Nat.reduceAdd]))
        refine wpAnyH_ready (rs := [13]) (by kernel_rfl) (by simp) (ready_cons rfl (fun K hK => ?_) AllReadyH.nil)
        go_wp2_with ((refine w_alloc rfl hF ?_; clear hF; intro gN wN hF); (try simp only [Act.put, List.setIfInBounds_toArray, List.set_cons_zero, List.set_cons_succ, Nat.zero_add, Nat.zero_mul, Nat.reduceAdd]))
        have hH := hH.nextA hF; refine hK.out _ _ hH ?_; clear hK; (try simp only [Act.put, List.setIfInBounds_toArray, List.set_cons_zero, List.set_cons_succ, Nat.zero_add, Nat.zero_mul, Nat.reduceAdd])
        refine wpAnyH_ready (rs := [14]) (by kernel_rfl) (by simp) (ready_cons rfl (fun K hK => ?_) AllReadyH.nil)
        go_wp2_with ((first | (refine w_st1 rfl hF rfl rfl ?_; clear hF; intro wN hF; (try simp only [List.set_cons_zero, List.set_cons_succ, List.eraseIdx_cons_zero, List.eraseIdx_cons_succ] at hF)) | (refine w_st rfl hF rfl rfl ?_; clear hF; intro wN hF; (try simp only [List.set_cons_zero, List.set_cons_succ, List.eraseIdx_cons_zero, List.eraseIdx_cons_succ] at hF)) | (refine w_st1o rfl hF rfl rfl ?_; clear hF; intro wN hF; (try simp only [List.set_cons_zero, List.set_cons_succ, List.eraseIdx_cons_zero, List.eraseIdx_cons_succ] at hF))); (try simp only [Act.put, List.setIfInBounds_toArray, List.set_cons_zero, List.set_cons_succ, Nat.zero_add, Nat.zero_mul, Nat.reduceAdd]))
        have hH := hH.nextA hF; refine hK.out _ _ hH ?_; clear hK; (try simp only [Act.put, List.setIfInBounds_toArray, List.set_cons_zero, List.set_cons_succ, Nat.zero_add, Nat.zero_mul, Nat.reduceAdd])
        (refine w_take (i := 15) rfl (y_assign rfl rfl) hH ?_); (try simp only [Act.put, List.setIfInBounds_toArray, List.set_cons_zero, List.set_cons_succ, Nat.zero_add, Nat.zero_mul, Nat.reduceAdd])
        refine wpAnyH_done (by kernel_rfl) ?_ _
        (go_wp2; go_meet; exact ⟨_, A2, n2, c2, S2, rfl, rfl, Lib.hid hC2, hF⟩)
      · go_wp2_with ((refine w_alloc rfl hF ?_; clear hF; intro gN wN hF); (try simp only [Act.put, List.setIfInBounds_toArray, List.set_cons_zero, List.set_cons_succ, Nat.zero_add, Nat.zero_mul, Nat.reduceAdd]))
        have hH := hH.nextA hF; refine hK.out _ _ hH ?_; clear hK; (try simp only [Act.put, List.setIfInBounds_toArray, List.set_cons_zero, List.set_cons_succ, Nat.zero_add, Nat.zero_mul, Nat.reduceAdd])
        refine wpAnyH_ready (rs := [9]) (by kernel_rfl) (by simp) (ready_cons rfl (fun K hK => ?_) AllReadyH.nil)
        go_wp2_with (first | (go_at_call 44; refine (Write_all hpa hpd hso hW.out _ hF.rds).mono ?_; rintro e wN ⟨_, rfl, A2, n2, c2, S2, rfl, hO, hC2⟩; replace hF := hF.callA hO; clear hO))
        have hH := hH.nextA hF; refine hK.out _ _ hH ?_; clear hK; (try simp only [Act.put, List.setIfInBounds_toArray, List.set_cons_zero, List.set_cons_succ, Nat.zero_add, Nat.zero_mul, Nat.reduceAdd])
        (refine w_take (i := 10) rfl (y_move rfl rfl) hH ?_); (try simp only [Act.put, List.setIfInBounds_toArray, List.set_cons_zero, List.set_cons_succ, Nat.zero_add, Nat.zero_mul, Nat.reduceAdd])
        (refine rg_take (i := 11) (v := ?_) rfl rfl (by kernel_rfl) (by kernel_rfl) (by kernel_rfl) (fun _ _ _ h => h) ?_ hH ?_; rotate_left; (first | exact yi_eq y_skip (by rfl) | (refine yi_pure (by rfl) ?_; intro w; go_simp; done) | (refine yi_pure (by rfl) ?_; intro w; go_simp; with_reducible rfl) | (refine yi_pure (by rfl) ?_; intro w; simp only [Wy.cells]; go_simp; with_reducible rfl)); (try simp only [Act.put, List.setIfInBounds_toArray, List.set_cons_zero, List.set_cons_succ, Nat.zero_add, Nat.zero_mul, Nat.reduceAdd]))
        (refine rg_take (i := 12) (v := ?_) rfl rfl (by kernel_rfl) (by kernel_rfl) (by kernel_rfl) (fun _ _ _ h => h) ?_ hH ?_; rotate_left; (first | exact yi_eq y_skip (by rfl) | (refine yi_pure (by rfl) ?_; intro w; go_simp; done) | (refine yi_pure (by rfl) ?_; intro w; go_simp; with_reducible rfl) | (refine yi_pure (by rfl) ?_; intro w; simp only [Wy.cells]; go_simp; with_reducible rfl)); (try simp only [Act.put, List.setIfInBounds_toArray, List.set_cons_zero, List.set_cons_succ, Nat.zero_add, Nat.zero_mul, Nat.reduceAdd]))
        refine wpAnyH_ready (rs := [14]) (by kernel_rfl) (by simp) (ready_cons rfl (fun K hK => ?_) AllReadyH.nil)
        go_wp2_with ((first | (refine w_st1 rfl hF rfl rfl ?_; clear hF; intro wN hF; (try simp only [List.set_cons_zero, List.set_cons_succ, List.eraseIdx_cons_zero, List.eraseIdx_cons_succ] at hF)) | (refine w_st rfl hF rfl rfl ?_; clear hF; intro wN hF; (try simp only [List.set_cons_zero, List.set_cons_succ, List.eraseIdx_cons_zero, List.eraseIdx_cons_succ] at hF)) | (refine w_st1o rfl hF rfl rfl ?_; clear hF; intro wN hF; (try simp only [List.set_cons_zero, List.set_cons_succ, List.eraseIdx_cons_zero, List.eraseIdx_cons_succ] at hF))); (try simp only [Act.put, List.setIfInBounds_toArray, List.set_cons_zero, List.set_cons_succ, Nat.zero_add, Nat.zero_mul, Nat.reduceAdd]))
        have hH := hH.nextA hF; refine hK.out _ _ hH ?_; clear hK; (try simp only [Act.put, List.setIfInBounds_toArray, List.set_cons_zero, List.set_cons_succ, Nat.zero_add, Nat.zero_mul, Nat.reduceAdd])
        (refine w_take (i := 15) rfl (y_assign rfl rfl) hH ?_); (try simp only [Act.put, List.setIfInBounds_toArray, List.set_cons_zero, List.set_cons_succ, Nat.zero_add, Nat.zero_mul, Nat.reduceAdd])
        refine wpAnyH_done (by kernel_rfl) ?_ _
        (go_wp2; go_meet; exact ⟨_, A2, n2, c2, S2, rfl, rfl, Lib.hid hC2, hF⟩)
    case rest =>
      obtain ⟨gW, A2, n2, c2, S2, rfl, rfl, hC2, hF⟩ := hcut
      refine hK _ _ ?_
      rcases hb.out with ⟨rfl, rfl, rfl, h2⟩ | ⟨rfl, rfl, rfl⟩
      · go_wp2_with (first | ((first | (refine w_box rfl hF rfl ?_; clear hF; intro gN wN hF) | (refine w_alloc rfl hF ?_; clear hF; intro gN wN hF) | (refine w_ld1 rfl hF rfl ?_) | (refine w_ld rfl hF rfl ?_) | (refine w_st1 rfl hF rfl rfl ?_; clear hF; intro wN hF; (try simp only [List.set_cons_zero, List.set_cons_succ, List.eraseIdx_cons_zero, List.eraseIdx_cons_succ] at hF)) | (refine w_st rfl hF rfl rfl ?_; clear hF; intro wN hF; (try simp only [List.set_cons_zero, List.set_cons_succ, List.eraseIdx_cons_zero, List.eraseIdx_cons_succ] at hF)) | (refine w_fldB rfl rfl ?_) | (refine w_fld rfl hF rfl ?_) | (refine w_ix rfl hF rfl rfl ?_) | (refine w_lde1 rfl hF rfl ?_) | (refine w_lde rfl hF rfl ?_) | (refine w_bs1 rfl hF rfl ?_; clear hF; intro gN wN hF) | (refine w_bs0 rfl hF ?_; clear hF; intro gN wN hF) | (refine w_app rfl hF rfl rfl ?_; clear hF; intro vN wN hF; (try simp only [List.set_cons_zero, List.set_cons_succ, List.eraseIdx_cons_zero, List.eraseIdx_cons_succ] at hF)) | (refine w_appD rfl hF rfl rfl ?_; clear hF; intro vN wN hF; (try simp only [List.set_cons_zero, List.set_cons_succ, List.eraseIdx_cons_zero, List.eraseIdx_cons_succ] at hF)) | (refine w_ld1o rfl hF rfl ?_) | (refine w_st1o rfl hF rfl rfl ?_; clear hF; intro wN hF; (try simp only [List.set_cons_zero, List.set_cons_succ, List.eraseIdx_cons_zero, List.eraseIdx_cons_succ] at hF)) | (refine w_make0 rfl hF rfl rfl ?_; clear hF; intro gN wN hF) | (refine w_to rfl hF rfl rfl ?_; clear hF; intro hF) | (refine w_from rfl hF rfl rfl ?_; clear hF; intro hF)); (try simp only [Act.put, List.setIfInBounds_toArray, List.set_cons_zero, List.set_cons_succ, Nat.zero_add, Nat.zero_mul, Nat.reduceAdd])))
        refine wp_region_st (by kernel_rfl) hF [.blk gC 36 [.int .i64 ways, .slice A n c]] _ (by ((repeat (first | exact subn_nil | refine subn_cons (by ((repeat (first | exact List.Mem.head _ | refine List.Mem.tail _ ?_)) <;> exact List.Mem.head _)) ?_)) <;> exact subn_nil)) (fun _ h => h) ?_
        clear hF; intro hF hH
        (refine w_take (i := 0) rfl (y_move rfl rfl) hH ?_); (try simp only [Act.put, List.setIfInBounds_toArray, List.set_cons_zero, List.set_cons_succ, Nat.zero_add, Nat.zero_mul, Nat.reduceAdd])
        (first | refine w_take (i := 1) rfl (y_ld1 rfl rfl) hH ?_ | refine w_take (i := 1) rfl (y_ld rfl rfl) hH ?_ | refine w_take (i := 1) rfl (y_lde1 rfl rfl) hH ?_ | refine w_take (i := 1) rfl (y_lde rfl rfl) hH ?_); (try simp only [Act.put, List.setIfInBounds_toArray, List.set_cons_zero, List.set_cons_succ, Nat.zero_add, Nat.zero_mul, Nat.reduceAdd])
        (refine w_take (i := 2) rfl (y_assign rfl rfl) hH ?_); (try simp only [Act.put, List.setIfInBounds_toArray, List.set_cons_zero, List.set_cons_succ, Nat.zero_add, Nat.zero_mul, Nat.reduceAdd])
        refine wpAnyH_ready (rs := [3]) (by kernel_rfl) (by simp) (ready_cons rfl (fun K hK => ?_) AllReadyH.nil)
        go_wp2_with ((first | (refine w_st1 rfl hF rfl rfl ?_; clear hF; intro wN hF; (try simp only [List.set_cons_zero, List.set_cons_succ, List.eraseIdx_cons_zero, List.eraseIdx_cons_succ] at hF)) | (refine w_st rfl hF rfl rfl ?_; clear hF; intro wN hF; (try simp only [List.set_cons_zero, List.set_cons_succ, List.eraseIdx_cons_zero, List.eraseIdx_cons_succ] at hF)) | (refine w_st1o rfl hF rfl rfl ?_; clear hF; intro wN hF; (try simp only [List.set_cons_zero, List.set_cons_succ, List.eraseIdx_cons_zero, List.eraseIdx_cons_succ] at hF))); (try simp only [Act.put, List.setIfInBounds_toArray, List.set_cons_zero, List.set_cons_succ, Nat.zero_add, Nat.zero_mul, Nat.reduceAdd]))
        have hH := hH.nextA hF; refine hK.out _ _ hH ?_; clear hK; (try simp only [Act.put, List.setIfInBounds_toArray, List.set_cons_zero, List.set_cons_succ, Nat.zero_add, Nat.zero_mul, Nat.reduceAdd])
        (refine w_take (i := 4) rfl (y_assign rfl rfl) hH ?_); (try simp only [Act.put, List.setIfInBounds_toArray, List.set_cons_zero, List.set_cons_succ, Nat.zero_add, Nat.zero_mul, Nat.reduceAdd])
        refine wpAnyH_done (by kernel_rfl) ?_ _
        (go_wp2; ((try simp only [Exit.inBlock, Exit.then]); refine bodyPost_ret (w_resscs rfl hF) rfl ?_); exact ⟨_, _, rfl, As, cs, A, n, c, S, by rw [← hsl]; rfl, rfl, by rw [← hsl] at hF ⊢; exact hF.outA, rfl⟩)
      · go_wp2_with (first | ((first | (refine w_box rfl hF rfl ?_; clear hF; intro gN wN hF) | (refine w_alloc rfl hF ?_; clear hF; intro gN wN hF) | (refine w_ld1 rfl hF rfl ?_) | (refine w_ld rfl hF rfl ?_) | (refine w_st1 rfl hF rfl rfl ?_; clear hF; intro wN hF; (try simp only [List.set_cons_zero, List.set_cons_succ, List.eraseIdx_cons_zero, List.eraseIdx_cons_succ] at hF)) | (refine w_st rfl hF rfl rfl ?_; clear hF; intro wN hF; (try simp only [List.set_cons_zero, List.set_cons_succ, List.eraseIdx_cons_zero, List.eraseIdx_cons_succ] at hF)) | (refine w_fldB rfl rfl ?_) | (refine w_fld rfl hF rfl ?_) | (refine w_ix rfl hF rfl rfl ?_) | (refine w_lde1 rfl hF rfl ?_) | (refine w_lde rfl hF rfl ?_) | (refine w_bs1 rfl hF rfl ?_; clear hF; intro gN wN hF) | (refine w_bs0 rfl hF ?_; clear hF; intro gN wN hF) | (refine w_app rfl hF rfl rfl ?_; clear hF; intro vN wN hF; (try simp only [List.set_cons_zero, List.set_cons_succ, List.eraseIdx_cons_zero, List.eraseIdx_cons_succ] at hF)) | (refine w_appD rfl hF rfl rfl ?_; clear hF; intro vN wN hF; (try simp only [List.set_cons_zero, List.set_cons_succ, List.eraseIdx_cons_zero, List.eraseIdx_cons_succ] at hF)) | (refine w_ld1o rfl hF rfl ?_) | (refine w_st1o rfl hF rfl rfl ?_; clear hF; intro wN hF; (try simp only [List.set_cons_zero, List.set_cons_succ, List.eraseIdx_cons_zero, List.eraseIdx_cons_succ] at hF)) | (refine w_make0 rfl hF rfl rfl ?_; clear hF; intro gN wN hF) | (refine w_to rfl hF rfl rfl ?_; clear hF; intro hF) | (refine w_from rfl hF rfl rfl ?_; clear hF; intro hF)); (try simp only [Act.put, List.setIfInBounds_toArray, List.set_cons_zero, List.set_cons_succ, Nat.zero_add, Nat.zero_mul, Nat.reduceAdd])))
        refine wp_region_st (by kernel_rfl) hF [.blk gW 36 [.int .i64 ways, .slice A2 n2 c2]] _ (by ((repeat (first | exact subn_nil | refine subn_cons (by ((repeat (first | exact List.Mem.head _ | refine List.Mem.tail _ ?_)) <;> exact List.Mem.head _)) ?_)) <;> exact subn_nil)) (fun _ h => h) ?_
        clear hF; intro hF hH
        (refine w_take (i := 0) rfl (y_move rfl rfl) hH ?_); (try simp only [Act.put, List.setIfInBounds_toArray, List.set_cons_zero, List.set_cons_succ, Nat.zero_add, Nat.zero_mul, Nat.reduceAdd])
        (first | refine w_take (i := 1) rfl (y_fromB rfl rfl rfl) hH ?_ | refine w_take (i := 1) rfl (y_to rfl rfl rfl) hH ?_ | refine w_take (i := 1) rfl (y_from rfl rfl rfl) hH ?_ | refine w_take (i := 1) rfl (y_strto rfl rfl rfl) hH ?_ | refine w_take (i := 1) rfl (y_strfrom rfl rfl rfl) hH ?_); (try simp only [Act.put, List.setIfInBounds_toArray, List.set_cons_zero, List.set_cons_succ, Nat.zero_add, Nat.zero_mul, Nat.reduceAdd])
        (first | refine w_take (i := 2) rfl (y_ld1 rfl rfl) hH ?_ | refine w_take (i := 2) rfl (y_ld rfl rfl) hH ?_ | refine w_take (i := 2) rfl (y_lde1 rfl rfl) hH ?_ | refine w_take (i := 2) rfl (y_lde rfl rfl) hH ?_); (try simp only [Act.put, List.setIfInBounds_toArray, List.set_cons_zero, List.set_cons_succ, Nat.zero_add, Nat.zero_mul, Nat.reduceAdd])
        (refine w_take (i := 3) rfl (y_assign rfl rfl) hH ?_); (try simp only [Act.put, List.setIfInBounds_toArray, List.set_cons_zero, List.set_cons_succ, Nat.zero_add, Nat.zero_mul, Nat.reduceAdd])
        refine wpAnyH_ready (rs := [4]) (by kernel_rfl) (by simp) (ready_cons rfl (fun K hK => ?_) AllReadyH.nil)
        go_wp2_with ((first | (refine w_st1 rfl hF rfl rfl ?_; clear hF; intro wN hF; (try simp only [List.set_cons_zero, List.set_cons_succ, List.eraseIdx_cons_zero, List.eraseIdx_cons_succ] at hF)) | (refine w_st rfl hF rfl rfl ?_; clear hF; intro wN hF; (try simp only [List.set_cons_zero, List.set_cons_succ, List.eraseIdx_cons_zero, List.eraseIdx_cons_succ] at hF)) | (refine w_st1o rfl hF rfl rfl ?_; clear hF; intro wN hF; (try simp only [List.set_cons_zero, List.set_cons_succ, List.eraseIdx_cons_zero, List.eraseIdx_cons_succ] at hF))); (try simp only [Act.put, List.setIfInBounds_toArray, List.set_cons_zero, List.set_cons_succ, Nat.zero_add, Nat.zero_mul, Nat.reduceAdd]))
        have hH := hH.nextA hF; refine hK.out _ _ hH ?_; clear hK; (try simp only [Act.put, List.setIfInBounds_toArray, List.set_cons_zero, List.set_cons_succ, Nat.zero_add, Nat.zero_mul, Nat.reduceAdd])
        (refine w_take (i := 5) rfl (y_assign rfl rfl) hH ?_); (try simp only [Act.put, List.setIfInBounds_toArray, List.set_cons_zero, List.set_cons_succ, Nat.zero_add, Nat.zero_mul, Nat.reduceAdd])
        refine wpAnyH_done (by kernel_rfl) ?_ _
        (go_wp2; ((try simp only [Exit.inBlock, Exit.then]); refine bodyPost_ret (w_resscs rfl hF) rfl ?_); exact ⟨_, _, rfl, cutA As 1 cs 2, cs - 1, A2, n2, c2, S2, by rw [← hrl]; rfl, rfl, by rw [← hrl]; exact hF.outA, hC2.out⟩)
set_option maxHeartbeats 8000000 in
theorem refDrain_all {ways : Int} {A : Option Addr} {n c : Nat} {S : List Cs} {As : Option Addr} {ns cs : Nat} {ss : List Pu} {C' : List (List Wy)} {ss' : List Pu} {b : Bool}
    (hso : SOk S) (hss : ∀ p ∈ ss, p.addr < 4294967296 ∧ p.data.size ≤ 140737488355328) (h : DrainR ways ss (cont S) ss' C' b)
    (w : World) (hr : RdS w w.heap.size A n c S) (hrs : Rd w w.heap.size 2 As ns cs (pus ss)) :
    Calls Try.prog 56 #[.slice As ns cs, .agg #[.int .i64 ways, .slice A n c]] w fun e w' => ∃ y z, e = .returned (.tuple #[y, z, .bool b]) ∧ DRes w (scD As ns cs ss A n c S) ways y z w' ss' C' := by
  have hF := St.start w _ (scD_ok hr hrs)
  unfold scD at hF
  have hsl := hrs.puslen
  have hc1 := hrs.le
  have hc2 := hrs.mx
  unfold maxLen at hc2
  by_cases h0 : ss = []
  · obtain ⟨rfl, rfl, rfl⟩ : ss' = ss ∧ C' = cont S ∧ b = false := by
      cases h with
      | none h hs he hb => exact ⟨hs, he, hb⟩
      | no s r h => rw [h] at h0; cases h0
      | yes s r h => rw [h] at h0; cases h0
    subst h0
    obtain rfl : ns = 0 := by rw [← hsl]; rfl
    go_enter Try.func56, Try.ntmps56
    go_wp2_with (first | ((first | (refine w_box rfl hF rfl ?_; clear hF; intro gN wN hF) | (refine w_alloc rfl hF ?_; clear hF; intro gN wN hF) | (refine w_ld1 rfl hF rfl ?_) | (refine w_ld rfl hF rfl ?_) | (refine w_st1 rfl hF rfl rfl ?_; clear hF; intro wN hF; (try simp only [List.set_cons_zero, List.set_cons_succ, List.eraseIdx_cons_zero, List.eraseIdx_cons_succ] at hF)) | (refine w_st rfl hF rfl rfl ?_; clear hF; intro wN hF; (try simp only [List.set_cons_zero, List.set_cons_succ, List.eraseIdx_cons_zero, List.eraseIdx_cons_succ] at hF)) | (refine w_fldB rfl rfl ?_) | (refine w_fld rfl hF rfl ?_) | (refine w_ix rfl hF rfl rfl ?_) | (refine w_lde1 rfl hF rfl ?_) | (refine w_lde rfl hF rfl ?_) | (refine w_bs1 rfl hF rfl ?_; clear hF; intro gN wN hF) | (refine w_bs0 rfl hF ?_; clear hF; intro gN wN hF) | (refine w_app rfl hF rfl rfl ?_; clear hF; intro vN wN hF; (try simp only [List.set_cons_zero, List.set_cons_succ, List.eraseIdx_cons_zero, List.eraseIdx_cons_succ] at hF)) | (refine w_appD rfl hF rfl rfl ?_; clear hF; intro vN wN hF; (try simp only [List.set_cons_zero, List.set_cons_succ, List.eraseIdx_cons_zero, List.eraseIdx_cons_succ] at hF)) | (refine w_ld1o rfl hF rfl ?_) | (refine w_st1o rfl hF rfl rfl ?_; clear hF; intro wN hF; (try simp only [List.set_cons_zero, List.set_cons_succ, List.eraseIdx_cons_zero, List.eraseIdx_cons_succ] at hF)) | (refine w_make0 rfl hF rfl rfl ?_; clear hF; intro gN wN hF) | (refine w_to rfl hF rfl rfl ?_; clear hF; intro hF) | (refine w_from rfl hF rfl rfl ?_; clear hF; intro hF)); (try simp only [Act.put, List.setIfInBounds_toArray, List.set_cons_zero, List.set_cons_succ, Nat.zero_add, Nat.zero_mul, Nat.reduceAdd])))
    obtain ⟨gR, gC, rfl, rfl⟩ := hF.names2
    refine wp_region_st (by kernel_rfl) hF [.blk gC 36 [.int .i64 ways, .slice A n c]] _ (by ((repeat (first | exact subn_nil | refine subn_cons (by ((repeat (first | exact List.Mem.head _ | refine List.Mem.tail _ ?_)) <;> exact List.Mem.head _)) ?_)) <;> exact subn_nil)) (fun _ h => h) ?_
    clear hF; intro hF hH
    (refine w_take (i := 0) rfl (y_move rfl rfl) hH ?_); (try simp only [Act.put, List.setIfInBounds_toArray, List.set_cons_zero, List.set_cons_succ, Nat.zero_add, Nat.zero_mul, Nat.reduceAdd])
    (first | refine w_take (i := 1) rfl (y_ld1 rfl rfl) hH ?_ | refine w_take (i := 1) rfl (y_ld rfl rfl) hH ?_ | refine w_take (i := 1) rfl (y_lde1 rfl rfl) hH ?_ | refine w_take (i := 1) rfl (y_lde rfl rfl) hH ?_); (try simp only [Act.put, List.setIfInBounds_toArray, List.set_cons_zero, List.set_cons_succ, Nat.zero_add, Nat.zero_mul, Nat.reduceAdd])
    (refine w_take (i := 2) rfl (y_assign rfl rfl) hH ?_); (try simp only [Act.put, List.setIfInBounds_toArray, List.set_cons_zero, List.set_cons_succ, Nat.zero_add, Nat.zero_mul, Nat.reduceAdd])
    refine wpAnyH_ready (rs := [3]) (by kernel_rfl) (by simp) (ready_cons rfl (fun K hK => ?_) AllReadyH.nil)
    go_wp2_with ((first | (refine w_st1 rfl hF rfl rfl ?_; clear hF; intro wN hF; (try simp only [List.set_cons_zero, List.set_cons_succ, List.eraseIdx_cons_zero, List.eraseIdx_cons_succ] at hF)) | (refine w_st rfl hF rfl rfl ?_; clear hF; intro wN hF; (try simp only [List.set_cons_zero, List.set_cons_succ, List.eraseIdx_cons_zero, List.eraseIdx_cons_succ] at hF)) | (refine w_st1o rfl hF rfl rfl ?_; clear hF; intro wN hF; (try simp only [List.set_cons_zero, List.set_cons_succ, List.eraseIdx_cons_zero, List.eraseIdx_cons_succ] at hF))); (try simp only [Act.put, List.setIfInBounds_toArray, List.set_cons_zero, List.set_cons_succ, Nat.zero_add, Nat.zero_mul, Nat.reduceAdd]))
    have hH := hH.nextA hF; refine hK.out _ _ hH ?_; clear hK; (try simp only [Act.put, List.setIfInBounds_toArray, List.set_cons_zero, List.set_cons_succ, Nat.zero_add, Nat.zero_mul, Nat.reduceAdd])
    (refine w_take (i := 4) rfl (y_assign rfl rfl) hH ?_); (try simp only [Act.put, List.setIfInBounds_toArray, List.set_cons_zero, List.set_cons_succ, Nat.zero_add, Nat.zero_mul, Nat.reduceAdd])
    refine wpAnyH_done (by kernel_rfl) ?_ _
    (go_wp2; ((try simp only [Exit.inBlock, Exit.then]); refine bodyPost_ret (w_resscs rfl hF) rfl ?_); exact ⟨_, _, rfl, As, cs, A, n, c, S, rfl, rfl, hF.outA, rfl⟩)
  · obtain ⟨s, r, CW, h1, hw, hb⟩ : ∃ s r CW, ss = s :: r ∧ WriteR ways (cont S) s.addr s.data CW b ∧ (b = false ∧ ss' = ss ∧ C' = cont S ∧ CW = cont S ∨ b = true ∧ ss' = r ∧ C' = CW) := by
      cases h with
      | none h => exact absurd h h0
      | no s r h hw hs he hb => exact ⟨s, r, _, h, by rw [hb]; exact hw, .inl ⟨hb, hs, he, rfl⟩⟩
      | yes s r h hw hs hb => exact ⟨s, r, _, h, by rw [hb]; exact hw, .inr ⟨hb, hs, rfl⟩⟩
    subst h1
    obtain ⟨hpa, hpd⟩ := hss s (List.mem_cons_self ..)
    obtain ⟨pa, pd⟩ := s
    have hn0 : 0 < ns := by rw [← hsl]; exact Nat.zero_lt_succ _
    have hn1 : 1 ≤ ns := hn0
    have hu0 : (pus (⟨pa, pd⟩ :: r))[0]? = some (.int .u32 (pa : Int)) := rfl
    have hu1 : (pus (⟨pa, pd⟩ :: r))[1]? = some (.string pd) := rfl
    have hW := Lib.hid hw
    have hne : ¬ ((ns : Int) = 0) := by omega
    have hrl : ns - 1 = r.length := by rw [← hsl]; rfl
    have hF := hF.fromPart (k := 1) (sz := 2) (A := As) (n := ns) (c := cs) (xs := pus (⟨pa, pd⟩ :: r)) (by ((repeat (first | exact List.Mem.head _ | refine List.Mem.tail _ ?_)) <;> exact List.Mem.head _)) hn1
    rw [show (pus (⟨pa, pd⟩ :: r)).drop (1 * 2) = pus r from rfl] at hF
    clear hss hw h h0
    replace hb := Lib.hid hb
    go_enter Try.func56, Try.ntmps56
    go_upto_region 2 with (first | ((refine w_eqF rfl rfl rfl ?_); (try simp only [Act.put, List.setIfInBounds_toArray, List.set_cons_zero, List.set_cons_succ, Nat.zero_add, Nat.zero_mul, Nat.reduceAdd])) | ((first | (refine w_box rfl hF rfl ?_; clear hF; intro gN wN hF) | (refine w_alloc rfl hF ?_; clear hF; intro gN wN hF) | (refine w_ld1 rfl hF rfl ?_) | (refine w_ld rfl hF rfl ?_) | (refine w_st1 rfl hF rfl rfl ?_; clear hF; intro wN hF; (try simp only [List.set_cons_zero, List.set_cons_succ, List.eraseIdx_cons_zero, List.eraseIdx_cons_succ] at hF)) | (refine w_st rfl hF rfl rfl ?_; clear hF; intro wN hF; (try simp only [List.set_cons_zero, List.set_cons_succ, List.eraseIdx_cons_zero, List.eraseIdx_cons_succ] at hF)) | (refine w_fldB rfl rfl ?_) | (refine w_fld rfl hF rfl ?_) | (refine w_ix rfl hF rfl rfl ?_) | (refine w_lde1 rfl hF rfl ?_) | (refine w_lde rfl hF rfl ?_) | (refine w_bs1 rfl hF rfl ?_; clear hF; intro gN wN hF) | (refine w_bs0 rfl hF ?_; clear hF; intro gN wN hF) | (refine w_app rfl hF rfl rfl ?_; clear hF; intro vN wN hF; (try simp only [List.set_cons_zero, List.set_cons_succ, List.eraseIdx_cons_zero, List.eraseIdx_cons_succ] at hF)) | (refine w_appD rfl hF rfl rfl ?_; clear hF; intro vN wN hF; (try simp only [List.set_cons_zero, List.set_cons_succ, List.eraseIdx_cons_zero, List.eraseIdx_cons_succ] at hF)) | (refine w_ld1o rfl hF rfl ?_) | (refine w_st1o rfl hF rfl rfl ?_; clear hF; intro wN hF; (try simp only [List.set_cons_zero, List.set_cons_succ, List.eraseIdx_cons_zero, List.eraseIdx_cons_succ] at hF)) | (refine w_make0 rfl hF rfl rfl ?_; clear hF; intro gN wN hF) | (refine w_to rfl hF rfl rfl ?_; clear hF; intro hF) | (refine w_from rfl hF rfl rfl ?_; clear hF; intro hF)); (try simp only [Act.put, List.setIfInBounds_toArray, List.set_cons_zero, List.set_cons_succ, Nat.zero_add, Nat.zero_mul, Nat.reduceAdd])))
    rename_i K hK
    obtain ⟨gR, gC, rfl, rfl⟩ := hF.names2
    go_cut [7, 8] (fun p s wx => ∃ gW A2 n2 c2 S2, p = .pointer (some ⟨gW, 0, none⟩) ∧ s = .bool b ∧ Hid (cont S2 = CW) ∧ St w [rowD 2 As ns cs (pus (⟨pa, pd⟩ :: r)), rowD 1 A n c (csv S), elemsD S] wx [.blk gW 36 [.int .i64 ways, .slice A2 n2 c2], .blk gR 36 [.int .i64 0, .slice none 0 0], .blk gC 36 [.int .i64 ways, .slice A n c]] [rowD 1 A2 n2 c2 (csv S2), elemsD S2, rowD 2 (cutA As 1 cs 2) (ns - 1) (cs - 1) (pus r), rowD 2 As ns cs (pus (⟨pa, pd⟩ :: r)), rowD 1 A n c (csv S), elemsD S])
    case first =>
      refine wp_region_st (by kernel_rfl) hF [.blk gC 36 [.int .i64 ways, .slice A n c]] _ (by ((repeat (first | exact subn_nil | refine subn_cons (by ((repeat (first | exact List.Mem.head _ | refine List.Mem.tail _ ?_)) <;> exact List.Mem.head _)) ?_)) <;> exact subn_nil)) (fun _ h => h) ?_
      clear hF; intro hF hH
      (first | refine w_take (i := 0) rfl (y_ld1 rfl rfl) hH ?_ | refine w_take (i := 0) rfl (y_ld rfl rfl) hH ?_ | refine w_take (i := 0) rfl (y_lde1 rfl rfl) hH ?_ | refine w_take (i := 0) rfl (y_lde rfl rfl) hH ?_); (try simp only [Act.put, List.setIfInBounds_toArray, List.set_cons_zero, List.set_cons_succ, Nat.zero_add, Nat.zero_mul, Nat.reduceAdd])
      (refine w_take (i := 1) rfl (y_move rfl rfl) hH ?_); (try simp only [Act.put, List.setIfInBounds_toArray, List.set_cons_zero, List.set_cons_succ, Nat.zero_add, Nat.zero_mul, Nat.reduceAdd])
      (first | refine w_take (i := 2) rfl (y_ix rfl rfl rfl) hH ?_ | refine w_take (i := 2) rfl (y_ixB rfl rfl rfl) hH ?_); (try simp only [Act.put, List.setIfInBounds_toArray, List.set_cons_zero, List.set_cons_succ, Nat.zero_add, Nat.zero_mul, Nat.reduceAdd])
      (first | refine w_take (i := 3) rfl (y_fldB rfl rfl) hH ?_ | refine w_take (i := 3) rfl (y_fld rfl rfl) hH ?_); (try simp only [Act.put, List.setIfInBounds_toArray, List.set_cons_zero, List.set_cons_succ, Nat.zero_add, Nat.zero_mul, Nat.reduceAdd])
      (first | refine w_take (i := 4) rfl (y_ld1 rfl rfl) hH ?_ | refine w_take (i := 4) rfl (y_ld rfl rfl) hH ?_ | refine w_take (i := 4) rfl (y_lde1 rfl rfl) hH ?_ | refine w_take (i := 4) rfl (y_lde rfl rfl) hH ?_); (try simp only [Act.put, List.setIfInBounds_toArray, List.set_cons_zero, List.set_cons_succ, Nat.zero_add, Nat.zero_mul, Nat.reduceAdd])
      (refine w_take (i := 5) rfl (y_move rfl rfl) hH ?_); (try simp only [Act.put, List.setIfInBounds_toArray, List.set_cons_zero, List.set_cons_succ, Nat.zero_add, Nat.zero_mul, Nat.reduceAdd])
      (first | refine w_take (i := 6) rfl (y_ix rfl rfl rfl) hH ?_ | refine w_take (i := 6) rfl (y_ixB rfl rfl rfl) hH ?_); (try simp only [Act.put, List.setIfInBounds_toArray, List.set_cons_zero, List.set_cons_succ, Nat.zero_add, Nat.zero_mul, Nat.reduceAdd])
      (first | refine w_take (i := 7) rfl (y_fldB rfl rfl) hH ?_ | refine w_take (i := 7) rfl (y_fld rfl rfl) hH ?_); (try simp only [Act.put, List.setIfInBounds_toArray, List.set_cons_zero, List.set_cons_succ, Nat.zero_add, Nat.zero_mul, Nat.reduceAdd])
      (first | refine w_take (i := 8) rfl (y_ld1 rfl rfl) hH ?_ | refine w_take (i := 8) rfl (y_ld rfl rfl) hH ?_ | refine w_take (i := 8) rfl (y_lde1 rfl rfl) hH ?_ | refine w_take (i := 8) rfl (y_lde rfl rfl) hH ?_); (try simp only [Act.put, List.setIfInBounds_toArray, List.set_cons_zero, List.set_cons_succ, Nat.zero_add, Nat.zero_mul, Nat.reduceAdd])
      refine wpAnyH_ready (rs := [9, 13]) (by kernel_rfl) (by simp) (ready_cons rfl (fun K hK => ?_) (ready_cons rfl (fun K hK => ?_) AllReadyH.nil))
      · go_wp2_with (first | (go_at_call 49; refine (refWrite_all hpa hpd hso hW.out _ hF.rds).mono ?_; rintro e wN ⟨_, rfl, A2, n2, c2, S2, rfl, hO, hC2⟩; replace hF := hF.callA hO; clear hO))
        have hH := hH.nextA hF; refine hK.out _ _ hH ?_; clear hK; (try simp only [Act.put, List.setIfInBounds_toArray, List.set_cons_zero, List.set_cons_succ, Nat.zero_add, Nat.zero_mul, Nat.reduceAdd])
        (refine w_take (i := 10) rfl (y_move rfl rfl) hH ?_); (try simp only [Act.put, List.setIfInBounds_toArray, List.set_cons_zero, List.set_cons_succ, Nat.zero_add, Nat.zero_mul, Nat.reduceAdd])
        (refine rg_take (i := 11) (v := ?_) rfl rfl (by kernel_rfl) (by kernel_rfl) (by kernel_rfl) (fun _ _ _ h => h) ?_ hH ?_; rotate_left; (first | exact yi_eq y_skip (by rfl) | (refine yi_pure (by rfl) ?_; intro w; go_simp; done) | (refine yi_pure (by rfl) ?_; intro w; go_simp; with_reducible rfl) | (refine yi_pure (by rfl) ?_; intro w; simp only [Wy.cells]; go_simp; with_reducible rfl)); (try simp only [Act.put, List.setIfInBounds_toArray, List.set_cons_zero, List.set_cons_succ, Nat.zero_add, Nat.zero_mul, Nat.reduceAdd]))
        (refine rg_take (i := 12) (v := ?_) rfl rfl (by kernel_rfl) (by kernel_rfl) (by kernel_rfl) (fun _ _ _ h => h) ?_ hH ?_; rotate_left; (first | exact yi_eq y_skip (by rfl) | (refine yi_pure (by rfl) ?_; intro w; go_simp; done) | (refine yi_pure (by rfl) ?_; intro w; go_simp; with_reducible rfl) | (refine yi_pure (by rfl) ?_; intro w; simp only [Wy.cells]; go_simp; with_reducible rfl)); (try simp only [Act.put, List.setIfInBounds_toArray, List.set_cons_zero, List.set_cons_succ, Nat.zero_add, Nat.zero_mul, Nat.reduceAdd]))
        refine wpAnyH_ready (rs := [13]) (by kernel_rfl) (by simp) (ready_cons rfl (fun K hK => ?_) AllReadyH.nil)
        go_wp2_with ((refine w_alloc rfl hF ?_; clear hF; intro gN wN hF); (try simp only [Act.put, List.setIfInBounds_toArray, List.set_cons_zero, List.set_cons_succ, Nat.zero_add, Nat.zero_mul, Nat.reduceAdd]))
        have hH := hH.nextA hF; refine hK.out _ _ hH ?_; clear hK; (try simp only [Act.put, List.setIfInBounds_toArray, List.set_cons_zero, List.set_cons_succ, Nat.zero_add, Nat.zero_mul, Nat.reduceAdd])
        refine wpAnyH_ready (rs := [14]) (by kernel_rfl) (by simp) (ready_cons rfl (fun K hK => ?_) AllReadyH.nil)
        go_wp2_with ((first | (refine w_st1 rfl hF rfl rfl ?_; clear hF; intro wN hF; (try simp only [List.set_cons_zero, List.set_cons_succ, List.eraseIdx_cons_zero, List.eraseIdx_cons_succ] at hF)) | (refine w_st rfl hF rfl rfl ?_; clear hF; intro wN hF; (try simp only [List.set_cons_zero, List.set_cons_succ, List.eraseIdx_cons_zero, List.eraseIdx_cons_succ] at hF)) | (refine w_st1o rfl hF rfl rfl ?_; clear hF; intro wN hF; (try simp only [List.set_cons_zero, List.set_cons_succ, List.eraseIdx_cons_zero, List.eraseIdx_cons_succ] at hF))); (try simp only [Act.put, List.setIfInBounds_toArray, List.set_cons_zero, List.set_cons_succ, Nat.zero_add, Nat.zero_mul, Nat.reduceAdd]))
        have hH := hH.nextA hF; refine hK.out _ _ hH ?_; clear hK; (try simp only [Act.put, List.setIfInBounds_toArray, List.set_cons_zero, List.set_cons_succ, Nat.zero_add, Nat.zero_mul, Nat.reduceAdd])
        (refine w_take (i := 15) rfl (y_assign rfl rfl) hH ?_); (try simp only [Act.put, List.setIfInBounds_toArray, List.set_cons_zero, List.set_cons_succ, Nat.zero_add, Nat.zero_mul, Nat.reduceAdd])
        refine wpAnyH_done (by kernel_rfl) ?_ _
        (go_wp2; go_meet; exact ⟨_, A2, n2, c2, S2, rfl, rfl, Lib.hid hC2, hF⟩)
      · go_wp2_with ((refine w_alloc rfl hF ?_; clear hF; intro gN wN hF); (try simp only [Act.put, List.setIfInBounds_toArray, List.set_cons_zero, List.set_cons_succ, Nat.zero_add, Nat.zero_mul, Nat.reduceAdd]))
        have hH := hH.nextA hF; refine hK.out _ _ hH ?_; clear hK; (try simp only [Act.put, List.setIfInBounds_toArray, List.set_cons_zero, List.set_cons_succ, Nat.zero_add, Nat.zero_mul, Nat.reduceAdd])
        refine wpAnyH_ready (rs := [9]) (by kernel_rfl) (by simp) (ready_cons rfl (fun K hK => ?_) AllReadyH.nil)
        go_wp2_with (first | (go_at_call 49; refine (refWrite_all hpa hpd hso hW.out _ hF.rds).mono ?_; rintro e wN ⟨_, rfl, A2, n2, c2, S2, rfl, hO, hC2⟩; replace hF := hF.callA hO; clear hO))
        have hH := hH.nextA hF; refine hK.out _ _ hH ?_; clear hK; (try simp only [Act.put, List.setIfInBounds_toArray, List.set_cons_zero, List.set_cons_succ, Nat.zero_add, Nat.zero_mul, Nat.reduceAdd])
        (refine w_take (i := 10) rfl (y_move rfl rfl) hH ?_); (try simp only [Act.put, List.setIfInBounds_toArray, List.set_cons_zero, List.set_cons_succ, Nat.zero_add, Nat.zero_mul, Nat.reduceAdd])
        (refine rg_take (i := 11) (v := ?_) rfl rfl (by kernel_rfl) (by kernel_rfl) (by kernel_rfl) (fun _ _ _ h => h) ?_ hH ?_; rotate_left; (first | exact yi_eq y_skip (by rfl) | (refine yi_pure (by rfl) ?_; intro w; go_simp; done) | (refine yi_pure (by rfl) ?_; intro w; go_simp; with_reducible rfl) | (refine yi_pure (by rfl) ?_; intro w; simp only [Wy.cells]; go_simp; with_reducible rfl)); (try simp only [Act.put, List.setIfInBounds_toArray, List.set_cons_zero, List.set_cons_succ, Nat.zero_add, Nat.zero_mul, Nat.reduceAdd]))
        (refine rg_take (i := 12) (v := ?_) rfl rfl (by kernel_rfl) (by kernel_rfl) (by kernel_rfl) (fun _ _ _ h => h) ?_ hH ?_; rotate_left; (first | exact yi_eq y_skip (by rfl) | (refine yi_pure (by rfl) ?_; intro w; go_simp; done) | (refine yi_pure (by rfl) ?_; intro w; go_simp; with_reducible rfl) | (refine yi_pure (by rfl) ?_; intro w; simp only [Wy.cells]; go_simp; with_reducible rfl)); (try simp only [Act.put, List.setIfInBounds_toArray, List.set_cons_zero, List.set_cons_succ, Nat.zero_add, Nat.zero_mul, Nat.reduceAdd]))
        refine wpAnyH_ready (rs := [14]) (by kernel_rfl) (by simp) (ready_cons rfl (fun K hK => ?_) AllReadyH.nil)
        go_wp2_with ((first | (refine w_st1 rfl hF rfl rfl ?_; clear hF; intro wN hF; (try simp only [List.set_cons_zero, List.set_cons_succ, List.eraseIdx_cons_zero, List.eraseIdx_cons_succ] at hF)) | (refine w_st rfl hF rfl rfl ?_; clear hF; intro wN hF; (try simp only [List.set_cons_zero, List.set_cons_succ, List.eraseIdx_cons_zero, List.eraseIdx_cons_succ] at hF)) | (refine w_st1o rfl hF rfl rfl ?_; clear hF; intro wN hF; (try simp only [List.set_cons_zero, List.set_cons_succ, List.eraseIdx_cons_zero, List.eraseIdx_cons_succ] at hF))); (try simp only [Act.put, List.setIfInBounds_toArray, List.set_cons_zero, List.set_cons_succ, Nat.zero_add, Nat.zero_mul, Nat.reduceAdd]))
        have hH := hH.nextA hF; refine hK.out _ _ hH ?_; clear hK; (try simp only [Act.put, List.setIfInBounds_toArray, List.set_cons_zero, List.set_cons_succ, Nat.zero_add, Nat.zero_mul, Nat.reduceAdd])
        (refine w_take (i := 15) rfl (y_assign rfl rfl) hH ?_); (try simp only [Act.put, List.setIfInBounds_toArray, List.set_cons_zero, List.set_cons_succ, Nat.zero_add, Nat.zero_mul, Nat.reduceAdd])
        refine wpAnyH_done (by kernel_rfl) ?_ _
        (go_wp2; go_meet; exact ⟨_, A2, n2, c2, S2, rfl, rfl, Lib.hid hC2, hF⟩)
    case rest =>
      obtain ⟨gW, A2, n2, c2, S2, rfl, rfl, hC2, hF⟩ := hcut
      refine hK _ _ ?_
      rcases hb.out with ⟨rfl, rfl, rfl, h2⟩ | ⟨rfl, rfl, rfl⟩
      · go_wp2_with (first | ((first | (refine w_box rfl hF rfl ?_; clear hF; intro gN wN hF) | (refine w_alloc rfl hF ?_; clear hF; intro gN wN hF) | (refine w_ld1 rfl hF rfl ?_) | (refine w_ld rfl hF rfl ?_) | (refine w_st1 rfl hF rfl rfl ?_; clear hF; intro wN hF; (try simp only [List.set_cons_zero, List.set_cons_succ, List.eraseIdx_cons_zero, List.eraseIdx_cons_succ] at hF)) | (refine w_st rfl hF rfl rfl ?_; clear hF; intro wN hF; (try simp only [List.set_cons_zero, List.set_cons_succ, List.eraseIdx_cons_zero, List.eraseIdx_cons_succ] at hF)) | (refine w_fldB rfl rfl ?_) | (refine w_fld rfl hF rfl ?_) | (refine w_ix rfl hF rfl rfl ?_) | (refine w_lde1 rfl hF rfl ?_) | (refine w_lde rfl hF rfl ?_) | (refine w_bs1 rfl hF rfl ?_; clear hF; intro gN wN hF) | (refine w_bs0 rfl hF ?_; clear hF; intro gN wN hF) | (refine w_app rfl hF rfl rfl ?_; clear hF; intro vN wN hF; (try simp only [List.set_cons_zero, List.set_cons_succ, List.eraseIdx_cons_zero, List.eraseIdx_cons_succ] at hF)) | (refine w_appD rfl hF rfl rfl ?_; clear hF; intro vN wN hF; (try simp only [List.set_cons_zero, List.set_cons_succ, List.eraseIdx_cons_zero, List.eraseIdx_cons_succ] at hF)) | (refine w_ld1o rfl hF rfl ?_) | (refine w_st1o rfl hF rfl rfl ?_; clear hF; intro wN hF; (try simp only [List.set_cons_zero, List.set_cons_succ, List.eraseIdx_cons_zero, List.eraseIdx_cons_succ] at hF)) | (refine w_make0 rfl hF rfl rfl ?_; clear hF; intro gN wN hF) | (refine w_to rfl hF rfl rfl ?_; clear hF; intro hF) | (refine w_from rfl hF rfl rfl ?_; clear hF; intro hF)); (try simp only [Act.put, List.setIfInBounds_toArray, List.set_cons_zero, List.set_cons_succ, Nat.zero_add, Nat.zero_mul, Nat.reduceAdd])))
        refine wp_region_st (by kernel_rfl) hF [.blk gC 36 [.int .i64 ways, .slice A n c]] _ (by ((repeat (first | exact subn_nil | refine subn_cons (by ((repeat (first | exact List.Mem.head _ | refine List.Mem.tail _ ?_)) <;> exact List.Mem.head _)) ?_)) <;> exact subn_nil)) (fun _ h => h) ?_
        clear hF; intro hF hH
        (refine w_take (i := 0) rfl (y_move rfl rfl) hH ?_); (try simp only [Act.put, List.setIfInBounds_toArray, List.set_cons_zero, List.set_cons_succ, Nat.zero_add, Nat.zero_mul, Nat.reduceAdd])
        (first | refine w_take (i := 1) rfl (y_ld1 rfl rfl) hH ?_ | refine w_take (i := 1) rfl (y_ld rfl rfl) hH ?_ | refine w_take (i := 1) rfl (y_lde1 rfl rfl) hH ?_ | refine w_take (i := 1) rfl (y_lde rfl rfl) hH ?_); (try simp only [Act.put, List.setIfInBounds_toArray, List.set_cons_zero, List.set_cons_succ, Nat.zero_add, Nat.zero_mul, Nat.reduceAdd])
        (refine w_take (i := 2) rfl (y_assign rfl rfl) hH ?_); (try simp only [Act.put, List.setIfInBounds_toArray, List.set_cons_zero, List.set_cons_succ, Nat.zero_add, Nat.zero_mul, Nat.reduceAdd])
        refine wpAnyH_ready (rs := [3]) (by kernel_rfl) (by simp) (ready_cons rfl (fun K hK => ?_) AllReadyH.nil)
        go_wp2_with ((first | (refine w_st1 rfl hF rfl rfl ?_; clear hF; intro wN hF; (try simp only [List.set_cons_zero, List.set_cons_succ, List.eraseIdx_cons_zero, List.eraseIdx_cons_succ] at hF)) | (refine w_st rfl hF rfl rfl ?_; clear hF; intro wN hF; (try simp only [List.set_cons_zero, List.set_cons_succ, List.eraseIdx_cons_zero, List.eraseIdx_cons_succ] at hF)) | (refine w_st1o rfl hF rfl rfl ?_; clear hF; intro wN hF; (try simp only [List.set_cons_zero, List.set_cons_succ, List.eraseIdx_cons_zero, List.eraseIdx_cons_succ] at hF))); (try simp only [Act.put, List.setIfInBounds_toArray, List.set_cons_zero, List.set_cons_succ, Nat.zero_add, Nat.zero_mul, Nat.reduceAdd]))
        have hH := hH.nextA hF; refine hK.out _ _ hH ?_; clear hK; (try simp only [Act.put, List.setIfInBounds_toArray, List.set_cons_zero, List.set_cons_succ, Nat.zero_add, Nat.zero_mul, Nat.reduceAdd])
        (refine w_take (i := 4) rfl (y_assign rfl rfl) hH ?_); (try simp only [Act.put, List.setIfInBounds_toArray, List.set_cons_zero, List.set_cons_succ, Nat.zero_add, Nat.zero_mul, Nat.reduceAdd])
        refine wpAnyH_done (by kernel_rfl) ?_ _
        (go_wp2; ((try simp only [Exit.inBlock, Exit.then]); refine bodyPost_ret (w_resscs rfl hF) rfl ?_); exact ⟨_, _, rfl, As, cs, A, n, c, S, by rw [← hsl]; rfl, rfl, by rw [← hsl] at hF ⊢; exact hF.outA, rfl⟩)
      · go_wp2_with (first | ((first | (refine w_box rfl hF rfl ?_; clear hF; intro gN wN hF) | (refine w_alloc rfl hF ?_; clear hF; intro gN wN hF) | (refine w_ld1 rfl hF rfl ?_) | (refine w_ld rfl hF rfl ?_) | (refine w_st1 rfl hF rfl rfl ?_; clear hF; intro wN hF; (try simp only [List.set_cons_zero, List.set_cons_succ, List.eraseIdx_cons_zero, List.eraseIdx_cons_succ] at hF)) | (refine w_st rfl hF rfl rfl ?_; clear hF; intro wN hF; (try simp only [List.set_cons_zero, List.set_cons_succ, List.eraseIdx_cons_zero, List.eraseIdx_cons_succ] at hF)) | (refine w_fldB rfl rfl ?_) | (refine w_fld rfl hF rfl ?_) | (refine w_ix rfl hF rfl rfl ?_) | (refine w_lde1 rfl hF rfl ?_) | (refine w_lde rfl hF rfl ?_) | (refine w_bs1 rfl hF rfl ?_; clear hF; intro gN wN hF) | (refine w_bs0 rfl hF ?_; clear hF; intro gN wN hF) | (refine w_app rfl hF rfl rfl ?_; clear hF; intro vN wN hF; (try simp only [List.set_cons_zero, List.set_cons_succ, List.eraseIdx_cons_zero, List.eraseIdx_cons_succ] at hF)) | (refine w_appD rfl hF rfl rfl ?_; clear hF; intro vN wN hF; (try simp only [List.set_cons_zero, List.set_cons_succ, List.eraseIdx_cons_zero, List.eraseIdx_cons_succ] at hF)) | (refine w_ld1o rfl hF rfl ?_) | (refine w_st1o rfl hF rfl rfl ?_; clear hF; intro wN hF; (try simp only [List.set_cons_zero, List.set_cons_succ, List.eraseIdx_cons_zero, List.eraseIdx_cons_succ] at hF)) | (refine w_make0 rfl hF rfl rfl ?_; clear hF; intro gN wN hF) | (refine w_to rfl hF rfl rfl ?_; clear hF; intro hF) | (refine w_from rfl hF rfl rfl ?_; clear hF; intro hF)); (try simp only [Act.put, List.setIfInBounds_toArray, List.set_cons_zero, List.set_cons_succ, Nat.zero_add, Nat.zero_mul, Nat.reduceAdd])))
        refine wp_region_st (by kernel_rfl) hF [.blk gW 36 [.int .i64 ways, .slice A2 n2 c2]] _ (by ((repeat (first | exact subn_nil | refine subn_cons (by ((repeat (first | exact List.Mem.head _ | refine List.Mem.tail _ ?_)) <;> exact List.Mem.head _)) ?_)) <;> exact subn_nil)) (fun _ h => h) ?_
        clear hF; intro hF hH
        (refine w_take (i := 0) rfl (y_move rfl rfl) hH ?_); (try simp only [Act.put, List.setIfInBounds_toArray, List.set_cons_zero, List.set_cons_succ, Nat.zero_add, Nat.zero_mul, Nat.reduceAdd])
        (first | refine w_take (i := 1) rfl (y_fromB rfl rfl rfl) hH ?_ | refine w_take (i := 1) rfl (y_to rfl rfl rfl) hH ?_ | refine w_take (i := 1) rfl (y_from rfl rfl rfl) hH ?_ | refine w_take (i := 1) rfl (y_strto rfl rfl rfl) hH ?_ | refine w_take (i := 1) rfl (y_strfrom rfl rfl rfl) hH ?_); (try simp only [Act.put, List.setIfInBounds_toArray, List.set_cons_zero, List.set_cons_succ, Nat.zero_add, Nat.zero_mul, Nat.reduceAdd])
        (first | refine w_take (i := 2) rfl (y_ld1 rfl rfl) hH ?_ | refine w_take (i := 2) rfl (y_ld rfl rfl) hH ?_ | refine w_take (i := 2) rfl (y_lde1 rfl rfl) hH ?_ | refine w_take (i := 2) rfl (y_lde rfl rfl) hH ?_); (try simp only [Act.put, List.setIfInBounds_toArray, List.set_cons_zero, List.set_cons_succ, Nat.zero_add, Nat.zero_mul, Nat.reduceAdd])
        (refine w_take (i := 3) rfl (y_assign rfl rfl) hH ?_); (try simp only [Act.put, List.setIfInBounds_toArray, List.set_cons_zero, List.set_cons_succ, Nat.zero_add, Nat.zero_mul, Nat.reduceAdd])
        refine wpAnyH_ready (rs := [4]) (by kernel_rfl) (by simp) (ready_cons rfl (fun K hK => ?_) AllReadyH.nil)
        go_wp2_with ((first | (refine w_st1 rfl hF rfl rfl ?_; clear hF; intro wN hF; (try simp only [List.set_cons_zero, List.set_cons_succ, List.eraseIdx_cons_zero, List.eraseIdx_cons_succ] at hF)) | (refine w_st rfl hF rfl rfl ?_; clear hF; intro wN hF; (try simp only [List.set_cons_zero, List.set_cons_succ, List.eraseIdx_cons_zero, List.eraseIdx_cons_succ] at hF)) | (refine w_st1o rfl hF rfl rfl ?_; clear hF; intro wN hF; (try simp only [List.set_cons_zero, List.set_cons_succ, List.eraseIdx_cons_zero, List.eraseIdx_cons_succ] at hF))); (try simp only [Act.put, List.setIfInBounds_toArray, List.set_cons_zero, List.set_cons_succ, Nat.zero_add, Nat.zero_mul, Nat.reduceAdd]))
        have hH := hH.nextA hF; refine hK.out _ _ hH ?_; clear hK; (try simp only [Act.put, List.setIfInBounds_toArray, List.set_cons_zero, List.set_cons_succ, Nat.zero_add, Nat.zero_mul, Nat.reduceAdd])
        (refine w_take (i := 5) rfl (y_assign rfl rfl) hH ?_); (try simp only [Act.put, List.setIfInBounds_toArray, List.set_cons_zero, List.set_cons_succ, Nat.zero_add, Nat.zero_mul, Nat.reduceAdd])
        refine wpAnyH_done (by kernel_rfl) ?_ _
        (go_wp2; ((try simp only [Exit.inBlock, Exit.then]); refine bodyPost_ret (w_resscs rfl hF) rfl ?_); exact ⟨_, _, rfl, cutA As 1 cs 2, cs - 1, A2, n2, c2, S2, by rw [← hrl]; rfl, rfl, by rw [← hrl]; exact hF.outA, hC2.out⟩)
end Go.Proofs.Ytcahadkkjfijfaa

/- What Bring and Drain make of requests and stores: in plain Lean. -/
set_option linter.unusedVariables false
set_option linter.unusedSimpArgs false
namespace Go.Proofs.Ytcahadkkjfijfaa
open Go.RowKit

section
variable {ways : Int} {C C' : List (List Wy)} {q q' : List Rq} {m : List UInt8} {ss ss' : List Pu} {x : Nat} {left : Int} {b : Bool}
theorem BringR.same (h : BringR ways C q m x left C' q' false) : q' = q := by
  cases h with
  | no h he hq hb => exact hq
  | hit k i h ht hq hb => exact hq
  | put k i hR h D hD gone went hp hb hq => rw [if_neg (by decide)] at hq; exact hq
theorem BringR.more (h : BringR ways C q m x left C' q' true) : ∃ gone : Wy, InC C gone ∧ q' = q ++ [⟨4, gone.line, max left 1, gone.data⟩] := by
  cases h with
  | no h he hq hb => cases hb
  | hit k i h ht hq hb => cases hb
  | put k i hR h D hD gone went hp hb hq =>
    rw [if_pos rfl] at hq
    refine ⟨gone, ?_, hq⟩
    cases hp with
    | no h he hg hb' => rw [hb'] at hb; cases hb
    | hit k' i' h' ws v hw hv he hg hb' => rw [hb'] at hb; cases hb
    | room k' i' _ h' ws hw hl he hg hb' => rw [hb'] at hb; cases hb
    | full k' i' _ h' ws hw hl l hl1 hgv he hb' => exact ⟨k', ws, l, hw, hgv⟩
theorem BringR.qlen (h : BringR ways C q m x left C' q' b) : q'.length ≤ q.length + 1 := by
  cases b
  · rw [h.same]; omega
  · obtain ⟨g, _, e⟩ := h.more
    rw [e]; simp
theorem BringR.qok (h : BringR ways C q m x left C' q' b) (ho : COk C) (hq : ∀ r ∈ q, r.line < 4294967296 ∧ r.data.size ≤ maxLen) : ∀ r ∈ q', r.line < 4294967296 ∧ r.data.size ≤ maxLen := by
  cases b
  · rw [h.same]; exact hq
  · obtain ⟨g, ⟨k, ws, i, hw, hv⟩, e⟩ := h.more
    rw [e]
    intro r hr
    rcases List.mem_append.1 hr with hr | hr
    · exact hq r hr
    · obtain rfl := List.mem_singleton.1 hr
      exact ho.at_ hw g (List.mem_of_getElem? hv)
theorem DrainR.mem (h : DrainR ways ss C ss' C' b) : (∀ p ∈ ss', p ∈ ss) ∧ ss'.length ≤ ss.length := by
  cases h with
  | none h hs he hb => rw [hs]; exact ⟨fun _ h => h, Nat.le_refl _⟩
  | no s r h hw hs he hb => rw [hs]; exact ⟨fun _ h => h, Nat.le_refl _⟩
  | yes s r h hw hs hb => rw [hs, h]; exact ⟨fun _ h => List.mem_cons_of_mem _ h, by simp⟩
end
end Go.Proofs.Ytcahadkkjfijfaa

/- The contracts once more, in the form in which the statements' walks meet them: what is read first, the rest found in the context. -/
set_option linter.unusedVariables false
set_option linter.unusedSimpArgs false
namespace Go.Proofs.Ytcahadkkjfijfaa
open Go.RowKit

section
variable {ways : Int} {A : Option Addr} {n c : Nat} {S : List Cs} {Aq : Option Addr} {nq cq : Nat} {q : List Rq} {As : Option Addr} {ns cs : Nat} {ss : List Pu} {C : List (List Wy)} {w : World}
theorem right_len (hR : RightP ways C) : C.length ≤ 1000 ∧ ∀ ws ∈ C, ws.length ≤ 1000 := ⟨by have := hR.hn; omega, fun ws hw => by
  obtain ⟨k, hk⟩ := List.mem_iff_getElem?.1 hw
  have := ways_le hR (hR.hs k ws hk).1
  omega⟩
theorem g_all {m al : ByteArray} (hr : RdS w w.heap.size A n c S) (hrq : Rd w w.heap.size 4 Aq nq cq (rqs q)) (hrs : Rd w w.heap.size 2 As ns cs (pus ss)) (hC : cont S = C) (hR : RightP ways C) (hok : COk C) (hal : ovS m (writesL q ++ linesL C ++ ss) = al)
    (hm : m.size ≤ 1000000) (hqn : nq ≤ 1000000) (hq : ∀ r ∈ q, r.line < 4294967296 ∧ r.data.size ≤ maxLen) (hsn : ns ≤ 1000000) (hss : ∀ p ∈ ss, p.addr < 4294967296 ∧ p.data.size ≤ maxLen) :
    Calls Try.prog 23 #[.slice As ns cs, .agg #[.int .i64 ways, .slice A n c], .slice Aq nq cq, .string m] w fun e w' => e = .returned (.string al) ∧ Bel w w' := by
  subst hC hal
  obtain ⟨h1, h2⟩ := right_len hR
  exact refAll_any m ways A n c S Aq nq cq q As ns cs ss w hr hrq hrs hm hok.sok (by rw [cont_len, hr.slen] at h1; exact h1) h2 hqn hq hsn hss
theorem g_right (hr : RdS w w.heap.size A n c S) (hC : cont S = C) (hR : RightP ways C) (hok : COk C) :
    Calls Try.prog 22 #[.agg #[.int .i64 ways, .slice A n c]] w fun e w' => e = .returned (.bool true) ∧ Bel w w' := by
  subst hC
  exact refRight_all hok.sok (yesR hR) w hr
theorem g_like {A2 : Option Addr} {n2 c2 : Nat} {S2 : List Cs} (hr : RdS w w.heap.size A n c S) (hr2 : RdS w w.heap.size A2 n2 c2 S2) (hC : cont S = C) (hC2 : cont S2 = C) :
    Calls Try.prog 26 #[.agg #[.int .i64 ways, .slice A n c], .agg #[.int .i64 ways, .slice A2 n2 c2]] w fun e w' => e = .returned (.bool true) ∧ Bel w w' :=
  like_yes ways A A2 n c n2 c2 S S2 w hr hr2 (hC.trans hC2.symm)
theorem g_bring {m : ByteArray} {x : Nat} {left : Int} {C' : List (List Wy)} {q' : List Rq} {b : Bool} (hr : RdS w w.heap.size A n c S) (hrq : Rd w w.heap.size 4 Aq nq cq (rqs q)) (hC : cont S = C) (h : BringR ways C q (bl m) x left C' q' b) (hok : COk C)
    (hx : x < 4294967296) (hm : m.size ≤ maxLen) (hqn : nq ≤ 1000000) (hq : ∀ r ∈ q, r.line < 4294967296) (hl : -9223372036854775808 ≤ left ∧ left ≤ 9223372036854775807) :
    Calls Try.prog 53 #[.agg #[.int .i64 ways, .slice A n c], .slice Aq nq cq, .string m, .int .u32 (x : Int), .int .i64 left] w fun e w' => ∃ y z, e = .returned (.tuple #[y, z, .bool b]) ∧ BRes w (cqD A n c S Aq nq cq q) ways y z w' C' q' := by
  subst hC
  exact Bring_all hx hok.sok hm hqn hq hl h w hr hrq
theorem g_drain {C' : List (List Wy)} {ss' : List Pu} {b : Bool} (hr : RdS w w.heap.size A n c S) (hrs : Rd w w.heap.size 2 As ns cs (pus ss)) (hC : cont S = C) (h : DrainR ways ss C ss' C' b) (hok : COk C) (hss : ∀ p ∈ ss, p.addr < 4294967296 ∧ p.data.size ≤ maxLen) :
    Calls Try.prog 24 #[.slice As ns cs, .agg #[.int .i64 ways, .slice A n c]] w fun e w' => ∃ y z, e = .returned (.tuple #[y, z, .bool b]) ∧ DRes w (scD As ns cs ss A n c S) ways y z w' ss' C' := by
  subst hC
  exact Drain_all hok.sok hss h w hr hrs
theorem g_find {x k i : Nat} {b : Bool} (hr : RdS w w.heap.size A n c S) (hC : cont S = C) (h : FindR ways C x k i b) (hok : COk C) (hx : x < 4294967296) :
    Calls Try.prog 34 #[.agg #[.int .i64 ways, .slice A n c], .int .u32 (x : Int)] w fun e w' => e = .returned (.tuple #[.int .i64 (k : Int), .int .i64 (i : Int), .bool b]) ∧ Bel w w' := by
  subst hC
  exact refFind_all hx hok.sok h w hr
end
end Go.Proofs.Ytcahadkkjfijfaa
