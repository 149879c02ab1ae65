/- Joined: VB, CWithR, CFirstR, CTouchR, CFront, CPutB. -/
import Derived.Test.YtcahadkkjfijfaaZ5
import Derived.Laws.StructEq
import Derived.Test.YtcahadkkjfijfaaZ4
import Derived.Test.YtcahadkkjfijfaaZ2
/- A request put behind others, of the program and of the document; rows alike. -/
set_option linter.unusedVariables false
set_option linter.unusedSimpArgs false
set_option maxRecDepth 100000
namespace Go.Proofs.Ytcahadkkjfijfaa
open Go.RowKit Go.Sort

set_option maxHeartbeats 8000000 in
theorem vPush_any (A : Option Addr) (n c : Nat) (q : List Rq) (kind : Int) (line : Nat) (left : Int) (data : ByteArray) (w : World) (hr : Rd w w.heap.size 4 A n c (rqs q)) (hn : n ≤ 1000000) (hl : -9223372036854775808 ≤ left ∧ left ≤ 9223372036854775807) :
    Calls Try.prog 45 #[.slice A n c, .int .i64 kind, .int .u32 (line : Int), .int .i64 left, .string data] w fun e w' => ∃ A2 c2, e = .returned (.slice A2 (n + 1) c2) ∧ Out w [rowD 4 A n c (rqs q)] w' [rowD 4 A2 (n + 1) c2 (rqs (q ++ [⟨kind, line, max left 1, data⟩]))] := by
  have hF := St.start w [rowD 4 A n c (rqs q)] (fun d hd => by obtain rfl := List.mem_singleton.1 hd; exact hr)
  obtain ⟨M, hM, hM2⟩ : ∃ M : Int, M = (if (1 : Int) > left then 1 else left) ∧ M = max left 1 := ⟨max left 1, by split <;> omega, rfl⟩
  have happ : Hid (rqs q ++ [.int .i64 kind, .int .u32 (line : Int), .int .i64 M, .string data] = rqs (q ++ [⟨kind, line, max left 1, data⟩])) := Lib.hid (by rw [rqs_append, ← hM2]; rfl)
  clear hM2
  replace hM := Lib.hid hM
  go_enter Try.func45, Try.ntmps45
  go_wp2_with (first | (refine w_max (M : Int) rfl rfl rfl ?_ (hN := hM.out)) | (refine w_make0 (n := n + 1) rfl hF rfl rfl ?_; clear hF; intro gN wN hF) | ((first | (refine w_box rfl hF rfl ?_; clear hF; intro gN wN hF) | (refine w_alloc rfl hF ?_; clear hF; intro gN wN hF) | (refine w_ld1 rfl hF rfl ?_) | (refine w_ld rfl hF rfl ?_) | (refine w_st1 rfl hF rfl rfl ?_; clear hF; intro wN hF; (try simp only [List.set_cons_zero, List.set_cons_succ, List.eraseIdx_cons_zero, List.eraseIdx_cons_succ] at hF)) | (refine w_st rfl hF rfl rfl ?_; clear hF; intro wN hF; (try simp only [List.set_cons_zero, List.set_cons_succ, List.eraseIdx_cons_zero, List.eraseIdx_cons_succ] at hF)) | (refine w_fldB rfl rfl ?_) | (refine w_fld rfl hF rfl ?_) | (refine w_ix rfl hF rfl rfl ?_) | (refine w_lde1 rfl hF rfl ?_) | (refine w_lde rfl hF rfl ?_) | (refine w_bs1 rfl hF rfl ?_; clear hF; intro gN wN hF) | (refine w_bs0 rfl hF ?_; clear hF; intro gN wN hF) | (refine w_app rfl hF rfl rfl ?_; clear hF; intro vN wN hF; (try simp only [List.set_cons_zero, List.set_cons_succ, List.eraseIdx_cons_zero, List.eraseIdx_cons_succ] at hF)) | (refine w_appD rfl hF rfl rfl ?_; clear hF; intro vN wN hF; (try simp only [List.set_cons_zero, List.set_cons_succ, List.eraseIdx_cons_zero, List.eraseIdx_cons_succ] at hF)) | (refine w_ld1o rfl hF rfl ?_) | (refine w_st1o rfl hF rfl rfl ?_; clear hF; intro wN hF; (try simp only [List.set_cons_zero, List.set_cons_succ, List.eraseIdx_cons_zero, List.eraseIdx_cons_succ] at hF)) | (refine w_make0 rfl hF rfl rfl ?_; clear hF; intro gN wN hF) | (refine w_to rfl hF rfl rfl ?_; clear hF; intro hF) | (refine w_from rfl hF rfl rfl ?_; clear hF; intro hF)); (try simp only [Act.put, List.setIfInBounds_toArray, List.set_cons_zero, List.set_cons_succ, Nat.zero_add, Nat.zero_mul, Nat.reduceAdd])))
  rw [Nat.zero_add, List.nil_append, happ.out] at hF
  obtain ⟨A2, c2, rfl, hF⟩ := hF.freeze 0 at0
  (try simp only [List.set_cons_zero, List.set_cons_succ, List.eraseIdx_cons_zero, List.eraseIdx_cons_succ] at hF)
  go_ret
  exact ⟨A2, c2, rfl, hF.outA⟩
set_option maxHeartbeats 8000000 in
theorem refPush_any (A : Option Addr) (n c : Nat) (q : List Rq) (kind : Int) (line : Nat) (left : Int) (data : ByteArray) (w : World) (hr : Rd w w.heap.size 4 A n c (rqs q)) (hn : n ≤ 1000000) (hl : -9223372036854775808 ≤ left ∧ left ≤ 9223372036854775807) :
    Calls Try.prog 77 #[.slice A n c, .int .i64 kind, .int .u32 (line : Int), .int .i64 left, .string data] w fun e w' => ∃ A2 c2, e = .returned (.slice A2 (n + 1) c2) ∧ Out w [rowD 4 A n c (rqs q)] w' [rowD 4 A2 (n + 1) c2 (rqs (q ++ [⟨kind, line, max left 1, data⟩]))] := by
  have hF := St.start w [rowD 4 A n c (rqs q)] (fun d hd => by obtain rfl := List.mem_singleton.1 hd; exact hr)
  go_enter Try.func77, Try.ntmps77
  by_cases h1 : left < 1
  · have happ : Hid (rqs q ++ [.int .i64 kind, .int .u32 (line : Int), .int .i64 1, .string data] = rqs (q ++ [⟨kind, line, max left 1, data⟩])) := Lib.hid (by rw [rqs_append, show max left 1 = 1 by omega]; rfl)
    go_wp2_with (first | ((first | (refine w_box rfl hF rfl ?_; clear hF; intro gN wN hF) | (refine w_alloc rfl hF ?_; clear hF; intro gN wN hF) | (refine w_ld1 rfl hF rfl ?_) | (refine w_ld rfl hF rfl ?_) | (refine w_st1 rfl hF rfl rfl ?_; clear hF; intro wN hF; (try simp only [List.set_cons_zero, List.set_cons_succ, List.eraseIdx_cons_zero, List.eraseIdx_cons_succ] at hF)) | (refine w_st rfl hF rfl rfl ?_; clear hF; intro wN hF; (try simp only [List.set_cons_zero, List.set_cons_succ, List.eraseIdx_cons_zero, List.eraseIdx_cons_succ] at hF)) | (refine w_fldB rfl rfl ?_) | (refine w_fld rfl hF rfl ?_) | (refine w_ix rfl hF rfl rfl ?_) | (refine w_lde1 rfl hF rfl ?_) | (refine w_lde rfl hF rfl ?_) | (refine w_bs1 rfl hF rfl ?_; clear hF; intro gN wN hF) | (refine w_bs0 rfl hF ?_; clear hF; intro gN wN hF) | (refine w_app rfl hF rfl rfl ?_; clear hF; intro vN wN hF; (try simp only [List.set_cons_zero, List.set_cons_succ, List.eraseIdx_cons_zero, List.eraseIdx_cons_succ] at hF)) | (refine w_appD rfl hF rfl rfl ?_; clear hF; intro vN wN hF; (try simp only [List.set_cons_zero, List.set_cons_succ, List.eraseIdx_cons_zero, List.eraseIdx_cons_succ] at hF)) | (refine w_ld1o rfl hF rfl ?_) | (refine w_st1o rfl hF rfl rfl ?_; clear hF; intro wN hF; (try simp only [List.set_cons_zero, List.set_cons_succ, List.eraseIdx_cons_zero, List.eraseIdx_cons_succ] at hF)) | (refine w_make0 rfl hF rfl rfl ?_; clear hF; intro gN wN hF) | (refine w_to rfl hF rfl rfl ?_; clear hF; intro hF) | (refine w_from rfl hF rfl rfl ?_; clear hF; intro hF)); (try simp only [Act.put, List.setIfInBounds_toArray, List.set_cons_zero, List.set_cons_succ, Nat.zero_add, Nat.zero_mul, Nat.reduceAdd])))
    rw [Nat.zero_add, List.nil_append, happ.out] at hF
    obtain ⟨A2, c2, rfl, hF⟩ := hF.freeze 0 at0
    (try simp only [List.set_cons_zero, List.set_cons_succ, List.eraseIdx_cons_zero, List.eraseIdx_cons_succ] at hF)
    go_ret
    exact ⟨A2, c2, rfl, hF.outA⟩
  · have happ : Hid (rqs q ++ [.int .i64 kind, .int .u32 (line : Int), .int .i64 left, .string data] = rqs (q ++ [⟨kind, line, max left 1, data⟩])) := Lib.hid (by rw [rqs_append, show max left 1 = left by omega]; rfl)
    go_wp2_with (first | ((first | (refine w_box rfl hF rfl ?_; clear hF; intro gN wN hF) | (refine w_alloc rfl hF ?_; clear hF; intro gN wN hF) | (refine w_ld1 rfl hF rfl ?_) | (refine w_ld rfl hF rfl ?_) | (refine w_st1 rfl hF rfl rfl ?_; clear hF; intro wN hF; (try simp only [List.set_cons_zero, List.set_cons_succ, List.eraseIdx_cons_zero, List.eraseIdx_cons_succ] at hF)) | (refine w_st rfl hF rfl rfl ?_; clear hF; intro wN hF; (try simp only [List.set_cons_zero, List.set_cons_succ, List.eraseIdx_cons_zero, List.eraseIdx_cons_succ] at hF)) | (refine w_fldB rfl rfl ?_) | (refine w_fld rfl hF rfl ?_) | (refine w_ix rfl hF rfl rfl ?_) | (refine w_lde1 rfl hF rfl ?_) | (refine w_lde rfl hF rfl ?_) | (refine w_bs1 rfl hF rfl ?_; clear hF; intro gN wN hF) | (refine w_bs0 rfl hF ?_; clear hF; intro gN wN hF) | (refine w_app rfl hF rfl rfl ?_; clear hF; intro vN wN hF; (try simp only [List.set_cons_zero, List.set_cons_succ, List.eraseIdx_cons_zero, List.eraseIdx_cons_succ] at hF)) | (refine w_appD rfl hF rfl rfl ?_; clear hF; intro vN wN hF; (try simp only [List.set_cons_zero, List.set_cons_succ, List.eraseIdx_cons_zero, List.eraseIdx_cons_succ] at hF)) | (refine w_ld1o rfl hF rfl ?_) | (refine w_st1o rfl hF rfl rfl ?_; clear hF; intro wN hF; (try simp only [List.set_cons_zero, List.set_cons_succ, List.eraseIdx_cons_zero, List.eraseIdx_cons_succ] at hF)) | (refine w_make0 rfl hF rfl rfl ?_; clear hF; intro gN wN hF) | (refine w_to rfl hF rfl rfl ?_; clear hF; intro hF) | (refine w_from rfl hF rfl rfl ?_; clear hF; intro hF)); (try simp only [Act.put, List.setIfInBounds_toArray, List.set_cons_zero, List.set_cons_succ, Nat.zero_add, Nat.zero_mul, Nat.reduceAdd])))
    rw [Nat.zero_add, List.nil_append, happ.out] at hF
    obtain ⟨A2, c2, rfl, hF⟩ := hF.freeze 0 at0
    (try simp only [List.set_cons_zero, List.set_cons_succ, List.eraseIdx_cons_zero, List.eraseIdx_cons_succ] at hF)
    go_ret
    exact ⟨A2, c2, rfl, hF.outA⟩
set_option maxHeartbeats 8000000 in
theorem likeRq_yes (A A' : Option Addr) (n c n' c' : Nat) (q q' : List Rq) (w : World) (hr : Rd w w.heap.size 4 A n c (rqs q)) (hs : Rd w w.heap.size 4 A' n' c' (rqs q')) (hq : q = q') :
    Calls Try.prog 54 #[.slice A n c, .slice A' n' c'] w fun e w' => e = .returned (.bool true) ∧ Bel w w' := by
  subst hq
  obtain rfl : n = n' := by rw [← hr.rqslen, ← hs.rqslen]
  have hF := St.start w [rowD 4 A n c (rqs q), rowD 4 A' n c' (rqs q)] (fun d hd => by
    rcases List.mem_cons.1 hd with rfl | hd
    · exact hr
    · obtain rfl := List.mem_singleton.1 hd; exact hs)
  have hc1 := hr.le
  have hc2 := hr.mx
  have hc3 := hs.le
  have hc4 := hs.mx
  have hn := hr.rqslen
  unfold maxLen at hc2 hc4
  go_enter Try.func54, Try.ntmps54
  go_wp2_with (first | ((first | (refine w_box rfl hF rfl ?_; clear hF; intro gN wN hF) | (refine w_alloc rfl hF ?_; clear hF; intro gN wN hF) | (refine w_ld1 rfl hF rfl ?_) | (refine w_ld rfl hF rfl ?_) | (refine w_st1 rfl hF rfl rfl ?_; clear hF; intro wN hF; (try simp only [List.set_cons_zero, List.set_cons_succ, List.eraseIdx_cons_zero, List.eraseIdx_cons_succ] at hF)) | (refine w_st rfl hF rfl rfl ?_; clear hF; intro wN hF; (try simp only [List.set_cons_zero, List.set_cons_succ, List.eraseIdx_cons_zero, List.eraseIdx_cons_succ] at hF)) | (refine w_fldB rfl rfl ?_) | (refine w_fld rfl hF rfl ?_) | (refine w_ix rfl hF rfl rfl ?_) | (refine w_lde1 rfl hF rfl ?_) | (refine w_lde rfl hF rfl ?_) | (refine w_bs1 rfl hF rfl ?_; clear hF; intro gN wN hF) | (refine w_bs0 rfl hF ?_; clear hF; intro gN wN hF) | (refine w_app rfl hF rfl rfl ?_; clear hF; intro vN wN hF; (try simp only [List.set_cons_zero, List.set_cons_succ, List.eraseIdx_cons_zero, List.eraseIdx_cons_succ] at hF)) | (refine w_appD rfl hF rfl rfl ?_; clear hF; intro vN wN hF; (try simp only [List.set_cons_zero, List.set_cons_succ, List.eraseIdx_cons_zero, List.eraseIdx_cons_succ] at hF)) | (refine w_ld1o rfl hF rfl ?_) | (refine w_st1o rfl hF rfl rfl ?_; clear hF; intro wN hF; (try simp only [List.set_cons_zero, List.set_cons_succ, List.eraseIdx_cons_zero, List.eraseIdx_cons_succ] at hF)) | (refine w_make0 rfl hF rfl rfl ?_; clear hF; intro gN wN hF) | (refine w_to rfl hF rfl rfl ?_; clear hF; intro hF) | (refine w_from rfl hF rfl rfl ?_; clear hF; intro hF)); (try simp only [Act.put, List.setIfInBounds_toArray, List.set_cons_zero, List.set_cons_succ, Nat.zero_add, Nat.zero_mul, Nat.reduceAdd])))
  go_loopw [13] (fun ix wr => ∃ k : Nat, k ≤ n ∧ ix = .int .i64 (k : Int) ∧ St w [rowD 4 A n c (rqs q), rowD 4 A' n c' (rqs q)] wr [] [rowD 4 A n c (rqs q), rowD 4 A' n c' (rqs q)]) (fun ix _ => n - (intOf ix).toNat)
  case atStart => exact ⟨0, by omega, rfl, hF⟩
  case round =>
    obtain ⟨k, hk, rfl, hF⟩ := hrel
    by_cases hkn : k < n
    · obtain ⟨⟨rk, rl, rt, rd⟩, hu⟩ : ∃ r, q[k]? = some r := ⟨_, List.getElem?_eq_getElem (by omega)⟩
      go_wp2_with (first | ((first | (refine w_box rfl hF rfl ?_; clear hF; intro gN wN hF) | (refine w_alloc rfl hF ?_; clear hF; intro gN wN hF) | (refine w_ld1 rfl hF rfl ?_) | (refine w_ld rfl hF rfl ?_) | (refine w_st1 rfl hF rfl rfl ?_; clear hF; intro wN hF; (try simp only [List.set_cons_zero, List.set_cons_succ, List.eraseIdx_cons_zero, List.eraseIdx_cons_succ] at hF)) | (refine w_st rfl hF rfl rfl ?_; clear hF; intro wN hF; (try simp only [List.set_cons_zero, List.set_cons_succ, List.eraseIdx_cons_zero, List.eraseIdx_cons_succ] at hF)) | (refine w_fldB rfl rfl ?_) | (refine w_fld rfl hF rfl ?_) | (refine w_ix rfl hF rfl rfl ?_) | (refine w_lde1 rfl hF rfl ?_) | (refine w_lde rfl hF rfl ?_) | (refine w_bs1 rfl hF rfl ?_; clear hF; intro gN wN hF) | (refine w_bs0 rfl hF ?_; clear hF; intro gN wN hF) | (refine w_app rfl hF rfl rfl ?_; clear hF; intro vN wN hF; (try simp only [List.set_cons_zero, List.set_cons_succ, List.eraseIdx_cons_zero, List.eraseIdx_cons_succ] at hF)) | (refine w_appD rfl hF rfl rfl ?_; clear hF; intro vN wN hF; (try simp only [List.set_cons_zero, List.set_cons_succ, List.eraseIdx_cons_zero, List.eraseIdx_cons_succ] at hF)) | (refine w_ld1o rfl hF rfl ?_) | (refine w_st1o rfl hF rfl rfl ?_; clear hF; intro wN hF; (try simp only [List.set_cons_zero, List.set_cons_succ, List.eraseIdx_cons_zero, List.eraseIdx_cons_succ] at hF)) | (refine w_make0 rfl hF rfl rfl ?_; clear hF; intro gN wN hF) | (refine w_to rfl hF rfl rfl ?_; clear hF; intro hF) | (refine w_from rfl hF rfl rfl ?_; clear hF; intro hF)); (try simp only [Act.put, List.setIfInBounds_toArray, List.set_cons_zero, List.set_cons_succ, Nat.zero_add, Nat.zero_mul, Nat.reduceAdd])))
      refine wp_region_st (by kernel_rfl) hF _ _ (fun _ h => h) (fun _ h => h) ?_
      clear hF; intro hF hH
      (refine w_take (i := 0) rfl (y_move rfl rfl) hH ?_); (try simp only [Act.put, List.setIfInBounds_toArray, List.set_cons_zero, List.set_cons_succ, Nat.zero_add, Nat.zero_mul, Nat.reduceAdd])
      (refine w_take (i := 1) rfl (y_move rfl rfl) hH ?_); (try simp only [Act.put, List.setIfInBounds_toArray, List.set_cons_zero, List.set_cons_succ, Nat.zero_add, Nat.zero_mul, Nat.reduceAdd])
      (first | refine w_take (i := 2) rfl (y_ix rfl rfl rfl) hH ?_ | refine w_take (i := 2) rfl (y_ixB rfl rfl rfl) hH ?_); (try simp only [Act.put, List.setIfInBounds_toArray, List.set_cons_zero, List.set_cons_succ, Nat.zero_add, Nat.zero_mul, Nat.reduceAdd])
      (first | refine w_take (i := 3) rfl (y_ld1 rfl rfl) hH ?_ | refine w_take (i := 3) rfl (y_ld rfl rfl) hH ?_ | refine w_take (i := 3) rfl (y_lde1 rfl rfl) hH ?_ | refine w_take (i := 3) rfl (y_lde rfl rfl) hH ?_); (try simp only [Act.put, List.setIfInBounds_toArray, List.set_cons_zero, List.set_cons_succ, Nat.zero_add, Nat.zero_mul, Nat.reduceAdd])
      (refine w_take (i := 4) rfl (y_move rfl rfl) hH ?_); (try simp only [Act.put, List.setIfInBounds_toArray, List.set_cons_zero, List.set_cons_succ, Nat.zero_add, Nat.zero_mul, Nat.reduceAdd])
      (refine w_take (i := 5) rfl (y_move rfl rfl) hH ?_); (try simp only [Act.put, List.setIfInBounds_toArray, List.set_cons_zero, List.set_cons_succ, Nat.zero_add, Nat.zero_mul, Nat.reduceAdd])
      (first | refine w_take (i := 6) rfl (y_ix rfl rfl rfl) hH ?_ | refine w_take (i := 6) rfl (y_ixB rfl rfl rfl) hH ?_); (try simp only [Act.put, List.setIfInBounds_toArray, List.set_cons_zero, List.set_cons_succ, Nat.zero_add, Nat.zero_mul, Nat.reduceAdd])
      (first | refine w_take (i := 7) rfl (y_ld1 rfl rfl) hH ?_ | refine w_take (i := 7) rfl (y_ld rfl rfl) hH ?_ | refine w_take (i := 7) rfl (y_lde1 rfl rfl) hH ?_ | refine w_take (i := 7) rfl (y_lde rfl rfl) hH ?_); (try simp only [Act.put, List.setIfInBounds_toArray, List.set_cons_zero, List.set_cons_succ, Nat.zero_add, Nat.zero_mul, Nat.reduceAdd])
      (refine rg_take (i := 8) (v := ?_) rfl rfl (by kernel_rfl) (by kernel_rfl) (by kernel_rfl) (fun _ _ _ h => h) ?_ hH ?_; rotate_left; (first | exact yi_eq y_skip (by rfl) | (refine yi_pure (by rfl) ?_; intro w; go_simp; done) | (refine yi_pure (by rfl) ?_; intro w; go_simp; with_reducible rfl) | (first | (refine yi_pure (by rfl) ?_; intro w; simp only [Rq.cells]; go_simp; done) | (refine yi_pure (by rfl) ?_; intro w; simp only [Rq.cells]; go_simp; with_reducible rfl) | (refine yi_pure (by rfl) ?_; intro w; simp only [Pu.cells]; go_simp; done) | (refine yi_pure (by rfl) ?_; intro w; simp only [Pu.cells]; go_simp; with_reducible rfl))); (try simp only [Act.put, List.setIfInBounds_toArray, List.set_cons_zero, List.set_cons_succ, Nat.zero_add, Nat.zero_mul, Nat.reduceAdd]))
      refine wpAnyH_done (by kernel_rfl) ?_ _
      go_wp2_with (first | ((first | (refine w_box rfl hF rfl ?_; clear hF; intro gN wN hF) | (refine w_alloc rfl hF ?_; clear hF; intro gN wN hF) | (refine w_ld1 rfl hF rfl ?_) | (refine w_ld rfl hF rfl ?_) | (refine w_st1 rfl hF rfl rfl ?_; clear hF; intro wN hF; (try simp only [List.set_cons_zero, List.set_cons_succ, List.eraseIdx_cons_zero, List.eraseIdx_cons_succ] at hF)) | (refine w_st rfl hF rfl rfl ?_; clear hF; intro wN hF; (try simp only [List.set_cons_zero, List.set_cons_succ, List.eraseIdx_cons_zero, List.eraseIdx_cons_succ] at hF)) | (refine w_fldB rfl rfl ?_) | (refine w_fld rfl hF rfl ?_) | (refine w_ix rfl hF rfl rfl ?_) | (refine w_lde1 rfl hF rfl ?_) | (refine w_lde rfl hF rfl ?_) | (refine w_bs1 rfl hF rfl ?_; clear hF; intro gN wN hF) | (refine w_bs0 rfl hF ?_; clear hF; intro gN wN hF) | (refine w_app rfl hF rfl rfl ?_; clear hF; intro vN wN hF; (try simp only [List.set_cons_zero, List.set_cons_succ, List.eraseIdx_cons_zero, List.eraseIdx_cons_succ] at hF)) | (refine w_appD rfl hF rfl rfl ?_; clear hF; intro vN wN hF; (try simp only [List.set_cons_zero, List.set_cons_succ, List.eraseIdx_cons_zero, List.eraseIdx_cons_succ] at hF)) | (refine w_ld1o rfl hF rfl ?_) | (refine w_st1o rfl hF rfl rfl ?_; clear hF; intro wN hF; (try simp only [List.set_cons_zero, List.set_cons_succ, List.eraseIdx_cons_zero, List.eraseIdx_cons_succ] at hF)) | (refine w_make0 rfl hF rfl rfl ?_; clear hF; intro gN wN hF) | (refine w_to rfl hF rfl rfl ?_; clear hF; intro hF) | (refine w_from rfl hF rfl rfl ?_; clear hF; intro hF)); (try simp only [Act.put, List.setIfInBounds_toArray, List.set_cons_zero, List.set_cons_succ, Nat.zero_add, Nat.zero_mul, Nat.reduceAdd])))
      go_roundw
      case rel => exact ⟨k + 1, by omega, by go_num, hF⟩
      case measure => first | (simp [intOf]; done) | (simp [intOf]; omega)
    · obtain rfl : k = n := by omega
      go_wp2_with (first | ((first | (refine w_box rfl hF rfl ?_; clear hF; intro gN wN hF) | (refine w_alloc rfl hF ?_; clear hF; intro gN wN hF) | (refine w_ld1 rfl hF rfl ?_) | (refine w_ld rfl hF rfl ?_) | (refine w_st1 rfl hF rfl rfl ?_; clear hF; intro wN hF; (try simp only [List.set_cons_zero, List.set_cons_succ, List.eraseIdx_cons_zero, List.eraseIdx_cons_succ] at hF)) | (refine w_st rfl hF rfl rfl ?_; clear hF; intro wN hF; (try simp only [List.set_cons_zero, List.set_cons_succ, List.eraseIdx_cons_zero, List.eraseIdx_cons_succ] at hF)) | (refine w_fldB rfl rfl ?_) | (refine w_fld rfl hF rfl ?_) | (refine w_ix rfl hF rfl rfl ?_) | (refine w_lde1 rfl hF rfl ?_) | (refine w_lde rfl hF rfl ?_) | (refine w_bs1 rfl hF rfl ?_; clear hF; intro gN wN hF) | (refine w_bs0 rfl hF ?_; clear hF; intro gN wN hF) | (refine w_app rfl hF rfl rfl ?_; clear hF; intro vN wN hF; (try simp only [List.set_cons_zero, List.set_cons_succ, List.eraseIdx_cons_zero, List.eraseIdx_cons_succ] at hF)) | (refine w_appD rfl hF rfl rfl ?_; clear hF; intro vN wN hF; (try simp only [List.set_cons_zero, List.set_cons_succ, List.eraseIdx_cons_zero, List.eraseIdx_cons_succ] at hF)) | (refine w_ld1o rfl hF rfl ?_) | (refine w_st1o rfl hF rfl rfl ?_; clear hF; intro wN hF; (try simp only [List.set_cons_zero, List.set_cons_succ, List.eraseIdx_cons_zero, List.eraseIdx_cons_succ] at hF)) | (refine w_make0 rfl hF rfl rfl ?_; clear hF; intro gN wN hF) | (refine w_to rfl hF rfl rfl ?_; clear hF; intro hF) | (refine w_from rfl hF rfl rfl ?_; clear hF; intro hF)); (try simp only [Act.put, List.setIfInBounds_toArray, List.set_cons_zero, List.set_cons_succ, Nat.zero_add, Nat.zero_mul, Nat.reduceAdd])))
      go_ret
      exact ⟨rfl, hF.bel⟩
set_option maxHeartbeats 8000000 in
theorem likePu_yes (A A' : Option Addr) (n c n' c' : Nat) (q q' : List Pu) (w : World) (hr : Rd w w.heap.size 2 A n c (pus q)) (hs : Rd w w.heap.size 2 A' n' c' (pus q')) (hq : q = q') :
    Calls Try.prog 25 #[.slice A n c, .slice A' n' c'] w fun e w' => e = .returned (.bool true) ∧ Bel w w' := by
  subst hq
  obtain rfl : n = n' := by rw [← hr.puslen, ← hs.puslen]
  have hF := St.start w [rowD 2 A n c (pus q), rowD 2 A' n c' (pus q)] (fun d hd => by
    rcases List.mem_cons.1 hd with rfl | hd
    · exact hr
    · obtain rfl := List.mem_singleton.1 hd; exact hs)
  have hc1 := hr.le
  have hc2 := hr.mx
  have hc3 := hs.le
  have hc4 := hs.mx
  have hn := hr.puslen
  unfold maxLen at hc2 hc4
  go_enter Try.func25, Try.ntmps25
  go_wp2_with (first | ((first | (refine w_box rfl hF rfl ?_; clear hF; intro gN wN hF) | (refine w_alloc rfl hF ?_; clear hF; intro gN wN hF) | (refine w_ld1 rfl hF rfl ?_) | (refine w_ld rfl hF rfl ?_) | (refine w_st1 rfl hF rfl rfl ?_; clear hF; intro wN hF; (try simp only [List.set_cons_zero, List.set_cons_succ, List.eraseIdx_cons_zero, List.eraseIdx_cons_succ] at hF)) | (refine w_st rfl hF rfl rfl ?_; clear hF; intro wN hF; (try simp only [List.set_cons_zero, List.set_cons_succ, List.eraseIdx_cons_zero, List.eraseIdx_cons_succ] at hF)) | (refine w_fldB rfl rfl ?_) | (refine w_fld rfl hF rfl ?_) | (refine w_ix rfl hF rfl rfl ?_) | (refine w_lde1 rfl hF rfl ?_) | (refine w_lde rfl hF rfl ?_) | (refine w_bs1 rfl hF rfl ?_; clear hF; intro gN wN hF) | (refine w_bs0 rfl hF ?_; clear hF; intro gN wN hF) | (refine w_app rfl hF rfl rfl ?_; clear hF; intro vN wN hF; (try simp only [List.set_cons_zero, List.set_cons_succ, List.eraseIdx_cons_zero, List.eraseIdx_cons_succ] at hF)) | (refine w_appD rfl hF rfl rfl ?_; clear hF; intro vN wN hF; (try simp only [List.set_cons_zero, List.set_cons_succ, List.eraseIdx_cons_zero, List.eraseIdx_cons_succ] at hF)) | (refine w_ld1o rfl hF rfl ?_) | (refine w_st1o rfl hF rfl rfl ?_; clear hF; intro wN hF; (try simp only [List.set_cons_zero, List.set_cons_succ, List.eraseIdx_cons_zero, List.eraseIdx_cons_succ] at hF)) | (refine w_make0 rfl hF rfl rfl ?_; clear hF; intro gN wN hF) | (refine w_to rfl hF rfl rfl ?_; clear hF; intro hF) | (refine w_from rfl hF rfl rfl ?_; clear hF; intro hF)); (try simp only [Act.put, List.setIfInBounds_toArray, List.set_cons_zero, List.set_cons_succ, Nat.zero_add, Nat.zero_mul, Nat.reduceAdd])))
  go_loopw [13] (fun ix wr => ∃ k : Nat, k ≤ n ∧ ix = .int .i64 (k : Int) ∧ St w [rowD 2 A n c (pus q), rowD 2 A' n c' (pus q)] wr [] [rowD 2 A n c (pus q), rowD 2 A' n c' (pus q)]) (fun ix _ => n - (intOf ix).toNat)
  case atStart => exact ⟨0, by omega, rfl, hF⟩
  case round =>
    obtain ⟨k, hk, rfl, hF⟩ := hrel
    by_cases hkn : k < n
    · obtain ⟨⟨pa, pd⟩, hu⟩ : ∃ r, q[k]? = some r := ⟨_, List.getElem?_eq_getElem (by omega)⟩
      go_wp2_with (first | ((first | (refine w_box rfl hF rfl ?_; clear hF; intro gN wN hF) | (refine w_alloc rfl hF ?_; clear hF; intro gN wN hF) | (refine w_ld1 rfl hF rfl ?_) | (refine w_ld rfl hF rfl ?_) | (refine w_st1 rfl hF rfl rfl ?_; clear hF; intro wN hF; (try simp only [List.set_cons_zero, List.set_cons_succ, List.eraseIdx_cons_zero, List.eraseIdx_cons_succ] at hF)) | (refine w_st rfl hF rfl rfl ?_; clear hF; intro wN hF; (try simp only [List.set_cons_zero, List.set_cons_succ, List.eraseIdx_cons_zero, List.eraseIdx_cons_succ] at hF)) | (refine w_fldB rfl rfl ?_) | (refine w_fld rfl hF rfl ?_) | (refine w_ix rfl hF rfl rfl ?_) | (refine w_lde1 rfl hF rfl ?_) | (refine w_lde rfl hF rfl ?_) | (refine w_bs1 rfl hF rfl ?_; clear hF; intro gN wN hF) | (refine w_bs0 rfl hF ?_; clear hF; intro gN wN hF) | (refine w_app rfl hF rfl rfl ?_; clear hF; intro vN wN hF; (try simp only [List.set_cons_zero, List.set_cons_succ, List.eraseIdx_cons_zero, List.eraseIdx_cons_succ] at hF)) | (refine w_appD rfl hF rfl rfl ?_; clear hF; intro vN wN hF; (try simp only [List.set_cons_zero, List.set_cons_succ, List.eraseIdx_cons_zero, List.eraseIdx_cons_succ] at hF)) | (refine w_ld1o rfl hF rfl ?_) | (refine w_st1o rfl hF rfl rfl ?_; clear hF; intro wN hF; (try simp only [List.set_cons_zero, List.set_cons_succ, List.eraseIdx_cons_zero, List.eraseIdx_cons_succ] at hF)) | (refine w_make0 rfl hF rfl rfl ?_; clear hF; intro gN wN hF) | (refine w_to rfl hF rfl rfl ?_; clear hF; intro hF) | (refine w_from rfl hF rfl rfl ?_; clear hF; intro hF)); (try simp only [Act.put, List.setIfInBounds_toArray, List.set_cons_zero, List.set_cons_succ, Nat.zero_add, Nat.zero_mul, Nat.reduceAdd])))
      refine wp_region_st (by kernel_rfl) hF _ _ (fun _ h => h) (fun _ h => h) ?_
      clear hF; intro hF hH
      (refine w_take (i := 0) rfl (y_move rfl rfl) hH ?_); (try simp only [Act.put, List.setIfInBounds_toArray, List.set_cons_zero, List.set_cons_succ, Nat.zero_add, Nat.zero_mul, Nat.reduceAdd])
      (refine w_take (i := 1) rfl (y_move rfl rfl) hH ?_); (try simp only [Act.put, List.setIfInBounds_toArray, List.set_cons_zero, List.set_cons_succ, Nat.zero_add, Nat.zero_mul, Nat.reduceAdd])
      (first | refine w_take (i := 2) rfl (y_ix rfl rfl rfl) hH ?_ | refine w_take (i := 2) rfl (y_ixB rfl rfl rfl) hH ?_); (try simp only [Act.put, List.setIfInBounds_toArray, List.set_cons_zero, List.set_cons_succ, Nat.zero_add, Nat.zero_mul, Nat.reduceAdd])
      (first | refine w_take (i := 3) rfl (y_ld1 rfl rfl) hH ?_ | refine w_take (i := 3) rfl (y_ld rfl rfl) hH ?_ | refine w_take (i := 3) rfl (y_lde1 rfl rfl) hH ?_ | refine w_take (i := 3) rfl (y_lde rfl rfl) hH ?_); (try simp only [Act.put, List.setIfInBounds_toArray, List.set_cons_zero, List.set_cons_succ, Nat.zero_add, Nat.zero_mul, Nat.reduceAdd])
      (refine w_take (i := 4) rfl (y_move rfl rfl) hH ?_); (try simp only [Act.put, List.setIfInBounds_toArray, List.set_cons_zero, List.set_cons_succ, Nat.zero_add, Nat.zero_mul, Nat.reduceAdd])
      (refine w_take (i := 5) rfl (y_move rfl rfl) hH ?_); (try simp only [Act.put, List.setIfInBounds_toArray, List.set_cons_zero, List.set_cons_succ, Nat.zero_add, Nat.zero_mul, Nat.reduceAdd])
      (first | refine w_take (i := 6) rfl (y_ix rfl rfl rfl) hH ?_ | refine w_take (i := 6) rfl (y_ixB rfl rfl rfl) hH ?_); (try simp only [Act.put, List.setIfInBounds_toArray, List.set_cons_zero, List.set_cons_succ, Nat.zero_add, Nat.zero_mul, Nat.reduceAdd])
      (first | refine w_take (i := 7) rfl (y_ld1 rfl rfl) hH ?_ | refine w_take (i := 7) rfl (y_ld rfl rfl) hH ?_ | refine w_take (i := 7) rfl (y_lde1 rfl rfl) hH ?_ | refine w_take (i := 7) rfl (y_lde rfl rfl) hH ?_); (try simp only [Act.put, List.setIfInBounds_toArray, List.set_cons_zero, List.set_cons_succ, Nat.zero_add, Nat.zero_mul, Nat.reduceAdd])
      (refine rg_take (i := 8) (v := ?_) rfl rfl (by kernel_rfl) (by kernel_rfl) (by kernel_rfl) (fun _ _ _ h => h) ?_ hH ?_; rotate_left; (first | exact yi_eq y_skip (by rfl) | (refine yi_pure (by rfl) ?_; intro w; go_simp; done) | (refine yi_pure (by rfl) ?_; intro w; go_simp; with_reducible rfl) | (first | (refine yi_pure (by rfl) ?_; intro w; simp only [Rq.cells]; go_simp; done) | (refine yi_pure (by rfl) ?_; intro w; simp only [Rq.cells]; go_simp; with_reducible rfl) | (refine yi_pure (by rfl) ?_; intro w; simp only [Pu.cells]; go_simp; done) | (refine yi_pure (by rfl) ?_; intro w; simp only [Pu.cells]; go_simp; with_reducible rfl))); (try simp only [Act.put, List.setIfInBounds_toArray, List.set_cons_zero, List.set_cons_succ, Nat.zero_add, Nat.zero_mul, Nat.reduceAdd]))
      refine wpAnyH_done (by kernel_rfl) ?_ _
      go_wp2_with (first | ((first | (refine w_box rfl hF rfl ?_; clear hF; intro gN wN hF) | (refine w_alloc rfl hF ?_; clear hF; intro gN wN hF) | (refine w_ld1 rfl hF rfl ?_) | (refine w_ld rfl hF rfl ?_) | (refine w_st1 rfl hF rfl rfl ?_; clear hF; intro wN hF; (try simp only [List.set_cons_zero, List.set_cons_succ, List.eraseIdx_cons_zero, List.eraseIdx_cons_succ] at hF)) | (refine w_st rfl hF rfl rfl ?_; clear hF; intro wN hF; (try simp only [List.set_cons_zero, List.set_cons_succ, List.eraseIdx_cons_zero, List.eraseIdx_cons_succ] at hF)) | (refine w_fldB rfl rfl ?_) | (refine w_fld rfl hF rfl ?_) | (refine w_ix rfl hF rfl rfl ?_) | (refine w_lde1 rfl hF rfl ?_) | (refine w_lde rfl hF rfl ?_) | (refine w_bs1 rfl hF rfl ?_; clear hF; intro gN wN hF) | (refine w_bs0 rfl hF ?_; clear hF; intro gN wN hF) | (refine w_app rfl hF rfl rfl ?_; clear hF; intro vN wN hF; (try simp only [List.set_cons_zero, List.set_cons_succ, List.eraseIdx_cons_zero, List.eraseIdx_cons_succ] at hF)) | (refine w_appD rfl hF rfl rfl ?_; clear hF; intro vN wN hF; (try simp only [List.set_cons_zero, List.set_cons_succ, List.eraseIdx_cons_zero, List.eraseIdx_cons_succ] at hF)) | (refine w_ld1o rfl hF rfl ?_) | (refine w_st1o rfl hF rfl rfl ?_; clear hF; intro wN hF; (try simp only [List.set_cons_zero, List.set_cons_succ, List.eraseIdx_cons_zero, List.eraseIdx_cons_succ] at hF)) | (refine w_make0 rfl hF rfl rfl ?_; clear hF; intro gN wN hF) | (refine w_to rfl hF rfl rfl ?_; clear hF; intro hF) | (refine w_from rfl hF rfl rfl ?_; clear hF; intro hF)); (try simp only [Act.put, List.setIfInBounds_toArray, List.set_cons_zero, List.set_cons_succ, Nat.zero_add, Nat.zero_mul, Nat.reduceAdd])))
      go_roundw
      case rel => exact ⟨k + 1, by omega, by go_num, hF⟩
      case measure => first | (simp [intOf]; done) | (simp [intOf]; omega)
    · obtain rfl : k = n := by omega
      go_wp2_with (first | ((first | (refine w_box rfl hF rfl ?_; clear hF; intro gN wN hF) | (refine w_alloc rfl hF ?_; clear hF; intro gN wN hF) | (refine w_ld1 rfl hF rfl ?_) | (refine w_ld rfl hF rfl ?_) | (refine w_st1 rfl hF rfl rfl ?_; clear hF; intro wN hF; (try simp only [List.set_cons_zero, List.set_cons_succ, List.eraseIdx_cons_zero, List.eraseIdx_cons_succ] at hF)) | (refine w_st rfl hF rfl rfl ?_; clear hF; intro wN hF; (try simp only [List.set_cons_zero, List.set_cons_succ, List.eraseIdx_cons_zero, List.eraseIdx_cons_succ] at hF)) | (refine w_fldB rfl rfl ?_) | (refine w_fld rfl hF rfl ?_) | (refine w_ix rfl hF rfl rfl ?_) | (refine w_lde1 rfl hF rfl ?_) | (refine w_lde rfl hF rfl ?_) | (refine w_bs1 rfl hF rfl ?_; clear hF; intro gN wN hF) | (refine w_bs0 rfl hF ?_; clear hF; intro gN wN hF) | (refine w_app rfl hF rfl rfl ?_; clear hF; intro vN wN hF; (try simp only [List.set_cons_zero, List.set_cons_succ, List.eraseIdx_cons_zero, List.eraseIdx_cons_succ] at hF)) | (refine w_appD rfl hF rfl rfl ?_; clear hF; intro vN wN hF; (try simp only [List.set_cons_zero, List.set_cons_succ, List.eraseIdx_cons_zero, List.eraseIdx_cons_succ] at hF)) | (refine w_ld1o rfl hF rfl ?_) | (refine w_st1o rfl hF rfl rfl ?_; clear hF; intro wN hF; (try simp only [List.set_cons_zero, List.set_cons_succ, List.eraseIdx_cons_zero, List.eraseIdx_cons_succ] at hF)) | (refine w_make0 rfl hF rfl rfl ?_; clear hF; intro gN wN hF) | (refine w_to rfl hF rfl rfl ?_; clear hF; intro hF) | (refine w_from rfl hF rfl rfl ?_; clear hF; intro hF)); (try simp only [Act.put, List.setIfInBounds_toArray, List.set_cons_zero, List.set_cons_succ, Nat.zero_add, Nat.zero_mul, Nat.reduceAdd])))
      go_ret
      exact ⟨rfl, hF.bel⟩
end Go.Proofs.Ytcahadkkjfijfaa

/- The document's WithSet. -/
set_option linter.unusedVariables false
set_option linter.unusedSimpArgs false
set_option maxRecDepth 100000
namespace Go.Proofs.Ytcahadkkjfijfaa
open Go.RowKit Go.Sort

theorem csv_take_succ {S : List Cs} {j : Nat} {s : Cs} (h : S[j]? = some s) : csv (S.take j) ++ [s.val] = csv (S.take (j + 1)) := by
  obtain ⟨hl, e⟩ := List.getElem?_eq_some_iff.1 h
  rw [List.take_succ_eq_append_getElem hl, csv_append, e]; rfl
theorem cache3_ok {w : World} {A : Option Addr} {n c : Nat} {S : List Cs} {A2 : Option Addr} {n2 c2 : Nat} {q2 : List Wy} (hr : RdS w w.heap.size A n c S) (h2 : Rd w w.heap.size 3 A2 n2 c2 (wys q2)) :
    ∀ d ∈ [rowD 1 A n c (csv S), elemsD S, rowD 3 A2 n2 c2 (wys q2)], d.ok w := by
  intro d hd
  rcases List.mem_cons.1 hd with rfl | hd
  · exact hr.rd
  · rcases List.mem_cons.1 hd with rfl | hd
    · exact hr.sets
    · obtain rfl := List.mem_singleton.1 hd
      exact h2
set_option maxHeartbeats 4000000 in
theorem refWithSet_st (ways : Int) (A : Option Addr) (n c : Nat) (S : List Cs) (k : Nat) (A2 : Option Addr) (n2 c2 : Nat) (q2 : List Wy) (w : World) (hr : RdS w w.heap.size A n c S) (hn : n ≤ 1000) (hk : k < n) (h2 : Rd w w.heap.size 3 A2 n2 c2 (wys q2)) :
    Calls Try.prog 70 #[.agg #[.int .i64 ways, .slice A n c], .int .i64 (k : Int), .slice A2 n2 c2] w fun e w' => ∃ A' c', e = .returned (.agg #[.int .i64 ways, .slice A' n c']) ∧ Out w [rowD 1 A n c (csv S), elemsD S, rowD 3 A2 n2 c2 (wys q2)] w' [rowD 1 A' n c' (csv (S.set k ⟨A2, n2, c2, q2⟩))] := by
  have hF := St.start w _ (cache3_ok hr h2)
  have hc1 := hr.rd.le
  have hc2 := hr.rd.mx
  unfold maxLen at hc2
  have hsl := hr.slen
  go_enter Try.func70, Try.ntmps70
  go_wp2_with (first | ((first | (refine w_box rfl hF rfl ?_; clear hF; intro gN wN hF) | (refine w_alloc rfl hF ?_; clear hF; intro gN wN hF) | (refine w_ld1 rfl hF rfl ?_) | (refine w_ld rfl hF rfl ?_) | (refine w_st1 rfl hF rfl rfl ?_; clear hF; intro wN hF; (try simp only [List.set_cons_zero, List.set_cons_succ, List.eraseIdx_cons_zero, List.eraseIdx_cons_succ] at hF)) | (refine w_st rfl hF rfl rfl ?_; clear hF; intro wN hF; (try simp only [List.set_cons_zero, List.set_cons_succ, List.eraseIdx_cons_zero, List.eraseIdx_cons_succ] at hF)) | (refine w_fldB rfl rfl ?_) | (refine w_fld rfl hF rfl ?_) | (refine w_ix rfl hF rfl rfl ?_) | (refine w_lde1 rfl hF rfl ?_) | (refine w_lde rfl hF rfl ?_) | (refine w_bs1 rfl hF rfl ?_; clear hF; intro gN wN hF) | (refine w_bs0 rfl hF ?_; clear hF; intro gN wN hF) | (refine w_app rfl hF rfl rfl ?_; clear hF; intro vN wN hF; (try simp only [List.set_cons_zero, List.set_cons_succ, List.eraseIdx_cons_zero, List.eraseIdx_cons_succ] at hF)) | (refine w_appD rfl hF rfl rfl ?_; clear hF; intro vN wN hF; (try simp only [List.set_cons_zero, List.set_cons_succ, List.eraseIdx_cons_zero, List.eraseIdx_cons_succ] at hF)) | (refine w_ld1o rfl hF rfl ?_) | (refine w_st1o rfl hF rfl rfl ?_; clear hF; intro wN hF; (try simp only [List.set_cons_zero, List.set_cons_succ, List.eraseIdx_cons_zero, List.eraseIdx_cons_succ] at hF)) | (refine w_make0 rfl hF rfl rfl ?_; clear hF; intro gN wN hF) | (refine w_to rfl hF rfl rfl ?_; clear hF; intro hF) | (refine w_from rfl hF rfl rfl ?_; clear hF; intro hF)); (try simp only [Act.put, List.setIfInBounds_toArray, List.set_cons_zero, List.set_cons_succ, Nat.zero_add, Nat.zero_mul, Nat.reduceAdd])))
  rename_i gC w1 gR w2 w3 K hK
  go_loopw [16] (fun i wr => ∃ (j : Nat) (v : Value), j ≤ n ∧ i = .int .i64 (j : Int) ∧ St w [rowD 1 A n c (csv S), elemsD S, rowD 3 A2 n2 c2 (wys q2)] wr [.own v 62 1 j (csv ((S.set k ⟨A2, n2, c2, q2⟩).take j)), .blk gN 36 [.int .i64 ways, v], .blk gR 36 [.int .i64 0, .slice none 0 0], .blk gC 36 [.int .i64 ways, .slice A n c]] [rowD 1 A n c (csv S), elemsD S, rowD 3 A2 n2 c2 (wys q2)]) (fun i _ => n - (intOf i).toNat)
  case atStart => exact ⟨0, _, by omega, rfl, hF.nil _ _⟩
  case round =>
    obtain ⟨j, v, hj, rfl, hF⟩ := hrel
    by_cases hjn : j < n
    · obtain ⟨s, hs⟩ : ∃ s, S[j]? = some s := ⟨_, List.getElem?_eq_getElem (by omega)⟩
      by_cases hjk : j = k
      · subst hjk
        have hs2 : (S.set j ⟨A2, n2, c2, q2⟩)[j]? = some ⟨A2, n2, c2, q2⟩ := List.getElem?_set_self (by omega)
        go_wp2_with (first | ((first | (refine w_box rfl hF rfl ?_; clear hF; intro gN wN hF) | (refine w_alloc rfl hF ?_; clear hF; intro gN wN hF) | (refine w_ld1 rfl hF rfl ?_) | (refine w_ld rfl hF rfl ?_) | (refine w_st1 rfl hF rfl rfl ?_; clear hF; intro wN hF; (try simp only [List.set_cons_zero, List.set_cons_succ, List.eraseIdx_cons_zero, List.eraseIdx_cons_succ] at hF)) | (refine w_st rfl hF rfl rfl ?_; clear hF; intro wN hF; (try simp only [List.set_cons_zero, List.set_cons_succ, List.eraseIdx_cons_zero, List.eraseIdx_cons_succ] at hF)) | (refine w_fldB rfl rfl ?_) | (refine w_fld rfl hF rfl ?_) | (refine w_ix rfl hF rfl rfl ?_) | (refine w_lde1 rfl hF rfl ?_) | (refine w_lde rfl hF rfl ?_) | (refine w_bs1 rfl hF rfl ?_; clear hF; intro gN wN hF) | (refine w_bs0 rfl hF ?_; clear hF; intro gN wN hF) | (refine w_app rfl hF rfl rfl ?_; clear hF; intro vN wN hF; (try simp only [List.set_cons_zero, List.set_cons_succ, List.eraseIdx_cons_zero, List.eraseIdx_cons_succ] at hF)) | (refine w_appD rfl hF rfl rfl ?_; clear hF; intro vN wN hF; (try simp only [List.set_cons_zero, List.set_cons_succ, List.eraseIdx_cons_zero, List.eraseIdx_cons_succ] at hF)) | (refine w_ld1o rfl hF rfl ?_) | (refine w_st1o rfl hF rfl rfl ?_; clear hF; intro wN hF; (try simp only [List.set_cons_zero, List.set_cons_succ, List.eraseIdx_cons_zero, List.eraseIdx_cons_succ] at hF)) | (refine w_make0 rfl hF rfl rfl ?_; clear hF; intro gN wN hF) | (refine w_to rfl hF rfl rfl ?_; clear hF; intro hF) | (refine w_from rfl hF rfl rfl ?_; clear hF; intro hF)); (try simp only [Act.put, List.setIfInBounds_toArray, List.set_cons_zero, List.set_cons_succ, Nat.zero_add, Nat.zero_mul, Nat.reduceAdd])))
        go_roundw
        case rel => exact ⟨j + 1, _, by omega, by go_num, by rw [← csv_take_succ hs2]; exact hF⟩
        case measure => first | (simp [intOf]; done) | (simp [intOf]; omega)
      · have hs2 : (S.set k ⟨A2, n2, c2, q2⟩)[j]? = some s := (List.getElem?_set_ne (fun e => hjk e.symm)).trans hs
        have hjb : ¬ ((j : Int) = (k : Int)) := by omega
        clear hjk
        go_wp2_with (first | ((first | (refine w_box rfl hF rfl ?_; clear hF; intro gN wN hF) | (refine w_alloc rfl hF ?_; clear hF; intro gN wN hF) | (refine w_ld1 rfl hF rfl ?_) | (refine w_ld rfl hF rfl ?_) | (refine w_st1 rfl hF rfl rfl ?_; clear hF; intro wN hF; (try simp only [List.set_cons_zero, List.set_cons_succ, List.eraseIdx_cons_zero, List.eraseIdx_cons_succ] at hF)) | (refine w_st rfl hF rfl rfl ?_; clear hF; intro wN hF; (try simp only [List.set_cons_zero, List.set_cons_succ, List.eraseIdx_cons_zero, List.eraseIdx_cons_succ] at hF)) | (refine w_fldB rfl rfl ?_) | (refine w_fld rfl hF rfl ?_) | (refine w_ix rfl hF rfl rfl ?_) | (refine w_lde1 rfl hF rfl ?_) | (refine w_lde rfl hF rfl ?_) | (refine w_bs1 rfl hF rfl ?_; clear hF; intro gN wN hF) | (refine w_bs0 rfl hF ?_; clear hF; intro gN wN hF) | (refine w_app rfl hF rfl rfl ?_; clear hF; intro vN wN hF; (try simp only [List.set_cons_zero, List.set_cons_succ, List.eraseIdx_cons_zero, List.eraseIdx_cons_succ] at hF)) | (refine w_appD rfl hF rfl rfl ?_; clear hF; intro vN wN hF; (try simp only [List.set_cons_zero, List.set_cons_succ, List.eraseIdx_cons_zero, List.eraseIdx_cons_succ] at hF)) | (refine w_ld1o rfl hF rfl ?_) | (refine w_st1o rfl hF rfl rfl ?_; clear hF; intro wN hF; (try simp only [List.set_cons_zero, List.set_cons_succ, List.eraseIdx_cons_zero, List.eraseIdx_cons_succ] at hF)) | (refine w_make0 rfl hF rfl rfl ?_; clear hF; intro gN wN hF) | (refine w_to rfl hF rfl rfl ?_; clear hF; intro hF) | (refine w_from rfl hF rfl rfl ?_; clear hF; intro hF)); (try simp only [Act.put, List.setIfInBounds_toArray, List.set_cons_zero, List.set_cons_succ, Nat.zero_add, Nat.zero_mul, Nat.reduceAdd])))
        go_roundw
        case rel => exact ⟨j + 1, _, by omega, by go_num, by rw [← csv_take_succ hs2]; exact hF⟩
        case measure => first | (simp [intOf]; done) | (simp [intOf]; omega)
    · obtain rfl : j = n := by omega
      go_wp2_with (first | ((first | (refine w_box rfl hF rfl ?_; clear hF; intro gN wN hF) | (refine w_alloc rfl hF ?_; clear hF; intro gN wN hF) | (refine w_ld1 rfl hF rfl ?_) | (refine w_ld rfl hF rfl ?_) | (refine w_st1 rfl hF rfl rfl ?_; clear hF; intro wN hF; (try simp only [List.set_cons_zero, List.set_cons_succ, List.eraseIdx_cons_zero, List.eraseIdx_cons_succ] at hF)) | (refine w_st rfl hF rfl rfl ?_; clear hF; intro wN hF; (try simp only [List.set_cons_zero, List.set_cons_succ, List.eraseIdx_cons_zero, List.eraseIdx_cons_succ] at hF)) | (refine w_fldB rfl rfl ?_) | (refine w_fld rfl hF rfl ?_) | (refine w_ix rfl hF rfl rfl ?_) | (refine w_lde1 rfl hF rfl ?_) | (refine w_lde rfl hF rfl ?_) | (refine w_bs1 rfl hF rfl ?_; clear hF; intro gN wN hF) | (refine w_bs0 rfl hF ?_; clear hF; intro gN wN hF) | (refine w_app rfl hF rfl rfl ?_; clear hF; intro vN wN hF; (try simp only [List.set_cons_zero, List.set_cons_succ, List.eraseIdx_cons_zero, List.eraseIdx_cons_succ] at hF)) | (refine w_appD rfl hF rfl rfl ?_; clear hF; intro vN wN hF; (try simp only [List.set_cons_zero, List.set_cons_succ, List.eraseIdx_cons_zero, List.eraseIdx_cons_succ] at hF)) | (refine w_ld1o rfl hF rfl ?_) | (refine w_st1o rfl hF rfl rfl ?_; clear hF; intro wN hF; (try simp only [List.set_cons_zero, List.set_cons_succ, List.eraseIdx_cons_zero, List.eraseIdx_cons_succ] at hF)) | (refine w_make0 rfl hF rfl rfl ?_; clear hF; intro gN wN hF) | (refine w_to rfl hF rfl rfl ?_; clear hF; intro hF) | (refine w_from rfl hF rfl rfl ?_; clear hF; intro hF)); (try simp only [Act.put, List.setIfInBounds_toArray, List.set_cons_zero, List.set_cons_succ, Nat.zero_add, Nat.zero_mul, Nat.reduceAdd])))
      rw [List.take_of_length_le (by simp; omega)] at hF
      obtain ⟨A', c', rfl, hF⟩ := hF.freeze 0 at0
      (try simp only [List.set_cons_zero, List.set_cons_succ, List.eraseIdx_cons_zero, List.eraseIdx_cons_succ] at hF)
      ((try simp only [Exit.inBlock, Exit.then]); refine bodyPost_ret (w_resc rfl hF) rfl ?_)
      exact ⟨A', c', rfl, hF.out (by simp)⟩
end Go.Proofs.Ytcahadkkjfijfaa

/- The document's First. -/
set_option linter.unusedVariables false
set_option linter.unusedSimpArgs false
set_option maxRecDepth 100000
namespace Go.Proofs.Ytcahadkkjfijfaa
open Go.RowKit Go.Sort

theorem firstL_step {ws : List Wy} {v u : Wy} {j : Nat} (h : ws[j]? = some u) : firstL (ws.take (j + 1)) v = if u.line = v.line then firstL (ws.take j) v else firstL (ws.take j) v ++ [u] := by
  obtain ⟨hl, e⟩ := List.getElem?_eq_some_iff.1 h
  rw [List.take_succ_eq_append_getElem hl, e]
  simp only [firstL, List.filter_append, List.filter_cons, List.filter_nil]
  by_cases hu : u.line = v.line <;> simp [hu]
set_option maxHeartbeats 4000000 in
theorem refFirst_st (ways : Int) (A : Option Addr) (n c : Nat) (S : List Cs) (v : Wy) (k : Nat) (ws : List Wy) (w : World) (hr : RdS w w.heap.size A n c S) (hn3 : n = 1 ∨ n = 2 ∨ n = 4) (hx : v.line < 4294967296) (hkk : v.line / 16 % n = k) (hset : (cont S)[k]? = some ws) (hws : ws.length ≤ 1000) :
    Calls Try.prog 69 #[.agg #[.int .i64 ways, .slice A n c], v.val] w fun e w' => ∃ x, e = .returned x ∧ CRes w (cacheD A n c S) ways x w' ((cont S).set k (firstL ws v)) := by
  have hF := St.start w _ (cacheD_ok hr)
  unfold cacheD at hF
  have hn : n ≤ 1000 := by omega
  have hk : k < n := by rw [← hkk]; exact Nat.mod_lt _ (by omega)
  have hsl := hr.slen
  have hS : S[k]? = some (S[k]'(by omega)) := List.getElem?_eq_getElem (by omega)
  obtain ⟨s, hs⟩ : ∃ s, S[k]'(by omega) = s := ⟨_, rfl⟩
  rw [hs] at hS
  have hsw : s.ws = ws := by
    simp only [cont, List.getElem?_map, hS, Option.map_some, Option.some.injEq] at hset
    exact hset
  obtain ⟨sA, m, sc, sws⟩ := s
  simp only at hsw
  subst hsw
  have hF := hF.elem (List.Mem.tail _ (List.Mem.head _)) hS
  simp only at hF
  have hse := (hF.rd (List.Mem.head _)).wyslen
  have hm1 := (hF.rd (List.Mem.head _)).le
  have hm2 := (hF.rd (List.Mem.head _)).mx
  have hc1 := hr.rd.le
  have hc2 := hr.rd.mx
  unfold maxLen at hc2 hm2
  have HSO := Lib.hid (fun W => refSetOf_any ways A n c v.line W hn3 hx)
  rw [hkk] at HSO
  clear hset hs hkk
  go_enter Try.func69, Try.ntmps69
  go_wp2_with (first | (go_at_call 61; refine (HSO.out _).mono ?_; rintro e wN ⟨rfl, hb⟩; replace hF := hF.grow hb; clear hb) | ((first | (refine w_box rfl hF rfl ?_; clear hF; intro gN wN hF) | (refine w_alloc rfl hF ?_; clear hF; intro gN wN hF) | (refine w_ld1 rfl hF rfl ?_) | (refine w_ld rfl hF rfl ?_) | (refine w_st1 rfl hF rfl rfl ?_; clear hF; intro wN hF; (try simp only [List.set_cons_zero, List.set_cons_succ, List.eraseIdx_cons_zero, List.eraseIdx_cons_succ] at hF)) | (refine w_st rfl hF rfl rfl ?_; clear hF; intro wN hF; (try simp only [List.set_cons_zero, List.set_cons_succ, List.eraseIdx_cons_zero, List.eraseIdx_cons_succ] at hF)) | (refine w_fldB rfl rfl ?_) | (refine w_fld rfl hF rfl ?_) | (refine w_ix rfl hF rfl rfl ?_) | (refine w_lde1 rfl hF rfl ?_) | (refine w_lde rfl hF rfl ?_) | (refine w_bs1 rfl hF rfl ?_; clear hF; intro gN wN hF) | (refine w_bs0 rfl hF ?_; clear hF; intro gN wN hF) | (refine w_app rfl hF rfl rfl ?_; clear hF; intro vN wN hF; (try simp only [List.set_cons_zero, List.set_cons_succ, List.eraseIdx_cons_zero, List.eraseIdx_cons_succ] at hF)) | (refine w_appD rfl hF rfl rfl ?_; clear hF; intro vN wN hF; (try simp only [List.set_cons_zero, List.set_cons_succ, List.eraseIdx_cons_zero, List.eraseIdx_cons_succ] at hF)) | (refine w_ld1o rfl hF rfl ?_) | (refine w_st1o rfl hF rfl rfl ?_; clear hF; intro wN hF; (try simp only [List.set_cons_zero, List.set_cons_succ, List.eraseIdx_cons_zero, List.eraseIdx_cons_succ] at hF)) | (refine w_make0 rfl hF rfl rfl ?_; clear hF; intro gN wN hF) | (refine w_to rfl hF rfl rfl ?_; clear hF; intro hF) | (refine w_from rfl hF rfl rfl ?_; clear hF; intro hF)); (try simp only [Act.put, List.setIfInBounds_toArray, List.set_cons_zero, List.set_cons_succ, Nat.zero_add, Nat.zero_mul, Nat.reduceAdd])))
  rename_i gC w1 gW w2 gR w3 w4 K hK
  have h0 : [Value.int .u32 (v.line : Int), .bool v.dirty, .string v.data] = wys (firstL (sws.take 0) v) := rfl
  rw [h0] at hF
  clear h0
  go_loopw [21, 6] (fun i x wr => ∃ (j l : Nat), j ≤ m ∧ i = .int .i64 (j : Int) ∧ l ≤ j + 1 ∧ (firstL (sws.take j) v).length = l ∧ St w [rowD 1 A n c (csv S), elemsD S] wr [.own x 49 3 l (wys (firstL (sws.take j) v)), .blk gR 36 [.int .i64 0, .slice none 0 0], .blk gW 49 [.int .u32 (v.line : Int), .bool v.dirty, .string v.data], .blk gC 36 [.int .i64 ways, .slice A n c]] [rowD 3 sA m sc (wys sws), rowD 1 A n c (csv S), elemsD S]) (fun i _ _ => m - (intOf i).toNat)
  case atStart => exact ⟨0, 1, by omega, rfl, by omega, rfl, hF⟩
  case round =>
    obtain ⟨j, l, hj, rfl, hlj, hl, hF⟩ := hrel
    by_cases hjm : j < m
    · obtain ⟨u, hu⟩ : ∃ u, sws[j]? = some u := ⟨_, List.getElem?_eq_getElem (by omega)⟩
      have hst := firstL_step (v := v) hu
      by_cases hul : u.line = v.line
      · rw [if_pos hul] at hst
        have hub : ((u.line : Int) != (v.line : Int)) = false := by simp [hul]
        clear hul
        go_wp2_with (first | ((first | (refine w_box rfl hF rfl ?_; clear hF; intro gN wN hF) | (refine w_alloc rfl hF ?_; clear hF; intro gN wN hF) | (refine w_ld1 rfl hF rfl ?_) | (refine w_ld rfl hF rfl ?_) | (refine w_st1 rfl hF rfl rfl ?_; clear hF; intro wN hF; (try simp only [List.set_cons_zero, List.set_cons_succ, List.eraseIdx_cons_zero, List.eraseIdx_cons_succ] at hF)) | (refine w_st rfl hF rfl rfl ?_; clear hF; intro wN hF; (try simp only [List.set_cons_zero, List.set_cons_succ, List.eraseIdx_cons_zero, List.eraseIdx_cons_succ] at hF)) | (refine w_fldB rfl rfl ?_) | (refine w_fld rfl hF rfl ?_) | (refine w_ix rfl hF rfl rfl ?_) | (refine w_lde1 rfl hF rfl ?_) | (refine w_lde rfl hF rfl ?_) | (refine w_bs1 rfl hF rfl ?_; clear hF; intro gN wN hF) | (refine w_bs0 rfl hF ?_; clear hF; intro gN wN hF) | (refine w_app rfl hF rfl rfl ?_; clear hF; intro vN wN hF; (try simp only [List.set_cons_zero, List.set_cons_succ, List.eraseIdx_cons_zero, List.eraseIdx_cons_succ] at hF)) | (refine w_appD rfl hF rfl rfl ?_; clear hF; intro vN wN hF; (try simp only [List.set_cons_zero, List.set_cons_succ, List.eraseIdx_cons_zero, List.eraseIdx_cons_succ] at hF)) | (refine w_ld1o rfl hF rfl ?_) | (refine w_st1o rfl hF rfl rfl ?_; clear hF; intro wN hF; (try simp only [List.set_cons_zero, List.set_cons_succ, List.eraseIdx_cons_zero, List.eraseIdx_cons_succ] at hF)) | (refine w_make0 rfl hF rfl rfl ?_; clear hF; intro gN wN hF) | (refine w_to rfl hF rfl rfl ?_; clear hF; intro hF) | (refine w_from rfl hF rfl rfl ?_; clear hF; intro hF)); (try simp only [Act.put, List.setIfInBounds_toArray, List.set_cons_zero, List.set_cons_succ, Nat.zero_add, Nat.zero_mul, Nat.reduceAdd])))
        go_roundw
        case rel => exact ⟨j + 1, l, by omega, by go_num, by omega, by rw [hst]; exact hl, by rw [hst]; exact hF.drop 0⟩
        case measure => first | (simp [intOf]; done) | (simp [intOf]; omega)
      · rw [if_neg hul] at hst
        have hub : ¬ ((u.line : Int) = (v.line : Int)) := by omega
        clear hul
        go_wp2_with (first | ((first | (refine w_box rfl hF rfl ?_; clear hF; intro gN wN hF) | (refine w_alloc rfl hF ?_; clear hF; intro gN wN hF) | (refine w_ld1 rfl hF rfl ?_) | (refine w_ld rfl hF rfl ?_) | (refine w_st1 rfl hF rfl rfl ?_; clear hF; intro wN hF; (try simp only [List.set_cons_zero, List.set_cons_succ, List.eraseIdx_cons_zero, List.eraseIdx_cons_succ] at hF)) | (refine w_st rfl hF rfl rfl ?_; clear hF; intro wN hF; (try simp only [List.set_cons_zero, List.set_cons_succ, List.eraseIdx_cons_zero, List.eraseIdx_cons_succ] at hF)) | (refine w_fldB rfl rfl ?_) | (refine w_fld rfl hF rfl ?_) | (refine w_ix rfl hF rfl rfl ?_) | (refine w_lde1 rfl hF rfl ?_) | (refine w_lde rfl hF rfl ?_) | (refine w_bs1 rfl hF rfl ?_; clear hF; intro gN wN hF) | (refine w_bs0 rfl hF ?_; clear hF; intro gN wN hF) | (refine w_app rfl hF rfl rfl ?_; clear hF; intro vN wN hF; (try simp only [List.set_cons_zero, List.set_cons_succ, List.eraseIdx_cons_zero, List.eraseIdx_cons_succ] at hF)) | (refine w_appD rfl hF rfl rfl ?_; clear hF; intro vN wN hF; (try simp only [List.set_cons_zero, List.set_cons_succ, List.eraseIdx_cons_zero, List.eraseIdx_cons_succ] at hF)) | (refine w_ld1o rfl hF rfl ?_) | (refine w_st1o rfl hF rfl rfl ?_; clear hF; intro wN hF; (try simp only [List.set_cons_zero, List.set_cons_succ, List.eraseIdx_cons_zero, List.eraseIdx_cons_succ] at hF)) | (refine w_make0 rfl hF rfl rfl ?_; clear hF; intro gN wN hF) | (refine w_to rfl hF rfl rfl ?_; clear hF; intro hF) | (refine w_from rfl hF rfl rfl ?_; clear hF; intro hF)); (try simp only [Act.put, List.setIfInBounds_toArray, List.set_cons_zero, List.set_cons_succ, Nat.zero_add, Nat.zero_mul, Nat.reduceAdd])))
        go_roundw
        case rel => exact ⟨j + 1, l + 1, by omega, by go_num, by omega, by rw [hst, List.length_append, hl]; rfl, by rw [hst, wys_append]; exact hF.drop 0⟩
        case measure => first | (simp [intOf]; done) | (simp [intOf]; omega)
    · obtain rfl : j = m := by omega
      rw [List.take_of_length_le (by omega)] at hF hl
      obtain ⟨A2, c2, rfl, hF⟩ := hF.freeze 0 at0
      (try simp only [List.set_cons_zero, List.set_cons_succ, List.eraseIdx_cons_zero, List.eraseIdx_cons_succ] at hF)
      go_wp2_with (first | (go_at_call 70; refine (refWithSet_st ways A n c S k _ _ _ (firstL sws v) _ (rds_of (hF.dat _ (by ((repeat (first | exact List.Mem.head _ | refine List.Mem.tail _ ?_)) <;> exact List.Mem.head _))) (hF.dat _ (by ((repeat (first | exact List.Mem.head _ | refine List.Mem.tail _ ?_)) <;> exact List.Mem.head _)))) hn hk (hF.dat _ (by ((repeat (first | exact List.Mem.head _ | refine List.Mem.tail _ ?_)) <;> exact List.Mem.head _)))).mono ?_; rintro e wN ⟨A', c', rfl, hO⟩; replace hF := hF.call1A hO; clear hO) | ((first | (refine w_box rfl hF rfl ?_; clear hF; intro gN wN hF) | (refine w_alloc rfl hF ?_; clear hF; intro gN wN hF) | (refine w_ld1 rfl hF rfl ?_) | (refine w_ld rfl hF rfl ?_) | (refine w_st1 rfl hF rfl rfl ?_; clear hF; intro wN hF; (try simp only [List.set_cons_zero, List.set_cons_succ, List.eraseIdx_cons_zero, List.eraseIdx_cons_succ] at hF)) | (refine w_st rfl hF rfl rfl ?_; clear hF; intro wN hF; (try simp only [List.set_cons_zero, List.set_cons_succ, List.eraseIdx_cons_zero, List.eraseIdx_cons_succ] at hF)) | (refine w_fldB rfl rfl ?_) | (refine w_fld rfl hF rfl ?_) | (refine w_ix rfl hF rfl rfl ?_) | (refine w_lde1 rfl hF rfl ?_) | (refine w_lde rfl hF rfl ?_) | (refine w_bs1 rfl hF rfl ?_; clear hF; intro gN wN hF) | (refine w_bs0 rfl hF ?_; clear hF; intro gN wN hF) | (refine w_app rfl hF rfl rfl ?_; clear hF; intro vN wN hF; (try simp only [List.set_cons_zero, List.set_cons_succ, List.eraseIdx_cons_zero, List.eraseIdx_cons_succ] at hF)) | (refine w_appD rfl hF rfl rfl ?_; clear hF; intro vN wN hF; (try simp only [List.set_cons_zero, List.set_cons_succ, List.eraseIdx_cons_zero, List.eraseIdx_cons_succ] at hF)) | (refine w_ld1o rfl hF rfl ?_) | (refine w_st1o rfl hF rfl rfl ?_; clear hF; intro wN hF; (try simp only [List.set_cons_zero, List.set_cons_succ, List.eraseIdx_cons_zero, List.eraseIdx_cons_succ] at hF)) | (refine w_make0 rfl hF rfl rfl ?_; clear hF; intro gN wN hF) | (refine w_to rfl hF rfl rfl ?_; clear hF; intro hF) | (refine w_from rfl hF rfl rfl ?_; clear hF; intro hF)); (try simp only [Act.put, List.setIfInBounds_toArray, List.set_cons_zero, List.set_cons_succ, Nat.zero_add, Nat.zero_mul, Nat.reduceAdd])))
      ((try simp only [Exit.inBlock, Exit.then]); refine bodyPost_ret (w_resc rfl hF) rfl ?_)
      exact ⟨_, rfl, A', n, c', _, rfl, (hF.elemSet (by ((repeat (first | exact List.Mem.head _ | refine List.Mem.tail _ ?_)) <;> exact List.Mem.head _)) k (by ((repeat (first | exact List.Mem.head _ | refine List.Mem.tail _ ?_)) <;> exact List.Mem.head _))).out (by ((repeat (first | exact subn_nil | refine subn_cons (by ((repeat (first | exact List.Mem.head _ | refine List.Mem.tail _ ?_)) <;> exact List.Mem.head _)) ?_)) <;> exact subn_nil)), cont_set _ _ _⟩
end Go.Proofs.Ytcahadkkjfijfaa

/- The document's Touch. -/
set_option linter.unusedVariables false
set_option linter.unusedSimpArgs false
set_option maxRecDepth 100000
namespace Go.Proofs.Ytcahadkkjfijfaa
open Go.RowKit Go.Sort

set_option maxHeartbeats 4000000 in
/-- a line that is not there -/
theorem refTouch_same (ways : Int) (A : Option Addr) (n c x : Nat) (S : List Cs) (k at' : Nat) (w : World) (hr : RdS w w.heap.size A n c S)
    (HF : Hid (∀ W, RdS W W.heap.size A n c S → Calls Try.prog 34 #[.agg #[.int .i64 ways, .slice A n c], .int .u32 (x : Int)] W fun e w' => e = .returned (.tuple #[.int .i64 (k : Int), .int .i64 (at' : Int), .bool false]) ∧ Bel W w')) :
    Calls Try.prog 32 #[.agg #[.int .i64 ways, .slice A n c], .int .u32 (x : Int)] w fun e w' => e = .returned (.agg #[.int .i64 ways, .slice A n c]) ∧ Bel w w' := by
  have hF := St.start w _ (cacheD_ok hr)
  unfold cacheD at hF
  go_enter Try.func32, Try.ntmps32
  go_wp2_with (first | (go_at_call 34; refine (HF.out _ (rds_of (hF.dat _ (by ((repeat (first | exact List.Mem.head _ | refine List.Mem.tail _ ?_)) <;> exact List.Mem.head _))) (hF.dat _ (by ((repeat (first | exact List.Mem.head _ | refine List.Mem.tail _ ?_)) <;> exact List.Mem.head _))))).mono ?_; rintro e wN ⟨rfl, hb⟩; replace hF := hF.grow hb; clear hb) | ((first | (refine w_box rfl hF rfl ?_; clear hF; intro gN wN hF) | (refine w_alloc rfl hF ?_; clear hF; intro gN wN hF) | (refine w_ld1 rfl hF rfl ?_) | (refine w_ld rfl hF rfl ?_) | (refine w_st1 rfl hF rfl rfl ?_; clear hF; intro wN hF; (try simp only [List.set_cons_zero, List.set_cons_succ, List.eraseIdx_cons_zero, List.eraseIdx_cons_succ] at hF)) | (refine w_st rfl hF rfl rfl ?_; clear hF; intro wN hF; (try simp only [List.set_cons_zero, List.set_cons_succ, List.eraseIdx_cons_zero, List.eraseIdx_cons_succ] at hF)) | (refine w_fldB rfl rfl ?_) | (refine w_fld rfl hF rfl ?_) | (refine w_ix rfl hF rfl rfl ?_) | (refine w_lde1 rfl hF rfl ?_) | (refine w_lde rfl hF rfl ?_) | (refine w_bs1 rfl hF rfl ?_; clear hF; intro gN wN hF) | (refine w_bs0 rfl hF ?_; clear hF; intro gN wN hF) | (refine w_app rfl hF rfl rfl ?_; clear hF; intro vN wN hF; (try simp only [List.set_cons_zero, List.set_cons_succ, List.eraseIdx_cons_zero, List.eraseIdx_cons_succ] at hF)) | (refine w_appD rfl hF rfl rfl ?_; clear hF; intro vN wN hF; (try simp only [List.set_cons_zero, List.set_cons_succ, List.eraseIdx_cons_zero, List.eraseIdx_cons_succ] at hF)) | (refine w_ld1o rfl hF rfl ?_) | (refine w_st1o rfl hF rfl rfl ?_; clear hF; intro wN hF; (try simp only [List.set_cons_zero, List.set_cons_succ, List.eraseIdx_cons_zero, List.eraseIdx_cons_succ] at hF)) | (refine w_make0 rfl hF rfl rfl ?_; clear hF; intro gN wN hF) | (refine w_to rfl hF rfl rfl ?_; clear hF; intro hF) | (refine w_from rfl hF rfl rfl ?_; clear hF; intro hF)); (try simp only [Act.put, List.setIfInBounds_toArray, List.set_cons_zero, List.set_cons_succ, Nat.zero_add, Nat.zero_mul, Nat.reduceAdd])))
  ((try simp only [Exit.inBlock, Exit.then]); refine bodyPost_ret (w_resc rfl hF) rfl ?_)
  exact ⟨rfl, hF.bel⟩
set_option maxHeartbeats 4000000 in
theorem refTouch_yes (ways : Int) (A : Option Addr) (n c x : Nat) (S : List Cs) (k at' : Nat) (v : Wy) (C : List (List Wy)) (w : World) (hr : RdS w w.heap.size A n c S)
    (HF : Hid (∀ W, RdS W W.heap.size A n c S → Calls Try.prog 34 #[.agg #[.int .i64 ways, .slice A n c], .int .u32 (x : Int)] W fun e w' => e = .returned (.tuple #[.int .i64 (k : Int), .int .i64 (at' : Int), .bool true]) ∧ Bel W w'))
    (HG : Hid (∀ W, RdS W W.heap.size A n c S → Calls Try.prog 47 #[.agg #[.int .i64 ways, .slice A n c], .int .u32 (x : Int)] W fun e w' => e = .returned v.val ∧ Bel W w'))
    (HFi : Hid (∀ W, RdS W W.heap.size A n c S → Calls Try.prog 69 #[.agg #[.int .i64 ways, .slice A n c], v.val] W fun e w' => ∃ x, e = .returned x ∧ CRes W (cacheD A n c S) ways x w' C)) :
    Calls Try.prog 32 #[.agg #[.int .i64 ways, .slice A n c], .int .u32 (x : Int)] w fun e w' => ∃ x, e = .returned x ∧ CRes w (cacheD A n c S) ways x w' C := by
  have hF := St.start w _ (cacheD_ok hr)
  unfold cacheD at hF
  go_enter Try.func32, Try.ntmps32
  go_wp2_with (first | (go_at_call 34; refine (HF.out _ (rds_of (hF.dat _ (by ((repeat (first | exact List.Mem.head _ | refine List.Mem.tail _ ?_)) <;> exact List.Mem.head _))) (hF.dat _ (by ((repeat (first | exact List.Mem.head _ | refine List.Mem.tail _ ?_)) <;> exact List.Mem.head _))))).mono ?_; rintro e wN ⟨rfl, hb⟩; replace hF := hF.grow hb; clear hb) | ((first | (refine w_box rfl hF rfl ?_; clear hF; intro gN wN hF) | (refine w_alloc rfl hF ?_; clear hF; intro gN wN hF) | (refine w_ld1 rfl hF rfl ?_) | (refine w_ld rfl hF rfl ?_) | (refine w_st1 rfl hF rfl rfl ?_; clear hF; intro wN hF; (try simp only [List.set_cons_zero, List.set_cons_succ, List.eraseIdx_cons_zero, List.eraseIdx_cons_succ] at hF)) | (refine w_st rfl hF rfl rfl ?_; clear hF; intro wN hF; (try simp only [List.set_cons_zero, List.set_cons_succ, List.eraseIdx_cons_zero, List.eraseIdx_cons_succ] at hF)) | (refine w_fldB rfl rfl ?_) | (refine w_fld rfl hF rfl ?_) | (refine w_ix rfl hF rfl rfl ?_) | (refine w_lde1 rfl hF rfl ?_) | (refine w_lde rfl hF rfl ?_) | (refine w_bs1 rfl hF rfl ?_; clear hF; intro gN wN hF) | (refine w_bs0 rfl hF ?_; clear hF; intro gN wN hF) | (refine w_app rfl hF rfl rfl ?_; clear hF; intro vN wN hF; (try simp only [List.set_cons_zero, List.set_cons_succ, List.eraseIdx_cons_zero, List.eraseIdx_cons_succ] at hF)) | (refine w_appD rfl hF rfl rfl ?_; clear hF; intro vN wN hF; (try simp only [List.set_cons_zero, List.set_cons_succ, List.eraseIdx_cons_zero, List.eraseIdx_cons_succ] at hF)) | (refine w_ld1o rfl hF rfl ?_) | (refine w_st1o rfl hF rfl rfl ?_; clear hF; intro wN hF; (try simp only [List.set_cons_zero, List.set_cons_succ, List.eraseIdx_cons_zero, List.eraseIdx_cons_succ] at hF)) | (refine w_make0 rfl hF rfl rfl ?_; clear hF; intro gN wN hF) | (refine w_to rfl hF rfl rfl ?_; clear hF; intro hF) | (refine w_from rfl hF rfl rfl ?_; clear hF; intro hF)); (try simp only [Act.put, List.setIfInBounds_toArray, List.set_cons_zero, List.set_cons_succ, Nat.zero_add, Nat.zero_mul, Nat.reduceAdd])))
  refine wp_region_st (by kernel_rfl) hF [.blk _ 36 [.int .i64 ways, .slice A n c]] [rowD 1 A n c (csv S), elemsD S] (by ((repeat (first | exact subn_nil | refine subn_cons (by ((repeat (first | exact List.Mem.head _ | refine List.Mem.tail _ ?_)) <;> exact List.Mem.head _)) ?_)) <;> exact subn_nil)) (by ((repeat (first | exact subn_nil | refine subn_cons (by ((repeat (first | exact List.Mem.head _ | refine List.Mem.tail _ ?_)) <;> exact List.Mem.head _)) ?_)) <;> exact subn_nil)) ?_
  clear hF; intro hF hH
  (first | refine w_take (i := 0) rfl (y_ld1 rfl rfl) hH ?_ | refine w_take (i := 0) rfl (y_ld rfl rfl) hH ?_ | refine w_take (i := 0) rfl (y_lde1 rfl rfl) hH ?_ | refine w_take (i := 0) rfl (y_lde rfl rfl) hH ?_); (try simp only [Act.put, List.setIfInBounds_toArray, List.set_cons_zero, List.set_cons_succ, Nat.zero_add, Nat.zero_mul, Nat.reduceAdd])
  (first | refine w_take (i := 1) rfl (y_ld1 rfl rfl) hH ?_ | refine w_take (i := 1) rfl (y_ld rfl rfl) hH ?_ | refine w_take (i := 1) rfl (y_lde1 rfl rfl) hH ?_ | refine w_take (i := 1) rfl (y_lde rfl rfl) hH ?_); (try simp only [Act.put, List.setIfInBounds_toArray, List.set_cons_zero, List.set_cons_succ, Nat.zero_add, Nat.zero_mul, Nat.reduceAdd])
  (refine w_take (i := 2) rfl (y_move rfl rfl) hH ?_); (try simp only [Act.put, List.setIfInBounds_toArray, List.set_cons_zero, List.set_cons_succ, Nat.zero_add, Nat.zero_mul, Nat.reduceAdd])
  refine wpAnyH_ready (rs := [3]) (by kernel_rfl) (by simp) (ready_cons rfl (fun K hK => ?_) AllReadyH.nil)
  go_wp2_with (first | (go_at_call 47; refine (HG.out _ (rds_of (hF.dat _ (by ((repeat (first | exact List.Mem.head _ | refine List.Mem.tail _ ?_)) <;> exact List.Mem.head _))) (hF.dat _ (by ((repeat (first | exact List.Mem.head _ | refine List.Mem.tail _ ?_)) <;> exact List.Mem.head _))))).mono ?_; rintro e wN ⟨rfl, hb⟩; replace hF := hF.grow hb; clear hb) | (go_at_call 69; refine (HFi.out _ (rds_of (hF.dat _ (by ((repeat (first | exact List.Mem.head _ | refine List.Mem.tail _ ?_)) <;> exact List.Mem.head _))) (hF.dat _ (by ((repeat (first | exact List.Mem.head _ | refine List.Mem.tail _ ?_)) <;> exact List.Mem.head _))))).mono ?_; rintro e wN ⟨_, rfl, A', n', c', S', rfl, hO, hC⟩; replace hF := hF.callA hO; clear hO))
  have hH := hH.nextA hF; refine hK.out _ _ hH ?_; clear hK; (try simp only [Act.put, List.setIfInBounds_toArray, List.set_cons_zero, List.set_cons_succ, Nat.zero_add, Nat.zero_mul, Nat.reduceAdd])
  refine wpAnyH_ready (rs := [4]) (by kernel_rfl) (by simp) (ready_cons rfl (fun K hK => ?_) AllReadyH.nil)
  go_wp2_with (first | (go_at_call 47; refine (HG.out _ (rds_of (hF.dat _ (by ((repeat (first | exact List.Mem.head _ | refine List.Mem.tail _ ?_)) <;> exact List.Mem.head _))) (hF.dat _ (by ((repeat (first | exact List.Mem.head _ | refine List.Mem.tail _ ?_)) <;> exact List.Mem.head _))))).mono ?_; rintro e wN ⟨rfl, hb⟩; replace hF := hF.grow hb; clear hb) | (go_at_call 69; refine (HFi.out _ (rds_of (hF.dat _ (by ((repeat (first | exact List.Mem.head _ | refine List.Mem.tail _ ?_)) <;> exact List.Mem.head _))) (hF.dat _ (by ((repeat (first | exact List.Mem.head _ | refine List.Mem.tail _ ?_)) <;> exact List.Mem.head _))))).mono ?_; rintro e wN ⟨_, rfl, A', n', c', S', rfl, hO, hC⟩; replace hF := hF.callA hO; clear hO))
  have hH := hH.nextA hF; refine hK.out _ _ hH ?_; clear hK; (try simp only [Act.put, List.setIfInBounds_toArray, List.set_cons_zero, List.set_cons_succ, Nat.zero_add, Nat.zero_mul, Nat.reduceAdd])
  refine wpAnyH_ready (rs := [5]) (by kernel_rfl) (by simp) (ready_cons rfl (fun K hK => ?_) AllReadyH.nil)
  go_wp2_with ((first | (refine w_st1 rfl hF rfl rfl ?_; clear hF; intro wN hF; (try simp only [List.set_cons_zero, List.set_cons_succ, List.eraseIdx_cons_zero, List.eraseIdx_cons_succ] at hF)) | (refine w_st rfl hF rfl rfl ?_; clear hF; intro wN hF; (try simp only [List.set_cons_zero, List.set_cons_succ, List.eraseIdx_cons_zero, List.eraseIdx_cons_succ] at hF)) | (refine w_st1o rfl hF rfl rfl ?_; clear hF; intro wN hF; (try simp only [List.set_cons_zero, List.set_cons_succ, List.eraseIdx_cons_zero, List.eraseIdx_cons_succ] at hF))); (try simp only [Act.put, List.setIfInBounds_toArray, List.set_cons_zero, List.set_cons_succ, Nat.zero_add, Nat.zero_mul, Nat.reduceAdd]))
  have hH := hH.nextA hF; refine hK.out _ _ hH ?_; clear hK; (try simp only [Act.put, List.setIfInBounds_toArray, List.set_cons_zero, List.set_cons_succ, Nat.zero_add, Nat.zero_mul, Nat.reduceAdd])
  refine wpAnyH_done (by kernel_rfl) ?_ _
  go_wp2_with (first | ((first | (refine w_box rfl hF rfl ?_; clear hF; intro gN wN hF) | (refine w_alloc rfl hF ?_; clear hF; intro gN wN hF) | (refine w_ld1 rfl hF rfl ?_) | (refine w_ld rfl hF rfl ?_) | (refine w_st1 rfl hF rfl rfl ?_; clear hF; intro wN hF; (try simp only [List.set_cons_zero, List.set_cons_succ, List.eraseIdx_cons_zero, List.eraseIdx_cons_succ] at hF)) | (refine w_st rfl hF rfl rfl ?_; clear hF; intro wN hF; (try simp only [List.set_cons_zero, List.set_cons_succ, List.eraseIdx_cons_zero, List.eraseIdx_cons_succ] at hF)) | (refine w_fldB rfl rfl ?_) | (refine w_fld rfl hF rfl ?_) | (refine w_ix rfl hF rfl rfl ?_) | (refine w_lde1 rfl hF rfl ?_) | (refine w_lde rfl hF rfl ?_) | (refine w_bs1 rfl hF rfl ?_; clear hF; intro gN wN hF) | (refine w_bs0 rfl hF ?_; clear hF; intro gN wN hF) | (refine w_app rfl hF rfl rfl ?_; clear hF; intro vN wN hF; (try simp only [List.set_cons_zero, List.set_cons_succ, List.eraseIdx_cons_zero, List.eraseIdx_cons_succ] at hF)) | (refine w_appD rfl hF rfl rfl ?_; clear hF; intro vN wN hF; (try simp only [List.set_cons_zero, List.set_cons_succ, List.eraseIdx_cons_zero, List.eraseIdx_cons_succ] at hF)) | (refine w_ld1o rfl hF rfl ?_) | (refine w_st1o rfl hF rfl rfl ?_; clear hF; intro wN hF; (try simp only [List.set_cons_zero, List.set_cons_succ, List.eraseIdx_cons_zero, List.eraseIdx_cons_succ] at hF)) | (refine w_make0 rfl hF rfl rfl ?_; clear hF; intro gN wN hF) | (refine w_to rfl hF rfl rfl ?_; clear hF; intro hF) | (refine w_from rfl hF rfl rfl ?_; clear hF; intro hF)); (try simp only [Act.put, List.setIfInBounds_toArray, List.set_cons_zero, List.set_cons_succ, Nat.zero_add, Nat.zero_mul, Nat.reduceAdd])))
  ((try simp only [Exit.inBlock, Exit.then]); refine bodyPost_ret (w_resc rfl hF) rfl ?_)
  exact ⟨_, rfl, A', n', c', S', rfl, hF.out (by ((repeat (first | exact subn_nil | refine subn_cons (by ((repeat (first | exact List.Mem.head _ | refine List.Mem.tail _ ?_)) <;> exact List.Mem.head _)) ?_)) <;> exact subn_nil)), hC⟩
end Go.Proofs.Ytcahadkkjfijfaa

/- The cache package: front and with, over St; Touch. -/
set_option linter.unusedVariables false
set_option linter.unusedSimpArgs false
set_option maxRecDepth 100000
namespace Go.Proofs.Ytcahadkkjfijfaa
open Go.RowKit Go.Sort

set_option maxHeartbeats 4000000 in
theorem front_own (A : Option Addr) (n c : Nat) (q : List Wy) (i : Nat) (v : Wy) (w : World) (hr : Rd w w.heap.size 3 A n c (wys q)) (hn : n ≤ 1000) (hv : q[i]? = some v) :
    Calls Try.prog 65 #[.slice A n c, .int .i64 (i : Int)] w fun e w' => ∃ x, e = .returned x ∧ Bel w w' ∧ w'.ownsRow w.heap.size 49 3 x n (wys (frontL q i v)) := by
  have hin : i < n := by have := (List.getElem?_eq_some_iff.1 hv).1; rw [hr.wyslen] at this; exact this
  have hF := St.start w [rowD 3 A n c (wys q)] (by intro d hd; obtain rfl := List.mem_singleton.1 hd; exact hr)
  have hc1 := hr.le
  have hc2 := hr.mx
  unfold maxLen at hc2
  have hin' : i ≤ n := by omega
  have hin2 : i + 1 ≤ n := by omega
  go_enter Try.func65, Try.ntmps65
  go_wp2_with (first | ((first | (refine w_box rfl hF rfl ?_; clear hF; intro gN wN hF) | (refine w_alloc rfl hF ?_; clear hF; intro gN wN hF) | (refine w_ld1 rfl hF rfl ?_) | (refine w_ld rfl hF rfl ?_) | (refine w_st1 rfl hF rfl rfl ?_; clear hF; intro wN hF; (try simp only [List.set_cons_zero, List.set_cons_succ, List.eraseIdx_cons_zero, List.eraseIdx_cons_succ] at hF)) | (refine w_st rfl hF rfl rfl ?_; clear hF; intro wN hF; (try simp only [List.set_cons_zero, List.set_cons_succ, List.eraseIdx_cons_zero, List.eraseIdx_cons_succ] at hF)) | (refine w_fldB rfl rfl ?_) | (refine w_fld rfl hF rfl ?_) | (refine w_ix rfl hF rfl rfl ?_) | (refine w_lde1 rfl hF rfl ?_) | (refine w_lde rfl hF rfl ?_) | (refine w_bs1 rfl hF rfl ?_; clear hF; intro gN wN hF) | (refine w_bs0 rfl hF ?_; clear hF; intro gN wN hF) | (refine w_app rfl hF rfl rfl ?_; clear hF; intro vN wN hF; (try simp only [List.set_cons_zero, List.set_cons_succ, List.eraseIdx_cons_zero, List.eraseIdx_cons_succ] at hF)) | (refine w_appD rfl hF rfl rfl ?_; clear hF; intro vN wN hF; (try simp only [List.set_cons_zero, List.set_cons_succ, List.eraseIdx_cons_zero, List.eraseIdx_cons_succ] at hF)) | (refine w_ld1o rfl hF rfl ?_) | (refine w_st1o rfl hF rfl rfl ?_; clear hF; intro wN hF; (try simp only [List.set_cons_zero, List.set_cons_succ, List.eraseIdx_cons_zero, List.eraseIdx_cons_succ] at hF)) | (refine w_make0 rfl hF rfl rfl ?_; clear hF; intro gN wN hF) | (refine w_to rfl hF rfl rfl ?_; clear hF; intro hF) | (refine w_from rfl hF rfl rfl ?_; clear hF; intro hF)); (try simp only [Act.put, List.setIfInBounds_toArray, List.set_cons_zero, List.set_cons_succ, Nat.zero_add, Nat.zero_mul, Nat.reduceAdd])))
  go_ret
  have ho := hF.ownAt at0
  rw [wys_take, wys_drop, show 0 + 1 + i + (n - (i + 1)) = n by omega] at ho
  refine ⟨_, rfl, hF.bel, ?_⟩
  have e : [] ++ v.cells ++ wys (q.take i) ++ wys (q.drop (i + 1)) = wys (frontL q i v) := by simp [frontL, wys]
  rw [e] at ho
  exact ho
set_option maxHeartbeats 4000000 in
theorem with_st (ways : Int) (A : Option Addr) (n c : Nat) (S : List Cs) (k : Nat) (A2 : Option Addr) (n2 c2 : Nat) (q2 : List Wy) (w : World) (hr : RdS w w.heap.size A n c S) (hn : n ≤ 1000) (hk : k < n) (h2 : Rd w w.heap.size 3 A2 n2 c2 (wys q2)) :
    Calls Try.prog 66 #[.agg #[.int .i64 ways, .slice A n c], .int .i64 (k : Int), .slice A2 n2 c2] w fun e w' => ∃ x, e = .returned x ∧ CRes w [rowD 1 A n c (csv S), elemsD S, rowD 3 A2 n2 c2 (wys q2)] ways x w' ((cont S).set k q2) := by
  have hF := St.start w _ (cache3_ok hr h2)
  have hc1 := hr.rd.le
  have hc2 := hr.rd.mx
  unfold maxLen at hc2
  have hsl := hr.slen
  have hl1 : k * 1 < (csv S).length := by rw [csv_len]; omega
  go_enter Try.func66, Try.ntmps66
  go_wp2_with (first | (refine st_make rfl rfl hF (by (first | exact tySl_33 | exact tySl_34 | exact tySl_37 | exact tySl_62 | exact tySl_65 | exact tySl_66 | exact tySl_99)) rfl rfl n rfl rfl (by omega) (by unfold maxLen; omega) rfl ?_; clear hF; intro gN wN hF) | (refine st_copy rfl rfl hF (by (first | exact tySl_33 | exact tySl_34 | exact tySl_37 | exact tySl_62 | exact tySl_65 | exact tySl_66 | exact tySl_99)) rfl rfl (by ((repeat (first | exact List.Mem.head _ | refine List.Mem.tail _ ?_)) <;> exact List.Mem.head _)) (by (first | exact at0 | exact at1 | exact at2 | exact at3 | exact at4 | exact at5 | exact at6 | exact at7)) (by first | exact rfl | (simp [madeCells]; done) | (simp [madeCells, wys_len]; omega)) (by (first | ((repeat (first | exact one_nil | refine one_cons (by (first | rfl | exact hF.ownOne at0 | exact hF.ownOne at1 | exact hF.ownOne at2 | exact hF.ownOne at3 | exact hF.ownOne at4)) ?_)) <;> exact one_nil) | exact Wy.one _ | (first | exact wys_one _ | exact csv_one _ | exact pus_one _ | exact rqs_one _ | exact byteCells_one _ | assumption) | exact take_one (by (first | exact wys_one _ | exact csv_one _ | exact pus_one _ | exact rqs_one _ | exact byteCells_one _ | assumption)) _ | exact drop_one (by (first | exact wys_one _ | exact csv_one _ | exact pus_one _ | exact rqs_one _ | exact byteCells_one _ | assumption)) _)) rfl ?_; clear hF; intro wN hF; (try simp only [List.set_cons_zero, List.set_cons_succ, List.eraseIdx_cons_zero, List.eraseIdx_cons_succ] at hF)) | (refine w_ixB rfl rfl rfl ?_) | ((first | (refine w_box rfl hF rfl ?_; clear hF; intro gN wN hF) | (refine w_alloc rfl hF ?_; clear hF; intro gN wN hF) | (refine w_ld1 rfl hF rfl ?_) | (refine w_ld rfl hF rfl ?_) | (refine w_st1 rfl hF rfl rfl ?_; clear hF; intro wN hF; (try simp only [List.set_cons_zero, List.set_cons_succ, List.eraseIdx_cons_zero, List.eraseIdx_cons_succ] at hF)) | (refine w_st rfl hF rfl rfl ?_; clear hF; intro wN hF; (try simp only [List.set_cons_zero, List.set_cons_succ, List.eraseIdx_cons_zero, List.eraseIdx_cons_succ] at hF)) | (refine w_fldB rfl rfl ?_) | (refine w_fld rfl hF rfl ?_) | (refine w_ix rfl hF rfl rfl ?_) | (refine w_lde1 rfl hF rfl ?_) | (refine w_lde rfl hF rfl ?_) | (refine w_bs1 rfl hF rfl ?_; clear hF; intro gN wN hF) | (refine w_bs0 rfl hF ?_; clear hF; intro gN wN hF) | (refine w_app rfl hF rfl rfl ?_; clear hF; intro vN wN hF; (try simp only [List.set_cons_zero, List.set_cons_succ, List.eraseIdx_cons_zero, List.eraseIdx_cons_succ] at hF)) | (refine w_appD rfl hF rfl rfl ?_; clear hF; intro vN wN hF; (try simp only [List.set_cons_zero, List.set_cons_succ, List.eraseIdx_cons_zero, List.eraseIdx_cons_succ] at hF)) | (refine w_ld1o rfl hF rfl ?_) | (refine w_st1o rfl hF rfl rfl ?_; clear hF; intro wN hF; (try simp only [List.set_cons_zero, List.set_cons_succ, List.eraseIdx_cons_zero, List.eraseIdx_cons_succ] at hF)) | (refine w_make0 rfl hF rfl rfl ?_; clear hF; intro gN wN hF) | (refine w_to rfl hF rfl rfl ?_; clear hF; intro hF) | (refine w_from rfl hF rfl rfl ?_; clear hF; intro hF)); (try simp only [Act.put, List.setIfInBounds_toArray, List.set_cons_zero, List.set_cons_succ, Nat.zero_add, Nat.zero_mul, Nat.reduceAdd])))
  have hF := hF.freezeB 0 at0 1 n n (by simp [csv_len, hsl]) (Nat.le_refl _) (by unfold maxLen; omega)
  (try simp only [List.set_cons_zero, List.set_cons_succ, List.eraseIdx_cons_zero, List.eraseIdx_cons_succ] at hF)
  rw [Nat.mul_one, show Value.slice A2 n2 c2 = (Cs.mk A2 n2 c2 q2).val from rfl, csv_set] at hF
  have hF := hF.elemSet (by ((repeat (first | exact List.Mem.head _ | refine List.Mem.tail _ ?_)) <;> exact List.Mem.head _)) k (A2 := A2) (n2 := n2) (c2 := c2) (q2 := q2) (by ((repeat (first | exact List.Mem.head _ | refine List.Mem.tail _ ?_)) <;> exact List.Mem.head _))
  go_wp2_with (first | ((first | (refine w_box rfl hF rfl ?_; clear hF; intro gN wN hF) | (refine w_alloc rfl hF ?_; clear hF; intro gN wN hF) | (refine w_ld1 rfl hF rfl ?_) | (refine w_ld rfl hF rfl ?_) | (refine w_st1 rfl hF rfl rfl ?_; clear hF; intro wN hF; (try simp only [List.set_cons_zero, List.set_cons_succ, List.eraseIdx_cons_zero, List.eraseIdx_cons_succ] at hF)) | (refine w_st rfl hF rfl rfl ?_; clear hF; intro wN hF; (try simp only [List.set_cons_zero, List.set_cons_succ, List.eraseIdx_cons_zero, List.eraseIdx_cons_succ] at hF)) | (refine w_fldB rfl rfl ?_) | (refine w_fld rfl hF rfl ?_) | (refine w_ix rfl hF rfl rfl ?_) | (refine w_lde1 rfl hF rfl ?_) | (refine w_lde rfl hF rfl ?_) | (refine w_bs1 rfl hF rfl ?_; clear hF; intro gN wN hF) | (refine w_bs0 rfl hF ?_; clear hF; intro gN wN hF) | (refine w_app rfl hF rfl rfl ?_; clear hF; intro vN wN hF; (try simp only [List.set_cons_zero, List.set_cons_succ, List.eraseIdx_cons_zero, List.eraseIdx_cons_succ] at hF)) | (refine w_appD rfl hF rfl rfl ?_; clear hF; intro vN wN hF; (try simp only [List.set_cons_zero, List.set_cons_succ, List.eraseIdx_cons_zero, List.eraseIdx_cons_succ] at hF)) | (refine w_ld1o rfl hF rfl ?_) | (refine w_st1o rfl hF rfl rfl ?_; clear hF; intro wN hF; (try simp only [List.set_cons_zero, List.set_cons_succ, List.eraseIdx_cons_zero, List.eraseIdx_cons_succ] at hF)) | (refine w_make0 rfl hF rfl rfl ?_; clear hF; intro gN wN hF) | (refine w_to rfl hF rfl rfl ?_; clear hF; intro hF) | (refine w_from rfl hF rfl rfl ?_; clear hF; intro hF)); (try simp only [Act.put, List.setIfInBounds_toArray, List.set_cons_zero, List.set_cons_succ, Nat.zero_add, Nat.zero_mul, Nat.reduceAdd])))
  ((try simp only [Exit.inBlock, Exit.then]); refine bodyPost_ret (w_resc rfl hF) rfl ?_)
  exact ⟨_, rfl, _, _, _, _, rfl, hF.out (by ((repeat (first | exact subn_nil | refine subn_cons (by ((repeat (first | exact List.Mem.head _ | refine List.Mem.tail _ ?_)) <;> exact List.Mem.head _)) ?_)) <;> exact subn_nil)), cont_set _ _ _⟩
end Go.Proofs.Ytcahadkkjfijfaa

/- What the walks of the cache's functions have in common. -/
set_option linter.unusedVariables false
set_option linter.unusedSimpArgs false
set_option maxRecDepth 100000
namespace Go.Proofs.Ytcahadkkjfijfaa
open Go.RowKit Go.Sort

/-- what Find says, at any world where the cache stands -/
def FindC (f : FuncId) (ways : Int) (A : Option Addr) (n c x : Nat) (S : List Cs) (k at' : Nat) (b : Bool) : Prop :=
  ∀ W, RdS W W.heap.size A n c S → Calls Try.prog f #[.agg #[.int .i64 ways, .slice A n c], .int .u32 (x : Int)] W fun e w' => e = .returned (.tuple #[.int .i64 (k : Int), .int .i64 (at' : Int), .bool b]) ∧ Bel W w'
def RightC (f : FuncId) (ways : Int) (A : Option Addr) (n c : Nat) (S : List Cs) (b : Bool) : Prop :=
  ∀ W, RdS W W.heap.size A n c S → Calls Try.prog f #[.agg #[.int .i64 ways, .slice A n c]] W fun e w' => e = .returned (.bool b) ∧ Bel W w'
/-- the set of number k -/
theorem set_of {S : List Cs} {k : Nat} {ws : List Wy} (h : (cont S)[k]? = some ws) : ∃ sA m sc, S[k]? = some ⟨sA, m, sc, ws⟩ := by
  cases hs : S[k]? with
  | none => simp [cont, List.getElem?_map, hs] at h
  | some s =>
    obtain ⟨sA, m, sc, sws⟩ := s
    simp only [cont, List.getElem?_map, hs, Option.map_some, Option.some.injEq] at h
    exact ⟨sA, m, sc, by rw [h]⟩
theorem isEmpty_no {d : ByteArray} (h : d.size ≠ 0) : d.toList.isEmpty = false := by
  rw [ByteArray.toList_eq]
  obtain ⟨⟨l⟩⟩ := d
  cases l with
  | nil => exact absurd rfl h
  | cons a r => rfl
theorem isEmpty_yes {d : ByteArray} (h : d.size = 0) : d.toList.isEmpty = true := by
  rw [ByteArray.toList_eq]
  obtain ⟨⟨l⟩⟩ := d
  cases l with
  | nil => rfl
  | cons a r => exact absurd h (by simp [ByteArray.size])
def wayZ : Value := .agg #[.int .u32 0, .bool false, .string ⟨#[]⟩]
/-- the bytes that a line gets: all of them, or none -/
def trimD (data : ByteArray) : ByteArray := if data.size = 16 then data else ⟨#[]⟩
theorem frontL_last (q : List Wy) (v : Wy) : frontL (q ++ [v]) q.length v = v :: q := by
  simp [frontL]
def FirstC (ways : Int) (A : Option Addr) (n c : Nat) (S : List Cs) (v : Wy) (C : List (List Wy)) : Prop :=
  ∀ W, RdS W W.heap.size A n c S → Calls Try.prog 69 #[.agg #[.int .i64 ways, .slice A n c], v.val] W fun e w' => ∃ x, e = .returned x ∧ CRes W (cacheD A n c S) ways x w' C
def GetC (ways : Int) (A : Option Addr) (n c x : Nat) (S : List Cs) (v : Wy) : Prop :=
  ∀ W, RdS W W.heap.size A n c S → Calls Try.prog 47 #[.agg #[.int .i64 ways, .slice A n c], .int .u32 (x : Int)] W fun e w' => e = .returned v.val ∧ Bel W w'
end Go.Proofs.Ytcahadkkjfijfaa
