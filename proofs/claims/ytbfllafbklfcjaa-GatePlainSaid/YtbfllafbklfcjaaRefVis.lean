/- auspexref14.Visible: the document's walk. -/
import Derived.Test.YtbfllafbklfcjaaTLaw
set_option linter.unusedVariables false
set_option linter.unusedSimpArgs false
set_option maxRecDepth 100000
namespace Go.Proofs.Ytbfllafbklfcjaa
open Go.RowKit Go.Sort

theorem op_parts (op : Int) : (op < 1) ∨ (48 < op) ∨ op = 1 ∨ op = 2 ∨ op = 3 ∨ op = 4 ∨ op = 5 ∨ op = 6 ∨ op = 7 ∨ op = 8 ∨ op = 9 ∨ op = 10 ∨ op = 11 ∨ op = 12 ∨ op = 13 ∨ op = 14 ∨ op = 15 ∨ op = 16 ∨ op = 17 ∨ op = 18 ∨ op = 19 ∨ op = 20 ∨ op = 21 ∨ op = 22 ∨ op = 23 ∨ op = 24 ∨ op = 25 ∨ op = 26 ∨ op = 27 ∨ op = 28 ∨ op = 29 ∨ op = 30 ∨ op = 31 ∨ op = 32 ∨ op = 33 ∨ op = 34 ∨ op = 35 ∨ op = 36 ∨ op = 37 ∨ op = 38 ∨ op = 39 ∨ op = 40 ∨ op = 41 ∨ op = 42 ∨ op = 43 ∨ op = 44 ∨ op = 45 ∨ op = 46 ∨ op = 47 ∨ op = 48 := by omega
def formR (op : Int) : Int := if op < 1 ∨ 48 < op then 0 else if op ≤ 2 then 85 else if op = 3 then 74 else if op = 4 then 73 else if op ≤ 10 then 66 else if op ≤ 15 then 73 else if op ≤ 18 then 83 else if op ≤ 24 then 73 else if op ≤ 27 then 84 else if op ≤ 45 then 82 else 87
set_option maxHeartbeats 4000000 in
theorem refForm_any (op : Int) (w : World) :
    Calls Try.prog 35 #[.int .i64 op] w fun e w' => e = .returned (.int .u8 (formR op)) ∧ w' = w := by
  have hne : ∀ c : Int, op ≠ c → (op == c) = false := fun c h => by simpa using h
  rcases op_parts op with h | h | rfl | rfl | rfl | rfl | rfl | rfl | rfl | rfl | rfl | rfl | rfl | rfl | rfl | rfl | rfl | rfl | rfl | rfl | rfl | rfl | rfl | rfl | rfl | rfl | rfl | rfl | rfl | rfl | rfl | rfl | rfl | rfl | rfl | rfl | rfl | rfl | rfl | rfl | rfl | rfl | rfl | rfl | rfl | rfl | rfl | rfl | rfl | rfl
  · have hf : formR op = 0 := by unfold formR; rw [if_pos (.inl h)]
    rw [hf]
    clear hf
    have e1 := hne 1 (by omega)
    have e2 := hne 2 (by omega)
    have e3 := hne 3 (by omega)
    have e4 := hne 4 (by omega)
    have e5 := hne 5 (by omega)
    have e6 := hne 6 (by omega)
    have e7 := hne 7 (by omega)
    have e8 := hne 8 (by omega)
    have e9 := hne 9 (by omega)
    have e10 := hne 10 (by omega)
    have e16 := hne 16 (by omega)
    have e17 := hne 17 (by omega)
    have e18 := hne 18 (by omega)
    have e25 := hne 25 (by omega)
    have e26 := hne 26 (by omega)
    have e27 := hne 27 (by omega)
    have e46 := hne 46 (by omega)
    have e47 := hne 47 (by omega)
    have e48 := hne 48 (by omega)
    clear hne
    go_enter Try.func35, Try.ntmps35
    go_wp2
    go_ret
    exact ⟨rfl, rfl⟩
  · have hf : formR op = 0 := by unfold formR; rw [if_pos (.inr h)]
    rw [hf]
    clear hf
    have e1 := hne 1 (by omega)
    have e2 := hne 2 (by omega)
    have e3 := hne 3 (by omega)
    have e4 := hne 4 (by omega)
    have e5 := hne 5 (by omega)
    have e6 := hne 6 (by omega)
    have e7 := hne 7 (by omega)
    have e8 := hne 8 (by omega)
    have e9 := hne 9 (by omega)
    have e10 := hne 10 (by omega)
    have e16 := hne 16 (by omega)
    have e17 := hne 17 (by omega)
    have e18 := hne 18 (by omega)
    have e25 := hne 25 (by omega)
    have e26 := hne 26 (by omega)
    have e27 := hne 27 (by omega)
    have e46 := hne 46 (by omega)
    have e47 := hne 47 (by omega)
    have e48 := hne 48 (by omega)
    clear hne
    go_enter Try.func35, Try.ntmps35
    go_wp2
    go_ret
    exact ⟨rfl, rfl⟩
  all_goals
    clear hne
    go_enter Try.func35, Try.ntmps35
    go_wp2
    go_ret
    exact ⟨rfl, rfl⟩
set_option maxHeartbeats 4000000 in
theorem refKind_any (op : Int) (w : World) :
    Calls Try.prog 31 #[.int .i64 op] w fun e w' => e = .returned (.int .i64 (kindI op)) ∧ w' = w := by
  have hne : ∀ c : Int, op ≠ c → (op == c) = false := fun c h => by simpa using h
  have HF := Lib.hid (fun W => refForm_any op W)
  rcases op_parts op with h | h | rfl | rfl | rfl | rfl | rfl | rfl | rfl | rfl | rfl | rfl | rfl | rfl | rfl | rfl | rfl | rfl | rfl | rfl | rfl | rfl | rfl | rfl | rfl | rfl | rfl | rfl | rfl | rfl | rfl | rfl | rfl | rfl | rfl | rfl | rfl | rfl | rfl | rfl | rfl | rfl | rfl | rfl | rfl | rfl | rfl | rfl | rfl | rfl
  · have hf : formR op = 0 := by unfold formR; rw [if_pos (.inl h)]
    have hk : kindI op = 0 := by unfold kindI; repeat rw [if_neg (by omega)]
    rw [hf] at HF
    rw [hk]
    clear hf hk
    have e4 := hne 4 (by omega)
    have e47 := hne 47 (by omega)
    have e48 := hne 48 (by omega)
    clear hne
    go_enter Try.func31, Try.ntmps31
    go_wp2_with (go_at_call 35; refine (HF.out _).mono ?_; rintro x w1 ⟨rfl, rfl⟩)
    go_ret
    exact ⟨rfl, rfl⟩
  · have hf : formR op = 0 := by unfold formR; rw [if_pos (.inr h)]
    have hk : kindI op = 0 := by unfold kindI; repeat rw [if_neg (by omega)]
    rw [hf] at HF
    rw [hk]
    clear hf hk
    have e4 := hne 4 (by omega)
    have e47 := hne 47 (by omega)
    have e48 := hne 48 (by omega)
    clear hne
    go_enter Try.func31, Try.ntmps31
    go_wp2_with (go_at_call 35; refine (HF.out _).mono ?_; rintro x w1 ⟨rfl, rfl⟩)
    go_ret
    exact ⟨rfl, rfl⟩
  all_goals
    clear hne
    simp only [formR] at HF
    go_enter Try.func31, Try.ntmps31
    go_wp2_with (go_at_call 35; refine (HF.out _).mono ?_; rintro x w1 ⟨rfl, rfl⟩)
    go_ret
    exact ⟨rfl, rfl⟩
set_option maxHeartbeats 4000000 in
theorem refSafe_any (e : En) (w : World) :
    Calls Try.prog 28 #[e.val] w fun x w' => x = .returned (.bool (safeB e)) ∧ Bel w w' := by
  have HK := Lib.hid (fun W => refKind_any e.inst.op W)
  obtain ⟨b, hb⟩ : ∃ b, safeB e = b := ⟨_, rfl⟩
  rw [hb]
  unfold safeB at hb
  obtain ⟨no, pc, ⟨op, rd, rs1, rs2, imm⟩, guess, is, left, value, next, addr, halt, took, known, filled⟩ := e
  simp only at HK hb
  unfold En.val
  simp only
  by_cases h0 : halt = 0
  · rw [if_pos h0] at hb
    have b0 : (halt != 0) = false := by simp [h0]
    rcases kind_seven op with hk | hk | hk | hk | hk | hk | hk
    all_goals
      rw [hk] at HK hb
      clear hk h0
      cases known
      all_goals
        simp at hb
        subst hb
        go_enter Try.func28, Try.ntmps28
        go_wp2_with (go_at_call 31; refine (HK.out _).mono ?_; rintro x w1 ⟨rfl, rfl⟩)
        go_ret
        exact ⟨rfl, Bel.alloc _ _⟩
  · rw [if_neg h0] at hb
    have b0 : (halt != 0) = true := by simpa using h0
    clear h0
    subst hb
    go_enter Try.func28, Try.ntmps28
    go_wp2_with (go_at_call 31; refine (HK.out _).mono ?_; rintro x w1 ⟨rfl, rfl⟩)
    go_ret
    exact ⟨rfl, Bel.alloc _ _⟩
theorem frontL_ge {l : List En} {k : Nat} (hk : k ≤ l.length) (h : ∀ j (hj : j < l.length), j < k → safeB l[j] = true) : k ≤ frontL l := by
  by_cases h1 : frontL l < k
  · have h2 : frontL l < l.length := by omega
    have h3 := frontL_unsafe h2
    rw [h (frontL l) h2 h1] at h3
    cases h3
  · omega
set_option maxHeartbeats 4000000 in
theorem refVisible_any (A : Option Addr) (n c : Nat) (q : List En) (i : Nat) (w : World) (hr : Rd w w.heap.size 17 A n c (ens q)) (hin : i ≤ n) :
    Calls Try.prog 24 #[.slice A n c, .int .i64 (i : Int)] w fun e w' => e = .returned (.bool (decide (i ≤ frontL q))) ∧ Bel w w' := by
  have hF := St.start w [rowD 17 A n c (ens q)] (fun d hd => by obtain rfl := List.mem_singleton.1 hd; exact hr)
  have hql := hr.enslen
  have hc1 := hr.le
  have hc2 := hr.mx
  unfold maxLen at hc2
  obtain ⟨R, hR⟩ : ∃ R, decide (i ≤ frontL q) = R := ⟨_, rfl⟩
  rw [hR]
  replace hR := Lib.hid hR
  have hd0 : decide ((i : Int) < 0) = false := by simp
  have hd1 : decide (n < i) = false := by simpa using hin
  go_enter Try.func24, Try.ntmps24
  go_wp2_with (first | ((first | (refine w_box rfl hF rfl ?_; clear hF; intro gN wN hF) | (refine w_alloc rfl hF ?_; clear hF; intro gN wN hF) | (refine w_ld1 rfl hF rfl ?_) | (refine w_ld rfl hF rfl ?_) | (refine w_st1 rfl hF rfl rfl ?_; clear hF; intro wN hF; (try simp only [List.set_cons_zero, List.set_cons_succ, List.eraseIdx_cons_zero, List.eraseIdx_cons_succ] at hF)) | (refine w_st rfl hF rfl rfl ?_; clear hF; intro wN hF; (try simp only [List.set_cons_zero, List.set_cons_succ, List.eraseIdx_cons_zero, List.eraseIdx_cons_succ] at hF)) | (refine w_fldB rfl rfl ?_) | (refine w_fld rfl hF rfl ?_) | (refine w_ix rfl hF rfl rfl ?_) | (refine w_lde1 rfl hF rfl ?_) | (refine w_lde rfl hF rfl ?_) | (refine w_bs1 rfl hF rfl ?_; clear hF; intro gN wN hF) | (refine w_bs0 rfl hF ?_; clear hF; intro gN wN hF) | (refine w_app rfl hF rfl rfl ?_; clear hF; intro vN wN hF; (try simp only [List.set_cons_zero, List.set_cons_succ, List.eraseIdx_cons_zero, List.eraseIdx_cons_succ] at hF)) | (refine w_appD rfl hF rfl rfl ?_; clear hF; intro vN wN hF; (try simp only [List.set_cons_zero, List.set_cons_succ, List.eraseIdx_cons_zero, List.eraseIdx_cons_succ] at hF)) | (refine w_ld1o rfl hF rfl ?_) | (refine w_st1o rfl hF rfl rfl ?_; clear hF; intro wN hF; (try simp only [List.set_cons_zero, List.set_cons_succ, List.eraseIdx_cons_zero, List.eraseIdx_cons_succ] at hF)) | (refine w_make0 rfl hF rfl rfl ?_; clear hF; intro gN wN hF) | (refine w_to rfl hF rfl rfl ?_; clear hF; intro hF) | (refine w_from rfl hF rfl rfl ?_; clear hF; intro hF)); (try simp only [Act.put, List.setIfInBounds_toArray, List.set_cons_zero, List.set_cons_succ, Nat.zero_add, Nat.zero_mul, Nat.reduceAdd])))
  go_loopw [5] (fun ix wr => ∃ k : Nat, k ≤ i ∧ ix = .int .i64 (k : Int) ∧ (∀ j (hj : j < q.length), j < k → safeB q[j] = true) ∧ St w [rowD 17 A n c (ens q)] wr [] [rowD 17 A n c (ens q)]) (fun ix _ => i - (intOf ix).toNat)
  case atStart => exact ⟨0, by omega, rfl, fun j hj h => absurd h (by omega), hF⟩
  case round =>
    obtain ⟨k, hk, rfl, hall, hF⟩ := hrel
    replace hall := Lib.hid hall
    by_cases hki : k < i
    · obtain ⟨e, hu⟩ : ∃ e, q[k]? = some e := ⟨_, List.getElem?_eq_getElem (by omega)⟩
      have hkn : k < n := by omega
      obtain ⟨hkl, he⟩ := List.getElem?_eq_some_iff.1 hu
      have HS := Lib.hid (fun W => refSafe_any e W)
      cases hs : safeB e
      · rw [hs] at HS
        obtain rfl : R = false := by
          rw [← hR.out, frontL_stop hkl hall.out (by rw [he]; exact hs)]
          simpa using hki
        clear hs he
        go_wp2_with (first | (go_at_call 28; refine (HS.out _).mono ?_; rintro x wN ⟨rfl, hb⟩; replace hF := hF.grow hb; clear hb) | ((refine w_lde (us := e.cells) (v := e.val) (hu := Rows.sub (f := ens) hu) rfl hF rfl ?_); (try simp only [Act.put, List.setIfInBounds_toArray, List.set_cons_zero, List.set_cons_succ, Nat.zero_add, Nat.zero_mul, Nat.reduceAdd])) | ((first | (refine w_box rfl hF rfl ?_; clear hF; intro gN wN hF) | (refine w_alloc rfl hF ?_; clear hF; intro gN wN hF) | (refine w_ld1 rfl hF rfl ?_) | (refine w_ld rfl hF rfl ?_) | (refine w_st1 rfl hF rfl rfl ?_; clear hF; intro wN hF; (try simp only [List.set_cons_zero, List.set_cons_succ, List.eraseIdx_cons_zero, List.eraseIdx_cons_succ] at hF)) | (refine w_st rfl hF rfl rfl ?_; clear hF; intro wN hF; (try simp only [List.set_cons_zero, List.set_cons_succ, List.eraseIdx_cons_zero, List.eraseIdx_cons_succ] at hF)) | (refine w_fldB rfl rfl ?_) | (refine w_fld rfl hF rfl ?_) | (refine w_ix rfl hF rfl rfl ?_) | (refine w_lde1 rfl hF rfl ?_) | (refine w_lde rfl hF rfl ?_) | (refine w_bs1 rfl hF rfl ?_; clear hF; intro gN wN hF) | (refine w_bs0 rfl hF ?_; clear hF; intro gN wN hF) | (refine w_app rfl hF rfl rfl ?_; clear hF; intro vN wN hF; (try simp only [List.set_cons_zero, List.set_cons_succ, List.eraseIdx_cons_zero, List.eraseIdx_cons_succ] at hF)) | (refine w_appD rfl hF rfl rfl ?_; clear hF; intro vN wN hF; (try simp only [List.set_cons_zero, List.set_cons_succ, List.eraseIdx_cons_zero, List.eraseIdx_cons_succ] at hF)) | (refine w_ld1o rfl hF rfl ?_) | (refine w_st1o rfl hF rfl rfl ?_; clear hF; intro wN hF; (try simp only [List.set_cons_zero, List.set_cons_succ, List.eraseIdx_cons_zero, List.eraseIdx_cons_succ] at hF)) | (refine w_make0 rfl hF rfl rfl ?_; clear hF; intro gN wN hF) | (refine w_to rfl hF rfl rfl ?_; clear hF; intro hF) | (refine w_from rfl hF rfl rfl ?_; clear hF; intro hF)); (try simp only [Act.put, List.setIfInBounds_toArray, List.set_cons_zero, List.set_cons_succ, Nat.zero_add, Nat.zero_mul, Nat.reduceAdd])))
        go_ret
        exact ⟨rfl, hF.bel⟩
      · rw [hs] at HS
        have hnew := Lib.hid (show safeB (q[k]'hkl) = true by rw [he]; exact hs)
        clear hs he
        go_wp2_with (first | (go_at_call 28; refine (HS.out _).mono ?_; rintro x wN ⟨rfl, hb⟩; replace hF := hF.grow hb; clear hb) | ((refine w_lde (us := e.cells) (v := e.val) (hu := Rows.sub (f := ens) hu) rfl hF rfl ?_); (try simp only [Act.put, List.setIfInBounds_toArray, List.set_cons_zero, List.set_cons_succ, Nat.zero_add, Nat.zero_mul, Nat.reduceAdd])) | ((first | (refine w_box rfl hF rfl ?_; clear hF; intro gN wN hF) | (refine w_alloc rfl hF ?_; clear hF; intro gN wN hF) | (refine w_ld1 rfl hF rfl ?_) | (refine w_ld rfl hF rfl ?_) | (refine w_st1 rfl hF rfl rfl ?_; clear hF; intro wN hF; (try simp only [List.set_cons_zero, List.set_cons_succ, List.eraseIdx_cons_zero, List.eraseIdx_cons_succ] at hF)) | (refine w_st rfl hF rfl rfl ?_; clear hF; intro wN hF; (try simp only [List.set_cons_zero, List.set_cons_succ, List.eraseIdx_cons_zero, List.eraseIdx_cons_succ] at hF)) | (refine w_fldB rfl rfl ?_) | (refine w_fld rfl hF rfl ?_) | (refine w_ix rfl hF rfl rfl ?_) | (refine w_lde1 rfl hF rfl ?_) | (refine w_lde rfl hF rfl ?_) | (refine w_bs1 rfl hF rfl ?_; clear hF; intro gN wN hF) | (refine w_bs0 rfl hF ?_; clear hF; intro gN wN hF) | (refine w_app rfl hF rfl rfl ?_; clear hF; intro vN wN hF; (try simp only [List.set_cons_zero, List.set_cons_succ, List.eraseIdx_cons_zero, List.eraseIdx_cons_succ] at hF)) | (refine w_appD rfl hF rfl rfl ?_; clear hF; intro vN wN hF; (try simp only [List.set_cons_zero, List.set_cons_succ, List.eraseIdx_cons_zero, List.eraseIdx_cons_succ] at hF)) | (refine w_ld1o rfl hF rfl ?_) | (refine w_st1o rfl hF rfl rfl ?_; clear hF; intro wN hF; (try simp only [List.set_cons_zero, List.set_cons_succ, List.eraseIdx_cons_zero, List.eraseIdx_cons_succ] at hF)) | (refine w_make0 rfl hF rfl rfl ?_; clear hF; intro gN wN hF) | (refine w_to rfl hF rfl rfl ?_; clear hF; intro hF) | (refine w_from rfl hF rfl rfl ?_; clear hF; intro hF)); (try simp only [Act.put, List.setIfInBounds_toArray, List.set_cons_zero, List.set_cons_succ, Nat.zero_add, Nat.zero_mul, Nat.reduceAdd])))
        go_roundw
        case rel =>
          refine ⟨k + 1, by omega, by go_num, fun j hj h => ?_, hF⟩
          rcases Nat.lt_or_ge j k with h' | h'
          · exact hall.out j hj h'
          · obtain rfl : j = k := by omega
            exact hnew.out
        case measure => first | (simp [intOf]; done) | (simp [intOf]; omega)
    · obtain rfl : k = i := by omega
      obtain rfl : R = true := by
        rw [← hR.out]
        simpa using frontL_ge (by omega) hall.out
      go_wp2_with (first | ((first | (refine w_box rfl hF rfl ?_; clear hF; intro gN wN hF) | (refine w_alloc rfl hF ?_; clear hF; intro gN wN hF) | (refine w_ld1 rfl hF rfl ?_) | (refine w_ld rfl hF rfl ?_) | (refine w_st1 rfl hF rfl rfl ?_; clear hF; intro wN hF; (try simp only [List.set_cons_zero, List.set_cons_succ, List.eraseIdx_cons_zero, List.eraseIdx_cons_succ] at hF)) | (refine w_st rfl hF rfl rfl ?_; clear hF; intro wN hF; (try simp only [List.set_cons_zero, List.set_cons_succ, List.eraseIdx_cons_zero, List.eraseIdx_cons_succ] at hF)) | (refine w_fldB rfl rfl ?_) | (refine w_fld rfl hF rfl ?_) | (refine w_ix rfl hF rfl rfl ?_) | (refine w_lde1 rfl hF rfl ?_) | (refine w_lde rfl hF rfl ?_) | (refine w_bs1 rfl hF rfl ?_; clear hF; intro gN wN hF) | (refine w_bs0 rfl hF ?_; clear hF; intro gN wN hF) | (refine w_app rfl hF rfl rfl ?_; clear hF; intro vN wN hF; (try simp only [List.set_cons_zero, List.set_cons_succ, List.eraseIdx_cons_zero, List.eraseIdx_cons_succ] at hF)) | (refine w_appD rfl hF rfl rfl ?_; clear hF; intro vN wN hF; (try simp only [List.set_cons_zero, List.set_cons_succ, List.eraseIdx_cons_zero, List.eraseIdx_cons_succ] at hF)) | (refine w_ld1o rfl hF rfl ?_) | (refine w_st1o rfl hF rfl rfl ?_; clear hF; intro wN hF; (try simp only [List.set_cons_zero, List.set_cons_succ, List.eraseIdx_cons_zero, List.eraseIdx_cons_succ] at hF)) | (refine w_make0 rfl hF rfl rfl ?_; clear hF; intro gN wN hF) | (refine w_to rfl hF rfl rfl ?_; clear hF; intro hF) | (refine w_from rfl hF rfl rfl ?_; clear hF; intro hF)); (try simp only [Act.put, List.setIfInBounds_toArray, List.set_cons_zero, List.set_cons_succ, Nat.zero_add, Nat.zero_mul, Nat.reduceAdd])))
      go_ret
      exact ⟨rfl, hF.bel⟩
end Go.Proofs.Ytbfllafbklfcjaa
