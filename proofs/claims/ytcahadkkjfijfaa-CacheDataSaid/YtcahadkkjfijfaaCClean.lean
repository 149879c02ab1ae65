/- A line made clean, of the program and of the document. -/
import Derived.Test.YtcahadkkjfijfaaCPlain2
import Derived.Test.YtcahadkkjfijfaaStM2
set_option linter.unusedVariables false
set_option linter.unusedSimpArgs false
set_option maxRecDepth 100000
namespace Go.Proofs.Ytcahadkkjfijfaa
open Go.RowKit Go.Sort

inductive CleanR (ways : Int) (C : List (List Wy)) (x : Nat) (C' : List (List Wy)) : Prop
  | no (k i : Nat) (h : FindR ways C x k i false) (he : C' = C)
  | yes (k i : Nat) (h : FindR ways C x k i true) (ws : List Wy) (v : Wy) (hw : C[k]? = some ws) (hv : ws[i]? = some v) (he : C' = C.set k (ws.set i ⟨v.line, false, v.data⟩))
theorem clean_ex (ways : Int) (C : List (List Wy)) (x : Nat) : ∃ C', CleanR ways C x C' := by
  obtain ⟨k, i, b, h⟩ := find_ex ways C x
  cases b
  · exact ⟨_, .no k i h rfl⟩
  · obtain ⟨_, _, ws, v, hw, hv, _⟩ := h.at_
    exact ⟨_, .yes k i h ws v hw hv rfl⟩
set_option maxHeartbeats 8000000 in
theorem Clean_no (ways : Int) (A : Option Addr) (n c x : Nat) (S : List Cs) (k i : Nat) (w : World) (hr : RdS w w.heap.size A n c S) (HF : Hid (FindC 33 ways A n c x S k i false)) :
    Calls Try.prog 48 #[.agg #[.int .i64 ways, .slice A n c], .int .u32 (x : Int)] w fun e w' => e = .returned (.agg #[.int .i64 ways, .slice A n c]) ∧ Bel w w' := by
  have hF := St.start w _ (cacheD_ok hr)
  unfold cacheD at hF
  go_enter Try.func48, Try.ntmps48
  go_wp2_with (first | (go_at_call 33; refine (HF.out _ hF.rds).mono ?_; rintro e wN ⟨rfl, hb⟩; replace hF := hF.grow hb; clear hb) | ((first | (refine w_box rfl hF rfl ?_; clear hF; intro gN wN hF) | (refine w_alloc rfl hF ?_; clear hF; intro gN wN hF) | (refine w_ld1 rfl hF rfl ?_) | (refine w_ld rfl hF rfl ?_) | (refine w_st1 rfl hF rfl rfl ?_; clear hF; intro wN hF; (try simp only [List.set_cons_zero, List.set_cons_succ, List.eraseIdx_cons_zero, List.eraseIdx_cons_succ] at hF)) | (refine w_st rfl hF rfl rfl ?_; clear hF; intro wN hF; (try simp only [List.set_cons_zero, List.set_cons_succ, List.eraseIdx_cons_zero, List.eraseIdx_cons_succ] at hF)) | (refine w_fldB rfl rfl ?_) | (refine w_fld rfl hF rfl ?_) | (refine w_ix rfl hF rfl rfl ?_) | (refine w_lde1 rfl hF rfl ?_) | (refine w_lde rfl hF rfl ?_) | (refine w_bs1 rfl hF rfl ?_; clear hF; intro gN wN hF) | (refine w_bs0 rfl hF ?_; clear hF; intro gN wN hF) | (refine w_app rfl hF rfl rfl ?_; clear hF; intro vN wN hF; (try simp only [List.set_cons_zero, List.set_cons_succ, List.eraseIdx_cons_zero, List.eraseIdx_cons_succ] at hF)) | (refine w_appD rfl hF rfl rfl ?_; clear hF; intro vN wN hF; (try simp only [List.set_cons_zero, List.set_cons_succ, List.eraseIdx_cons_zero, List.eraseIdx_cons_succ] at hF)) | (refine w_ld1o rfl hF rfl ?_) | (refine w_st1o rfl hF rfl rfl ?_; clear hF; intro wN hF; (try simp only [List.set_cons_zero, List.set_cons_succ, List.eraseIdx_cons_zero, List.eraseIdx_cons_succ] at hF)) | (refine w_make0 rfl hF rfl rfl ?_; clear hF; intro gN wN hF) | (refine w_to rfl hF rfl rfl ?_; clear hF; intro hF) | (refine w_from rfl hF rfl rfl ?_; clear hF; intro hF)); (try simp only [Act.put, List.setIfInBounds_toArray, List.set_cons_zero, List.set_cons_succ, Nat.zero_add, Nat.zero_mul, Nat.reduceAdd])))
  ((try simp only [Exit.inBlock, Exit.then]); refine bodyPost_ret (w_resc rfl hF) rfl ?_)
  exact ⟨rfl, hF.bel⟩
set_option maxHeartbeats 8000000 in
theorem refClean_no (ways : Int) (A : Option Addr) (n c x : Nat) (S : List Cs) (k i : Nat) (w : World) (hr : RdS w w.heap.size A n c S) (HF : Hid (FindC 34 ways A n c x S k i false)) :
    Calls Try.prog 52 #[.agg #[.int .i64 ways, .slice A n c], .int .u32 (x : Int)] w fun e w' => e = .returned (.agg #[.int .i64 ways, .slice A n c]) ∧ Bel w w' := by
  have hF := St.start w _ (cacheD_ok hr)
  unfold cacheD at hF
  go_enter Try.func52, Try.ntmps52
  go_wp2_with (first | (go_at_call 34; refine (HF.out _ hF.rds).mono ?_; rintro e wN ⟨rfl, hb⟩; replace hF := hF.grow hb; clear hb) | ((first | (refine w_box rfl hF rfl ?_; clear hF; intro gN wN hF) | (refine w_alloc rfl hF ?_; clear hF; intro gN wN hF) | (refine w_ld1 rfl hF rfl ?_) | (refine w_ld rfl hF rfl ?_) | (refine w_st1 rfl hF rfl rfl ?_; clear hF; intro wN hF; (try simp only [List.set_cons_zero, List.set_cons_succ, List.eraseIdx_cons_zero, List.eraseIdx_cons_succ] at hF)) | (refine w_st rfl hF rfl rfl ?_; clear hF; intro wN hF; (try simp only [List.set_cons_zero, List.set_cons_succ, List.eraseIdx_cons_zero, List.eraseIdx_cons_succ] at hF)) | (refine w_fldB rfl rfl ?_) | (refine w_fld rfl hF rfl ?_) | (refine w_ix rfl hF rfl rfl ?_) | (refine w_lde1 rfl hF rfl ?_) | (refine w_lde rfl hF rfl ?_) | (refine w_bs1 rfl hF rfl ?_; clear hF; intro gN wN hF) | (refine w_bs0 rfl hF ?_; clear hF; intro gN wN hF) | (refine w_app rfl hF rfl rfl ?_; clear hF; intro vN wN hF; (try simp only [List.set_cons_zero, List.set_cons_succ, List.eraseIdx_cons_zero, List.eraseIdx_cons_succ] at hF)) | (refine w_appD rfl hF rfl rfl ?_; clear hF; intro vN wN hF; (try simp only [List.set_cons_zero, List.set_cons_succ, List.eraseIdx_cons_zero, List.eraseIdx_cons_succ] at hF)) | (refine w_ld1o rfl hF rfl ?_) | (refine w_st1o rfl hF rfl rfl ?_; clear hF; intro wN hF; (try simp only [List.set_cons_zero, List.set_cons_succ, List.eraseIdx_cons_zero, List.eraseIdx_cons_succ] at hF)) | (refine w_make0 rfl hF rfl rfl ?_; clear hF; intro gN wN hF) | (refine w_to rfl hF rfl rfl ?_; clear hF; intro hF) | (refine w_from rfl hF rfl rfl ?_; clear hF; intro hF)); (try simp only [Act.put, List.setIfInBounds_toArray, List.set_cons_zero, List.set_cons_succ, Nat.zero_add, Nat.zero_mul, Nat.reduceAdd])))
  ((try simp only [Exit.inBlock, Exit.then]); refine bodyPost_ret (w_resc rfl hF) rfl ?_)
  exact ⟨rfl, hF.bel⟩
set_option maxHeartbeats 8000000 in
theorem Clean_yes (ways : Int) (A : Option Addr) (n c x : Nat) (S : List Cs) (k i : Nat) (ws : List Wy) (v : Wy) (w : World) (hr : RdS w w.heap.size A n c S) (hn : n ≤ 1000) (hk : k < n) (hset : (cont S)[k]? = some ws) (hws : ws.length ≤ 1000) (hv : ws[i]? = some v) (HF : Hid (FindC 33 ways A n c x S k i true)) :
    Calls Try.prog 48 #[.agg #[.int .i64 ways, .slice A n c], .int .u32 (x : Int)] w fun e w' => ∃ y, e = .returned y ∧ CRes w (cacheD A n c S) ways y w' ((cont S).set k (ws.set i ⟨v.line, false, v.data⟩)) := by
  have hF := St.start w _ (cacheD_ok hr)
  unfold cacheD at hF
  obtain ⟨sA, m, sc, hS⟩ := set_of hset
  have hF := hF.elem (List.Mem.tail _ (List.Mem.head _)) hS
  simp only at hF
  have hse := (hF.rd (List.Mem.head _)).wyslen
  have hat := (List.getElem?_eq_some_iff.1 hv).1
  have him : i < m := by omega
  have hoff : i * 3 + 1 < (wys ws).length := by rw [wys_len]; omega
  have hst := Lib.hid (Rows.set1 (f := wys) (r := ⟨v.line, false, v.data⟩) hv (i := 1) (u := .bool false) (by decide) rfl)
  clear hset
  go_enter Try.func48, Try.ntmps48
  go_upto_region 7 with (first | (go_at_call 33; refine (HF.out _ hF.rds).mono ?_; rintro e wN ⟨rfl, hb⟩; replace hF := hF.grow hb; clear hb) | (refine w_make m rfl hF rfl rfl ?_; clear hF; intro gN wN hF) | (refine w_copy rfl hF rfl rfl ?_; clear hF; intro wN hF; (try simp only [List.set_cons_zero, List.set_cons_succ, List.eraseIdx_cons_zero, List.eraseIdx_cons_succ] at hF)) | (refine w_ixB rfl rfl rfl ?_) | ((first | (refine w_box rfl hF rfl ?_; clear hF; intro gN wN hF) | (refine w_alloc rfl hF ?_; clear hF; intro gN wN hF) | (refine w_ld1 rfl hF rfl ?_) | (refine w_ld rfl hF rfl ?_) | (refine w_st1 rfl hF rfl rfl ?_; clear hF; intro wN hF; (try simp only [List.set_cons_zero, List.set_cons_succ, List.eraseIdx_cons_zero, List.eraseIdx_cons_succ] at hF)) | (refine w_st rfl hF rfl rfl ?_; clear hF; intro wN hF; (try simp only [List.set_cons_zero, List.set_cons_succ, List.eraseIdx_cons_zero, List.eraseIdx_cons_succ] at hF)) | (refine w_fldB rfl rfl ?_) | (refine w_fld rfl hF rfl ?_) | (refine w_ix rfl hF rfl rfl ?_) | (refine w_lde1 rfl hF rfl ?_) | (refine w_lde rfl hF rfl ?_) | (refine w_bs1 rfl hF rfl ?_; clear hF; intro gN wN hF) | (refine w_bs0 rfl hF ?_; clear hF; intro gN wN hF) | (refine w_app rfl hF rfl rfl ?_; clear hF; intro vN wN hF; (try simp only [List.set_cons_zero, List.set_cons_succ, List.eraseIdx_cons_zero, List.eraseIdx_cons_succ] at hF)) | (refine w_appD rfl hF rfl rfl ?_; clear hF; intro vN wN hF; (try simp only [List.set_cons_zero, List.set_cons_succ, List.eraseIdx_cons_zero, List.eraseIdx_cons_succ] at hF)) | (refine w_ld1o rfl hF rfl ?_) | (refine w_st1o rfl hF rfl rfl ?_; clear hF; intro wN hF; (try simp only [List.set_cons_zero, List.set_cons_succ, List.eraseIdx_cons_zero, List.eraseIdx_cons_succ] at hF)) | (refine w_make0 rfl hF rfl rfl ?_; clear hF; intro gN wN hF) | (refine w_to rfl hF rfl rfl ?_; clear hF; intro hF) | (refine w_from rfl hF rfl rfl ?_; clear hF; intro hF)); (try simp only [Act.put, List.setIfInBounds_toArray, List.set_cons_zero, List.set_cons_succ, Nat.zero_add, Nat.zero_mul, Nat.reduceAdd])))
  rw [hst.out] at hF
  have hF := hF.freezeB 0 at0 3 m m (by rw [wys_len, List.length_set]; omega) (Nat.le_refl _) (by unfold maxLen; omega)
  (try simp only [List.set_cons_zero, List.set_cons_succ, List.eraseIdx_cons_zero, List.eraseIdx_cons_succ] at hF)
  go_wp2_with (first | (go_at_call 66; refine (with_st ways A n c S k _ m _ (ws.set i ⟨v.line, false, v.data⟩) _ hF.rds hn hk hF.rdA).mono ?_; rintro e wN ⟨_, rfl, A', n', c', S', rfl, hO, hC⟩; replace hF := hF.callA hO; clear hO) | ((first | (refine w_box rfl hF rfl ?_; clear hF; intro gN wN hF) | (refine w_alloc rfl hF ?_; clear hF; intro gN wN hF) | (refine w_ld1 rfl hF rfl ?_) | (refine w_ld rfl hF rfl ?_) | (refine w_st1 rfl hF rfl rfl ?_; clear hF; intro wN hF; (try simp only [List.set_cons_zero, List.set_cons_succ, List.eraseIdx_cons_zero, List.eraseIdx_cons_succ] at hF)) | (refine w_st rfl hF rfl rfl ?_; clear hF; intro wN hF; (try simp only [List.set_cons_zero, List.set_cons_succ, List.eraseIdx_cons_zero, List.eraseIdx_cons_succ] at hF)) | (refine w_fldB rfl rfl ?_) | (refine w_fld rfl hF rfl ?_) | (refine w_ix rfl hF rfl rfl ?_) | (refine w_lde1 rfl hF rfl ?_) | (refine w_lde rfl hF rfl ?_) | (refine w_bs1 rfl hF rfl ?_; clear hF; intro gN wN hF) | (refine w_bs0 rfl hF ?_; clear hF; intro gN wN hF) | (refine w_app rfl hF rfl rfl ?_; clear hF; intro vN wN hF; (try simp only [List.set_cons_zero, List.set_cons_succ, List.eraseIdx_cons_zero, List.eraseIdx_cons_succ] at hF)) | (refine w_appD rfl hF rfl rfl ?_; clear hF; intro vN wN hF; (try simp only [List.set_cons_zero, List.set_cons_succ, List.eraseIdx_cons_zero, List.eraseIdx_cons_succ] at hF)) | (refine w_ld1o rfl hF rfl ?_) | (refine w_st1o rfl hF rfl rfl ?_; clear hF; intro wN hF; (try simp only [List.set_cons_zero, List.set_cons_succ, List.eraseIdx_cons_zero, List.eraseIdx_cons_succ] at hF)) | (refine w_make0 rfl hF rfl rfl ?_; clear hF; intro gN wN hF) | (refine w_to rfl hF rfl rfl ?_; clear hF; intro hF) | (refine w_from rfl hF rfl rfl ?_; clear hF; intro hF)); (try simp only [Act.put, List.setIfInBounds_toArray, List.set_cons_zero, List.set_cons_succ, Nat.zero_add, Nat.zero_mul, Nat.reduceAdd])))
  ((try simp only [Exit.inBlock, Exit.then]); refine bodyPost_ret (w_resc rfl hF) rfl ?_)
  exact ⟨_, rfl, A', n', c', S', rfl, hF.outA, hC⟩
theorem wys_take_succ {q : List Wy} {j : Nat} {v : Wy} (h : q[j]? = some v) : wys (q.take j) ++ v.cells = wys (q.take (j + 1)) := by
  obtain ⟨hl, e⟩ := List.getElem?_eq_some_iff.1 h
  rw [List.take_succ_eq_append_getElem hl, wys_append, e]
  simp [wys]
set_option maxHeartbeats 8000000 in
theorem refClean_yes (ways : Int) (A : Option Addr) (n c x : Nat) (S : List Cs) (k i : Nat) (ws : List Wy) (v : Wy) (w : World) (hr : RdS w w.heap.size A n c S) (hn : n ≤ 1000) (hk : k < n) (hset : (cont S)[k]? = some ws) (hws : ws.length ≤ 1000) (hv : ws[i]? = some v) (HF : Hid (FindC 34 ways A n c x S k i true)) :
    Calls Try.prog 52 #[.agg #[.int .i64 ways, .slice A n c], .int .u32 (x : Int)] w fun e w' => ∃ y, e = .returned y ∧ CRes w (cacheD A n c S) ways y w' ((cont S).set k (ws.set i ⟨v.line, false, v.data⟩)) := by
  have hF := St.start w _ (cacheD_ok hr)
  unfold cacheD at hF
  obtain ⟨sA, m, sc, hS⟩ := set_of hset
  have hF := hF.elem (List.Mem.tail _ (List.Mem.head _)) hS
  simp only at hF
  have hse := (hF.rd (List.Mem.head _)).wyslen
  have hat := (List.getElem?_eq_some_iff.1 hv).1
  have him : i < m := by omega
  have hm2 := (hF.rd (List.Mem.head _)).mx
  have hm1 := (hF.rd (List.Mem.head _)).le
  unfold maxLen at hm2
  clear hset
  obtain ⟨L, hL⟩ : ∃ L, ws.set i ⟨v.line, false, v.data⟩ = L := ⟨_, rfl⟩
  have hLi : Hid (L[i]? = some ⟨v.line, false, v.data⟩) := Lib.hid (by rw [← hL, List.getElem?_set_self hat])
  have hLj : Hid (∀ j, j ≠ i → L[j]? = ws[j]?) := Lib.hid (fun j hj => by rw [← hL, List.getElem?_set_ne (fun e => hj e.symm)])
  have hLl : Hid (L.length = m) := Lib.hid (by rw [← hL, List.length_set]; exact hse)
  rw [hL]
  replace hL := Lib.hid hL
  go_enter Try.func52, Try.ntmps52
  go_wp2_with (first | (go_at_call 34; refine (HF.out _ hF.rds).mono ?_; rintro e wN ⟨rfl, hb⟩; replace hF := hF.grow hb; clear hb) | ((first | (refine w_box rfl hF rfl ?_; clear hF; intro gN wN hF) | (refine w_alloc rfl hF ?_; clear hF; intro gN wN hF) | (refine w_ld1 rfl hF rfl ?_) | (refine w_ld rfl hF rfl ?_) | (refine w_st1 rfl hF rfl rfl ?_; clear hF; intro wN hF; (try simp only [List.set_cons_zero, List.set_cons_succ, List.eraseIdx_cons_zero, List.eraseIdx_cons_succ] at hF)) | (refine w_st rfl hF rfl rfl ?_; clear hF; intro wN hF; (try simp only [List.set_cons_zero, List.set_cons_succ, List.eraseIdx_cons_zero, List.eraseIdx_cons_succ] at hF)) | (refine w_fldB rfl rfl ?_) | (refine w_fld rfl hF rfl ?_) | (refine w_ix rfl hF rfl rfl ?_) | (refine w_lde1 rfl hF rfl ?_) | (refine w_lde rfl hF rfl ?_) | (refine w_bs1 rfl hF rfl ?_; clear hF; intro gN wN hF) | (refine w_bs0 rfl hF ?_; clear hF; intro gN wN hF) | (refine w_app rfl hF rfl rfl ?_; clear hF; intro vN wN hF; (try simp only [List.set_cons_zero, List.set_cons_succ, List.eraseIdx_cons_zero, List.eraseIdx_cons_succ] at hF)) | (refine w_appD rfl hF rfl rfl ?_; clear hF; intro vN wN hF; (try simp only [List.set_cons_zero, List.set_cons_succ, List.eraseIdx_cons_zero, List.eraseIdx_cons_succ] at hF)) | (refine w_ld1o rfl hF rfl ?_) | (refine w_st1o rfl hF rfl rfl ?_; clear hF; intro wN hF; (try simp only [List.set_cons_zero, List.set_cons_succ, List.eraseIdx_cons_zero, List.eraseIdx_cons_succ] at hF)) | (refine w_make0 rfl hF rfl rfl ?_; clear hF; intro gN wN hF) | (refine w_to rfl hF rfl rfl ?_; clear hF; intro hF) | (refine w_from rfl hF rfl rfl ?_; clear hF; intro hF)); (try simp only [Act.put, List.setIfInBounds_toArray, List.set_cons_zero, List.set_cons_succ, Nat.zero_add, Nat.zero_mul, Nat.reduceAdd])))
  obtain ⟨gR, gC, rfl, rfl⟩ := (hF.drop 0).names2
  go_loopw [28, 8] (fun ix x wr => ∃ j : Nat, j ≤ m ∧ ix = .int .i64 (j : Int) ∧ St w [rowD 1 A n c (csv S), elemsD S] wr [.own x 49 3 j (wys (L.take j)), .blk gR 36 [.int .i64 0, .slice none 0 0], .blk gC 36 [.int .i64 ways, .slice A n c]] [rowD 3 sA m sc (wys ws), rowD 1 A n c (csv S), elemsD S]) (fun ix _ _ => m - (intOf ix).toNat)
  case atStart => exact ⟨0, by omega, rfl, hF⟩
  case round =>
    obtain ⟨j, hj, rfl, hF⟩ := hrel
    by_cases hjm : j < m
    · by_cases hji : j = i
      · subst hji
        obtain ⟨ul, ud, ub⟩ := v
        go_wp2_with (first | (refine w_lde (us := [.int .u32 (ul : Int), .bool ud, .string ub]) (hu := Rows.sub (f := wys) hv) rfl hF rfl ?_) | ((first | (refine w_box rfl hF rfl ?_; clear hF; intro gN wN hF) | (refine w_alloc rfl hF ?_; clear hF; intro gN wN hF) | (refine w_ld1 rfl hF rfl ?_) | (refine w_ld rfl hF rfl ?_) | (refine w_st1 rfl hF rfl rfl ?_; clear hF; intro wN hF; (try simp only [List.set_cons_zero, List.set_cons_succ, List.eraseIdx_cons_zero, List.eraseIdx_cons_succ] at hF)) | (refine w_st rfl hF rfl rfl ?_; clear hF; intro wN hF; (try simp only [List.set_cons_zero, List.set_cons_succ, List.eraseIdx_cons_zero, List.eraseIdx_cons_succ] at hF)) | (refine w_fldB rfl rfl ?_) | (refine w_fld rfl hF rfl ?_) | (refine w_ix rfl hF rfl rfl ?_) | (refine w_lde1 rfl hF rfl ?_) | (refine w_lde rfl hF rfl ?_) | (refine w_bs1 rfl hF rfl ?_; clear hF; intro gN wN hF) | (refine w_bs0 rfl hF ?_; clear hF; intro gN wN hF) | (refine w_app rfl hF rfl rfl ?_; clear hF; intro vN wN hF; (try simp only [List.set_cons_zero, List.set_cons_succ, List.eraseIdx_cons_zero, List.eraseIdx_cons_succ] at hF)) | (refine w_appD rfl hF rfl rfl ?_; clear hF; intro vN wN hF; (try simp only [List.set_cons_zero, List.set_cons_succ, List.eraseIdx_cons_zero, List.eraseIdx_cons_succ] at hF)) | (refine w_ld1o rfl hF rfl ?_) | (refine w_st1o rfl hF rfl rfl ?_; clear hF; intro wN hF; (try simp only [List.set_cons_zero, List.set_cons_succ, List.eraseIdx_cons_zero, List.eraseIdx_cons_succ] at hF)) | (refine w_make0 rfl hF rfl rfl ?_; clear hF; intro gN wN hF) | (refine w_to rfl hF rfl rfl ?_; clear hF; intro hF) | (refine w_from rfl hF rfl rfl ?_; clear hF; intro hF)); (try simp only [Act.put, List.setIfInBounds_toArray, List.set_cons_zero, List.set_cons_succ, Nat.zero_add, Nat.zero_mul, Nat.reduceAdd])))
        go_roundw
        case rel => exact ⟨j + 1, by omega, by go_num, by rw [← wys_take_succ hLi.out]; exact hF.drop 0⟩
        case measure => first | (simp [intOf]; done) | (simp [intOf]; omega)
      · obtain ⟨⟨ul, ud, ub⟩, hu⟩ : ∃ u, ws[j]? = some u := ⟨_, List.getElem?_eq_getElem (by omega)⟩
        have hLu := Lib.hid ((hLj.out j hji).trans hu)
        have hjb : ¬ ((j : Int) = (i : Int)) := by omega
        clear hji
        go_wp2_with (first | (refine w_lde (us := [.int .u32 (ul : Int), .bool ud, .string ub]) (hu := Rows.sub (f := wys) hu) rfl hF rfl ?_) | ((first | (refine w_box rfl hF rfl ?_; clear hF; intro gN wN hF) | (refine w_alloc rfl hF ?_; clear hF; intro gN wN hF) | (refine w_ld1 rfl hF rfl ?_) | (refine w_ld rfl hF rfl ?_) | (refine w_st1 rfl hF rfl rfl ?_; clear hF; intro wN hF; (try simp only [List.set_cons_zero, List.set_cons_succ, List.eraseIdx_cons_zero, List.eraseIdx_cons_succ] at hF)) | (refine w_st rfl hF rfl rfl ?_; clear hF; intro wN hF; (try simp only [List.set_cons_zero, List.set_cons_succ, List.eraseIdx_cons_zero, List.eraseIdx_cons_succ] at hF)) | (refine w_fldB rfl rfl ?_) | (refine w_fld rfl hF rfl ?_) | (refine w_ix rfl hF rfl rfl ?_) | (refine w_lde1 rfl hF rfl ?_) | (refine w_lde rfl hF rfl ?_) | (refine w_bs1 rfl hF rfl ?_; clear hF; intro gN wN hF) | (refine w_bs0 rfl hF ?_; clear hF; intro gN wN hF) | (refine w_app rfl hF rfl rfl ?_; clear hF; intro vN wN hF; (try simp only [List.set_cons_zero, List.set_cons_succ, List.eraseIdx_cons_zero, List.eraseIdx_cons_succ] at hF)) | (refine w_appD rfl hF rfl rfl ?_; clear hF; intro vN wN hF; (try simp only [List.set_cons_zero, List.set_cons_succ, List.eraseIdx_cons_zero, List.eraseIdx_cons_succ] at hF)) | (refine w_ld1o rfl hF rfl ?_) | (refine w_st1o rfl hF rfl rfl ?_; clear hF; intro wN hF; (try simp only [List.set_cons_zero, List.set_cons_succ, List.eraseIdx_cons_zero, List.eraseIdx_cons_succ] at hF)) | (refine w_make0 rfl hF rfl rfl ?_; clear hF; intro gN wN hF) | (refine w_to rfl hF rfl rfl ?_; clear hF; intro hF) | (refine w_from rfl hF rfl rfl ?_; clear hF; intro hF)); (try simp only [Act.put, List.setIfInBounds_toArray, List.set_cons_zero, List.set_cons_succ, Nat.zero_add, Nat.zero_mul, Nat.reduceAdd])))
        go_roundw
        case rel => exact ⟨j + 1, by omega, by go_num, by rw [← wys_take_succ hLu.out]; exact hF.drop 0⟩
        case measure => first | (simp [intOf]; done) | (simp [intOf]; omega)
    · obtain rfl : j = m := by omega
      rw [List.take_of_length_le (by rw [hLl.out]; exact Nat.le_refl _)] at hF
      obtain ⟨A2, c2, rfl, hF⟩ := hF.freeze 0 at0
      (try simp only [List.set_cons_zero, List.set_cons_succ, List.eraseIdx_cons_zero, List.eraseIdx_cons_succ] at hF)
      go_wp2_with (first | (go_at_call 70; refine (refWithSet_st ways A n c S k _ _ _ L _ hF.rds hn hk hF.rdA).mono ?_; rintro e wN ⟨A', c', rfl, hO⟩; replace hF := hF.call1A hO; clear hO) | ((first | (refine w_box rfl hF rfl ?_; clear hF; intro gN wN hF) | (refine w_alloc rfl hF ?_; clear hF; intro gN wN hF) | (refine w_ld1 rfl hF rfl ?_) | (refine w_ld rfl hF rfl ?_) | (refine w_st1 rfl hF rfl rfl ?_; clear hF; intro wN hF; (try simp only [List.set_cons_zero, List.set_cons_succ, List.eraseIdx_cons_zero, List.eraseIdx_cons_succ] at hF)) | (refine w_st rfl hF rfl rfl ?_; clear hF; intro wN hF; (try simp only [List.set_cons_zero, List.set_cons_succ, List.eraseIdx_cons_zero, List.eraseIdx_cons_succ] at hF)) | (refine w_fldB rfl rfl ?_) | (refine w_fld rfl hF rfl ?_) | (refine w_ix rfl hF rfl rfl ?_) | (refine w_lde1 rfl hF rfl ?_) | (refine w_lde rfl hF rfl ?_) | (refine w_bs1 rfl hF rfl ?_; clear hF; intro gN wN hF) | (refine w_bs0 rfl hF ?_; clear hF; intro gN wN hF) | (refine w_app rfl hF rfl rfl ?_; clear hF; intro vN wN hF; (try simp only [List.set_cons_zero, List.set_cons_succ, List.eraseIdx_cons_zero, List.eraseIdx_cons_succ] at hF)) | (refine w_appD rfl hF rfl rfl ?_; clear hF; intro vN wN hF; (try simp only [List.set_cons_zero, List.set_cons_succ, List.eraseIdx_cons_zero, List.eraseIdx_cons_succ] at hF)) | (refine w_ld1o rfl hF rfl ?_) | (refine w_st1o rfl hF rfl rfl ?_; clear hF; intro wN hF; (try simp only [List.set_cons_zero, List.set_cons_succ, List.eraseIdx_cons_zero, List.eraseIdx_cons_succ] at hF)) | (refine w_make0 rfl hF rfl rfl ?_; clear hF; intro gN wN hF) | (refine w_to rfl hF rfl rfl ?_; clear hF; intro hF) | (refine w_from rfl hF rfl rfl ?_; clear hF; intro hF)); (try simp only [Act.put, List.setIfInBounds_toArray, List.set_cons_zero, List.set_cons_succ, Nat.zero_add, Nat.zero_mul, Nat.reduceAdd])))
      ((try simp only [Exit.inBlock, Exit.then]); refine bodyPost_ret (w_resc rfl hF) rfl ?_)
      exact ⟨_, rfl, A', n, c', _, rfl, (hF.elemSet (by ((repeat (first | exact List.Mem.head _ | refine List.Mem.tail _ ?_)) <;> exact List.Mem.head _)) k (by ((repeat (first | exact List.Mem.head _ | refine List.Mem.tail _ ?_)) <;> exact List.Mem.head _))).outA, by rw [cont_set]⟩
section
variable {ways : Int} {A : Option Addr} {n c x : Nat} {S : List Cs}
theorem Clean_all {C' : List (List Wy)} (hx : x < 4294967296) (ho : SOk S) (h : CleanR ways (cont S) x C') (w : World) (hr : RdS w w.heap.size A n c S) :
    Calls Try.prog 48 #[.agg #[.int .i64 ways, .slice A n c], .int .u32 (x : Int)] w fun e w' => ∃ y, e = .returned y ∧ CRes w (cacheD A n c S) ways y w' C' := by
  cases h with
  | no k i h he =>
    subst he
    refine (Clean_no ways A n c x S k i w hr (Lib.hid (Find_all hx ho h))).mono ?_
    rintro e w' ⟨rfl, hb⟩
    exact ⟨_, rfl, CRes.sameC hr hb⟩
  | yes k i h ws v hw hv he =>
    subst he
    obtain ⟨hR, _, ws', v', hw', _, _, hl⟩ := h.at_
    rw [hw] at hw'; injection hw' with hw'; subst hw'
    exact Clean_yes ways A n c x S k i ws v w hr (n_le hr hR) (k_lt hr hw) hw (by have := ways_le hR hl; omega) hv (Lib.hid (Find_all hx ho h))
theorem refClean_all {C' : List (List Wy)} (hx : x < 4294967296) (ho : SOk S) (h : CleanR ways (cont S) x C') (w : World) (hr : RdS w w.heap.size A n c S) :
    Calls Try.prog 52 #[.agg #[.int .i64 ways, .slice A n c], .int .u32 (x : Int)] w fun e w' => ∃ y, e = .returned y ∧ CRes w (cacheD A n c S) ways y w' C' := by
  cases h with
  | no k i h he =>
    subst he
    refine (refClean_no ways A n c x S k i w hr (Lib.hid (refFind_all hx ho h))).mono ?_
    rintro e w' ⟨rfl, hb⟩
    exact ⟨_, rfl, CRes.sameC hr hb⟩
  | yes k i h ws v hw hv he =>
    subst he
    obtain ⟨hR, _, ws', v', hw', _, _, hl⟩ := h.at_
    rw [hw] at hw'; injection hw' with hw'; subst hw'
    exact refClean_yes ways A n c x S k i ws v w hr (n_le hr hR) (k_lt hr hw) hw (by have := ways_le hR hl; omega) hv (Lib.hid (refFind_all hx ho h))
end
end Go.Proofs.Ytcahadkkjfijfaa
