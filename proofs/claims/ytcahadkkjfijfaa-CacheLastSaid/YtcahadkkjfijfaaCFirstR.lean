/- The document's First. -/
import Derived.Test.YtcahadkkjfijfaaCWithR
set_option linter.unusedVariables false
set_option linter.unusedSimpArgs false
set_option maxRecDepth 100000
namespace Go.Proofs.Ytcahadkkjfijfaa
open Go.RowKit Go.Sort

theorem firstL_step {ws : List Wy} {v u : Wy} {j : Nat} (h : ws[j]? = some u) : firstL (ws.take (j + 1)) v = if u.line = v.line then firstL (ws.take j) v else firstL (ws.take j) v ++ [u] := by
  obtain ⟨hl, e⟩ := List.getElem?_eq_some_iff.1 h
  rw [List.take_succ_eq_append_getElem hl, e]
  simp only [firstL, List.filter_append, List.filter_cons, List.filter_nil]
  by_cases hu : u.line = v.line <;> simp [hu]
set_option maxHeartbeats 4000000 in
theorem refFirst_st (ways : Int) (A : Option Addr) (n c : Nat) (S : List Cs) (v : Wy) (k : Nat) (ws : List Wy) (w : World) (hr : RdS w w.heap.size A n c S) (hn3 : n = 1 ∨ n = 2 ∨ n = 4) (hx : v.line < 4294967296) (hkk : v.line / 16 % n = k) (hset : (cont S)[k]? = some ws) (hws : ws.length ≤ 1000) :
    Calls Try.prog 69 #[.agg #[.int .i64 ways, .slice A n c], v.val] w fun e w' => ∃ x, e = .returned x ∧ CRes w (cacheD A n c S) ways x w' ((cont S).set k (firstL ws v)) := by
  have hF := St.start w _ (cacheD_ok hr)
  unfold cacheD at hF
  have hn : n ≤ 1000 := by omega
  have hk : k < n := by rw [← hkk]; exact Nat.mod_lt _ (by omega)
  have hsl := hr.slen
  have hS : S[k]? = some (S[k]'(by omega)) := List.getElem?_eq_getElem (by omega)
  obtain ⟨s, hs⟩ : ∃ s, S[k]'(by omega) = s := ⟨_, rfl⟩
  rw [hs] at hS
  have hsw : s.ws = ws := by
    simp only [cont, List.getElem?_map, hS, Option.map_some, Option.some.injEq] at hset
    exact hset
  obtain ⟨sA, m, sc, sws⟩ := s
  simp only at hsw
  subst hsw
  have hF := hF.elem (List.Mem.tail _ (List.Mem.head _)) hS
  simp only at hF
  have hse := (hF.rd (List.Mem.head _)).wyslen
  have hm1 := (hF.rd (List.Mem.head _)).le
  have hm2 := (hF.rd (List.Mem.head _)).mx
  have hc1 := hr.rd.le
  have hc2 := hr.rd.mx
  unfold maxLen at hc2 hm2
  have HSO := Lib.hid (fun W => refSetOf_any ways A n c v.line W hn3 hx)
  rw [hkk] at HSO
  clear hset hs hkk
  go_enter Try.func69, Try.ntmps69
  go_wp2_with (first | (go_at_call 61; refine (HSO.out _).mono ?_; rintro e wN ⟨rfl, hb⟩; replace hF := hF.grow hb; clear hb) | ((first | (refine w_box rfl hF rfl ?_; clear hF; intro gN wN hF) | (refine w_alloc rfl hF ?_; clear hF; intro gN wN hF) | (refine w_ld1 rfl hF rfl ?_) | (refine w_ld rfl hF rfl ?_) | (refine w_st1 rfl hF rfl rfl ?_; clear hF; intro wN hF; (try simp only [List.set_cons_zero, List.set_cons_succ, List.eraseIdx_cons_zero, List.eraseIdx_cons_succ] at hF)) | (refine w_st rfl hF rfl rfl ?_; clear hF; intro wN hF; (try simp only [List.set_cons_zero, List.set_cons_succ, List.eraseIdx_cons_zero, List.eraseIdx_cons_succ] at hF)) | (refine w_fldB rfl rfl ?_) | (refine w_fld rfl hF rfl ?_) | (refine w_ix rfl hF rfl rfl ?_) | (refine w_lde1 rfl hF rfl ?_) | (refine w_lde rfl hF rfl ?_) | (refine w_bs1 rfl hF rfl ?_; clear hF; intro gN wN hF) | (refine w_bs0 rfl hF ?_; clear hF; intro gN wN hF) | (refine w_app rfl hF rfl rfl ?_; clear hF; intro vN wN hF; (try simp only [List.set_cons_zero, List.set_cons_succ, List.eraseIdx_cons_zero, List.eraseIdx_cons_succ] at hF)) | (refine w_appD rfl hF rfl rfl ?_; clear hF; intro vN wN hF; (try simp only [List.set_cons_zero, List.set_cons_succ, List.eraseIdx_cons_zero, List.eraseIdx_cons_succ] at hF)) | (refine w_ld1o rfl hF rfl ?_) | (refine w_st1o rfl hF rfl rfl ?_; clear hF; intro wN hF; (try simp only [List.set_cons_zero, List.set_cons_succ, List.eraseIdx_cons_zero, List.eraseIdx_cons_succ] at hF)) | (refine w_make0 rfl hF rfl rfl ?_; clear hF; intro gN wN hF) | (refine w_to rfl hF rfl rfl ?_; clear hF; intro hF) | (refine w_from rfl hF rfl rfl ?_; clear hF; intro hF)); (try simp only [Act.put, List.setIfInBounds_toArray, List.set_cons_zero, List.set_cons_succ, Nat.zero_add, Nat.zero_mul, Nat.reduceAdd])))
  rename_i gC w1 gW w2 gR w3 w4 K hK
  have h0 : [Value.int .u32 (v.line : Int), .bool v.dirty, .string v.data] = wys (firstL (sws.take 0) v) := rfl
  rw [h0] at hF
  clear h0
  go_loopw [21, 6] (fun i x wr => ∃ (j l : Nat), j ≤ m ∧ i = .int .i64 (j : Int) ∧ l ≤ j + 1 ∧ (firstL (sws.take j) v).length = l ∧ St w [rowD 1 A n c (csv S), elemsD S] wr [.own x 49 3 l (wys (firstL (sws.take j) v)), .blk gR 36 [.int .i64 0, .slice none 0 0], .blk gW 49 [.int .u32 (v.line : Int), .bool v.dirty, .string v.data], .blk gC 36 [.int .i64 ways, .slice A n c]] [rowD 3 sA m sc (wys sws), rowD 1 A n c (csv S), elemsD S]) (fun i _ _ => m - (intOf i).toNat)
  case atStart => exact ⟨0, 1, by omega, rfl, by omega, rfl, hF⟩
  case round =>
    obtain ⟨j, l, hj, rfl, hlj, hl, hF⟩ := hrel
    by_cases hjm : j < m
    · obtain ⟨u, hu⟩ : ∃ u, sws[j]? = some u := ⟨_, List.getElem?_eq_getElem (by omega)⟩
      have hst := firstL_step (v := v) hu
      by_cases hul : u.line = v.line
      · rw [if_pos hul] at hst
        have hub : ((u.line : Int) != (v.line : Int)) = false := by simp [hul]
        clear hul
        go_wp2_with (first | ((first | (refine w_box rfl hF rfl ?_; clear hF; intro gN wN hF) | (refine w_alloc rfl hF ?_; clear hF; intro gN wN hF) | (refine w_ld1 rfl hF rfl ?_) | (refine w_ld rfl hF rfl ?_) | (refine w_st1 rfl hF rfl rfl ?_; clear hF; intro wN hF; (try simp only [List.set_cons_zero, List.set_cons_succ, List.eraseIdx_cons_zero, List.eraseIdx_cons_succ] at hF)) | (refine w_st rfl hF rfl rfl ?_; clear hF; intro wN hF; (try simp only [List.set_cons_zero, List.set_cons_succ, List.eraseIdx_cons_zero, List.eraseIdx_cons_succ] at hF)) | (refine w_fldB rfl rfl ?_) | (refine w_fld rfl hF rfl ?_) | (refine w_ix rfl hF rfl rfl ?_) | (refine w_lde1 rfl hF rfl ?_) | (refine w_lde rfl hF rfl ?_) | (refine w_bs1 rfl hF rfl ?_; clear hF; intro gN wN hF) | (refine w_bs0 rfl hF ?_; clear hF; intro gN wN hF) | (refine w_app rfl hF rfl rfl ?_; clear hF; intro vN wN hF; (try simp only [List.set_cons_zero, List.set_cons_succ, List.eraseIdx_cons_zero, List.eraseIdx_cons_succ] at hF)) | (refine w_appD rfl hF rfl rfl ?_; clear hF; intro vN wN hF; (try simp only [List.set_cons_zero, List.set_cons_succ, List.eraseIdx_cons_zero, List.eraseIdx_cons_succ] at hF)) | (refine w_ld1o rfl hF rfl ?_) | (refine w_st1o rfl hF rfl rfl ?_; clear hF; intro wN hF; (try simp only [List.set_cons_zero, List.set_cons_succ, List.eraseIdx_cons_zero, List.eraseIdx_cons_succ] at hF)) | (refine w_make0 rfl hF rfl rfl ?_; clear hF; intro gN wN hF) | (refine w_to rfl hF rfl rfl ?_; clear hF; intro hF) | (refine w_from rfl hF rfl rfl ?_; clear hF; intro hF)); (try simp only [Act.put, List.setIfInBounds_toArray, List.set_cons_zero, List.set_cons_succ, Nat.zero_add, Nat.zero_mul, Nat.reduceAdd])))
        go_roundw
        case rel => exact ⟨j + 1, l, by omega, by go_num, by omega, by rw [hst]; exact hl, by rw [hst]; exact hF.drop 0⟩
        case measure => first | (simp [intOf]; done) | (simp [intOf]; omega)
      · rw [if_neg hul] at hst
        have hub : ¬ ((u.line : Int) = (v.line : Int)) := by omega
        clear hul
        go_wp2_with (first | ((first | (refine w_box rfl hF rfl ?_; clear hF; intro gN wN hF) | (refine w_alloc rfl hF ?_; clear hF; intro gN wN hF) | (refine w_ld1 rfl hF rfl ?_) | (refine w_ld rfl hF rfl ?_) | (refine w_st1 rfl hF rfl rfl ?_; clear hF; intro wN hF; (try simp only [List.set_cons_zero, List.set_cons_succ, List.eraseIdx_cons_zero, List.eraseIdx_cons_succ] at hF)) | (refine w_st rfl hF rfl rfl ?_; clear hF; intro wN hF; (try simp only [List.set_cons_zero, List.set_cons_succ, List.eraseIdx_cons_zero, List.eraseIdx_cons_succ] at hF)) | (refine w_fldB rfl rfl ?_) | (refine w_fld rfl hF rfl ?_) | (refine w_ix rfl hF rfl rfl ?_) | (refine w_lde1 rfl hF rfl ?_) | (refine w_lde rfl hF rfl ?_) | (refine w_bs1 rfl hF rfl ?_; clear hF; intro gN wN hF) | (refine w_bs0 rfl hF ?_; clear hF; intro gN wN hF) | (refine w_app rfl hF rfl rfl ?_; clear hF; intro vN wN hF; (try simp only [List.set_cons_zero, List.set_cons_succ, List.eraseIdx_cons_zero, List.eraseIdx_cons_succ] at hF)) | (refine w_appD rfl hF rfl rfl ?_; clear hF; intro vN wN hF; (try simp only [List.set_cons_zero, List.set_cons_succ, List.eraseIdx_cons_zero, List.eraseIdx_cons_succ] at hF)) | (refine w_ld1o rfl hF rfl ?_) | (refine w_st1o rfl hF rfl rfl ?_; clear hF; intro wN hF; (try simp only [List.set_cons_zero, List.set_cons_succ, List.eraseIdx_cons_zero, List.eraseIdx_cons_succ] at hF)) | (refine w_make0 rfl hF rfl rfl ?_; clear hF; intro gN wN hF) | (refine w_to rfl hF rfl rfl ?_; clear hF; intro hF) | (refine w_from rfl hF rfl rfl ?_; clear hF; intro hF)); (try simp only [Act.put, List.setIfInBounds_toArray, List.set_cons_zero, List.set_cons_succ, Nat.zero_add, Nat.zero_mul, Nat.reduceAdd])))
        go_roundw
        case rel => exact ⟨j + 1, l + 1, by omega, by go_num, by omega, by rw [hst, List.length_append, hl]; rfl, by rw [hst, wys_append]; exact hF.drop 0⟩
        case measure => first | (simp [intOf]; done) | (simp [intOf]; omega)
    · obtain rfl : j = m := by omega
      rw [List.take_of_length_le (by omega)] at hF hl
      obtain ⟨A2, c2, rfl, hF⟩ := hF.freeze 0 at0
      (try simp only [List.set_cons_zero, List.set_cons_succ, List.eraseIdx_cons_zero, List.eraseIdx_cons_succ] at hF)
      go_wp2_with (first | (go_at_call 70; refine (refWithSet_st ways A n c S k _ _ _ (firstL sws v) _ (rds_of (hF.dat _ (by ((repeat (first | exact List.Mem.head _ | refine List.Mem.tail _ ?_)) <;> exact List.Mem.head _))) (hF.dat _ (by ((repeat (first | exact List.Mem.head _ | refine List.Mem.tail _ ?_)) <;> exact List.Mem.head _)))) hn hk (hF.dat _ (by ((repeat (first | exact List.Mem.head _ | refine List.Mem.tail _ ?_)) <;> exact List.Mem.head _)))).mono ?_; rintro e wN ⟨A', c', rfl, hO⟩; replace hF := hF.call1A hO; clear hO) | ((first | (refine w_box rfl hF rfl ?_; clear hF; intro gN wN hF) | (refine w_alloc rfl hF ?_; clear hF; intro gN wN hF) | (refine w_ld1 rfl hF rfl ?_) | (refine w_ld rfl hF rfl ?_) | (refine w_st1 rfl hF rfl rfl ?_; clear hF; intro wN hF; (try simp only [List.set_cons_zero, List.set_cons_succ, List.eraseIdx_cons_zero, List.eraseIdx_cons_succ] at hF)) | (refine w_st rfl hF rfl rfl ?_; clear hF; intro wN hF; (try simp only [List.set_cons_zero, List.set_cons_succ, List.eraseIdx_cons_zero, List.eraseIdx_cons_succ] at hF)) | (refine w_fldB rfl rfl ?_) | (refine w_fld rfl hF rfl ?_) | (refine w_ix rfl hF rfl rfl ?_) | (refine w_lde1 rfl hF rfl ?_) | (refine w_lde rfl hF rfl ?_) | (refine w_bs1 rfl hF rfl ?_; clear hF; intro gN wN hF) | (refine w_bs0 rfl hF ?_; clear hF; intro gN wN hF) | (refine w_app rfl hF rfl rfl ?_; clear hF; intro vN wN hF; (try simp only [List.set_cons_zero, List.set_cons_succ, List.eraseIdx_cons_zero, List.eraseIdx_cons_succ] at hF)) | (refine w_appD rfl hF rfl rfl ?_; clear hF; intro vN wN hF; (try simp only [List.set_cons_zero, List.set_cons_succ, List.eraseIdx_cons_zero, List.eraseIdx_cons_succ] at hF)) | (refine w_ld1o rfl hF rfl ?_) | (refine w_st1o rfl hF rfl rfl ?_; clear hF; intro wN hF; (try simp only [List.set_cons_zero, List.set_cons_succ, List.eraseIdx_cons_zero, List.eraseIdx_cons_succ] at hF)) | (refine w_make0 rfl hF rfl rfl ?_; clear hF; intro gN wN hF) | (refine w_to rfl hF rfl rfl ?_; clear hF; intro hF) | (refine w_from rfl hF rfl rfl ?_; clear hF; intro hF)); (try simp only [Act.put, List.setIfInBounds_toArray, List.set_cons_zero, List.set_cons_succ, Nat.zero_add, Nat.zero_mul, Nat.reduceAdd])))
      ((try simp only [Exit.inBlock, Exit.then]); refine bodyPost_ret (w_resc rfl hF) rfl ?_)
      exact ⟨_, rfl, A', n, c', _, rfl, (hF.elemSet (by ((repeat (first | exact List.Mem.head _ | refine List.Mem.tail _ ?_)) <;> exact List.Mem.head _)) k (by ((repeat (first | exact List.Mem.head _ | refine List.Mem.tail _ ?_)) <;> exact List.Mem.head _))).out (by ((repeat (first | exact subn_nil | refine subn_cons (by ((repeat (first | exact List.Mem.head _ | refine List.Mem.tail _ ?_)) <;> exact List.Mem.head _)) ?_)) <;> exact subn_nil)), cont_set _ _ _⟩
end Go.Proofs.Ytcahadkkjfijfaa
