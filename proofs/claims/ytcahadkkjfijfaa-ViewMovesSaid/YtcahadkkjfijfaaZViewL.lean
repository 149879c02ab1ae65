/- ViewMoves: the walk. -/
import Derived.Test.YtcahadkkjfijfaaZAl11
import Derived.Test.YtcahadkkjfijfaaZ5
import Derived.Test.YtcahadkkjfijfaaZ10
import Derived.Test.YtcahadkkjfijfaaZ13
import Derived.Laws.StructEq
import Derived.Test.YtcahadkkjfijfaaZ6
import Derived.Test.YtcahadkkjfijfaaZ11
import Derived.Test.YtcahadkkjfijfaaZShort11
import Derived.Test.YtcahadkkjfijfaaZ16
set_option linter.unusedVariables false
set_option linter.unusedSimpArgs false
set_option maxRecDepth 100000
namespace Go.Proofs.Ytcahadkkjfijfaa
open Go.RowKit Go.Sort

set_option maxHeartbeats 8000000 in
theorem ViewMoves_any (As : Option Addr) (ns cs : Nat) (ss : List Pu) (ways : Int) (A : Option Addr) (n c : Nat) (S : List Cs) (Aq : Option Addr) (nq cq : Nat) (q : List Rq) (m : ByteArray) (w : World)
    (hrs : Rd w w.heap.size 2 As ns cs (pus ss)) (hp0 : ∀ p ∈ ss, PuOk p) (hr : RdS w w.heap.size A n c S) (hso : SOk S) (hwb : -9223372036854775808 ≤ ways ∧ ways ≤ 9223372036854775807) (hrq : Rd w w.heap.size 4 Aq nq cq (rqs q)) (hq0 : ∀ r ∈ q, RqOk r) (hm : m.size ≤ maxLen) :
    Calls Try.prog 9 #[.slice As ns cs, .agg #[.int .i64 ways, .slice A n c], .slice Aq nq cq, .string m] w fun e w' => e = .returned (.bool true) ∧ Bel w w' := by
  have hF := St.start w _ (allD_ok hr hrq hrs)
  unfold allD at hF
  obtain ⟨P1, eP⟩ : ∃ P1, shortP ss = P1 := ⟨_, rfl⟩
  obtain ⟨Q1, eQ⟩ : ∃ Q1, shortQ q = Q1 := ⟨_, rfl⟩
  obtain ⟨C1, eC⟩ : ∃ C1, shortC (cont S) = C1 := ⟨_, rfl⟩
  obtain ⟨m1, em⟩ : ∃ m1, shortM m = m1 := ⟨_, rfl⟩
  have hPo : ∀ p ∈ P1, p.addr < 4294967296 ∧ p.data.size ≤ 40 := by rw [← eP]; exact shortP_ok hp0
  have hQo : ∀ r ∈ Q1, r.line < 4294967296 ∧ r.data.size ≤ 40 := by rw [← eQ]; exact shortQ_ok fun r hr => (hq0 r hr).2.1
  have hok40 : ∀ ws ∈ C1, ∀ v ∈ ws, v.line < 4294967296 ∧ v.data.size ≤ 40 := by rw [← eC]; exact shortC_ok hso
  have hok : COk C1 := fun ws hw v hv => ⟨(hok40 ws hw v hv).1, by have := (hok40 ws hw v hv).2; unfold maxLen; omega⟩
  have hm1 : m1.size ≤ 300 := by rw [← em]; exact shortM_size m
  have hP10 : P1.length ≤ 10 := by rw [← eP]; exact shortP_len ss
  have hQ10 : Q1.length ≤ 10 := by rw [← eQ]; exact shortQ_len q
  have hmm : m1.size ≤ maxLen := by unfold maxLen; omega
  have hm6 : m1.size ≤ 1000000 := by omega
  have hQn : Q1.length ≤ 1000000 := by omega
  have hPn : P1.length ≤ 1000000 := by omega
  have hQl : ∀ r ∈ Q1, r.line < 4294967296 := fun r hr => (hQo r hr).1
  have hQm : ∀ r ∈ Q1, r.line < 4294967296 ∧ r.data.size ≤ maxLen := fun r hr => ⟨(hQo r hr).1, by have := (hQo r hr).2; unfold maxLen; omega⟩
  have hPm : ∀ p ∈ P1, p.addr < 4294967296 ∧ p.data.size ≤ maxLen := fun r hr => ⟨(hPo r hr).1, by have := (hPo r hr).2; unfold maxLen; omega⟩
  have hP4 : ∀ p ∈ P1, p.addr < 4294967296 ∧ p.data.size ≤ 140737488355328 := fun r hr => ⟨(hPo r hr).1, by have := (hPo r hr).2; omega⟩
  have hPa : ∀ p ∈ P1, p.addr < 4294967296 := fun r hr => (hPo r hr).1
  have hlC : C1.length ≤ 6 := by rw [← eC]; exact shortC_len _
  have hwC : ∀ ws ∈ C1, ws.length ≤ 6 := by rw [← eC]; exact shortC_ws
  have hlen1 : C1.length ≤ 1000 ∧ ∀ ws ∈ C1, ws.length ≤ 1000 := ⟨by omega, fun ws hw => by have := hwC ws hw; omega⟩
  clear hp0 hq0 hso hok40 hPo hQo hQm hP4 hm6
  obtain ⟨al, hal⟩ : ∃ al, ovS m1 (writesL Q1 ++ linesL C1 ++ P1) = al := ⟨_, rfl⟩
  have hszb : ((al.size : Int) != (m1.size : Int)) = false := by rw [← hal, ovS_size]; simp
  go_enter Try.func9, Try.ntmps9
  by_cases hR : RightP ways C1
  · go_upto_if 45 with (first | (go_at_call 41; refine (short11_any ways A n c S Aq nq cq q As ns cs ss m _ hF.rds hF.rdA hF.rdA).mono ?_; rintro e wN ⟨_, _, _, rfl, hSR⟩; rw [eP, eC, eQ] at hSR; rw [em]; obtain ⟨As1, cs1, A1, n1, c1, S1, Aq1, cq1, rfl, rfl, rfl, hO, hC1⟩ := hSR; replace hF := hF.call4A hO; clear hO; have hso1 : SOk S1 := (COk.sok (by rw [hC1]; exact hok))) | (go_at_call 42; refine (g_vall hF.rds hF.rdA hF.rdA (by assumption) (by assumption) (by assumption) (by assumption) hmm (by assumption) (by assumption) (by assumption)).mono ?_; rintro e wN ⟨rfl, hb⟩; replace hF := hF.grow hb; clear hb) | (go_at_call 43; refine (alive11_any _).mono ?_; rintro e wN ⟨rfl, hb⟩; replace hF := hF.grow hb; clear hb) | (go_at_call 22; refine (refRight_all hso1 (by rw [hC1]; exact yesR hR) _ hF.rds).mono ?_; rintro e wN ⟨rfl, hb⟩; replace hF := hF.grow hb; clear hb) | ((first | (refine w_box rfl hF rfl ?_; clear hF; intro gN wN hF) | (refine w_alloc rfl hF ?_; clear hF; intro gN wN hF) | (refine w_ld1 rfl hF rfl ?_) | (refine w_ld rfl hF rfl ?_) | (refine w_st1 rfl hF rfl rfl ?_; clear hF; intro wN hF; (try simp only [List.set_cons_zero, List.set_cons_succ, List.eraseIdx_cons_zero, List.eraseIdx_cons_succ] at hF)) | (refine w_st rfl hF rfl rfl ?_; clear hF; intro wN hF; (try simp only [List.set_cons_zero, List.set_cons_succ, List.eraseIdx_cons_zero, List.eraseIdx_cons_succ] at hF)) | (refine w_fldB rfl rfl ?_) | (refine w_fld rfl hF rfl ?_) | (refine w_ix rfl hF rfl rfl ?_) | (refine w_lde1 rfl hF rfl ?_) | (refine w_lde rfl hF rfl ?_) | (refine w_bs1 rfl hF rfl ?_; clear hF; intro gN wN hF) | (refine w_bs0 rfl hF ?_; clear hF; intro gN wN hF) | (refine w_app rfl hF rfl rfl ?_; clear hF; intro vN wN hF; (try simp only [List.set_cons_zero, List.set_cons_succ, List.eraseIdx_cons_zero, List.eraseIdx_cons_succ] at hF)) | (refine w_appD rfl hF rfl rfl ?_; clear hF; intro vN wN hF; (try simp only [List.set_cons_zero, List.set_cons_succ, List.eraseIdx_cons_zero, List.eraseIdx_cons_succ] at hF)) | (refine w_ld1o rfl hF rfl ?_) | (refine w_st1o rfl hF rfl rfl ?_; clear hF; intro wN hF; (try simp only [List.set_cons_zero, List.set_cons_succ, List.eraseIdx_cons_zero, List.eraseIdx_cons_succ] at hF)) | (refine w_make0 rfl hF rfl rfl ?_; clear hF; intro gN wN hF) | (refine w_to rfl hF rfl rfl ?_; clear hF; intro hF) | (refine w_from rfl hF rfl rfl ?_; clear hF; intro hF)); (try simp only [Act.put, List.setIfInBounds_toArray, List.set_cons_zero, List.set_cons_succ, Nat.zero_add, Nat.zero_mul, Nat.reduceAdd])))
    rename_i K hK
    obtain ⟨gC, rfl⟩ := hF.names1
    have hF := hF.lessA [rowD 2 As1 P1.length cs1 (pus P1), rowD 1 A1 n1 c1 (csv S1), elemsD S1, rowD 4 Aq1 Q1.length cq1 (rqs Q1)]
    go_cut [] (fun wx => St w [rowD 2 As ns cs (pus ss), rowD 1 A n c (csv S), elemsD S, rowD 4 Aq nq cq (rqs q)] wx [.blk gC 36 [.int .i64 ways, .slice A1 n1 c1]] [rowD 2 As1 P1.length cs1 (pus P1), rowD 1 A1 n1 c1 (csv S1), elemsD S1, rowD 4 Aq1 Q1.length cq1 (rqs Q1)])
    case first =>
      by_cases h0 : P1 = []
      · have hdb : decide (0 < P1.length) = false := by rw [h0]; rfl
        have hnn : ¬ 0 < P1.length := by rw [h0]; exact Nat.lt_irrefl 0
        go_wp2
        go_meet
        exact hF
      · obtain ⟨pa, pd, r, h1⟩ : ∃ pa pd r, P1 = ⟨pa, pd⟩ :: r := by
          cases hP : P1 with
          | nil => exact absurd hP h0
          | cons p r => exact ⟨p.addr, p.data, r, rfl⟩
        have hdb : decide (0 < P1.length) = true := by rw [h1]; rfl
        have hn0 : 0 < P1.length := by rw [h1]; exact Nat.zero_lt_succ _
        have hn1 : 1 ≤ P1.length := hn0
        have hu0 : (pus P1)[0]? = some (.int .u32 (pa : Int)) := by rw [h1]; rfl
        have hu1 : (pus P1)[1]? = some (.string pd) := by rw [h1]; rfl
        obtain ⟨hpa, hpd⟩ : pa < 4294967296 ∧ pd.size ≤ maxLen := hPm ⟨pa, pd⟩ (by rw [h1]; exact List.mem_cons_self ..)
        have hra : ∀ p ∈ r, p.addr < 4294967296 := fun p hp => hPa p (by rw [h1]; exact List.mem_cons_of_mem _ hp)
        obtain ⟨CW, ok, hW⟩ := write_ex ways C1 pa pd
        have hF := hF.fromPart (k := 1) (sz := 2) (A := As1) (n := P1.length) (c := cs1) (xs := pus P1) (by ((repeat (first | exact List.Mem.head _ | refine List.Mem.tail _ ?_)) <;> exact List.Mem.head _)) hn1
        rw [show (pus P1).drop (1 * 2) = pus r by rw [h1]; rfl] at hF
        have hokW := hW.cok hok
        have hRW := hW.right hR
        have hlenW : CW.length ≤ 1000 ∧ ∀ ws ∈ CW, ws.length ≤ 1000 := ⟨by have := hRW.hn; omega, fun ws hw => by
          obtain ⟨k, hk⟩ := List.mem_iff_getElem?.1 hw
          have := ways_le hRW (hRW.hs k ws hk).1
          omega⟩
        have hallW : ok = true → ovS m1 (writesL Q1 ++ linesL CW ++ r) = al := fun e => by
          rw [← hal, h1]
          refine ovS_eq ?_
          subst e
          exact all_write (s := ⟨pa, pd⟩) hW hR
        clear h1 h0
        go_upto_region 8 with (first | ((first | (refine w_box rfl hF rfl ?_; clear hF; intro gN wN hF) | (refine w_alloc rfl hF ?_; clear hF; intro gN wN hF) | (refine w_ld1 rfl hF rfl ?_) | (refine w_ld rfl hF rfl ?_) | (refine w_st1 rfl hF rfl rfl ?_; clear hF; intro wN hF; (try simp only [List.set_cons_zero, List.set_cons_succ, List.eraseIdx_cons_zero, List.eraseIdx_cons_succ] at hF)) | (refine w_st rfl hF rfl rfl ?_; clear hF; intro wN hF; (try simp only [List.set_cons_zero, List.set_cons_succ, List.eraseIdx_cons_zero, List.eraseIdx_cons_succ] at hF)) | (refine w_fldB rfl rfl ?_) | (refine w_fld rfl hF rfl ?_) | (refine w_ix rfl hF rfl rfl ?_) | (refine w_lde1 rfl hF rfl ?_) | (refine w_lde rfl hF rfl ?_) | (refine w_bs1 rfl hF rfl ?_; clear hF; intro gN wN hF) | (refine w_bs0 rfl hF ?_; clear hF; intro gN wN hF) | (refine w_app rfl hF rfl rfl ?_; clear hF; intro vN wN hF; (try simp only [List.set_cons_zero, List.set_cons_succ, List.eraseIdx_cons_zero, List.eraseIdx_cons_succ] at hF)) | (refine w_appD rfl hF rfl rfl ?_; clear hF; intro vN wN hF; (try simp only [List.set_cons_zero, List.set_cons_succ, List.eraseIdx_cons_zero, List.eraseIdx_cons_succ] at hF)) | (refine w_ld1o rfl hF rfl ?_) | (refine w_st1o rfl hF rfl rfl ?_; clear hF; intro wN hF; (try simp only [List.set_cons_zero, List.set_cons_succ, List.eraseIdx_cons_zero, List.eraseIdx_cons_succ] at hF)) | (refine w_make0 rfl hF rfl rfl ?_; clear hF; intro gN wN hF) | (refine w_to rfl hF rfl rfl ?_; clear hF; intro hF) | (refine w_from rfl hF rfl rfl ?_; clear hF; intro hF)); (try simp only [Act.put, List.setIfInBounds_toArray, List.set_cons_zero, List.set_cons_succ, Nat.zero_add, Nat.zero_mul, Nat.reduceAdd])))
        rename_i K2 hK2 K3 hK3
        go_cut [10, 11] (fun p s wx => ∃ gW A2 n2 c2 S2, p = .pointer (some ⟨gW, 0, none⟩) ∧ s = .bool ok ∧ Hid (cont S2 = CW) ∧ St w [rowD 2 As ns cs (pus ss), rowD 1 A n c (csv S), elemsD S, rowD 4 Aq nq cq (rqs q)] wx [.blk gW 36 [.int .i64 ways, .slice A2 n2 c2], .blk gC 36 [.int .i64 ways, .slice A1 n1 c1]] [rowD 1 A2 n2 c2 (csv S2), elemsD S2, rowD 2 (cutA As1 1 cs1 2) (P1.length - 1) (cs1 - 1) (pus r), rowD 2 As1 P1.length cs1 (pus P1), rowD 1 A1 n1 c1 (csv S1), elemsD S1, rowD 4 Aq1 Q1.length cq1 (rqs Q1)])
        case first =>
          refine wp_region_st (by kernel_rfl) hF [.blk gC 36 [.int .i64 ways, .slice A1 n1 c1]] _ (by ((repeat (first | exact subn_nil | refine subn_cons (by ((repeat (first | exact List.Mem.head _ | refine List.Mem.tail _ ?_)) <;> exact List.Mem.head _)) ?_)) <;> exact subn_nil)) (fun _ h => h) ?_
          clear hF; intro hF hH
          (first | refine w_take (i := 0) rfl (y_ld1 rfl rfl) hH ?_ | refine w_take (i := 0) rfl (y_ld rfl rfl) hH ?_ | refine w_take (i := 0) rfl (y_lde1 rfl rfl) hH ?_ | refine w_take (i := 0) rfl (y_lde rfl rfl) hH ?_); (try simp only [Act.put, List.setIfInBounds_toArray, List.set_cons_zero, List.set_cons_succ, Nat.zero_add, Nat.zero_mul, Nat.reduceAdd])
          (refine w_take (i := 1) rfl (y_move rfl rfl) hH ?_); (try simp only [Act.put, List.setIfInBounds_toArray, List.set_cons_zero, List.set_cons_succ, Nat.zero_add, Nat.zero_mul, Nat.reduceAdd])
          (first | refine w_take (i := 2) rfl (y_ix rfl rfl rfl) hH ?_ | refine w_take (i := 2) rfl (y_ixB rfl rfl rfl) hH ?_); (try simp only [Act.put, List.setIfInBounds_toArray, List.set_cons_zero, List.set_cons_succ, Nat.zero_add, Nat.zero_mul, Nat.reduceAdd])
          (first | refine w_take (i := 3) rfl (y_fldB rfl rfl) hH ?_ | refine w_take (i := 3) rfl (y_fld rfl rfl) hH ?_); (try simp only [Act.put, List.setIfInBounds_toArray, List.set_cons_zero, List.set_cons_succ, Nat.zero_add, Nat.zero_mul, Nat.reduceAdd])
          (first | refine w_take (i := 4) rfl (y_ld1 rfl rfl) hH ?_ | refine w_take (i := 4) rfl (y_ld rfl rfl) hH ?_ | refine w_take (i := 4) rfl (y_lde1 rfl rfl) hH ?_ | refine w_take (i := 4) rfl (y_lde rfl rfl) hH ?_); (try simp only [Act.put, List.setIfInBounds_toArray, List.set_cons_zero, List.set_cons_succ, Nat.zero_add, Nat.zero_mul, Nat.reduceAdd])
          (refine w_take (i := 5) rfl (y_move rfl rfl) hH ?_); (try simp only [Act.put, List.setIfInBounds_toArray, List.set_cons_zero, List.set_cons_succ, Nat.zero_add, Nat.zero_mul, Nat.reduceAdd])
          (first | refine w_take (i := 6) rfl (y_ix rfl rfl rfl) hH ?_ | refine w_take (i := 6) rfl (y_ixB rfl rfl rfl) hH ?_); (try simp only [Act.put, List.setIfInBounds_toArray, List.set_cons_zero, List.set_cons_succ, Nat.zero_add, Nat.zero_mul, Nat.reduceAdd])
          (first | refine w_take (i := 7) rfl (y_fldB rfl rfl) hH ?_ | refine w_take (i := 7) rfl (y_fld rfl rfl) hH ?_); (try simp only [Act.put, List.setIfInBounds_toArray, List.set_cons_zero, List.set_cons_succ, Nat.zero_add, Nat.zero_mul, Nat.reduceAdd])
          (first | refine w_take (i := 8) rfl (y_ld1 rfl rfl) hH ?_ | refine w_take (i := 8) rfl (y_ld rfl rfl) hH ?_ | refine w_take (i := 8) rfl (y_lde1 rfl rfl) hH ?_ | refine w_take (i := 8) rfl (y_lde rfl rfl) hH ?_); (try simp only [Act.put, List.setIfInBounds_toArray, List.set_cons_zero, List.set_cons_succ, Nat.zero_add, Nat.zero_mul, Nat.reduceAdd])
          refine wpAnyH_ready (rs := [9, 13]) (by kernel_rfl) (by simp) (ready_cons rfl (fun K hK => ?_) (ready_cons rfl (fun K hK => ?_) AllReadyH.nil))
          · go_wp2_with (first | (go_at_call 44; refine (Write_all hpa hpd hso1 (by rw [hC1]; exact hW) _ hF.rds).mono ?_; rintro e wN ⟨_, rfl, A2, n2, c2, S2, rfl, hO, hC2⟩; replace hF := hF.callA hO; clear hO))
            have hH := hH.nextA hF; refine hK.out _ _ hH ?_; clear hK; (try simp only [Act.put, List.setIfInBounds_toArray, List.set_cons_zero, List.set_cons_succ, Nat.zero_add, Nat.zero_mul, Nat.reduceAdd])
            (refine w_take (i := 10) rfl (y_move rfl rfl) hH ?_); (try simp only [Act.put, List.setIfInBounds_toArray, List.set_cons_zero, List.set_cons_succ, Nat.zero_add, Nat.zero_mul, Nat.reduceAdd])
            (refine rg_take (i := 11) (v := ?_) rfl rfl (by kernel_rfl) (by kernel_rfl) (by kernel_rfl) (fun _ _ _ h => h) ?_ hH ?_; rotate_left; (first | exact yi_eq y_skip (by rfl) | (refine yi_pure (by rfl) ?_; intro w; go_simp; done) | (refine yi_pure (by rfl) ?_; intro w; go_simp; with_reducible rfl) | (refine yi_pure (by rfl) ?_; intro w; simp only [Wy.cells]; go_simp; with_reducible rfl)); (try simp only [Act.put, List.setIfInBounds_toArray, List.set_cons_zero, List.set_cons_succ, Nat.zero_add, Nat.zero_mul, Nat.reduceAdd]))
            (refine rg_take (i := 12) (v := ?_) rfl rfl (by kernel_rfl) (by kernel_rfl) (by kernel_rfl) (fun _ _ _ h => h) ?_ hH ?_; rotate_left; (first | exact yi_eq y_skip (by rfl) | (refine yi_pure (by rfl) ?_; intro w; go_simp; done) | (refine yi_pure (by rfl) ?_; intro w; go_simp; with_reducible rfl) | (refine yi_pure (by rfl) ?_; intro w; simp only [Wy.cells]; go_simp; with_reducible rfl)); (try simp only [Act.put, List.setIfInBounds_toArray, List.set_cons_zero, List.set_cons_succ, Nat.zero_add, Nat.zero_mul, Nat.reduceAdd]))
            refine wpAnyH_ready (rs := [13]) (by kernel_rfl) (by simp) (ready_cons rfl (fun K hK => ?_) AllReadyH.nil)
            go_wp2_with ((refine w_alloc rfl hF ?_; clear hF; intro gN wN hF); (try simp only [Act.put, List.setIfInBounds_toArray, List.set_cons_zero, List.set_cons_succ, Nat.zero_add, Nat.zero_mul, Nat.reduceAdd]))
            have hH := hH.nextA hF; refine hK.out _ _ hH ?_; clear hK; (try simp only [Act.put, List.setIfInBounds_toArray, List.set_cons_zero, List.set_cons_succ, Nat.zero_add, Nat.zero_mul, Nat.reduceAdd])
            refine wpAnyH_ready (rs := [14]) (by kernel_rfl) (by simp) (ready_cons rfl (fun K hK => ?_) AllReadyH.nil)
            go_wp2_with ((first | (refine w_st1 rfl hF rfl rfl ?_; clear hF; intro wN hF; (try simp only [List.set_cons_zero, List.set_cons_succ, List.eraseIdx_cons_zero, List.eraseIdx_cons_succ] at hF)) | (refine w_st rfl hF rfl rfl ?_; clear hF; intro wN hF; (try simp only [List.set_cons_zero, List.set_cons_succ, List.eraseIdx_cons_zero, List.eraseIdx_cons_succ] at hF)) | (refine w_st1o rfl hF rfl rfl ?_; clear hF; intro wN hF; (try simp only [List.set_cons_zero, List.set_cons_succ, List.eraseIdx_cons_zero, List.eraseIdx_cons_succ] at hF))); (try simp only [Act.put, List.setIfInBounds_toArray, List.set_cons_zero, List.set_cons_succ, Nat.zero_add, Nat.zero_mul, Nat.reduceAdd]))
            have hH := hH.nextA hF; refine hK.out _ _ hH ?_; clear hK; (try simp only [Act.put, List.setIfInBounds_toArray, List.set_cons_zero, List.set_cons_succ, Nat.zero_add, Nat.zero_mul, Nat.reduceAdd])
            (refine w_take (i := 15) rfl (y_assign rfl rfl) hH ?_); (try simp only [Act.put, List.setIfInBounds_toArray, List.set_cons_zero, List.set_cons_succ, Nat.zero_add, Nat.zero_mul, Nat.reduceAdd])
            refine wpAnyH_done (by kernel_rfl) ?_ _
            (go_wp2; go_meet; exact ⟨_, A2, n2, c2, S2, rfl, rfl, Lib.hid hC2, hF⟩)
          · go_wp2_with ((refine w_alloc rfl hF ?_; clear hF; intro gN wN hF); (try simp only [Act.put, List.setIfInBounds_toArray, List.set_cons_zero, List.set_cons_succ, Nat.zero_add, Nat.zero_mul, Nat.reduceAdd]))
            have hH := hH.nextA hF; refine hK.out _ _ hH ?_; clear hK; (try simp only [Act.put, List.setIfInBounds_toArray, List.set_cons_zero, List.set_cons_succ, Nat.zero_add, Nat.zero_mul, Nat.reduceAdd])
            refine wpAnyH_ready (rs := [9]) (by kernel_rfl) (by simp) (ready_cons rfl (fun K hK => ?_) AllReadyH.nil)
            go_wp2_with (first | (go_at_call 44; refine (Write_all hpa hpd hso1 (by rw [hC1]; exact hW) _ hF.rds).mono ?_; rintro e wN ⟨_, rfl, A2, n2, c2, S2, rfl, hO, hC2⟩; replace hF := hF.callA hO; clear hO))
            have hH := hH.nextA hF; refine hK.out _ _ hH ?_; clear hK; (try simp only [Act.put, List.setIfInBounds_toArray, List.set_cons_zero, List.set_cons_succ, Nat.zero_add, Nat.zero_mul, Nat.reduceAdd])
            (refine w_take (i := 10) rfl (y_move rfl rfl) hH ?_); (try simp only [Act.put, List.setIfInBounds_toArray, List.set_cons_zero, List.set_cons_succ, Nat.zero_add, Nat.zero_mul, Nat.reduceAdd])
            (refine rg_take (i := 11) (v := ?_) rfl rfl (by kernel_rfl) (by kernel_rfl) (by kernel_rfl) (fun _ _ _ h => h) ?_ hH ?_; rotate_left; (first | exact yi_eq y_skip (by rfl) | (refine yi_pure (by rfl) ?_; intro w; go_simp; done) | (refine yi_pure (by rfl) ?_; intro w; go_simp; with_reducible rfl) | (refine yi_pure (by rfl) ?_; intro w; simp only [Wy.cells]; go_simp; with_reducible rfl)); (try simp only [Act.put, List.setIfInBounds_toArray, List.set_cons_zero, List.set_cons_succ, Nat.zero_add, Nat.zero_mul, Nat.reduceAdd]))
            (refine rg_take (i := 12) (v := ?_) rfl rfl (by kernel_rfl) (by kernel_rfl) (by kernel_rfl) (fun _ _ _ h => h) ?_ hH ?_; rotate_left; (first | exact yi_eq y_skip (by rfl) | (refine yi_pure (by rfl) ?_; intro w; go_simp; done) | (refine yi_pure (by rfl) ?_; intro w; go_simp; with_reducible rfl) | (refine yi_pure (by rfl) ?_; intro w; simp only [Wy.cells]; go_simp; with_reducible rfl)); (try simp only [Act.put, List.setIfInBounds_toArray, List.set_cons_zero, List.set_cons_succ, Nat.zero_add, Nat.zero_mul, Nat.reduceAdd]))
            refine wpAnyH_ready (rs := [14]) (by kernel_rfl) (by simp) (ready_cons rfl (fun K hK => ?_) AllReadyH.nil)
            go_wp2_with ((first | (refine w_st1 rfl hF rfl rfl ?_; clear hF; intro wN hF; (try simp only [List.set_cons_zero, List.set_cons_succ, List.eraseIdx_cons_zero, List.eraseIdx_cons_succ] at hF)) | (refine w_st rfl hF rfl rfl ?_; clear hF; intro wN hF; (try simp only [List.set_cons_zero, List.set_cons_succ, List.eraseIdx_cons_zero, List.eraseIdx_cons_succ] at hF)) | (refine w_st1o rfl hF rfl rfl ?_; clear hF; intro wN hF; (try simp only [List.set_cons_zero, List.set_cons_succ, List.eraseIdx_cons_zero, List.eraseIdx_cons_succ] at hF))); (try simp only [Act.put, List.setIfInBounds_toArray, List.set_cons_zero, List.set_cons_succ, Nat.zero_add, Nat.zero_mul, Nat.reduceAdd]))
            have hH := hH.nextA hF; refine hK.out _ _ hH ?_; clear hK; (try simp only [Act.put, List.setIfInBounds_toArray, List.set_cons_zero, List.set_cons_succ, Nat.zero_add, Nat.zero_mul, Nat.reduceAdd])
            (refine w_take (i := 15) rfl (y_assign rfl rfl) hH ?_); (try simp only [Act.put, List.setIfInBounds_toArray, List.set_cons_zero, List.set_cons_succ, Nat.zero_add, Nat.zero_mul, Nat.reduceAdd])
            refine wpAnyH_done (by kernel_rfl) ?_ _
            (go_wp2; go_meet; exact ⟨_, A2, n2, c2, S2, rfl, rfl, Lib.hid hC2, hF⟩)
        case rest =>
          obtain ⟨gW, A2, n2, c2, S2, rfl, rfl, hC2, hF⟩ := hcut
          replace hC2 := hC2.out
          refine hK3 _ _ ?_
          go_upto_region 9 with (first | ((first | (refine w_box rfl hF rfl ?_; clear hF; intro gN wN hF) | (refine w_alloc rfl hF ?_; clear hF; intro gN wN hF) | (refine w_ld1 rfl hF rfl ?_) | (refine w_ld rfl hF rfl ?_) | (refine w_st1 rfl hF rfl rfl ?_; clear hF; intro wN hF; (try simp only [List.set_cons_zero, List.set_cons_succ, List.eraseIdx_cons_zero, List.eraseIdx_cons_succ] at hF)) | (refine w_st rfl hF rfl rfl ?_; clear hF; intro wN hF; (try simp only [List.set_cons_zero, List.set_cons_succ, List.eraseIdx_cons_zero, List.eraseIdx_cons_succ] at hF)) | (refine w_fldB rfl rfl ?_) | (refine w_fld rfl hF rfl ?_) | (refine w_ix rfl hF rfl rfl ?_) | (refine w_lde1 rfl hF rfl ?_) | (refine w_lde rfl hF rfl ?_) | (refine w_bs1 rfl hF rfl ?_; clear hF; intro gN wN hF) | (refine w_bs0 rfl hF ?_; clear hF; intro gN wN hF) | (refine w_app rfl hF rfl rfl ?_; clear hF; intro vN wN hF; (try simp only [List.set_cons_zero, List.set_cons_succ, List.eraseIdx_cons_zero, List.eraseIdx_cons_succ] at hF)) | (refine w_appD rfl hF rfl rfl ?_; clear hF; intro vN wN hF; (try simp only [List.set_cons_zero, List.set_cons_succ, List.eraseIdx_cons_zero, List.eraseIdx_cons_succ] at hF)) | (refine w_ld1o rfl hF rfl ?_) | (refine w_st1o rfl hF rfl rfl ?_; clear hF; intro wN hF; (try simp only [List.set_cons_zero, List.set_cons_succ, List.eraseIdx_cons_zero, List.eraseIdx_cons_succ] at hF)) | (refine w_make0 rfl hF rfl rfl ?_; clear hF; intro gN wN hF) | (refine w_to rfl hF rfl rfl ?_; clear hF; intro hF) | (refine w_from rfl hF rfl rfl ?_; clear hF; intro hF)); (try simp only [Act.put, List.setIfInBounds_toArray, List.set_cons_zero, List.set_cons_succ, Nat.zero_add, Nat.zero_mul, Nat.reduceAdd])))
          cases ok
          · skip
            refine wp_region_st (by kernel_rfl) hF _ _ (fun _ h => h) (fun _ h => h) ?_
            clear hF; intro hF hH
            (refine w_take (i := 0) rfl (y_move rfl rfl) hH ?_); (try simp only [Act.put, List.setIfInBounds_toArray, List.set_cons_zero, List.set_cons_succ, Nat.zero_add, Nat.zero_mul, Nat.reduceAdd])
            (refine w_take (i := 1) rfl (y_move rfl rfl) hH ?_); (try simp only [Act.put, List.setIfInBounds_toArray, List.set_cons_zero, List.set_cons_succ, Nat.zero_add, Nat.zero_mul, Nat.reduceAdd])
            (first | refine w_take (i := 2) rfl (y_move rfl rfl) hH ?_ | refine w_take (i := 2) rfl (y_skip) hH ?_); (try simp only [Act.put, List.setIfInBounds_toArray, List.set_cons_zero, List.set_cons_succ, Nat.zero_add, Nat.zero_mul, Nat.reduceAdd])
            (first | refine w_take (i := 3) rfl (y_to rfl rfl rfl) hH ?_ | refine w_take (i := 3) rfl (y_from rfl rfl rfl) hH ?_ | refine w_take (i := 3) rfl (y_strto rfl rfl rfl) hH ?_ | refine w_take (i := 3) rfl (y_strfrom rfl rfl rfl) hH ?_ | refine w_take (i := 3) rfl (y_skip) hH ?_); (try simp only [Act.put, List.setIfInBounds_toArray, List.set_cons_zero, List.set_cons_succ, Nat.zero_add, Nat.zero_mul, Nat.reduceAdd])
            (first | refine w_take (i := 4) rfl (y_ld1 rfl rfl) hH ?_ | refine w_take (i := 4) rfl (y_ld rfl rfl) hH ?_ | refine w_take (i := 4) rfl (y_lde1 rfl rfl) hH ?_ | refine w_take (i := 4) rfl (y_lde rfl rfl) hH ?_ | refine w_take (i := 4) rfl (y_skip) hH ?_); (try simp only [Act.put, List.setIfInBounds_toArray, List.set_cons_zero, List.set_cons_succ, Nat.zero_add, Nat.zero_mul, Nat.reduceAdd])
            (first | refine w_take (i := 5) rfl (y_move rfl rfl) hH ?_ | refine w_take (i := 5) rfl (y_skip) hH ?_); (try simp only [Act.put, List.setIfInBounds_toArray, List.set_cons_zero, List.set_cons_succ, Nat.zero_add, Nat.zero_mul, Nat.reduceAdd])
            (first | refine w_take (i := 6) rfl (y_move rfl rfl) hH ?_ | refine w_take (i := 6) rfl (y_skip) hH ?_); (try simp only [Act.put, List.setIfInBounds_toArray, List.set_cons_zero, List.set_cons_succ, Nat.zero_add, Nat.zero_mul, Nat.reduceAdd])
            (first | refine w_take (i := 8) rfl (y_move rfl rfl) hH ?_ | refine w_take (i := 8) rfl (y_skip) hH ?_); (try simp only [Act.put, List.setIfInBounds_toArray, List.set_cons_zero, List.set_cons_succ, Nat.zero_add, Nat.zero_mul, Nat.reduceAdd])
            refine wpAnyH_ready (rs := [7]) (by kernel_rfl) (by simp) (ready_cons rfl (fun K hK => ?_) AllReadyH.nil)
            go_wp2_with (first | (go_at_call 42; refine (g_vall hF.rds hF.rdA hF.rdA (by assumption) (by assumption) (by assumption) (by assumption) hmm (by assumption) (by assumption) (by assumption)).mono ?_; rintro e wN ⟨rfl, hb⟩; replace hF := hF.grow hb; clear hb))
            have hH := hH.nextA hF; refine hK.out _ _ hH ?_; clear hK; (try simp only [Act.put, List.setIfInBounds_toArray, List.set_cons_zero, List.set_cons_succ, Nat.zero_add, Nat.zero_mul, Nat.reduceAdd])
            (refine rg_take (i := 9) (v := ?_) rfl rfl (by kernel_rfl) (by kernel_rfl) (by kernel_rfl) (fun _ _ _ h => h) ?_ hH ?_; rotate_left; (first | exact yi_eq y_skip (by rfl) | (refine yi_pure (by rfl) ?_; intro w; go_simp; done) | (refine yi_pure (by rfl) ?_; intro w; go_simp; with_reducible rfl) | (refine yi_pure (by rfl) ?_; intro w; simp only [Wy.cells]; go_simp; with_reducible rfl)); (try simp only [Act.put, List.setIfInBounds_toArray, List.set_cons_zero, List.set_cons_succ, Nat.zero_add, Nat.zero_mul, Nat.reduceAdd]))
            (refine rg_take (i := 10) (v := ?_) rfl rfl (by kernel_rfl) (by kernel_rfl) (by kernel_rfl) (fun _ _ _ h => h) ?_ hH ?_; rotate_left; (first | exact yi_eq y_skip (by rfl) | (refine yi_pure (by rfl) ?_; intro w; go_simp; done) | (refine yi_pure (by rfl) ?_; intro w; go_simp; with_reducible rfl) | (refine yi_pure (by rfl) ?_; intro w; simp only [Wy.cells]; go_simp; with_reducible rfl)); (try simp only [Act.put, List.setIfInBounds_toArray, List.set_cons_zero, List.set_cons_succ, Nat.zero_add, Nat.zero_mul, Nat.reduceAdd]))
            refine wpAnyH_done (by kernel_rfl) ?_ _
            go_wp2
            go_meet
            exact (hF.drop 0).lessA _
          · have hal2 := hallW rfl
            refine wp_region_st (by kernel_rfl) hF _ _ (fun _ h => h) (fun _ h => h) ?_
            clear hF; intro hF hH
            (refine w_take (i := 0) rfl (y_move rfl rfl) hH ?_); (try simp only [Act.put, List.setIfInBounds_toArray, List.set_cons_zero, List.set_cons_succ, Nat.zero_add, Nat.zero_mul, Nat.reduceAdd])
            (refine w_take (i := 1) rfl (y_move rfl rfl) hH ?_); (try simp only [Act.put, List.setIfInBounds_toArray, List.set_cons_zero, List.set_cons_succ, Nat.zero_add, Nat.zero_mul, Nat.reduceAdd])
            (first | refine w_take (i := 2) rfl (y_move rfl rfl) hH ?_ | refine w_take (i := 2) rfl (y_skip) hH ?_); (try simp only [Act.put, List.setIfInBounds_toArray, List.set_cons_zero, List.set_cons_succ, Nat.zero_add, Nat.zero_mul, Nat.reduceAdd])
            (first | refine w_take (i := 3) rfl (y_to rfl rfl rfl) hH ?_ | refine w_take (i := 3) rfl (y_from rfl rfl rfl) hH ?_ | refine w_take (i := 3) rfl (y_strto rfl rfl rfl) hH ?_ | refine w_take (i := 3) rfl (y_strfrom rfl rfl rfl) hH ?_ | refine w_take (i := 3) rfl (y_skip) hH ?_); (try simp only [Act.put, List.setIfInBounds_toArray, List.set_cons_zero, List.set_cons_succ, Nat.zero_add, Nat.zero_mul, Nat.reduceAdd])
            (first | refine w_take (i := 4) rfl (y_ld1 rfl rfl) hH ?_ | refine w_take (i := 4) rfl (y_ld rfl rfl) hH ?_ | refine w_take (i := 4) rfl (y_lde1 rfl rfl) hH ?_ | refine w_take (i := 4) rfl (y_lde rfl rfl) hH ?_ | refine w_take (i := 4) rfl (y_skip) hH ?_); (try simp only [Act.put, List.setIfInBounds_toArray, List.set_cons_zero, List.set_cons_succ, Nat.zero_add, Nat.zero_mul, Nat.reduceAdd])
            (first | refine w_take (i := 5) rfl (y_move rfl rfl) hH ?_ | refine w_take (i := 5) rfl (y_skip) hH ?_); (try simp only [Act.put, List.setIfInBounds_toArray, List.set_cons_zero, List.set_cons_succ, Nat.zero_add, Nat.zero_mul, Nat.reduceAdd])
            (first | refine w_take (i := 6) rfl (y_move rfl rfl) hH ?_ | refine w_take (i := 6) rfl (y_skip) hH ?_); (try simp only [Act.put, List.setIfInBounds_toArray, List.set_cons_zero, List.set_cons_succ, Nat.zero_add, Nat.zero_mul, Nat.reduceAdd])
            (first | refine w_take (i := 8) rfl (y_move rfl rfl) hH ?_ | refine w_take (i := 8) rfl (y_skip) hH ?_); (try simp only [Act.put, List.setIfInBounds_toArray, List.set_cons_zero, List.set_cons_succ, Nat.zero_add, Nat.zero_mul, Nat.reduceAdd])
            refine wpAnyH_ready (rs := [7]) (by kernel_rfl) (by simp) (ready_cons rfl (fun K hK => ?_) AllReadyH.nil)
            go_wp2_with (first | (go_at_call 42; refine (g_vall hF.rds hF.rdA hF.rdA (by assumption) (by assumption) (by assumption) (by assumption) hmm (by assumption) (by assumption) (by assumption)).mono ?_; rintro e wN ⟨rfl, hb⟩; replace hF := hF.grow hb; clear hb))
            have hH := hH.nextA hF; refine hK.out _ _ hH ?_; clear hK; (try simp only [Act.put, List.setIfInBounds_toArray, List.set_cons_zero, List.set_cons_succ, Nat.zero_add, Nat.zero_mul, Nat.reduceAdd])
            (refine rg_take (i := 9) (v := ?_) rfl rfl (by kernel_rfl) (by kernel_rfl) (by kernel_rfl) (fun _ _ _ h => h) ?_ hH ?_; rotate_left; (first | exact yi_eq y_skip (by rfl) | (refine yi_pure (by rfl) ?_; intro w; go_simp; done) | (refine yi_pure (by rfl) ?_; intro w; go_simp; with_reducible rfl) | (refine yi_pure (by rfl) ?_; intro w; simp only [Wy.cells]; go_simp; with_reducible rfl)); (try simp only [Act.put, List.setIfInBounds_toArray, List.set_cons_zero, List.set_cons_succ, Nat.zero_add, Nat.zero_mul, Nat.reduceAdd]))
            (refine rg_take (i := 10) (v := ?_) rfl rfl (by kernel_rfl) (by kernel_rfl) (by kernel_rfl) (fun _ _ _ h => h) ?_ hH ?_; rotate_left; (first | exact yi_eq y_skip (by rfl) | (refine yi_pure (by rfl) ?_; intro w; go_simp; done) | (refine yi_pure (by rfl) ?_; intro w; go_simp; with_reducible rfl) | (refine yi_pure (by rfl) ?_; intro w; simp only [Wy.cells]; go_simp; with_reducible rfl)); (try simp only [Act.put, List.setIfInBounds_toArray, List.set_cons_zero, List.set_cons_succ, Nat.zero_add, Nat.zero_mul, Nat.reduceAdd]))
            refine wpAnyH_done (by kernel_rfl) ?_ _
            go_wp2
            go_meet
            exact (hF.drop 0).lessA _
    case rest =>
      have hF := hcut
      refine hK _ _ ?_
      clear hcut
      have hr2 := hF.rds (A := A1) (n := n1) (c := c1) (S := S1)
      have hsl := hr2.slen
      have hc1 := hr2.rd.le
      have hc2 := hr2.rd.mx
      unfold maxLen at hc2
      have hn6 : n1 ≤ 6 := by rw [← hsl, ← cont_len, hC1]; exact hlC
      clear hr2
      go_wp2_with (first | ((first | (refine w_box rfl hF rfl ?_; clear hF; intro gN wN hF) | (refine w_alloc rfl hF ?_; clear hF; intro gN wN hF) | (refine w_ld1 rfl hF rfl ?_) | (refine w_ld rfl hF rfl ?_) | (refine w_st1 rfl hF rfl rfl ?_; clear hF; intro wN hF; (try simp only [List.set_cons_zero, List.set_cons_succ, List.eraseIdx_cons_zero, List.eraseIdx_cons_succ] at hF)) | (refine w_st rfl hF rfl rfl ?_; clear hF; intro wN hF; (try simp only [List.set_cons_zero, List.set_cons_succ, List.eraseIdx_cons_zero, List.eraseIdx_cons_succ] at hF)) | (refine w_fldB rfl rfl ?_) | (refine w_fld rfl hF rfl ?_) | (refine w_ix rfl hF rfl rfl ?_) | (refine w_lde1 rfl hF rfl ?_) | (refine w_lde rfl hF rfl ?_) | (refine w_bs1 rfl hF rfl ?_; clear hF; intro gN wN hF) | (refine w_bs0 rfl hF ?_; clear hF; intro gN wN hF) | (refine w_app rfl hF rfl rfl ?_; clear hF; intro vN wN hF; (try simp only [List.set_cons_zero, List.set_cons_succ, List.eraseIdx_cons_zero, List.eraseIdx_cons_succ] at hF)) | (refine w_appD rfl hF rfl rfl ?_; clear hF; intro vN wN hF; (try simp only [List.set_cons_zero, List.set_cons_succ, List.eraseIdx_cons_zero, List.eraseIdx_cons_succ] at hF)) | (refine w_ld1o rfl hF rfl ?_) | (refine w_st1o rfl hF rfl rfl ?_; clear hF; intro wN hF; (try simp only [List.set_cons_zero, List.set_cons_succ, List.eraseIdx_cons_zero, List.eraseIdx_cons_succ] at hF)) | (refine w_make0 rfl hF rfl rfl ?_; clear hF; intro gN wN hF) | (refine w_to rfl hF rfl rfl ?_; clear hF; intro hF) | (refine w_from rfl hF rfl rfl ?_; clear hF; intro hF)); (try simp only [Act.put, List.setIfInBounds_toArray, List.set_cons_zero, List.set_cons_succ, Nat.zero_add, Nat.zero_mul, Nat.reduceAdd])))
      go_loopw [73] (fun ix wr => ∃ (k : Nat), k ≤ n1 ∧ ix = .int .i64 (k : Int) ∧ St w [rowD 2 As ns cs (pus ss), rowD 1 A n c (csv S), elemsD S, rowD 4 Aq nq cq (rqs q)] wr [.blk gC 36 [.int .i64 ways, .slice A1 n1 c1]] [rowD 2 As1 P1.length cs1 (pus P1), rowD 1 A1 n1 c1 (csv S1), elemsD S1, rowD 4 Aq1 Q1.length cq1 (rqs Q1)]) (fun ix _ => n1 - (intOf ix).toNat)
      case atStart => exact ⟨0, by omega, rfl, hF⟩
      case round =>
        obtain ⟨k, hk, rfl, hF⟩ := hrel
        by_cases hkn : k < n1
        · obtain ⟨s, hs⟩ : ∃ s, S1[k]? = some s := ⟨_, List.getElem?_eq_getElem (by omega)⟩
          obtain ⟨sA, m', sc, ws⟩ := s
          have hck : (csv S1)[k * 1]? = some (.slice sA m' sc) := csv_el2 hs
          have hF := hF.elemA hs
          simp only at hF
          have hse := hF.rdA (sz := 3) (A := sA) (n := m') (c := sc) (xs := wys ws)
          have hm1' := hse.le
          have hm2 := hse.mx
          have hwl := hse.wyslen
          unfold maxLen at hm2
          clear hse
          have hset : C1[k]? = some ws := by rw [← hC1]; exact vcont_el hs
          by_cases hm0 : m' = 0
          · subst hm0
            go_wp2_with (first | ((first | (refine w_box rfl hF rfl ?_; clear hF; intro gN wN hF) | (refine w_alloc rfl hF ?_; clear hF; intro gN wN hF) | (refine w_ld1 rfl hF rfl ?_) | (refine w_ld rfl hF rfl ?_) | (refine w_st1 rfl hF rfl rfl ?_; clear hF; intro wN hF; (try simp only [List.set_cons_zero, List.set_cons_succ, List.eraseIdx_cons_zero, List.eraseIdx_cons_succ] at hF)) | (refine w_st rfl hF rfl rfl ?_; clear hF; intro wN hF; (try simp only [List.set_cons_zero, List.set_cons_succ, List.eraseIdx_cons_zero, List.eraseIdx_cons_succ] at hF)) | (refine w_fldB rfl rfl ?_) | (refine w_fld rfl hF rfl ?_) | (refine w_ix rfl hF rfl rfl ?_) | (refine w_lde1 rfl hF rfl ?_) | (refine w_lde rfl hF rfl ?_) | (refine w_bs1 rfl hF rfl ?_; clear hF; intro gN wN hF) | (refine w_bs0 rfl hF ?_; clear hF; intro gN wN hF) | (refine w_app rfl hF rfl rfl ?_; clear hF; intro vN wN hF; (try simp only [List.set_cons_zero, List.set_cons_succ, List.eraseIdx_cons_zero, List.eraseIdx_cons_succ] at hF)) | (refine w_appD rfl hF rfl rfl ?_; clear hF; intro vN wN hF; (try simp only [List.set_cons_zero, List.set_cons_succ, List.eraseIdx_cons_zero, List.eraseIdx_cons_succ] at hF)) | (refine w_ld1o rfl hF rfl ?_) | (refine w_st1o rfl hF rfl rfl ?_; clear hF; intro wN hF; (try simp only [List.set_cons_zero, List.set_cons_succ, List.eraseIdx_cons_zero, List.eraseIdx_cons_succ] at hF)) | (refine w_make0 rfl hF rfl rfl ?_; clear hF; intro gN wN hF) | (refine w_to rfl hF rfl rfl ?_; clear hF; intro hF) | (refine w_from rfl hF rfl rfl ?_; clear hF; intro hF)); (try simp only [Act.put, List.setIfInBounds_toArray, List.set_cons_zero, List.set_cons_succ, Nat.zero_add, Nat.zero_mul, Nat.reduceAdd])))
            go_roundw
            case rel => exact ⟨k + 1, by omega, by go_num, hF.lessA _⟩
            case measure => first | (simp [intOf]; done) | (simp [intOf]; omega)
          · obtain ⟨l, hl⟩ : ∃ l, m' = l + 1 := ⟨m' - 1, by omega⟩
            have hll : ws.length = l + 1 := by rw [hwl, hl]
            obtain ⟨v, hv⟩ : ∃ v, ws[l]? = some v := ⟨_, List.getElem?_eq_getElem (by omega)⟩
            have hcast : (m' : Int) - 1 = (l : Int) := by omega
            have hne : ¬ ((m' : Int) = 0) := by omega
            have hlm : l < m' := by omega
            have hlm2 : l ≤ m' := by omega
            have hlc : l ≤ sc := by omega
            have hRk : RightP ways (C1.set k (ws.take l)) := hR.set_ (take_ok (hR.hs k ws hset) l)
            have hev := all_evict (q := Q1) (m := bl m1) (ss := P1) hR hset hll hv (max 1 1)
            obtain ⟨Ck, hCk⟩ : ∃ Ck, C1.set k (ws.take l) = Ck := ⟨_, rfl⟩
            have hokk : COk Ck := by rw [← hCk]; exact hok.set k fun u hu => hok.at_ hset u (List.mem_of_mem_take hu)
            rw [hCk] at hRk hev
            have hlenk : Ck.length ≤ 1000 ∧ ∀ ws ∈ Ck, ws.length ≤ 1000 := ⟨by have := hRk.hn; omega, fun ws hw => by
              obtain ⟨k, hk⟩ := List.mem_iff_getElem?.1 hw
              have := ways_le hRk (hRk.hs k ws hk).1
              omega⟩
            obtain ⟨QQ, hQQ⟩ : ∃ QQ, Q1 ++ [(⟨4, v.line, max 1 1, v.data⟩ : Rq)] = QQ := ⟨_, rfl⟩
            have halk : ovS m1 (writesL QQ ++ linesL Ck ++ P1) = al := by rw [← hal, ← hQQ]; exact ovS_eq hev
            have hQQl : ∀ r ∈ QQ, r.line < 4294967296 := by
              rw [← hQQ]
              intro r hr
              rcases List.mem_append.1 hr with hr | hr
              · exact hQl r hr
              · obtain rfl := List.mem_singleton.1 hr
                exact (hok.at_ hset v (List.mem_of_getElem? hv)).1
            have hQQn : Q1.length + 1 ≤ 1000000 := by omega
            have hF := hF.toPart (N := l) (sz := 3) (A := sA) (n := m') (c := sc) (xs := wys ws) (by ((repeat (first | exact List.Mem.head _ | refine List.Mem.tail _ ?_)) <;> exact List.Mem.head _)) hlm2
            rw [wys_take] at hF
            have hu := hv
            obtain ⟨ul, ud, ub⟩ := v
            clear hv hev hl hll hm0
            go_upto_region 18 with (first | ((refine w_eqF rfl rfl rfl ?_); (try simp only [Act.put, List.setIfInBounds_toArray, List.set_cons_zero, List.set_cons_succ, Nat.zero_add, Nat.zero_mul, Nat.reduceAdd])) | (refine w_lde (us := [.int .u32 (ul : Int), .bool ud, .string ub]) (hu := Rows.sub (f := wys) hu) rfl hF rfl ?_) | ((first | (refine w_box rfl hF rfl ?_; clear hF; intro gN wN hF) | (refine w_alloc rfl hF ?_; clear hF; intro gN wN hF) | (refine w_ld1 rfl hF rfl ?_) | (refine w_ld rfl hF rfl ?_) | (refine w_st1 rfl hF rfl rfl ?_; clear hF; intro wN hF; (try simp only [List.set_cons_zero, List.set_cons_succ, List.eraseIdx_cons_zero, List.eraseIdx_cons_succ] at hF)) | (refine w_st rfl hF rfl rfl ?_; clear hF; intro wN hF; (try simp only [List.set_cons_zero, List.set_cons_succ, List.eraseIdx_cons_zero, List.eraseIdx_cons_succ] at hF)) | (refine w_fldB rfl rfl ?_) | (refine w_fld rfl hF rfl ?_) | (refine w_ix rfl hF rfl rfl ?_) | (refine w_lde1 rfl hF rfl ?_) | (refine w_lde rfl hF rfl ?_) | (refine w_bs1 rfl hF rfl ?_; clear hF; intro gN wN hF) | (refine w_bs0 rfl hF ?_; clear hF; intro gN wN hF) | (refine w_app rfl hF rfl rfl ?_; clear hF; intro vN wN hF; (try simp only [List.set_cons_zero, List.set_cons_succ, List.eraseIdx_cons_zero, List.eraseIdx_cons_succ] at hF)) | (refine w_appD rfl hF rfl rfl ?_; clear hF; intro vN wN hF; (try simp only [List.set_cons_zero, List.set_cons_succ, List.eraseIdx_cons_zero, List.eraseIdx_cons_succ] at hF)) | (refine w_ld1o rfl hF rfl ?_) | (refine w_st1o rfl hF rfl rfl ?_; clear hF; intro wN hF; (try simp only [List.set_cons_zero, List.set_cons_succ, List.eraseIdx_cons_zero, List.eraseIdx_cons_succ] at hF)) | (refine w_make0 rfl hF rfl rfl ?_; clear hF; intro gN wN hF) | (refine w_to rfl hF rfl rfl ?_; clear hF; intro hF) | (refine w_from rfl hF rfl rfl ?_; clear hF; intro hF)); (try simp only [Act.put, List.setIfInBounds_toArray, List.set_cons_zero, List.set_cons_succ, Nat.zero_add, Nat.zero_mul, Nat.reduceAdd])))
            simp only [List.nil_append, Nat.zero_add] at hF
            obtain ⟨g6, d6, e6, _, _⟩ := hF.ownSome at0 (by omega)
            subst e6
            obtain ⟨gD, gT, rfl, rfl⟩ := (hF.drop 0).names2
            have hoffc : k * 1 < (csv S1).length := by rw [csv_len, hsl]; omega
            have hoffc1 : k < (csv S1).length := by rw [csv_len, hsl]; omega
            have hcsv : (csv S1).set k (.slice sA l sc) = csv (S1.set k ⟨sA, l, sc, ws.take l⟩) := by rw [← csv_set]; rfl
            have hCk2 : cont (S1.set k ⟨sA, l, sc, ws.take l⟩) = Ck := by rw [cont_set, hC1]; exact hCk
            dsimp only at hQQ
            replace hcsv := Lib.hid hcsv
            replace hQQ := Lib.hid hQQ
            refine wp_region_st (by kernel_rfl) hF [.blk gD 36 [.int .i64 ways, .slice (some ⟨g6, 0, none⟩) n1 d6]] _ (by ((repeat (first | exact subn_nil | refine subn_cons (by ((repeat (first | exact List.Mem.head _ | refine List.Mem.tail _ ?_)) <;> exact List.Mem.head _)) ?_)) <;> exact subn_nil)) (fun _ h => h) ?_
            clear hF; intro hF hH
            (first | refine w_take (i := 0) rfl (y_fldB rfl rfl) hH ?_ | refine w_take (i := 0) rfl (y_fld rfl rfl) hH ?_); (try simp only [Act.put, List.setIfInBounds_toArray, List.set_cons_zero, List.set_cons_succ, Nat.zero_add, Nat.zero_mul, Nat.reduceAdd])
            (first | refine w_take (i := 1) rfl (y_ld1 rfl rfl) hH ?_ | refine w_take (i := 1) rfl (y_ld rfl rfl) hH ?_ | refine w_take (i := 1) rfl (y_lde1 rfl rfl) hH ?_ | refine w_take (i := 1) rfl (y_lde rfl rfl) hH ?_); (try simp only [Act.put, List.setIfInBounds_toArray, List.set_cons_zero, List.set_cons_succ, Nat.zero_add, Nat.zero_mul, Nat.reduceAdd])
            (refine w_take (i := 2) rfl (y_move rfl rfl) hH ?_); (try simp only [Act.put, List.setIfInBounds_toArray, List.set_cons_zero, List.set_cons_succ, Nat.zero_add, Nat.zero_mul, Nat.reduceAdd])
            (refine w_take (i := 3) rfl (y_move rfl rfl) hH ?_); (try simp only [Act.put, List.setIfInBounds_toArray, List.set_cons_zero, List.set_cons_succ, Nat.zero_add, Nat.zero_mul, Nat.reduceAdd])
            (refine w_take (i := 4) rfl (y_move rfl rfl) hH ?_); (try simp only [Act.put, List.setIfInBounds_toArray, List.set_cons_zero, List.set_cons_succ, Nat.zero_add, Nat.zero_mul, Nat.reduceAdd])
            (first | refine w_take (i := 5) rfl (y_len rfl rfl) hH ?_ | refine w_take (i := 5) rfl (y_lens rfl rfl) hH ?_); (try simp only [Act.put, List.setIfInBounds_toArray, List.set_cons_zero, List.set_cons_succ, Nat.zero_add, Nat.zero_mul, Nat.reduceAdd])
            refine wpAnyH_ready (rs := [6]) (by kernel_rfl) (by simp) (ready_cons rfl (fun K hK => ?_) AllReadyH.nil)
            go_wp2_with (first | fail | ((first | (refine w_box rfl hF rfl ?_; clear hF; intro gN wN hF) | (refine w_alloc rfl hF ?_; clear hF; intro gN wN hF) | (refine w_ld1 rfl hF rfl ?_) | (refine w_ld rfl hF rfl ?_) | (refine w_st1 rfl hF rfl rfl ?_; clear hF; intro wN hF; (try simp only [List.set_cons_zero, List.set_cons_succ, List.eraseIdx_cons_zero, List.eraseIdx_cons_succ] at hF)) | (refine w_st rfl hF rfl rfl ?_; clear hF; intro wN hF; (try simp only [List.set_cons_zero, List.set_cons_succ, List.eraseIdx_cons_zero, List.eraseIdx_cons_succ] at hF)) | (refine w_fldB rfl rfl ?_) | (refine w_fld rfl hF rfl ?_) | (refine w_ix rfl hF rfl rfl ?_) | (refine w_lde1 rfl hF rfl ?_) | (refine w_lde rfl hF rfl ?_) | (refine w_bs1 rfl hF rfl ?_; clear hF; intro gN wN hF) | (refine w_bs0 rfl hF ?_; clear hF; intro gN wN hF) | (refine w_app rfl hF rfl rfl ?_; clear hF; intro vN wN hF; (try simp only [List.set_cons_zero, List.set_cons_succ, List.eraseIdx_cons_zero, List.eraseIdx_cons_succ] at hF)) | (refine w_appD rfl hF rfl rfl ?_; clear hF; intro vN wN hF; (try simp only [List.set_cons_zero, List.set_cons_succ, List.eraseIdx_cons_zero, List.eraseIdx_cons_succ] at hF)) | (refine w_ld1o rfl hF rfl ?_) | (refine w_st1o rfl hF rfl rfl ?_; clear hF; intro wN hF; (try simp only [List.set_cons_zero, List.set_cons_succ, List.eraseIdx_cons_zero, List.eraseIdx_cons_succ] at hF)) | (refine w_make0 rfl hF rfl rfl ?_; clear hF; intro gN wN hF) | (refine w_to rfl hF rfl rfl ?_; clear hF; intro hF) | (refine w_from rfl hF rfl rfl ?_; clear hF; intro hF)); (try simp only [Act.put, List.setIfInBounds_toArray, List.set_cons_zero, List.set_cons_succ, Nat.zero_add, Nat.zero_mul, Nat.reduceAdd])))
            have hH := hH.nextA hF; refine hK.out _ _ hH ?_; clear hK; (try simp only [Act.put, List.setIfInBounds_toArray, List.set_cons_zero, List.set_cons_succ, Nat.zero_add, Nat.zero_mul, Nat.reduceAdd])
            (first | refine w_take (i := 7) rfl (y_to rfl rfl rfl) hH ?_ | refine w_take (i := 7) rfl (y_from rfl rfl rfl) hH ?_ | refine w_take (i := 7) rfl (y_strto rfl rfl rfl) hH ?_ | refine w_take (i := 7) rfl (y_strfrom rfl rfl rfl) hH ?_); (try simp only [Act.put, List.setIfInBounds_toArray, List.set_cons_zero, List.set_cons_succ, Nat.zero_add, Nat.zero_mul, Nat.reduceAdd])
            (first | refine w_take (i := 8) rfl (y_ix rfl rfl rfl) hH ?_ | refine w_take (i := 8) rfl (y_ixB rfl rfl rfl) hH ?_); (try simp only [Act.put, List.setIfInBounds_toArray, List.set_cons_zero, List.set_cons_succ, Nat.zero_add, Nat.zero_mul, Nat.reduceAdd])
            refine wpAnyH_ready (rs := [9]) (by kernel_rfl) (by simp) (ready_cons rfl (fun K hK => ?_) AllReadyH.nil)
            go_wp2_with ((first | (refine w_st1 rfl hF rfl rfl ?_; clear hF; intro wN hF; (try simp only [List.set_cons_zero, List.set_cons_succ, List.eraseIdx_cons_zero, List.eraseIdx_cons_succ] at hF)) | (refine w_st rfl hF rfl rfl ?_; clear hF; intro wN hF; (try simp only [List.set_cons_zero, List.set_cons_succ, List.eraseIdx_cons_zero, List.eraseIdx_cons_succ] at hF)) | (refine w_st1o rfl hF rfl rfl ?_; clear hF; intro wN hF; (try simp only [List.set_cons_zero, List.set_cons_succ, List.eraseIdx_cons_zero, List.eraseIdx_cons_succ] at hF))); (try simp only [Act.put, List.setIfInBounds_toArray, List.set_cons_zero, List.set_cons_succ, Nat.zero_add, Nat.zero_mul, Nat.reduceAdd]))
            have hH := hH.nextA hF; refine hK.out _ _ hH ?_; clear hK; (try simp only [Act.put, List.setIfInBounds_toArray, List.set_cons_zero, List.set_cons_succ, Nat.zero_add, Nat.zero_mul, Nat.reduceAdd])
            refine wpAnyH_done (by kernel_rfl) ?_ _
            (try rw [Nat.mul_one] at hF)
            rw [hcsv.out] at hF
            have hF := hF.elemSet (S := S1) (by ((repeat (first | exact List.Mem.head _ | refine List.Mem.tail _ ?_)) <;> exact List.Mem.head _)) k (A2 := sA) (n2 := l) (c2 := sc) (q2 := ws.take l) (by ((repeat (first | exact List.Mem.head _ | refine List.Mem.tail _ ?_)) <;> exact List.Mem.head _))
            obtain ⟨A7, c7, hvv, hF⟩ := hF.freeze 0 at0
            injection hvv with hv1 _ hv2
            subst hv1 hv2
            (try simp only [List.set_cons_zero, List.set_cons_succ, List.eraseIdx_cons_zero, List.eraseIdx_cons_succ] at hF)
            go_upto_region 19 with (first | ((first | (refine w_box rfl hF rfl ?_; clear hF; intro gN wN hF) | (refine w_alloc rfl hF ?_; clear hF; intro gN wN hF) | (refine w_ld1 rfl hF rfl ?_) | (refine w_ld rfl hF rfl ?_) | (refine w_st1 rfl hF rfl rfl ?_; clear hF; intro wN hF; (try simp only [List.set_cons_zero, List.set_cons_succ, List.eraseIdx_cons_zero, List.eraseIdx_cons_succ] at hF)) | (refine w_st rfl hF rfl rfl ?_; clear hF; intro wN hF; (try simp only [List.set_cons_zero, List.set_cons_succ, List.eraseIdx_cons_zero, List.eraseIdx_cons_succ] at hF)) | (refine w_fldB rfl rfl ?_) | (refine w_fld rfl hF rfl ?_) | (refine w_ix rfl hF rfl rfl ?_) | (refine w_lde1 rfl hF rfl ?_) | (refine w_lde rfl hF rfl ?_) | (refine w_bs1 rfl hF rfl ?_; clear hF; intro gN wN hF) | (refine w_bs0 rfl hF ?_; clear hF; intro gN wN hF) | (refine w_app rfl hF rfl rfl ?_; clear hF; intro vN wN hF; (try simp only [List.set_cons_zero, List.set_cons_succ, List.eraseIdx_cons_zero, List.eraseIdx_cons_succ] at hF)) | (refine w_appD rfl hF rfl rfl ?_; clear hF; intro vN wN hF; (try simp only [List.set_cons_zero, List.set_cons_succ, List.eraseIdx_cons_zero, List.eraseIdx_cons_succ] at hF)) | (refine w_ld1o rfl hF rfl ?_) | (refine w_st1o rfl hF rfl rfl ?_; clear hF; intro wN hF; (try simp only [List.set_cons_zero, List.set_cons_succ, List.eraseIdx_cons_zero, List.eraseIdx_cons_succ] at hF)) | (refine w_make0 rfl hF rfl rfl ?_; clear hF; intro gN wN hF) | (refine w_to rfl hF rfl rfl ?_; clear hF; intro hF) | (refine w_from rfl hF rfl rfl ?_; clear hF; intro hF)); (try simp only [Act.put, List.setIfInBounds_toArray, List.set_cons_zero, List.set_cons_succ, Nat.zero_add, Nat.zero_mul, Nat.reduceAdd])))
            refine wp_region_st (by kernel_rfl) hF _ _ (fun _ h => h) (fun _ h => h) ?_
            clear hF; intro hF hH
            (refine w_take (i := 0) rfl (y_move rfl rfl) hH ?_); (try simp only [Act.put, List.setIfInBounds_toArray, List.set_cons_zero, List.set_cons_succ, Nat.zero_add, Nat.zero_mul, Nat.reduceAdd])
            (first | refine w_take (i := 1) rfl (y_ld1 rfl rfl) hH ?_ | refine w_take (i := 1) rfl (y_ld rfl rfl) hH ?_ | refine w_take (i := 1) rfl (y_lde1 rfl rfl) hH ?_ | refine w_take (i := 1) rfl (y_lde rfl rfl) hH ?_); (try simp only [Act.put, List.setIfInBounds_toArray, List.set_cons_zero, List.set_cons_succ, Nat.zero_add, Nat.zero_mul, Nat.reduceAdd])
            (refine w_take (i := 2) rfl (y_move rfl rfl) hH ?_); (try simp only [Act.put, List.setIfInBounds_toArray, List.set_cons_zero, List.set_cons_succ, Nat.zero_add, Nat.zero_mul, Nat.reduceAdd])
            (first | refine w_take (i := 3) rfl (y_fldB rfl rfl) hH ?_ | refine w_take (i := 3) rfl (y_fld rfl rfl) hH ?_); (try simp only [Act.put, List.setIfInBounds_toArray, List.set_cons_zero, List.set_cons_succ, Nat.zero_add, Nat.zero_mul, Nat.reduceAdd])
            (first | refine w_take (i := 4) rfl (y_ld1 rfl rfl) hH ?_ | refine w_take (i := 4) rfl (y_ld rfl rfl) hH ?_ | refine w_take (i := 4) rfl (y_lde1 rfl rfl) hH ?_ | refine w_take (i := 4) rfl (y_lde rfl rfl) hH ?_); (try simp only [Act.put, List.setIfInBounds_toArray, List.set_cons_zero, List.set_cons_succ, Nat.zero_add, Nat.zero_mul, Nat.reduceAdd])
            (first | refine w_take (i := 5) rfl (y_fldB rfl rfl) hH ?_ | refine w_take (i := 5) rfl (y_fld rfl rfl) hH ?_); (try simp only [Act.put, List.setIfInBounds_toArray, List.set_cons_zero, List.set_cons_succ, Nat.zero_add, Nat.zero_mul, Nat.reduceAdd])
            (first | refine w_take (i := 6) rfl (y_ld1 rfl rfl) hH ?_ | refine w_take (i := 6) rfl (y_ld rfl rfl) hH ?_ | refine w_take (i := 6) rfl (y_lde1 rfl rfl) hH ?_ | refine w_take (i := 6) rfl (y_lde rfl rfl) hH ?_); (try simp only [Act.put, List.setIfInBounds_toArray, List.set_cons_zero, List.set_cons_succ, Nat.zero_add, Nat.zero_mul, Nat.reduceAdd])
            (refine w_take (i := 8) rfl (y_move rfl rfl) hH ?_); (try simp only [Act.put, List.setIfInBounds_toArray, List.set_cons_zero, List.set_cons_succ, Nat.zero_add, Nat.zero_mul, Nat.reduceAdd])
            (refine w_take (i := 10) rfl (y_move rfl rfl) hH ?_); (try simp only [Act.put, List.setIfInBounds_toArray, List.set_cons_zero, List.set_cons_succ, Nat.zero_add, Nat.zero_mul, Nat.reduceAdd])
            refine wpAnyH_ready (rs := [7]) (by kernel_rfl) (by simp) (ready_cons rfl (fun K hK => ?_) AllReadyH.nil)
            go_wp2_with (first | (go_at_call 45; refine (vPush_any _ _ _ _ _ _ _ _ _ hF.rdA hQn (by decide)).mono ?_; rw [hQQ.out]; rintro e wN ⟨A3, c3, rfl, hO⟩; replace hF := hF.call1A hO; clear hO) | (go_at_call 42; refine (g_vall hF.rds hF.rdA hF.rdA (by assumption) (by assumption) (by assumption) (by assumption) hmm (by assumption) (by assumption) (by assumption)).mono ?_; rintro e wN ⟨rfl, hb⟩; replace hF := hF.grow hb; clear hb))
            have hH := hH.nextA hF; refine hK.out _ _ hH ?_; clear hK; (try simp only [Act.put, List.setIfInBounds_toArray, List.set_cons_zero, List.set_cons_succ, Nat.zero_add, Nat.zero_mul, Nat.reduceAdd])
            refine wpAnyH_ready (rs := [9]) (by kernel_rfl) (by simp) (ready_cons rfl (fun K hK => ?_) AllReadyH.nil)
            go_wp2_with (first | (go_at_call 45; refine (vPush_any _ _ _ _ _ _ _ _ _ hF.rdA hQn (by decide)).mono ?_; rw [hQQ.out]; rintro e wN ⟨A3, c3, rfl, hO⟩; replace hF := hF.call1A hO; clear hO) | (go_at_call 42; refine (g_vall hF.rds hF.rdA hF.rdA (by assumption) (by assumption) (by assumption) (by assumption) hmm (by assumption) (by assumption) (by assumption)).mono ?_; rintro e wN ⟨rfl, hb⟩; replace hF := hF.grow hb; clear hb))
            have hH := hH.nextA hF; refine hK.out _ _ hH ?_; clear hK; (try simp only [Act.put, List.setIfInBounds_toArray, List.set_cons_zero, List.set_cons_succ, Nat.zero_add, Nat.zero_mul, Nat.reduceAdd])
            (refine rg_take (i := 11) (v := ?_) rfl rfl (by kernel_rfl) (by kernel_rfl) (by kernel_rfl) (fun _ _ _ h => h) ?_ hH ?_; rotate_left; (first | exact yi_eq y_skip (by rfl) | (refine yi_pure (by rfl) ?_; intro w; go_simp; done) | (refine yi_pure (by rfl) ?_; intro w; go_simp; with_reducible rfl) | (refine yi_pure (by rfl) ?_; intro w; simp only [Wy.cells]; go_simp; with_reducible rfl)); (try simp only [Act.put, List.setIfInBounds_toArray, List.set_cons_zero, List.set_cons_succ, Nat.zero_add, Nat.zero_mul, Nat.reduceAdd]))
            refine wpAnyH_done (by kernel_rfl) ?_ _
            go_wp2_with (first | ((first | (refine w_box rfl hF rfl ?_; clear hF; intro gN wN hF) | (refine w_alloc rfl hF ?_; clear hF; intro gN wN hF) | (refine w_ld1 rfl hF rfl ?_) | (refine w_ld rfl hF rfl ?_) | (refine w_st1 rfl hF rfl rfl ?_; clear hF; intro wN hF; (try simp only [List.set_cons_zero, List.set_cons_succ, List.eraseIdx_cons_zero, List.eraseIdx_cons_succ] at hF)) | (refine w_st rfl hF rfl rfl ?_; clear hF; intro wN hF; (try simp only [List.set_cons_zero, List.set_cons_succ, List.eraseIdx_cons_zero, List.eraseIdx_cons_succ] at hF)) | (refine w_fldB rfl rfl ?_) | (refine w_fld rfl hF rfl ?_) | (refine w_ix rfl hF rfl rfl ?_) | (refine w_lde1 rfl hF rfl ?_) | (refine w_lde rfl hF rfl ?_) | (refine w_bs1 rfl hF rfl ?_; clear hF; intro gN wN hF) | (refine w_bs0 rfl hF ?_; clear hF; intro gN wN hF) | (refine w_app rfl hF rfl rfl ?_; clear hF; intro vN wN hF; (try simp only [List.set_cons_zero, List.set_cons_succ, List.eraseIdx_cons_zero, List.eraseIdx_cons_succ] at hF)) | (refine w_appD rfl hF rfl rfl ?_; clear hF; intro vN wN hF; (try simp only [List.set_cons_zero, List.set_cons_succ, List.eraseIdx_cons_zero, List.eraseIdx_cons_succ] at hF)) | (refine w_ld1o rfl hF rfl ?_) | (refine w_st1o rfl hF rfl rfl ?_; clear hF; intro wN hF; (try simp only [List.set_cons_zero, List.set_cons_succ, List.eraseIdx_cons_zero, List.eraseIdx_cons_succ] at hF)) | (refine w_make0 rfl hF rfl rfl ?_; clear hF; intro gN wN hF) | (refine w_to rfl hF rfl rfl ?_; clear hF; intro hF) | (refine w_from rfl hF rfl rfl ?_; clear hF; intro hF)); (try simp only [Act.put, List.setIfInBounds_toArray, List.set_cons_zero, List.set_cons_succ, Nat.zero_add, Nat.zero_mul, Nat.reduceAdd])))
            go_roundw
            case rel => exact ⟨k + 1, by omega, by go_num, ((hF.drop 0).drop 0).lessA _⟩
            case measure => first | (simp [intOf]; done) | (simp [intOf]; omega)
        · obtain rfl : k = n1 := by omega
          go_wp2_with (first | ((first | (refine w_box rfl hF rfl ?_; clear hF; intro gN wN hF) | (refine w_alloc rfl hF ?_; clear hF; intro gN wN hF) | (refine w_ld1 rfl hF rfl ?_) | (refine w_ld rfl hF rfl ?_) | (refine w_st1 rfl hF rfl rfl ?_; clear hF; intro wN hF; (try simp only [List.set_cons_zero, List.set_cons_succ, List.eraseIdx_cons_zero, List.eraseIdx_cons_succ] at hF)) | (refine w_st rfl hF rfl rfl ?_; clear hF; intro wN hF; (try simp only [List.set_cons_zero, List.set_cons_succ, List.eraseIdx_cons_zero, List.eraseIdx_cons_succ] at hF)) | (refine w_fldB rfl rfl ?_) | (refine w_fld rfl hF rfl ?_) | (refine w_ix rfl hF rfl rfl ?_) | (refine w_lde1 rfl hF rfl ?_) | (refine w_lde rfl hF rfl ?_) | (refine w_bs1 rfl hF rfl ?_; clear hF; intro gN wN hF) | (refine w_bs0 rfl hF ?_; clear hF; intro gN wN hF) | (refine w_app rfl hF rfl rfl ?_; clear hF; intro vN wN hF; (try simp only [List.set_cons_zero, List.set_cons_succ, List.eraseIdx_cons_zero, List.eraseIdx_cons_succ] at hF)) | (refine w_appD rfl hF rfl rfl ?_; clear hF; intro vN wN hF; (try simp only [List.set_cons_zero, List.set_cons_succ, List.eraseIdx_cons_zero, List.eraseIdx_cons_succ] at hF)) | (refine w_ld1o rfl hF rfl ?_) | (refine w_st1o rfl hF rfl rfl ?_; clear hF; intro wN hF; (try simp only [List.set_cons_zero, List.set_cons_succ, List.eraseIdx_cons_zero, List.eraseIdx_cons_succ] at hF)) | (refine w_make0 rfl hF rfl rfl ?_; clear hF; intro gN wN hF) | (refine w_to rfl hF rfl rfl ?_; clear hF; intro hF) | (refine w_from rfl hF rfl rfl ?_; clear hF; intro hF)); (try simp only [Act.put, List.setIfInBounds_toArray, List.set_cons_zero, List.set_cons_succ, Nat.zero_add, Nat.zero_mul, Nat.reduceAdd])))
          go_ret
          exact ⟨rfl, hF.bel⟩
  · go_wp2_with (first | (go_at_call 41; refine (short11_any ways A n c S Aq nq cq q As ns cs ss m _ hF.rds hF.rdA hF.rdA).mono ?_; rintro e wN ⟨_, _, _, rfl, hSR⟩; rw [eP, eC, eQ] at hSR; rw [em]; obtain ⟨As1, cs1, A1, n1, c1, S1, Aq1, cq1, rfl, rfl, rfl, hO, hC1⟩ := hSR; replace hF := hF.call4A hO; clear hO; have hso1 : SOk S1 := (COk.sok (by rw [hC1]; exact hok))) | (go_at_call 42; refine (g_vall hF.rds hF.rdA hF.rdA (by assumption) (by assumption) (by assumption) (by assumption) hmm (by assumption) (by assumption) (by assumption)).mono ?_; rintro e wN ⟨rfl, hb⟩; replace hF := hF.grow hb; clear hb) | (go_at_call 43; refine (alive11_any _).mono ?_; rintro e wN ⟨rfl, hb⟩; replace hF := hF.grow hb; clear hb) | (go_at_call 22; refine (refRight_all hso1 (by rw [hC1]; exact noR hR) _ hF.rds).mono ?_; rintro e wN ⟨rfl, hb⟩; replace hF := hF.grow hb; clear hb) | ((first | (refine w_box rfl hF rfl ?_; clear hF; intro gN wN hF) | (refine w_alloc rfl hF ?_; clear hF; intro gN wN hF) | (refine w_ld1 rfl hF rfl ?_) | (refine w_ld rfl hF rfl ?_) | (refine w_st1 rfl hF rfl rfl ?_; clear hF; intro wN hF; (try simp only [List.set_cons_zero, List.set_cons_succ, List.eraseIdx_cons_zero, List.eraseIdx_cons_succ] at hF)) | (refine w_st rfl hF rfl rfl ?_; clear hF; intro wN hF; (try simp only [List.set_cons_zero, List.set_cons_succ, List.eraseIdx_cons_zero, List.eraseIdx_cons_succ] at hF)) | (refine w_fldB rfl rfl ?_) | (refine w_fld rfl hF rfl ?_) | (refine w_ix rfl hF rfl rfl ?_) | (refine w_lde1 rfl hF rfl ?_) | (refine w_lde rfl hF rfl ?_) | (refine w_bs1 rfl hF rfl ?_; clear hF; intro gN wN hF) | (refine w_bs0 rfl hF ?_; clear hF; intro gN wN hF) | (refine w_app rfl hF rfl rfl ?_; clear hF; intro vN wN hF; (try simp only [List.set_cons_zero, List.set_cons_succ, List.eraseIdx_cons_zero, List.eraseIdx_cons_succ] at hF)) | (refine w_appD rfl hF rfl rfl ?_; clear hF; intro vN wN hF; (try simp only [List.set_cons_zero, List.set_cons_succ, List.eraseIdx_cons_zero, List.eraseIdx_cons_succ] at hF)) | (refine w_ld1o rfl hF rfl ?_) | (refine w_st1o rfl hF rfl rfl ?_; clear hF; intro wN hF; (try simp only [List.set_cons_zero, List.set_cons_succ, List.eraseIdx_cons_zero, List.eraseIdx_cons_succ] at hF)) | (refine w_make0 rfl hF rfl rfl ?_; clear hF; intro gN wN hF) | (refine w_to rfl hF rfl rfl ?_; clear hF; intro hF) | (refine w_from rfl hF rfl rfl ?_; clear hF; intro hF)); (try simp only [Act.put, List.setIfInBounds_toArray, List.set_cons_zero, List.set_cons_succ, Nat.zero_add, Nat.zero_mul, Nat.reduceAdd])))
    go_ret
    exact ⟨rfl, hF.bel⟩
end Go.Proofs.Ytcahadkkjfijfaa
