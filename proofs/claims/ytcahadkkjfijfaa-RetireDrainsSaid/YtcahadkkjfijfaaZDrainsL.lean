/- RetireDrains: the walk. -/
import Derived.Test.YtcahadkkjfijfaaZ14
import Derived.Test.YtcahadkkjfijfaaZ15
import Derived.Test.YtcahadkkjfijfaaZ16
set_option linter.unusedVariables false
set_option linter.unusedSimpArgs false
set_option maxRecDepth 100000
namespace Go.Proofs.Ytcahadkkjfijfaa
open Go.RowKit Go.Sort

theorem rd_nilQ {w : World} {B : Nat} : Rd w B 4 none 0 0 (rqs []) := Rd.nil (Nat.zero_le _)
theorem rd_nilP {w : World} {B : Nat} : Rd w B 2 none 0 0 (pus []) := Rd.nil (Nat.zero_le _)
/-- how long a slice is -/
def lenV : Value → Nat
  | .slice _ n _ => n
  | _ => 0
set_option maxHeartbeats 8000000 in
theorem RetireDrains_any (As : Option Addr) (ns cs : Nat) (ss : List Pu) (ways : Int) (A : Option Addr) (n c : Nat) (S : List Cs) (m : ByteArray) (w : World)
    (hrs : Rd w w.heap.size 2 As ns cs (pus ss)) (hp0 : ∀ p ∈ ss, PuOk p) (hr : RdS w w.heap.size A n c S) (hso : SOk S) (hwb : -9223372036854775808 ≤ ways ∧ ways ≤ 9223372036854775807) (hm : m.size ≤ maxLen) :
    Calls Try.prog 5 #[.slice As ns cs, .agg #[.int .i64 ways, .slice A n c], .string m] w fun e w' => e = .returned (.bool true) ∧ Bel w w' := by
  have hrq : Rd w w.heap.size 4 none 0 0 (rqs []) := Rd.nil (Nat.zero_le _)
  have hF := St.start w _ (allD_ok hr hrq hrs)
  have hq0 : ∀ r ∈ ([] : List Rq), RqOk r := by simp
  unfold allD at hF
  obtain ⟨P1, eP⟩ : ∃ P1, shortP ss = P1 := ⟨_, rfl⟩
  obtain ⟨Q1, eQ⟩ : ∃ Q1, shortQ [] = Q1 := ⟨_, rfl⟩
  obtain ⟨C1, eC⟩ : ∃ C1, shortC (cont S) = C1 := ⟨_, rfl⟩
  obtain ⟨m1, em⟩ : ∃ m1, shortM m = m1 := ⟨_, rfl⟩
  have hPo : ∀ p ∈ P1, p.addr < 4294967296 ∧ p.data.size ≤ 40 := by rw [← eP]; exact shortP_ok hp0
  have hQo : ∀ r ∈ Q1, r.line < 4294967296 ∧ r.data.size ≤ 40 := by rw [← eQ]; exact shortQ_ok fun r hr => (hq0 r hr).2.1
  have hok40 : ∀ ws ∈ C1, ∀ v ∈ ws, v.line < 4294967296 ∧ v.data.size ≤ 40 := by rw [← eC]; exact shortC_ok hso
  have hok : COk C1 := fun ws hw v hv => ⟨(hok40 ws hw v hv).1, by have := (hok40 ws hw v hv).2; unfold maxLen; omega⟩
  have hm1 : m1.size ≤ 300 := by rw [← em]; exact shortM_size m
  have hP10 : P1.length ≤ 10 := by rw [← eP]; exact shortP_len ss
  have hQ10 : Q1.length ≤ 10 := by rw [← eQ]; exact shortQ_len []
  have hmm : m1.size ≤ maxLen := by unfold maxLen; omega
  have hm6 : m1.size ≤ 1000000 := by omega
  have hQn : Q1.length ≤ 1000000 := by omega
  have hPn : P1.length ≤ 1000000 := by omega
  have hQl : ∀ r ∈ Q1, r.line < 4294967296 := fun r hr => (hQo r hr).1
  have hQm : ∀ r ∈ Q1, r.line < 4294967296 ∧ r.data.size ≤ maxLen := fun r hr => ⟨(hQo r hr).1, by have := (hQo r hr).2; unfold maxLen; omega⟩
  have hPm : ∀ p ∈ P1, p.addr < 4294967296 ∧ p.data.size ≤ maxLen := fun r hr => ⟨(hPo r hr).1, by have := (hPo r hr).2; unfold maxLen; omega⟩
  have hP4 : ∀ p ∈ P1, p.addr < 4294967296 ∧ p.data.size ≤ 140737488355328 := fun r hr => ⟨(hPo r hr).1, by have := (hPo r hr).2; omega⟩
  have hPa : ∀ p ∈ P1, p.addr < 4294967296 := fun r hr => (hPo r hr).1
  clear hq0 hQn hQl hQm hQ10 hQo
  by_cases hR : RightP ways C1
  · have hq00 : ∀ r ∈ ([] : List Rq), r.line < 4294967296 ∧ r.data.size ≤ maxLen := by simp
    obtain ⟨al, hal⟩ : ∃ al, ovS m1 (writesL [] ++ linesL C1 ++ P1) = al := ⟨_, rfl⟩
    go_enter Try.func5, Try.ntmps5
    go_wp2_with (first | (go_at_call 21; refine (short20_any ways A n c S none 0 0 [] As ns cs ss m _ hF.rds hF.rdA hF.rdA).mono ?_; rintro e wN ⟨_, _, _, rfl, hSR⟩; rw [eP, eC, eQ] at hSR; rw [em]; obtain ⟨As1, cs1, A1, n1, c1, S1, Aq1, cq1, rfl, rfl, rfl, hO, hC1⟩ := hSR; replace hF := hF.call4A hO; clear hO; have hso1 : SOk S1 := (COk.sok (by rw [hC1]; exact hok))) | (go_at_call 22; refine (refRight_all hso1 (by rw [hC1]; exact yesR hR) _ hF.rds).mono ?_; rintro e wN ⟨rfl, hb⟩; replace hF := hF.grow hb; clear hb) | (go_at_call 23; refine (g_all hF.rds rd_nilQ (by first | exact hF.rdA | exact rd_nilP) (by assumption) (by assumption) (by assumption) (by assumption) hm6 (by first | assumption | exact Nat.zero_le _) (by first | assumption | simp) (by first | assumption | exact Nat.zero_le _) (by first | assumption | simp)).mono ?_; rintro e wN ⟨rfl, hb⟩; replace hF := hF.grow hb; clear hb) | ((first | (refine w_box rfl hF rfl ?_; clear hF; intro gN wN hF) | (refine w_alloc rfl hF ?_; clear hF; intro gN wN hF) | (refine w_ld1 rfl hF rfl ?_) | (refine w_ld rfl hF rfl ?_) | (refine w_st1 rfl hF rfl rfl ?_; clear hF; intro wN hF; (try simp only [List.set_cons_zero, List.set_cons_succ, List.eraseIdx_cons_zero, List.eraseIdx_cons_succ] at hF)) | (refine w_st rfl hF rfl rfl ?_; clear hF; intro wN hF; (try simp only [List.set_cons_zero, List.set_cons_succ, List.eraseIdx_cons_zero, List.eraseIdx_cons_succ] at hF)) | (refine w_fldB rfl rfl ?_) | (refine w_fld rfl hF rfl ?_) | (refine w_ix rfl hF rfl rfl ?_) | (refine w_lde1 rfl hF rfl ?_) | (refine w_lde rfl hF rfl ?_) | (refine w_bs1 rfl hF rfl ?_; clear hF; intro gN wN hF) | (refine w_bs0 rfl hF ?_; clear hF; intro gN wN hF) | (refine w_app rfl hF rfl rfl ?_; clear hF; intro vN wN hF; (try simp only [List.set_cons_zero, List.set_cons_succ, List.eraseIdx_cons_zero, List.eraseIdx_cons_succ] at hF)) | (refine w_appD rfl hF rfl rfl ?_; clear hF; intro vN wN hF; (try simp only [List.set_cons_zero, List.set_cons_succ, List.eraseIdx_cons_zero, List.eraseIdx_cons_succ] at hF)) | (refine w_ld1o rfl hF rfl ?_) | (refine w_st1o rfl hF rfl rfl ?_; clear hF; intro wN hF; (try simp only [List.set_cons_zero, List.set_cons_succ, List.eraseIdx_cons_zero, List.eraseIdx_cons_succ] at hF)) | (refine w_make0 rfl hF rfl rfl ?_; clear hF; intro gN wN hF) | (refine w_to rfl hF rfl rfl ?_; clear hF; intro hF) | (refine w_from rfl hF rfl rfl ?_; clear hF; intro hF)); (try simp only [Act.put, List.setIfInBounds_toArray, List.set_cons_zero, List.set_cons_succ, Nat.zero_add, Nat.zero_mul, Nat.reduceAdd])))
    obtain ⟨gC, rfl⟩ := hF.names1
    go_loopw [0] (fun s wr => ∃ (A' : Option Addr) (nP c' : Nat) (P' : List Pu) (Ac : Option Addr) (n' cc' : Nat) (S' : List Cs) (C' : List (List Wy)), s = .slice A' nP c' ∧ nP ≤ 10 ∧ Hid (P'.length = nP) ∧ Hid (cont S' = C') ∧ Hid (RightP ways C') ∧ Hid (COk C') ∧ Hid (∀ p ∈ P', p.addr < 4294967296 ∧ p.data.size ≤ maxLen) ∧ Hid (ovS m1 (writesL [] ++ linesL C' ++ P') = al) ∧ St w (allD As ns cs ss A n c S none 0 0 []) wr [.blk gC 36 [.int .i64 ways, .slice Ac n' cc']] [rowD 2 A' nP c' (pus P'), rowD 1 Ac n' cc' (csv S'), elemsD S']) (fun s _ => lenV s)
    case atStart => exact ⟨As1, P1.length, cs1, P1, A1, n1, c1, S1, C1, rfl, hP10, Lib.hid rfl, Lib.hid hC1, Lib.hid hR, Lib.hid hok, Lib.hid hPm, Lib.hid hal, hF.lessA _⟩
    case round =>
      obtain ⟨A', nP, c', P', Ac, n', cc', S', C', rfl, hnP, hPl, hC', hR', hok', hP', hal', hF⟩ := hrel
      replace hC' := hC'.out
      replace hR' := hR'.out
      replace hok' := hok'.out
      replace hP' := hP'.out
      replace hal' := hal'.out
      clear hal hR hok hPm
      cases P' with
      | nil =>
        obtain rfl : nP = 0 := by rw [← hPl.out]; rfl
        go_wp2_with (first | (go_at_call 18; refine (alive20_any _).mono ?_; rintro e wN ⟨rfl, hb⟩; replace hF := hF.grow hb; clear hb) | (go_at_call 23; refine (g_all hF.rds rd_nilQ (by first | exact hF.rdA | exact rd_nilP) (by assumption) (by assumption) (by assumption) (by assumption) hm6 (by first | assumption | exact Nat.zero_le _) (by first | assumption | simp) (by first | assumption | exact Nat.zero_le _) (by first | assumption | simp)).mono ?_; rintro e wN ⟨rfl, hb⟩; replace hF := hF.grow hb; clear hb) | ((first | (refine w_box rfl hF rfl ?_; clear hF; intro gN wN hF) | (refine w_alloc rfl hF ?_; clear hF; intro gN wN hF) | (refine w_ld1 rfl hF rfl ?_) | (refine w_ld rfl hF rfl ?_) | (refine w_st1 rfl hF rfl rfl ?_; clear hF; intro wN hF; (try simp only [List.set_cons_zero, List.set_cons_succ, List.eraseIdx_cons_zero, List.eraseIdx_cons_succ] at hF)) | (refine w_st rfl hF rfl rfl ?_; clear hF; intro wN hF; (try simp only [List.set_cons_zero, List.set_cons_succ, List.eraseIdx_cons_zero, List.eraseIdx_cons_succ] at hF)) | (refine w_fldB rfl rfl ?_) | (refine w_fld rfl hF rfl ?_) | (refine w_ix rfl hF rfl rfl ?_) | (refine w_lde1 rfl hF rfl ?_) | (refine w_lde rfl hF rfl ?_) | (refine w_bs1 rfl hF rfl ?_; clear hF; intro gN wN hF) | (refine w_bs0 rfl hF ?_; clear hF; intro gN wN hF) | (refine w_app rfl hF rfl rfl ?_; clear hF; intro vN wN hF; (try simp only [List.set_cons_zero, List.set_cons_succ, List.eraseIdx_cons_zero, List.eraseIdx_cons_succ] at hF)) | (refine w_appD rfl hF rfl rfl ?_; clear hF; intro vN wN hF; (try simp only [List.set_cons_zero, List.set_cons_succ, List.eraseIdx_cons_zero, List.eraseIdx_cons_succ] at hF)) | (refine w_ld1o rfl hF rfl ?_) | (refine w_st1o rfl hF rfl rfl ?_; clear hF; intro wN hF; (try simp only [List.set_cons_zero, List.set_cons_succ, List.eraseIdx_cons_zero, List.eraseIdx_cons_succ] at hF)) | (refine w_make0 rfl hF rfl rfl ?_; clear hF; intro gN wN hF) | (refine w_to rfl hF rfl rfl ?_; clear hF; intro hF) | (refine w_from rfl hF rfl rfl ?_; clear hF; intro hF)); (try simp only [Act.put, List.setIfInBounds_toArray, List.set_cons_zero, List.set_cons_succ, Nat.zero_add, Nat.zero_mul, Nat.reduceAdd])))
        go_ret
        exact ⟨rfl, hF.bel⟩
      | cons p r =>
        have hn0 : 0 < nP := by rw [← hPl.out]; exact Nat.zero_lt_succ _
        have hn1 : 1 ≤ nP := hn0
        have hcast : (nP : Int) - 1 = ((r.length : Nat) : Int) := by rw [← hPl.out, List.length_cons]; omega
        have hrl : nP - 1 = r.length := by omega
        obtain ⟨PD, CD, bD, hD⟩ := drain_ex ways (p :: r) C'
        cases bD
        · obtain ⟨rfl, rfl⟩ : PD = p :: r ∧ CD = C' := by
            cases hD with
            | none h => cases h
            | no s r' h hw hs he hb => exact ⟨hs, he⟩
            | yes s r' h hw hs hb => cases hb
          go_wp2_with (first | (go_at_call 24; refine (g_drain hF.rds hF.rdA (by assumption) (by assumption) (by assumption) (by assumption)).mono ?_; rintro e wN ⟨_, _, rfl, As4, cs4, A4, n4, c4, S4, rfl, rfl, hO, hC4⟩; replace hF := hF.call3A hO; clear hO) | (go_at_call 18; refine (alive20_any _).mono ?_; rintro e wN ⟨rfl, hb⟩; replace hF := hF.grow hb; clear hb) | (go_at_call 25; refine (likePu_yes _ _ _ _ _ _ _ _ _ hF.rdA hF.rdA rfl).mono ?_; rintro e wN ⟨rfl, hb⟩; replace hF := hF.grow hb; clear hb) | (go_at_call 26; refine (g_like hF.rds hF.rds (by assumption) (by assumption)).mono ?_; rintro e wN ⟨rfl, hb⟩; replace hF := hF.grow hb; clear hb) | ((first | (refine w_box rfl hF rfl ?_; clear hF; intro gN wN hF) | (refine w_alloc rfl hF ?_; clear hF; intro gN wN hF) | (refine w_ld1 rfl hF rfl ?_) | (refine w_ld rfl hF rfl ?_) | (refine w_st1 rfl hF rfl rfl ?_; clear hF; intro wN hF; (try simp only [List.set_cons_zero, List.set_cons_succ, List.eraseIdx_cons_zero, List.eraseIdx_cons_succ] at hF)) | (refine w_st rfl hF rfl rfl ?_; clear hF; intro wN hF; (try simp only [List.set_cons_zero, List.set_cons_succ, List.eraseIdx_cons_zero, List.eraseIdx_cons_succ] at hF)) | (refine w_fldB rfl rfl ?_) | (refine w_fld rfl hF rfl ?_) | (refine w_ix rfl hF rfl rfl ?_) | (refine w_lde1 rfl hF rfl ?_) | (refine w_lde rfl hF rfl ?_) | (refine w_bs1 rfl hF rfl ?_; clear hF; intro gN wN hF) | (refine w_bs0 rfl hF ?_; clear hF; intro gN wN hF) | (refine w_app rfl hF rfl rfl ?_; clear hF; intro vN wN hF; (try simp only [List.set_cons_zero, List.set_cons_succ, List.eraseIdx_cons_zero, List.eraseIdx_cons_succ] at hF)) | (refine w_appD rfl hF rfl rfl ?_; clear hF; intro vN wN hF; (try simp only [List.set_cons_zero, List.set_cons_succ, List.eraseIdx_cons_zero, List.eraseIdx_cons_succ] at hF)) | (refine w_ld1o rfl hF rfl ?_) | (refine w_st1o rfl hF rfl rfl ?_; clear hF; intro wN hF; (try simp only [List.set_cons_zero, List.set_cons_succ, List.eraseIdx_cons_zero, List.eraseIdx_cons_succ] at hF)) | (refine w_make0 rfl hF rfl rfl ?_; clear hF; intro gN wN hF) | (refine w_to rfl hF rfl rfl ?_; clear hF; intro hF) | (refine w_from rfl hF rfl rfl ?_; clear hF; intro hF)); (try simp only [Act.put, List.setIfInBounds_toArray, List.set_cons_zero, List.set_cons_succ, Nat.zero_add, Nat.zero_mul, Nat.reduceAdd])))
          go_ret
          exact ⟨rfl, hF.bel⟩
        · have hDall := hD.all (q := []) (m := bl m1) hR'
          have hDR := Lib.hid (hD.right hR')
          have hDk := Lib.hid (hD.cok hok')
          obtain rfl : PD = r := by
            cases hD with
            | none h => cases h
            | no s r' h hw hs he hb => cases hb
            | yes s r' h hw hs hb => injection h with _ h; rw [hs, h]
          have hal2 : Hid (ovS m1 (writesL [] ++ linesL CD ++ PD) = al) := Lib.hid ((ovS_eq hDall).trans hal')
          have hP2 : Hid (∀ q ∈ PD, q.addr < 4294967296 ∧ q.data.size ≤ maxLen) := Lib.hid fun q hq => hP' q (List.mem_cons_of_mem _ hq)
          have hPD10 : PD.length ≤ 10 := by omega
          clear hDall
          go_wp2_with (first | (go_at_call 24; refine (g_drain hF.rds hF.rdA (by assumption) (by assumption) (by assumption) (by assumption)).mono ?_; rintro e wN ⟨_, _, rfl, As4, cs4, A4, n4, c4, S4, rfl, rfl, hO, hC4⟩; replace hF := hF.call3A hO; clear hO) | (refine w_from rfl hF rfl rfl ?_; clear hF; intro hF; rw [show (pus (p :: PD)).drop (1 * 2) = pus PD from rfl, hrl] at hF) | (go_at_call 25; refine (likePu_yes _ _ _ _ _ _ _ _ _ hF.rdA hF.rdA rfl).mono ?_; rintro e wN ⟨rfl, hb⟩; replace hF := hF.grow hb; clear hb) | ((first | (refine w_box rfl hF rfl ?_; clear hF; intro gN wN hF) | (refine w_alloc rfl hF ?_; clear hF; intro gN wN hF) | (refine w_ld1 rfl hF rfl ?_) | (refine w_ld rfl hF rfl ?_) | (refine w_st1 rfl hF rfl rfl ?_; clear hF; intro wN hF; (try simp only [List.set_cons_zero, List.set_cons_succ, List.eraseIdx_cons_zero, List.eraseIdx_cons_succ] at hF)) | (refine w_st rfl hF rfl rfl ?_; clear hF; intro wN hF; (try simp only [List.set_cons_zero, List.set_cons_succ, List.eraseIdx_cons_zero, List.eraseIdx_cons_succ] at hF)) | (refine w_fldB rfl rfl ?_) | (refine w_fld rfl hF rfl ?_) | (refine w_ix rfl hF rfl rfl ?_) | (refine w_lde1 rfl hF rfl ?_) | (refine w_lde rfl hF rfl ?_) | (refine w_bs1 rfl hF rfl ?_; clear hF; intro gN wN hF) | (refine w_bs0 rfl hF ?_; clear hF; intro gN wN hF) | (refine w_app rfl hF rfl rfl ?_; clear hF; intro vN wN hF; (try simp only [List.set_cons_zero, List.set_cons_succ, List.eraseIdx_cons_zero, List.eraseIdx_cons_succ] at hF)) | (refine w_appD rfl hF rfl rfl ?_; clear hF; intro vN wN hF; (try simp only [List.set_cons_zero, List.set_cons_succ, List.eraseIdx_cons_zero, List.eraseIdx_cons_succ] at hF)) | (refine w_ld1o rfl hF rfl ?_) | (refine w_st1o rfl hF rfl rfl ?_; clear hF; intro wN hF; (try simp only [List.set_cons_zero, List.set_cons_succ, List.eraseIdx_cons_zero, List.eraseIdx_cons_succ] at hF)) | (refine w_make0 rfl hF rfl rfl ?_; clear hF; intro gN wN hF) | (refine w_to rfl hF rfl rfl ?_; clear hF; intro hF) | (refine w_from rfl hF rfl rfl ?_; clear hF; intro hF)); (try simp only [Act.put, List.setIfInBounds_toArray, List.set_cons_zero, List.set_cons_succ, Nat.zero_add, Nat.zero_mul, Nat.reduceAdd])))
          obtain ⟨gW, rfl⟩ := hF.names1
          refine wp_region_st (by kernel_rfl) hF [.blk gW 36 [.int .i64 ways, .slice A4 n4 c4]] _ (by ((repeat (first | exact subn_nil | refine subn_cons (by ((repeat (first | exact List.Mem.head _ | refine List.Mem.tail _ ?_)) <;> exact List.Mem.head _)) ?_)) <;> exact subn_nil)) (fun _ h => h) ?_
          clear hF; intro hF hH
          (refine w_take (i := 0) rfl (y_move rfl rfl) hH ?_); (try simp only [Act.put, List.setIfInBounds_toArray, List.set_cons_zero, List.set_cons_succ, Nat.zero_add, Nat.zero_mul, Nat.reduceAdd])
          (first | refine w_take (i := 1) rfl (y_ld1 rfl rfl) hH ?_ | refine w_take (i := 1) rfl (y_ld rfl rfl) hH ?_ | refine w_take (i := 1) rfl (y_lde1 rfl rfl) hH ?_ | refine w_take (i := 1) rfl (y_lde rfl rfl) hH ?_); (try simp only [Act.put, List.setIfInBounds_toArray, List.set_cons_zero, List.set_cons_succ, Nat.zero_add, Nat.zero_mul, Nat.reduceAdd])
          (refine w_take (i := 2) rfl (y_assign rfl rfl) hH ?_); (try simp only [Act.put, List.setIfInBounds_toArray, List.set_cons_zero, List.set_cons_succ, Nat.zero_add, Nat.zero_mul, Nat.reduceAdd])
          refine wpAnyH_ready (rs := [3]) (by kernel_rfl) (by simp) (ready_cons rfl (fun K hK => ?_) AllReadyH.nil)
          go_wp2_with ((first | (refine w_st1 rfl hF rfl rfl ?_; clear hF; intro wN hF; (try simp only [List.set_cons_zero, List.set_cons_succ, List.eraseIdx_cons_zero, List.eraseIdx_cons_succ] at hF)) | (refine w_st rfl hF rfl rfl ?_; clear hF; intro wN hF; (try simp only [List.set_cons_zero, List.set_cons_succ, List.eraseIdx_cons_zero, List.eraseIdx_cons_succ] at hF)) | (refine w_st1o rfl hF rfl rfl ?_; clear hF; intro wN hF; (try simp only [List.set_cons_zero, List.set_cons_succ, List.eraseIdx_cons_zero, List.eraseIdx_cons_succ] at hF))); (try simp only [Act.put, List.setIfInBounds_toArray, List.set_cons_zero, List.set_cons_succ, Nat.zero_add, Nat.zero_mul, Nat.reduceAdd]))
          have hH := hH.nextA hF; refine hK.out _ _ hH ?_; clear hK; (try simp only [Act.put, List.setIfInBounds_toArray, List.set_cons_zero, List.set_cons_succ, Nat.zero_add, Nat.zero_mul, Nat.reduceAdd])
          refine wpAnyH_done (by kernel_rfl) ?_ _
          go_wp2_with (first | ((first | (refine w_box rfl hF rfl ?_; clear hF; intro gN wN hF) | (refine w_alloc rfl hF ?_; clear hF; intro gN wN hF) | (refine w_ld1 rfl hF rfl ?_) | (refine w_ld rfl hF rfl ?_) | (refine w_st1 rfl hF rfl rfl ?_; clear hF; intro wN hF; (try simp only [List.set_cons_zero, List.set_cons_succ, List.eraseIdx_cons_zero, List.eraseIdx_cons_succ] at hF)) | (refine w_st rfl hF rfl rfl ?_; clear hF; intro wN hF; (try simp only [List.set_cons_zero, List.set_cons_succ, List.eraseIdx_cons_zero, List.eraseIdx_cons_succ] at hF)) | (refine w_fldB rfl rfl ?_) | (refine w_fld rfl hF rfl ?_) | (refine w_ix rfl hF rfl rfl ?_) | (refine w_lde1 rfl hF rfl ?_) | (refine w_lde rfl hF rfl ?_) | (refine w_bs1 rfl hF rfl ?_; clear hF; intro gN wN hF) | (refine w_bs0 rfl hF ?_; clear hF; intro gN wN hF) | (refine w_app rfl hF rfl rfl ?_; clear hF; intro vN wN hF; (try simp only [List.set_cons_zero, List.set_cons_succ, List.eraseIdx_cons_zero, List.eraseIdx_cons_succ] at hF)) | (refine w_appD rfl hF rfl rfl ?_; clear hF; intro vN wN hF; (try simp only [List.set_cons_zero, List.set_cons_succ, List.eraseIdx_cons_zero, List.eraseIdx_cons_succ] at hF)) | (refine w_ld1o rfl hF rfl ?_) | (refine w_st1o rfl hF rfl rfl ?_; clear hF; intro wN hF; (try simp only [List.set_cons_zero, List.set_cons_succ, List.eraseIdx_cons_zero, List.eraseIdx_cons_succ] at hF)) | (refine w_make0 rfl hF rfl rfl ?_; clear hF; intro gN wN hF) | (refine w_to rfl hF rfl rfl ?_; clear hF; intro hF) | (refine w_from rfl hF rfl rfl ?_; clear hF; intro hF)); (try simp only [Act.put, List.setIfInBounds_toArray, List.set_cons_zero, List.set_cons_succ, Nat.zero_add, Nat.zero_mul, Nat.reduceAdd])))
          go_roundw
          case rel => exact ⟨As4, PD.length, cs4, PD, A4, n4, c4, S4, CD, rfl, hPD10, Lib.hid rfl, Lib.hid hC4, hDR, hDk, hP2, hal2, (hF.drop 0).lessA _⟩
          case measure => exact Nat.lt_of_lt_of_le (Nat.lt_succ_self _) (by show PD.length + 1 ≤ nP; omega)
  · go_enter Try.func5, Try.ntmps5
    go_wp2_with (first | (go_at_call 21; refine (short20_any ways A n c S none 0 0 [] As ns cs ss m _ hF.rds hF.rdA hF.rdA).mono ?_; rintro e wN ⟨_, _, _, rfl, hSR⟩; rw [eP, eC, eQ] at hSR; rw [em]; obtain ⟨As1, cs1, A1, n1, c1, S1, Aq1, cq1, rfl, rfl, rfl, hO, hC1⟩ := hSR; replace hF := hF.call4A hO; clear hO; have hso1 : SOk S1 := (COk.sok (by rw [hC1]; exact hok))) | (go_at_call 22; refine (refRight_all hso1 (by rw [hC1]; exact noR hR) _ hF.rds).mono ?_; rintro e wN ⟨rfl, hb⟩; replace hF := hF.grow hb; clear hb) | (go_at_call 18; refine (alive20_any _).mono ?_; rintro e wN ⟨rfl, hb⟩; replace hF := hF.grow hb; clear hb) | ((first | (refine w_box rfl hF rfl ?_; clear hF; intro gN wN hF) | (refine w_alloc rfl hF ?_; clear hF; intro gN wN hF) | (refine w_ld1 rfl hF rfl ?_) | (refine w_ld rfl hF rfl ?_) | (refine w_st1 rfl hF rfl rfl ?_; clear hF; intro wN hF; (try simp only [List.set_cons_zero, List.set_cons_succ, List.eraseIdx_cons_zero, List.eraseIdx_cons_succ] at hF)) | (refine w_st rfl hF rfl rfl ?_; clear hF; intro wN hF; (try simp only [List.set_cons_zero, List.set_cons_succ, List.eraseIdx_cons_zero, List.eraseIdx_cons_succ] at hF)) | (refine w_fldB rfl rfl ?_) | (refine w_fld rfl hF rfl ?_) | (refine w_ix rfl hF rfl rfl ?_) | (refine w_lde1 rfl hF rfl ?_) | (refine w_lde rfl hF rfl ?_) | (refine w_bs1 rfl hF rfl ?_; clear hF; intro gN wN hF) | (refine w_bs0 rfl hF ?_; clear hF; intro gN wN hF) | (refine w_app rfl hF rfl rfl ?_; clear hF; intro vN wN hF; (try simp only [List.set_cons_zero, List.set_cons_succ, List.eraseIdx_cons_zero, List.eraseIdx_cons_succ] at hF)) | (refine w_appD rfl hF rfl rfl ?_; clear hF; intro vN wN hF; (try simp only [List.set_cons_zero, List.set_cons_succ, List.eraseIdx_cons_zero, List.eraseIdx_cons_succ] at hF)) | (refine w_ld1o rfl hF rfl ?_) | (refine w_st1o rfl hF rfl rfl ?_; clear hF; intro wN hF; (try simp only [List.set_cons_zero, List.set_cons_succ, List.eraseIdx_cons_zero, List.eraseIdx_cons_succ] at hF)) | (refine w_make0 rfl hF rfl rfl ?_; clear hF; intro gN wN hF) | (refine w_to rfl hF rfl rfl ?_; clear hF; intro hF) | (refine w_from rfl hF rfl rfl ?_; clear hF; intro hF)); (try simp only [Act.put, List.setIfInBounds_toArray, List.set_cons_zero, List.set_cons_succ, Nat.zero_add, Nat.zero_mul, Nat.reduceAdd])))
    go_ret
    exact ⟨rfl, hF.bel⟩
end Go.Proofs.Ytcahadkkjfijfaa
