/- Joined: VR, CWrite2. -/
import Derived.Test.YtcahadkkjfijfaaZ5
import Derived.Test.YtcahadkkjfijfaaZ11
/- view: the document's walks. -/
set_option linter.unusedVariables false
set_option linter.unusedSimpArgs false
set_option maxRecDepth 100000
namespace Go.Proofs.Ytcahadkkjfijfaa
open Go.RowKit Go.Sort

set_option maxHeartbeats 8000000 in
theorem refLast_any (A : Option Addr) (n c : Nat) (ps : List Pu) (at' : Nat) (w : World) (hr : Rd w w.heap.size 2 A n c (pus ps)) (hat : at' ≤ 140737488355328) (ha : ∀ p ∈ ps, p.addr < 4294967296 ∧ p.data.size ≤ maxLen) :
    Calls Try.prog 79 #[.slice A n c, .int .i64 (at' : Int)] w fun e w' => e = .returned (.tuple #[.int .u8 (((lastL ps at').getD 0).toNat : Int), .bool (lastL ps at').isSome]) ∧ Bel w w' := by
  have hF := St.start w [rowD 2 A n c (pus ps)] (fun d hd => by obtain rfl := List.mem_singleton.1 hd; exact hr)
  have hc1 := hr.le
  have hc2 := hr.mx
  unfold maxLen at hc2
  have hn := hr.puslen
  go_enter Try.func79, Try.ntmps79
  go_wp2_with (first | ((first | (refine w_box rfl hF rfl ?_; clear hF; intro gN wN hF) | (refine w_alloc rfl hF ?_; clear hF; intro gN wN hF) | (refine w_ld1 rfl hF rfl ?_) | (refine w_ld rfl hF rfl ?_) | (refine w_st1 rfl hF rfl rfl ?_; clear hF; intro wN hF; (try simp only [List.set_cons_zero, List.set_cons_succ, List.eraseIdx_cons_zero, List.eraseIdx_cons_succ] at hF)) | (refine w_st rfl hF rfl rfl ?_; clear hF; intro wN hF; (try simp only [List.set_cons_zero, List.set_cons_succ, List.eraseIdx_cons_zero, List.eraseIdx_cons_succ] at hF)) | (refine w_fldB rfl rfl ?_) | (refine w_fld rfl hF rfl ?_) | (refine w_ix rfl hF rfl rfl ?_) | (refine w_lde1 rfl hF rfl ?_) | (refine w_lde rfl hF rfl ?_) | (refine w_bs1 rfl hF rfl ?_; clear hF; intro gN wN hF) | (refine w_bs0 rfl hF ?_; clear hF; intro gN wN hF) | (refine w_app rfl hF rfl rfl ?_; clear hF; intro vN wN hF; (try simp only [List.set_cons_zero, List.set_cons_succ, List.eraseIdx_cons_zero, List.eraseIdx_cons_succ] at hF)) | (refine w_appD rfl hF rfl rfl ?_; clear hF; intro vN wN hF; (try simp only [List.set_cons_zero, List.set_cons_succ, List.eraseIdx_cons_zero, List.eraseIdx_cons_succ] at hF)) | (refine w_ld1o rfl hF rfl ?_) | (refine w_st1o rfl hF rfl rfl ?_; clear hF; intro wN hF; (try simp only [List.set_cons_zero, List.set_cons_succ, List.eraseIdx_cons_zero, List.eraseIdx_cons_succ] at hF)) | (refine w_make0 rfl hF rfl rfl ?_; clear hF; intro gN wN hF) | (refine w_to rfl hF rfl rfl ?_; clear hF; intro hF) | (refine w_from rfl hF rfl rfl ?_; clear hF; intro hF)); (try simp only [Act.put, List.setIfInBounds_toArray, List.set_cons_zero, List.set_cons_succ, Nat.zero_add, Nat.zero_mul, Nat.reduceAdd])))
  go_loopw [13, 6, 7] (fun ix b is wr => ∃ (k : Nat) (o : Option UInt8), k ≤ n ∧ ix = .int .i64 (k : Int) ∧ b = .int .u8 ((o.getD 0).toNat : Int) ∧ is = .bool o.isSome ∧ Hid (lastL (ps.take k) at' = o) ∧ St w [rowD 2 A n c (pus ps)] wr [] [rowD 2 A n c (pus ps)]) (fun ix _ _ _ => n - (intOf ix).toNat)
  case atStart => exact ⟨0, none, by omega, rfl, rfl, rfl, Lib.hid rfl, hF⟩
  case round =>
    obtain ⟨k, o, hk, rfl, rfl, rfl, ho, hF⟩ := hrel
    by_cases hkn : k < n
    · obtain ⟨p, hu⟩ : ∃ p, ps[k]? = some p := ⟨_, List.getElem?_eq_getElem (by omega)⟩
      obtain ⟨hpa, hpd⟩ := ha p (List.mem_of_getElem? hu)
      have hst : lastL (ps.take (k + 1)) at' = (p.byte at').or o := by
        obtain ⟨hl, e⟩ := List.getElem?_eq_some_iff.1 hu
        rw [List.take_succ_eq_append_getElem hl, e, lastL_snoc, ho.out]
      obtain ⟨pa, pd⟩ := p
      unfold Pu.byte at hst
      dsimp only at hst hpa hpd
      unfold maxLen at hpd
      by_cases h1 : pa ≤ at'
      · rw [if_pos h1] at hst
        obtain ⟨d, hd⟩ : ∃ d : Nat, at' - pa = d := ⟨_, rfl⟩
        rw [hd] at hst
        have hcast : (at' : Int) - (pa : Int) = (d : Int) := by omega
        by_cases h2 : d < pd.size
        · obtain ⟨bt, hbt⟩ : ∃ b, pd.data.toList[d]? = some b := ⟨_, List.getElem?_eq_getElem (by have := bl_len pd; unfold bl at this; omega)⟩
          have hst2 : Hid (lastL (ps.take (k + 1)) at' = some bt) := Lib.hid (by rw [hst]; unfold bl; rw [hbt]; rfl)
          clear hst h1 hd
          go_wp2_with (first | (refine w_lde (us := [.int .u32 (pa : Int), .string pd]) (hu := Rows.sub (f := pus) hu) rfl hF rfl ?_) | (refine w_idxs rfl rfl rfl ?_) | ((first | (refine w_box rfl hF rfl ?_; clear hF; intro gN wN hF) | (refine w_alloc rfl hF ?_; clear hF; intro gN wN hF) | (refine w_ld1 rfl hF rfl ?_) | (refine w_ld rfl hF rfl ?_) | (refine w_st1 rfl hF rfl rfl ?_; clear hF; intro wN hF; (try simp only [List.set_cons_zero, List.set_cons_succ, List.eraseIdx_cons_zero, List.eraseIdx_cons_succ] at hF)) | (refine w_st rfl hF rfl rfl ?_; clear hF; intro wN hF; (try simp only [List.set_cons_zero, List.set_cons_succ, List.eraseIdx_cons_zero, List.eraseIdx_cons_succ] at hF)) | (refine w_fldB rfl rfl ?_) | (refine w_fld rfl hF rfl ?_) | (refine w_ix rfl hF rfl rfl ?_) | (refine w_lde1 rfl hF rfl ?_) | (refine w_lde rfl hF rfl ?_) | (refine w_bs1 rfl hF rfl ?_; clear hF; intro gN wN hF) | (refine w_bs0 rfl hF ?_; clear hF; intro gN wN hF) | (refine w_app rfl hF rfl rfl ?_; clear hF; intro vN wN hF; (try simp only [List.set_cons_zero, List.set_cons_succ, List.eraseIdx_cons_zero, List.eraseIdx_cons_succ] at hF)) | (refine w_appD rfl hF rfl rfl ?_; clear hF; intro vN wN hF; (try simp only [List.set_cons_zero, List.set_cons_succ, List.eraseIdx_cons_zero, List.eraseIdx_cons_succ] at hF)) | (refine w_ld1o rfl hF rfl ?_) | (refine w_st1o rfl hF rfl rfl ?_; clear hF; intro wN hF; (try simp only [List.set_cons_zero, List.set_cons_succ, List.eraseIdx_cons_zero, List.eraseIdx_cons_succ] at hF)) | (refine w_make0 rfl hF rfl rfl ?_; clear hF; intro gN wN hF) | (refine w_to rfl hF rfl rfl ?_; clear hF; intro hF) | (refine w_from rfl hF rfl rfl ?_; clear hF; intro hF)); (try simp only [Act.put, List.setIfInBounds_toArray, List.set_cons_zero, List.set_cons_succ, Nat.zero_add, Nat.zero_mul, Nat.reduceAdd])))
          go_roundw
          case rel => exact ⟨k + 1, some bt, by omega, by go_num, rfl, rfl, hst2, hF.drop 0⟩
          case measure => first | (simp [intOf]; done) | (simp [intOf]; omega)
        · have hst2 : Hid (lastL (ps.take (k + 1)) at' = o) := Lib.hid (by rw [hst, List.getElem?_eq_none (by rw [bl_len]; omega), Option.none_or])
          clear hst h1 hd
          go_wp2_with (first | (refine w_lde (us := [.int .u32 (pa : Int), .string pd]) (hu := Rows.sub (f := pus) hu) rfl hF rfl ?_) | ((first | (refine w_box rfl hF rfl ?_; clear hF; intro gN wN hF) | (refine w_alloc rfl hF ?_; clear hF; intro gN wN hF) | (refine w_ld1 rfl hF rfl ?_) | (refine w_ld rfl hF rfl ?_) | (refine w_st1 rfl hF rfl rfl ?_; clear hF; intro wN hF; (try simp only [List.set_cons_zero, List.set_cons_succ, List.eraseIdx_cons_zero, List.eraseIdx_cons_succ] at hF)) | (refine w_st rfl hF rfl rfl ?_; clear hF; intro wN hF; (try simp only [List.set_cons_zero, List.set_cons_succ, List.eraseIdx_cons_zero, List.eraseIdx_cons_succ] at hF)) | (refine w_fldB rfl rfl ?_) | (refine w_fld rfl hF rfl ?_) | (refine w_ix rfl hF rfl rfl ?_) | (refine w_lde1 rfl hF rfl ?_) | (refine w_lde rfl hF rfl ?_) | (refine w_bs1 rfl hF rfl ?_; clear hF; intro gN wN hF) | (refine w_bs0 rfl hF ?_; clear hF; intro gN wN hF) | (refine w_app rfl hF rfl rfl ?_; clear hF; intro vN wN hF; (try simp only [List.set_cons_zero, List.set_cons_succ, List.eraseIdx_cons_zero, List.eraseIdx_cons_succ] at hF)) | (refine w_appD rfl hF rfl rfl ?_; clear hF; intro vN wN hF; (try simp only [List.set_cons_zero, List.set_cons_succ, List.eraseIdx_cons_zero, List.eraseIdx_cons_succ] at hF)) | (refine w_ld1o rfl hF rfl ?_) | (refine w_st1o rfl hF rfl rfl ?_; clear hF; intro wN hF; (try simp only [List.set_cons_zero, List.set_cons_succ, List.eraseIdx_cons_zero, List.eraseIdx_cons_succ] at hF)) | (refine w_make0 rfl hF rfl rfl ?_; clear hF; intro gN wN hF) | (refine w_to rfl hF rfl rfl ?_; clear hF; intro hF) | (refine w_from rfl hF rfl rfl ?_; clear hF; intro hF)); (try simp only [Act.put, List.setIfInBounds_toArray, List.set_cons_zero, List.set_cons_succ, Nat.zero_add, Nat.zero_mul, Nat.reduceAdd])))
          go_roundw
          case rel => exact ⟨k + 1, o, by omega, by go_num, rfl, rfl, hst2, hF.drop 0⟩
          case measure => first | (simp [intOf]; done) | (simp [intOf]; omega)
      · rw [if_neg h1, Option.none_or] at hst
        replace hst := Lib.hid hst
        have hneg : (at' : Int) - (pa : Int) < 0 := by omega
        have hneg2 : -4294967296 ≤ (at' : Int) - (pa : Int) := by omega
        clear h1
        go_wp2_with (first | (refine w_lde (us := [.int .u32 (pa : Int), .string pd]) (hu := Rows.sub (f := pus) hu) rfl hF rfl ?_) | ((first | (refine w_box rfl hF rfl ?_; clear hF; intro gN wN hF) | (refine w_alloc rfl hF ?_; clear hF; intro gN wN hF) | (refine w_ld1 rfl hF rfl ?_) | (refine w_ld rfl hF rfl ?_) | (refine w_st1 rfl hF rfl rfl ?_; clear hF; intro wN hF; (try simp only [List.set_cons_zero, List.set_cons_succ, List.eraseIdx_cons_zero, List.eraseIdx_cons_succ] at hF)) | (refine w_st rfl hF rfl rfl ?_; clear hF; intro wN hF; (try simp only [List.set_cons_zero, List.set_cons_succ, List.eraseIdx_cons_zero, List.eraseIdx_cons_succ] at hF)) | (refine w_fldB rfl rfl ?_) | (refine w_fld rfl hF rfl ?_) | (refine w_ix rfl hF rfl rfl ?_) | (refine w_lde1 rfl hF rfl ?_) | (refine w_lde rfl hF rfl ?_) | (refine w_bs1 rfl hF rfl ?_; clear hF; intro gN wN hF) | (refine w_bs0 rfl hF ?_; clear hF; intro gN wN hF) | (refine w_app rfl hF rfl rfl ?_; clear hF; intro vN wN hF; (try simp only [List.set_cons_zero, List.set_cons_succ, List.eraseIdx_cons_zero, List.eraseIdx_cons_succ] at hF)) | (refine w_appD rfl hF rfl rfl ?_; clear hF; intro vN wN hF; (try simp only [List.set_cons_zero, List.set_cons_succ, List.eraseIdx_cons_zero, List.eraseIdx_cons_succ] at hF)) | (refine w_ld1o rfl hF rfl ?_) | (refine w_st1o rfl hF rfl rfl ?_; clear hF; intro wN hF; (try simp only [List.set_cons_zero, List.set_cons_succ, List.eraseIdx_cons_zero, List.eraseIdx_cons_succ] at hF)) | (refine w_make0 rfl hF rfl rfl ?_; clear hF; intro gN wN hF) | (refine w_to rfl hF rfl rfl ?_; clear hF; intro hF) | (refine w_from rfl hF rfl rfl ?_; clear hF; intro hF)); (try simp only [Act.put, List.setIfInBounds_toArray, List.set_cons_zero, List.set_cons_succ, Nat.zero_add, Nat.zero_mul, Nat.reduceAdd])))
        go_roundw
        case rel => exact ⟨k + 1, o, by omega, by go_num, rfl, rfl, hst, hF.drop 0⟩
        case measure => first | (simp [intOf]; done) | (simp [intOf]; omega)
    · obtain rfl : k = n := by omega
      have h := ho.out
      rw [List.take_of_length_le (by omega)] at h
      subst h
      go_wp2_with (first | ((first | (refine w_box rfl hF rfl ?_; clear hF; intro gN wN hF) | (refine w_alloc rfl hF ?_; clear hF; intro gN wN hF) | (refine w_ld1 rfl hF rfl ?_) | (refine w_ld rfl hF rfl ?_) | (refine w_st1 rfl hF rfl rfl ?_; clear hF; intro wN hF; (try simp only [List.set_cons_zero, List.set_cons_succ, List.eraseIdx_cons_zero, List.eraseIdx_cons_succ] at hF)) | (refine w_st rfl hF rfl rfl ?_; clear hF; intro wN hF; (try simp only [List.set_cons_zero, List.set_cons_succ, List.eraseIdx_cons_zero, List.eraseIdx_cons_succ] at hF)) | (refine w_fldB rfl rfl ?_) | (refine w_fld rfl hF rfl ?_) | (refine w_ix rfl hF rfl rfl ?_) | (refine w_lde1 rfl hF rfl ?_) | (refine w_lde rfl hF rfl ?_) | (refine w_bs1 rfl hF rfl ?_; clear hF; intro gN wN hF) | (refine w_bs0 rfl hF ?_; clear hF; intro gN wN hF) | (refine w_app rfl hF rfl rfl ?_; clear hF; intro vN wN hF; (try simp only [List.set_cons_zero, List.set_cons_succ, List.eraseIdx_cons_zero, List.eraseIdx_cons_succ] at hF)) | (refine w_appD rfl hF rfl rfl ?_; clear hF; intro vN wN hF; (try simp only [List.set_cons_zero, List.set_cons_succ, List.eraseIdx_cons_zero, List.eraseIdx_cons_succ] at hF)) | (refine w_ld1o rfl hF rfl ?_) | (refine w_st1o rfl hF rfl rfl ?_; clear hF; intro wN hF; (try simp only [List.set_cons_zero, List.set_cons_succ, List.eraseIdx_cons_zero, List.eraseIdx_cons_succ] at hF)) | (refine w_make0 rfl hF rfl rfl ?_; clear hF; intro gN wN hF) | (refine w_to rfl hF rfl rfl ?_; clear hF; intro hF) | (refine w_from rfl hF rfl rfl ?_; clear hF; intro hF)); (try simp only [Act.put, List.setIfInBounds_toArray, List.set_cons_zero, List.set_cons_succ, Nat.zero_add, Nat.zero_mul, Nat.reduceAdd])))
      go_ret2
      exact ⟨rfl, hF.bel⟩
theorem bytes_succ {l : List UInt8} {k : Nat} {b : UInt8} (h : l[k]? = some b) : byteCells (l.take k) ++ [.int .u8 (b.toNat : Int)] = byteCells (l.take (k + 1)) := by
  obtain ⟨hl, e⟩ := List.getElem?_eq_some_iff.1 h
  rw [List.take_succ_eq_append_getElem hl, byteCells_append, e]
  rfl
set_option maxHeartbeats 8000000 in
theorem refOver_any (m : ByteArray) (A : Option Addr) (n c : Nat) (ps : List Pu) (w : World) (hr : Rd w w.heap.size 2 A n c (pus ps)) (hm : m.size ≤ 1000000) (hps : ∀ p ∈ ps, p.addr < 4294967296 ∧ p.data.size ≤ maxLen) :
    Calls Try.prog 64 #[.string m, .slice A n c] w fun e w' => e = .returned (.string (ovS m ps)) ∧ Bel w w' := by
  have hF := St.start w [rowD 2 A n c (pus ps)] (fun d hd => by obtain rfl := List.mem_singleton.1 hd; exact hr)
  have hml : (bl m).length = m.size := bl_len m
  have hol : (overL (bl m) ps).length = m.size := by rw [overL_len, hml]
  go_enter Try.func64, Try.ntmps64
  go_wp2_with (first | ((first | (refine w_box rfl hF rfl ?_; clear hF; intro gN wN hF) | (refine w_alloc rfl hF ?_; clear hF; intro gN wN hF) | (refine w_ld1 rfl hF rfl ?_) | (refine w_ld rfl hF rfl ?_) | (refine w_st1 rfl hF rfl rfl ?_; clear hF; intro wN hF; (try simp only [List.set_cons_zero, List.set_cons_succ, List.eraseIdx_cons_zero, List.eraseIdx_cons_succ] at hF)) | (refine w_st rfl hF rfl rfl ?_; clear hF; intro wN hF; (try simp only [List.set_cons_zero, List.set_cons_succ, List.eraseIdx_cons_zero, List.eraseIdx_cons_succ] at hF)) | (refine w_fldB rfl rfl ?_) | (refine w_fld rfl hF rfl ?_) | (refine w_ix rfl hF rfl rfl ?_) | (refine w_lde1 rfl hF rfl ?_) | (refine w_lde rfl hF rfl ?_) | (refine w_bs1 rfl hF rfl ?_; clear hF; intro gN wN hF) | (refine w_bs0 rfl hF ?_; clear hF; intro gN wN hF) | (refine w_app rfl hF rfl rfl ?_; clear hF; intro vN wN hF; (try simp only [List.set_cons_zero, List.set_cons_succ, List.eraseIdx_cons_zero, List.eraseIdx_cons_succ] at hF)) | (refine w_appD rfl hF rfl rfl ?_; clear hF; intro vN wN hF; (try simp only [List.set_cons_zero, List.set_cons_succ, List.eraseIdx_cons_zero, List.eraseIdx_cons_succ] at hF)) | (refine w_ld1o rfl hF rfl ?_) | (refine w_st1o rfl hF rfl rfl ?_; clear hF; intro wN hF; (try simp only [List.set_cons_zero, List.set_cons_succ, List.eraseIdx_cons_zero, List.eraseIdx_cons_succ] at hF)) | (refine w_make0 rfl hF rfl rfl ?_; clear hF; intro gN wN hF) | (refine w_to rfl hF rfl rfl ?_; clear hF; intro hF) | (refine w_from rfl hF rfl rfl ?_; clear hF; intro hF)); (try simp only [Act.put, List.setIfInBounds_toArray, List.set_cons_zero, List.set_cons_succ, Nat.zero_add, Nat.zero_mul, Nat.reduceAdd])))
  go_loopw [6, 5] (fun ix x wr => ∃ (k : Nat), k ≤ m.size ∧ ix = .int .i64 (k : Int) ∧ St w [rowD 2 A n c (pus ps)] wr [.own x 5 1 k (byteCells ((overL (bl m) ps).take k))] [rowD 2 A n c (pus ps)]) (fun ix _ _ => m.size - (intOf ix).toNat)
  case atStart => exact ⟨0, by omega, rfl, hF⟩
  case round =>
    obtain ⟨k, hk, rfl, hF⟩ := hrel
    by_cases hkm : k < m.size
    · obtain ⟨bt, hbt⟩ : ∃ b, m.data.toList[k]? = some b := ⟨_, List.getElem?_eq_getElem (by have := hml; unfold bl at this; omega)⟩
      have hk48 : k ≤ 140737488355328 := by omega
      have hov := overL_at (bl m) ps k
      rw [show (bl m)[k]? = some bt from hbt, Option.map_some] at hov
      cases ho : lastL ps k with
      | none =>
        rw [ho] at hov
        have happ := Lib.hid (bytes_succ hov)
        replace hlast := Lib.hid ho
        clear hov ho
        dsimp only [Option.getD_none] at happ
        go_wp2_with (first | (go_at_call 79; refine (refLast_any _ _ _ _ k _ hF.rdA hk48 hps).mono ?_; rw [hlast.out]; rintro e wN ⟨rfl, hb⟩; replace hF := hF.grow hb; clear hb) | (refine w_idxs rfl rfl rfl ?_) | ((first | (refine w_box rfl hF rfl ?_; clear hF; intro gN wN hF) | (refine w_alloc rfl hF ?_; clear hF; intro gN wN hF) | (refine w_ld1 rfl hF rfl ?_) | (refine w_ld rfl hF rfl ?_) | (refine w_st1 rfl hF rfl rfl ?_; clear hF; intro wN hF; (try simp only [List.set_cons_zero, List.set_cons_succ, List.eraseIdx_cons_zero, List.eraseIdx_cons_succ] at hF)) | (refine w_st rfl hF rfl rfl ?_; clear hF; intro wN hF; (try simp only [List.set_cons_zero, List.set_cons_succ, List.eraseIdx_cons_zero, List.eraseIdx_cons_succ] at hF)) | (refine w_fldB rfl rfl ?_) | (refine w_fld rfl hF rfl ?_) | (refine w_ix rfl hF rfl rfl ?_) | (refine w_lde1 rfl hF rfl ?_) | (refine w_lde rfl hF rfl ?_) | (refine w_bs1 rfl hF rfl ?_; clear hF; intro gN wN hF) | (refine w_bs0 rfl hF ?_; clear hF; intro gN wN hF) | (refine w_app rfl hF rfl rfl ?_; clear hF; intro vN wN hF; (try simp only [List.set_cons_zero, List.set_cons_succ, List.eraseIdx_cons_zero, List.eraseIdx_cons_succ] at hF)) | (refine w_appD rfl hF rfl rfl ?_; clear hF; intro vN wN hF; (try simp only [List.set_cons_zero, List.set_cons_succ, List.eraseIdx_cons_zero, List.eraseIdx_cons_succ] at hF)) | (refine w_ld1o rfl hF rfl ?_) | (refine w_st1o rfl hF rfl rfl ?_; clear hF; intro wN hF; (try simp only [List.set_cons_zero, List.set_cons_succ, List.eraseIdx_cons_zero, List.eraseIdx_cons_succ] at hF)) | (refine w_make0 rfl hF rfl rfl ?_; clear hF; intro gN wN hF) | (refine w_to rfl hF rfl rfl ?_; clear hF; intro hF) | (refine w_from rfl hF rfl rfl ?_; clear hF; intro hF)); (try simp only [Act.put, List.setIfInBounds_toArray, List.set_cons_zero, List.set_cons_succ, Nat.zero_add, Nat.zero_mul, Nat.reduceAdd])))
        go_roundw
        case rel => exact ⟨k + 1, by omega, by go_num, by rw [← happ.out]; exact hF⟩
        case measure => first | (simp [intOf]; done) | (simp [intOf]; omega)
      | some b =>
        rw [ho] at hov
        have happ := Lib.hid (bytes_succ hov)
        have hlast := Lib.hid ho
        clear hov ho
        dsimp only [Option.getD_some] at happ
        go_wp2_with (first | (go_at_call 79; refine (refLast_any _ _ _ _ k _ hF.rdA hk48 hps).mono ?_; rw [hlast.out]; rintro e wN ⟨rfl, hb⟩; replace hF := hF.grow hb; clear hb) | (refine w_idxs rfl rfl rfl ?_) | ((first | (refine w_box rfl hF rfl ?_; clear hF; intro gN wN hF) | (refine w_alloc rfl hF ?_; clear hF; intro gN wN hF) | (refine w_ld1 rfl hF rfl ?_) | (refine w_ld rfl hF rfl ?_) | (refine w_st1 rfl hF rfl rfl ?_; clear hF; intro wN hF; (try simp only [List.set_cons_zero, List.set_cons_succ, List.eraseIdx_cons_zero, List.eraseIdx_cons_succ] at hF)) | (refine w_st rfl hF rfl rfl ?_; clear hF; intro wN hF; (try simp only [List.set_cons_zero, List.set_cons_succ, List.eraseIdx_cons_zero, List.eraseIdx_cons_succ] at hF)) | (refine w_fldB rfl rfl ?_) | (refine w_fld rfl hF rfl ?_) | (refine w_ix rfl hF rfl rfl ?_) | (refine w_lde1 rfl hF rfl ?_) | (refine w_lde rfl hF rfl ?_) | (refine w_bs1 rfl hF rfl ?_; clear hF; intro gN wN hF) | (refine w_bs0 rfl hF ?_; clear hF; intro gN wN hF) | (refine w_app rfl hF rfl rfl ?_; clear hF; intro vN wN hF; (try simp only [List.set_cons_zero, List.set_cons_succ, List.eraseIdx_cons_zero, List.eraseIdx_cons_succ] at hF)) | (refine w_appD rfl hF rfl rfl ?_; clear hF; intro vN wN hF; (try simp only [List.set_cons_zero, List.set_cons_succ, List.eraseIdx_cons_zero, List.eraseIdx_cons_succ] at hF)) | (refine w_ld1o rfl hF rfl ?_) | (refine w_st1o rfl hF rfl rfl ?_; clear hF; intro wN hF; (try simp only [List.set_cons_zero, List.set_cons_succ, List.eraseIdx_cons_zero, List.eraseIdx_cons_succ] at hF)) | (refine w_make0 rfl hF rfl rfl ?_; clear hF; intro gN wN hF) | (refine w_to rfl hF rfl rfl ?_; clear hF; intro hF) | (refine w_from rfl hF rfl rfl ?_; clear hF; intro hF)); (try simp only [Act.put, List.setIfInBounds_toArray, List.set_cons_zero, List.set_cons_succ, Nat.zero_add, Nat.zero_mul, Nat.reduceAdd])))
        go_roundw
        case rel => exact ⟨k + 1, by omega, by go_num, by rw [← happ.out]; exact hF⟩
        case measure => first | (simp [intOf]; done) | (simp [intOf]; omega)
    · obtain rfl : k = m.size := by omega
      rw [List.take_of_length_le (by omega)] at hF
      obtain ⟨A2, c2, rfl, hF⟩ := hF.freeze 0 at0
      (try simp only [List.set_cons_zero, List.set_cons_succ, List.eraseIdx_cons_zero, List.eraseIdx_cons_succ] at hF)
      go_wp2_with (first | (refine w_stringD rfl hF rfl ?_) | ((first | (refine w_box rfl hF rfl ?_; clear hF; intro gN wN hF) | (refine w_alloc rfl hF ?_; clear hF; intro gN wN hF) | (refine w_ld1 rfl hF rfl ?_) | (refine w_ld rfl hF rfl ?_) | (refine w_st1 rfl hF rfl rfl ?_; clear hF; intro wN hF; (try simp only [List.set_cons_zero, List.set_cons_succ, List.eraseIdx_cons_zero, List.eraseIdx_cons_succ] at hF)) | (refine w_st rfl hF rfl rfl ?_; clear hF; intro wN hF; (try simp only [List.set_cons_zero, List.set_cons_succ, List.eraseIdx_cons_zero, List.eraseIdx_cons_succ] at hF)) | (refine w_fldB rfl rfl ?_) | (refine w_fld rfl hF rfl ?_) | (refine w_ix rfl hF rfl rfl ?_) | (refine w_lde1 rfl hF rfl ?_) | (refine w_lde rfl hF rfl ?_) | (refine w_bs1 rfl hF rfl ?_; clear hF; intro gN wN hF) | (refine w_bs0 rfl hF ?_; clear hF; intro gN wN hF) | (refine w_app rfl hF rfl rfl ?_; clear hF; intro vN wN hF; (try simp only [List.set_cons_zero, List.set_cons_succ, List.eraseIdx_cons_zero, List.eraseIdx_cons_succ] at hF)) | (refine w_appD rfl hF rfl rfl ?_; clear hF; intro vN wN hF; (try simp only [List.set_cons_zero, List.set_cons_succ, List.eraseIdx_cons_zero, List.eraseIdx_cons_succ] at hF)) | (refine w_ld1o rfl hF rfl ?_) | (refine w_st1o rfl hF rfl rfl ?_; clear hF; intro wN hF; (try simp only [List.set_cons_zero, List.set_cons_succ, List.eraseIdx_cons_zero, List.eraseIdx_cons_succ] at hF)) | (refine w_make0 rfl hF rfl rfl ?_; clear hF; intro gN wN hF) | (refine w_to rfl hF rfl rfl ?_; clear hF; intro hF) | (refine w_from rfl hF rfl rfl ?_; clear hF; intro hF)); (try simp only [Act.put, List.setIfInBounds_toArray, List.set_cons_zero, List.set_cons_succ, Nat.zero_add, Nat.zero_mul, Nat.reduceAdd])))
      go_ret
      exact ⟨rfl, hF.bel⟩
set_option maxHeartbeats 8000000 in
theorem refWrites_any (A : Option Addr) (n c : Nat) (q : List Rq) (w : World) (hr : Rd w w.heap.size 4 A n c (rqs q)) (hn : n ≤ 1000000) :
    Calls Try.prog 62 #[.slice A n c] w fun e w' => ∃ v N, e = .returned v ∧ N ≤ n ∧ w'.ownsRow w.heap.size 27 2 v N (pus (writesL q)) ∧ Bel w w' := by
  have hF := St.start w [rowD 4 A n c (rqs q)] (fun d hd => by obtain rfl := List.mem_singleton.1 hd; exact hr)
  have hc1 := hr.le
  have hc2 := hr.mx
  unfold maxLen at hc2
  have hql := hr.rqslen
  go_enter Try.func62, Try.ntmps62
  go_wp2_with (first | ((first | (refine w_box rfl hF rfl ?_; clear hF; intro gN wN hF) | (refine w_alloc rfl hF ?_; clear hF; intro gN wN hF) | (refine w_ld1 rfl hF rfl ?_) | (refine w_ld rfl hF rfl ?_) | (refine w_st1 rfl hF rfl rfl ?_; clear hF; intro wN hF; (try simp only [List.set_cons_zero, List.set_cons_succ, List.eraseIdx_cons_zero, List.eraseIdx_cons_succ] at hF)) | (refine w_st rfl hF rfl rfl ?_; clear hF; intro wN hF; (try simp only [List.set_cons_zero, List.set_cons_succ, List.eraseIdx_cons_zero, List.eraseIdx_cons_succ] at hF)) | (refine w_fldB rfl rfl ?_) | (refine w_fld rfl hF rfl ?_) | (refine w_ix rfl hF rfl rfl ?_) | (refine w_lde1 rfl hF rfl ?_) | (refine w_lde rfl hF rfl ?_) | (refine w_bs1 rfl hF rfl ?_; clear hF; intro gN wN hF) | (refine w_bs0 rfl hF ?_; clear hF; intro gN wN hF) | (refine w_app rfl hF rfl rfl ?_; clear hF; intro vN wN hF; (try simp only [List.set_cons_zero, List.set_cons_succ, List.eraseIdx_cons_zero, List.eraseIdx_cons_succ] at hF)) | (refine w_appD rfl hF rfl rfl ?_; clear hF; intro vN wN hF; (try simp only [List.set_cons_zero, List.set_cons_succ, List.eraseIdx_cons_zero, List.eraseIdx_cons_succ] at hF)) | (refine w_ld1o rfl hF rfl ?_) | (refine w_st1o rfl hF rfl rfl ?_; clear hF; intro wN hF; (try simp only [List.set_cons_zero, List.set_cons_succ, List.eraseIdx_cons_zero, List.eraseIdx_cons_succ] at hF)) | (refine w_make0 rfl hF rfl rfl ?_; clear hF; intro gN wN hF) | (refine w_to rfl hF rfl rfl ?_; clear hF; intro hF) | (refine w_from rfl hF rfl rfl ?_; clear hF; intro hF)); (try simp only [Act.put, List.setIfInBounds_toArray, List.set_cons_zero, List.set_cons_succ, Nat.zero_add, Nat.zero_mul, Nat.reduceAdd])))
  go_loopw [9, 3] (fun ix x wr => ∃ k N : Nat, k ≤ n ∧ N ≤ k ∧ ix = .int .i64 (k : Int) ∧ St w [rowD 4 A n c (rqs q)] wr [.own x 27 2 N (pus (writesL (q.take k)))] [rowD 4 A n c (rqs q)]) (fun ix _ _ => n - (intOf ix).toNat)
  case atStart => exact ⟨0, 0, by omega, by omega, rfl, hF⟩
  case round =>
    obtain ⟨k, N, hk, hN, rfl, hF⟩ := hrel
    by_cases hkn : k < n
    · obtain ⟨r, hu⟩ : ∃ r, q[k]? = some r := ⟨_, List.getElem?_eq_getElem (by omega)⟩
      by_cases h4 : r.kind = 4
      · have hst := Lib.hid (writesL_yes hu h4)
        obtain ⟨rk, rl, rt, rd⟩ := r
        dsimp only at h4
        subst h4
        have happ : Hid (pus (writesL (q.take k)) ++ [.int .u32 (rl : Int), .string rd] = pus (writesL (q.take (k + 1)))) := Lib.hid (by rw [hst.out, pus_append]; rfl)
        clear hst
        go_wp2_with (first | (refine w_lde (us := [.int .i64 4, .int .u32 (rl : Int), .int .i64 rt, .string rd]) (hu := Rows.sub (f := rqs) hu) rfl hF rfl ?_) | ((first | (refine w_box rfl hF rfl ?_; clear hF; intro gN wN hF) | (refine w_alloc rfl hF ?_; clear hF; intro gN wN hF) | (refine w_ld1 rfl hF rfl ?_) | (refine w_ld rfl hF rfl ?_) | (refine w_st1 rfl hF rfl rfl ?_; clear hF; intro wN hF; (try simp only [List.set_cons_zero, List.set_cons_succ, List.eraseIdx_cons_zero, List.eraseIdx_cons_succ] at hF)) | (refine w_st rfl hF rfl rfl ?_; clear hF; intro wN hF; (try simp only [List.set_cons_zero, List.set_cons_succ, List.eraseIdx_cons_zero, List.eraseIdx_cons_succ] at hF)) | (refine w_fldB rfl rfl ?_) | (refine w_fld rfl hF rfl ?_) | (refine w_ix rfl hF rfl rfl ?_) | (refine w_lde1 rfl hF rfl ?_) | (refine w_lde rfl hF rfl ?_) | (refine w_bs1 rfl hF rfl ?_; clear hF; intro gN wN hF) | (refine w_bs0 rfl hF ?_; clear hF; intro gN wN hF) | (refine w_app rfl hF rfl rfl ?_; clear hF; intro vN wN hF; (try simp only [List.set_cons_zero, List.set_cons_succ, List.eraseIdx_cons_zero, List.eraseIdx_cons_succ] at hF)) | (refine w_appD rfl hF rfl rfl ?_; clear hF; intro vN wN hF; (try simp only [List.set_cons_zero, List.set_cons_succ, List.eraseIdx_cons_zero, List.eraseIdx_cons_succ] at hF)) | (refine w_ld1o rfl hF rfl ?_) | (refine w_st1o rfl hF rfl rfl ?_; clear hF; intro wN hF; (try simp only [List.set_cons_zero, List.set_cons_succ, List.eraseIdx_cons_zero, List.eraseIdx_cons_succ] at hF)) | (refine w_make0 rfl hF rfl rfl ?_; clear hF; intro gN wN hF) | (refine w_to rfl hF rfl rfl ?_; clear hF; intro hF) | (refine w_from rfl hF rfl rfl ?_; clear hF; intro hF)); (try simp only [Act.put, List.setIfInBounds_toArray, List.set_cons_zero, List.set_cons_succ, Nat.zero_add, Nat.zero_mul, Nat.reduceAdd])))
        go_roundw
        case rel => exact ⟨k + 1, N + 1, by omega, by omega, by go_num, by rw [← happ.out]; exact hF.drop 0⟩
        case measure => first | (simp [intOf]; done) | (simp [intOf]; omega)
      · have hst := Lib.hid (writesL_no hu h4)
        obtain ⟨rk, rl, rt, rd⟩ := r
        dsimp only at h4
        go_wp2_with (first | (refine w_lde (us := [.int .i64 rk, .int .u32 (rl : Int), .int .i64 rt, .string rd]) (hu := Rows.sub (f := rqs) hu) rfl hF rfl ?_) | (refine w_eqF rfl rfl rfl ?_) | ((first | (refine w_box rfl hF rfl ?_; clear hF; intro gN wN hF) | (refine w_alloc rfl hF ?_; clear hF; intro gN wN hF) | (refine w_ld1 rfl hF rfl ?_) | (refine w_ld rfl hF rfl ?_) | (refine w_st1 rfl hF rfl rfl ?_; clear hF; intro wN hF; (try simp only [List.set_cons_zero, List.set_cons_succ, List.eraseIdx_cons_zero, List.eraseIdx_cons_succ] at hF)) | (refine w_st rfl hF rfl rfl ?_; clear hF; intro wN hF; (try simp only [List.set_cons_zero, List.set_cons_succ, List.eraseIdx_cons_zero, List.eraseIdx_cons_succ] at hF)) | (refine w_fldB rfl rfl ?_) | (refine w_fld rfl hF rfl ?_) | (refine w_ix rfl hF rfl rfl ?_) | (refine w_lde1 rfl hF rfl ?_) | (refine w_lde rfl hF rfl ?_) | (refine w_bs1 rfl hF rfl ?_; clear hF; intro gN wN hF) | (refine w_bs0 rfl hF ?_; clear hF; intro gN wN hF) | (refine w_app rfl hF rfl rfl ?_; clear hF; intro vN wN hF; (try simp only [List.set_cons_zero, List.set_cons_succ, List.eraseIdx_cons_zero, List.eraseIdx_cons_succ] at hF)) | (refine w_appD rfl hF rfl rfl ?_; clear hF; intro vN wN hF; (try simp only [List.set_cons_zero, List.set_cons_succ, List.eraseIdx_cons_zero, List.eraseIdx_cons_succ] at hF)) | (refine w_ld1o rfl hF rfl ?_) | (refine w_st1o rfl hF rfl rfl ?_; clear hF; intro wN hF; (try simp only [List.set_cons_zero, List.set_cons_succ, List.eraseIdx_cons_zero, List.eraseIdx_cons_succ] at hF)) | (refine w_make0 rfl hF rfl rfl ?_; clear hF; intro gN wN hF) | (refine w_to rfl hF rfl rfl ?_; clear hF; intro hF) | (refine w_from rfl hF rfl rfl ?_; clear hF; intro hF)); (try simp only [Act.put, List.setIfInBounds_toArray, List.set_cons_zero, List.set_cons_succ, Nat.zero_add, Nat.zero_mul, Nat.reduceAdd])))
        go_roundw
        case rel => exact ⟨k + 1, N, by omega, by omega, by go_num, by rw [hst.out]; exact hF.drop 0⟩
        case measure => first | (simp [intOf]; done) | (simp [intOf]; omega)
    · obtain rfl : k = n := by omega
      rw [List.take_of_length_le (by omega)] at hF
      go_wp2_with (first | ((first | (refine w_box rfl hF rfl ?_; clear hF; intro gN wN hF) | (refine w_alloc rfl hF ?_; clear hF; intro gN wN hF) | (refine w_ld1 rfl hF rfl ?_) | (refine w_ld rfl hF rfl ?_) | (refine w_st1 rfl hF rfl rfl ?_; clear hF; intro wN hF; (try simp only [List.set_cons_zero, List.set_cons_succ, List.eraseIdx_cons_zero, List.eraseIdx_cons_succ] at hF)) | (refine w_st rfl hF rfl rfl ?_; clear hF; intro wN hF; (try simp only [List.set_cons_zero, List.set_cons_succ, List.eraseIdx_cons_zero, List.eraseIdx_cons_succ] at hF)) | (refine w_fldB rfl rfl ?_) | (refine w_fld rfl hF rfl ?_) | (refine w_ix rfl hF rfl rfl ?_) | (refine w_lde1 rfl hF rfl ?_) | (refine w_lde rfl hF rfl ?_) | (refine w_bs1 rfl hF rfl ?_; clear hF; intro gN wN hF) | (refine w_bs0 rfl hF ?_; clear hF; intro gN wN hF) | (refine w_app rfl hF rfl rfl ?_; clear hF; intro vN wN hF; (try simp only [List.set_cons_zero, List.set_cons_succ, List.eraseIdx_cons_zero, List.eraseIdx_cons_succ] at hF)) | (refine w_appD rfl hF rfl rfl ?_; clear hF; intro vN wN hF; (try simp only [List.set_cons_zero, List.set_cons_succ, List.eraseIdx_cons_zero, List.eraseIdx_cons_succ] at hF)) | (refine w_ld1o rfl hF rfl ?_) | (refine w_st1o rfl hF rfl rfl ?_; clear hF; intro wN hF; (try simp only [List.set_cons_zero, List.set_cons_succ, List.eraseIdx_cons_zero, List.eraseIdx_cons_succ] at hF)) | (refine w_make0 rfl hF rfl rfl ?_; clear hF; intro gN wN hF) | (refine w_to rfl hF rfl rfl ?_; clear hF; intro hF) | (refine w_from rfl hF rfl rfl ?_; clear hF; intro hF)); (try simp only [Act.put, List.setIfInBounds_toArray, List.set_cons_zero, List.set_cons_succ, Nat.zero_add, Nat.zero_mul, Nat.reduceAdd])))
      go_ret
      exact ⟨_, N, rfl, hN, hF.ownAt at0, hF.bel⟩
set_option maxHeartbeats 8000000 in
theorem refLines_any (ways : Int) (A : Option Addr) (n c : Nat) (S : List Cs) (w : World) (hr : RdS w w.heap.size A n c S) (hn : n ≤ 1000) (hws : ∀ ws ∈ cont S, ws.length ≤ 1000) :
    Calls Try.prog 63 #[.agg #[.int .i64 ways, .slice A n c]] w fun e w' => ∃ v N, e = .returned v ∧ N ≤ n * 1000 ∧ w'.ownsRow w.heap.size 27 2 v N (pus (linesL (cont S))) ∧ Bel w w' := by
  have hF := St.start w _ (cacheD_ok hr)
  unfold cacheD at hF
  have hsl := hr.slen
  have hc1 := hr.rd.le
  have hc2 := hr.rd.mx
  unfold maxLen at hc2
  replace hws := Lib.hid hws
  go_enter Try.func63, Try.ntmps63
  go_wp2_with (first | ((first | (refine w_box rfl hF rfl ?_; clear hF; intro gN wN hF) | (refine w_alloc rfl hF ?_; clear hF; intro gN wN hF) | (refine w_ld1 rfl hF rfl ?_) | (refine w_ld rfl hF rfl ?_) | (refine w_st1 rfl hF rfl rfl ?_; clear hF; intro wN hF; (try simp only [List.set_cons_zero, List.set_cons_succ, List.eraseIdx_cons_zero, List.eraseIdx_cons_succ] at hF)) | (refine w_st rfl hF rfl rfl ?_; clear hF; intro wN hF; (try simp only [List.set_cons_zero, List.set_cons_succ, List.eraseIdx_cons_zero, List.eraseIdx_cons_succ] at hF)) | (refine w_fldB rfl rfl ?_) | (refine w_fld rfl hF rfl ?_) | (refine w_ix rfl hF rfl rfl ?_) | (refine w_lde1 rfl hF rfl ?_) | (refine w_lde rfl hF rfl ?_) | (refine w_bs1 rfl hF rfl ?_; clear hF; intro gN wN hF) | (refine w_bs0 rfl hF ?_; clear hF; intro gN wN hF) | (refine w_app rfl hF rfl rfl ?_; clear hF; intro vN wN hF; (try simp only [List.set_cons_zero, List.set_cons_succ, List.eraseIdx_cons_zero, List.eraseIdx_cons_succ] at hF)) | (refine w_appD rfl hF rfl rfl ?_; clear hF; intro vN wN hF; (try simp only [List.set_cons_zero, List.set_cons_succ, List.eraseIdx_cons_zero, List.eraseIdx_cons_succ] at hF)) | (refine w_ld1o rfl hF rfl ?_) | (refine w_st1o rfl hF rfl rfl ?_; clear hF; intro wN hF; (try simp only [List.set_cons_zero, List.set_cons_succ, List.eraseIdx_cons_zero, List.eraseIdx_cons_succ] at hF)) | (refine w_make0 rfl hF rfl rfl ?_; clear hF; intro gN wN hF) | (refine w_to rfl hF rfl rfl ?_; clear hF; intro hF) | (refine w_from rfl hF rfl rfl ?_; clear hF; intro hF)); (try simp only [Act.put, List.setIfInBounds_toArray, List.set_cons_zero, List.set_cons_succ, Nat.zero_add, Nat.zero_mul, Nat.reduceAdd])))
  obtain ⟨gC, rfl⟩ := (hF.drop 0).names1
  go_loopw [12, 3] (fun ix x wr => ∃ k N : Nat, k ≤ n ∧ N ≤ k * 1000 ∧ ix = .int .i64 (k : Int) ∧ St w [rowD 1 A n c (csv S), elemsD S] wr [.own x 27 2 N (pus (linesL ((cont S).take k))), .blk gC 36 [.int .i64 ways, .slice A n c]] [rowD 1 A n c (csv S), elemsD S]) (fun ix _ _ => n - (intOf ix).toNat)
  case atStart => exact ⟨0, 0, by omega, by omega, rfl, hF⟩
  case round =>
    obtain ⟨k, N, hk, hN, rfl, hF⟩ := hrel
    by_cases hkn : k < n
    · obtain ⟨s, hs⟩ : ∃ s, S[k]? = some s := ⟨_, List.getElem?_eq_getElem (by omega)⟩
      obtain ⟨sA, m', sc, ws⟩ := s
      have hF := hF.elemA hs
      simp only at hF
      have hse := hF.rdA (sz := 3) (A := sA) (n := m') (c := sc) (xs := wys ws)
      have hm1 := hse.le
      have hm2 := hse.mx
      have hwl := Lib.hid hse.wyslen
      have hset := Lib.hid (vcont_el hs)
      have hm3 : m' ≤ 1000 := by rw [← hwl.out]; exact hws.out ws (List.mem_of_getElem? hset.out)
      unfold maxLen at hm2
      clear hse
      go_wp2_with (first | ((first | (refine w_box rfl hF rfl ?_; clear hF; intro gN wN hF) | (refine w_alloc rfl hF ?_; clear hF; intro gN wN hF) | (refine w_ld1 rfl hF rfl ?_) | (refine w_ld rfl hF rfl ?_) | (refine w_st1 rfl hF rfl rfl ?_; clear hF; intro wN hF; (try simp only [List.set_cons_zero, List.set_cons_succ, List.eraseIdx_cons_zero, List.eraseIdx_cons_succ] at hF)) | (refine w_st rfl hF rfl rfl ?_; clear hF; intro wN hF; (try simp only [List.set_cons_zero, List.set_cons_succ, List.eraseIdx_cons_zero, List.eraseIdx_cons_succ] at hF)) | (refine w_fldB rfl rfl ?_) | (refine w_fld rfl hF rfl ?_) | (refine w_ix rfl hF rfl rfl ?_) | (refine w_lde1 rfl hF rfl ?_) | (refine w_lde rfl hF rfl ?_) | (refine w_bs1 rfl hF rfl ?_; clear hF; intro gN wN hF) | (refine w_bs0 rfl hF ?_; clear hF; intro gN wN hF) | (refine w_app rfl hF rfl rfl ?_; clear hF; intro vN wN hF; (try simp only [List.set_cons_zero, List.set_cons_succ, List.eraseIdx_cons_zero, List.eraseIdx_cons_succ] at hF)) | (refine w_appD rfl hF rfl rfl ?_; clear hF; intro vN wN hF; (try simp only [List.set_cons_zero, List.set_cons_succ, List.eraseIdx_cons_zero, List.eraseIdx_cons_succ] at hF)) | (refine w_ld1o rfl hF rfl ?_) | (refine w_st1o rfl hF rfl rfl ?_; clear hF; intro wN hF; (try simp only [List.set_cons_zero, List.set_cons_succ, List.eraseIdx_cons_zero, List.eraseIdx_cons_succ] at hF)) | (refine w_make0 rfl hF rfl rfl ?_; clear hF; intro gN wN hF) | (refine w_to rfl hF rfl rfl ?_; clear hF; intro hF) | (refine w_from rfl hF rfl rfl ?_; clear hF; intro hF)); (try simp only [Act.put, List.setIfInBounds_toArray, List.set_cons_zero, List.set_cons_succ, Nat.zero_add, Nat.zero_mul, Nat.reduceAdd])))
      try simp only [Nat.mul_one]
      go_loopw [18, 3] (fun ix x wr => ∃ j N' : Nat, j ≤ m' ∧ N' ≤ k * 1000 + j ∧ ix = .int .i64 (j : Int) ∧ St w [rowD 1 A n c (csv S), elemsD S] wr [.own x 27 2 N' (pus (linesL ((cont S).take k) ++ waysL (ws.take j))), .blk gC 36 [.int .i64 ways, .slice A n c]] [rowD 3 sA m' sc (wys ws), rowD 1 A n c (csv S), elemsD S]) (fun ix _ _ => m' - (intOf ix).toNat)
      case atStart => exact ⟨0, N, by omega, by omega, rfl, by simp only [waysL, List.take_zero, List.map_nil, List.append_nil]; exact hF⟩
      case round =>
        obtain ⟨j, N', hj, hN', rfl, hF⟩ := hrel
        by_cases hjm : j < m'
        · obtain ⟨⟨ul, ud, ub⟩, hu⟩ : ∃ u, ws[j]? = some u := ⟨_, List.getElem?_eq_getElem (by have := hwl.out; omega)⟩
          have happ : Hid (pus (linesL ((cont S).take k) ++ waysL (ws.take j)) ++ [.int .u32 (ul : Int), .string ub] = pus (linesL ((cont S).take k) ++ waysL (ws.take (j + 1)))) := Lib.hid (by rw [waysL_succ hu, ← List.append_assoc, pus_append _ [_]]; rfl)
          go_wp2_with (first | (refine w_lde (us := [.int .u32 (ul : Int), .bool ud, .string ub]) (hu := Rows.sub (f := wys) hu) rfl hF rfl ?_) | ((first | (refine w_box rfl hF rfl ?_; clear hF; intro gN wN hF) | (refine w_alloc rfl hF ?_; clear hF; intro gN wN hF) | (refine w_ld1 rfl hF rfl ?_) | (refine w_ld rfl hF rfl ?_) | (refine w_st1 rfl hF rfl rfl ?_; clear hF; intro wN hF; (try simp only [List.set_cons_zero, List.set_cons_succ, List.eraseIdx_cons_zero, List.eraseIdx_cons_succ] at hF)) | (refine w_st rfl hF rfl rfl ?_; clear hF; intro wN hF; (try simp only [List.set_cons_zero, List.set_cons_succ, List.eraseIdx_cons_zero, List.eraseIdx_cons_succ] at hF)) | (refine w_fldB rfl rfl ?_) | (refine w_fld rfl hF rfl ?_) | (refine w_ix rfl hF rfl rfl ?_) | (refine w_lde1 rfl hF rfl ?_) | (refine w_lde rfl hF rfl ?_) | (refine w_bs1 rfl hF rfl ?_; clear hF; intro gN wN hF) | (refine w_bs0 rfl hF ?_; clear hF; intro gN wN hF) | (refine w_app rfl hF rfl rfl ?_; clear hF; intro vN wN hF; (try simp only [List.set_cons_zero, List.set_cons_succ, List.eraseIdx_cons_zero, List.eraseIdx_cons_succ] at hF)) | (refine w_appD rfl hF rfl rfl ?_; clear hF; intro vN wN hF; (try simp only [List.set_cons_zero, List.set_cons_succ, List.eraseIdx_cons_zero, List.eraseIdx_cons_succ] at hF)) | (refine w_ld1o rfl hF rfl ?_) | (refine w_st1o rfl hF rfl rfl ?_; clear hF; intro wN hF; (try simp only [List.set_cons_zero, List.set_cons_succ, List.eraseIdx_cons_zero, List.eraseIdx_cons_succ] at hF)) | (refine w_make0 rfl hF rfl rfl ?_; clear hF; intro gN wN hF) | (refine w_to rfl hF rfl rfl ?_; clear hF; intro hF) | (refine w_from rfl hF rfl rfl ?_; clear hF; intro hF)); (try simp only [Act.put, List.setIfInBounds_toArray, List.set_cons_zero, List.set_cons_succ, Nat.zero_add, Nat.zero_mul, Nat.reduceAdd])))
          go_roundw
          case rel => exact ⟨j + 1, N' + 1, by omega, by omega, by go_num, by rw [← happ.out]; exact hF.drop 0⟩
          case measure => first | (simp [intOf]; done) | (simp [intOf]; omega)
        · obtain rfl : j = m' := by omega
          rw [List.take_of_length_le (l := ws) (by have := hwl.out; omega), ← linesL_succ hset.out] at hF
          go_wp2_with (first | ((first | (refine w_box rfl hF rfl ?_; clear hF; intro gN wN hF) | (refine w_alloc rfl hF ?_; clear hF; intro gN wN hF) | (refine w_ld1 rfl hF rfl ?_) | (refine w_ld rfl hF rfl ?_) | (refine w_st1 rfl hF rfl rfl ?_; clear hF; intro wN hF; (try simp only [List.set_cons_zero, List.set_cons_succ, List.eraseIdx_cons_zero, List.eraseIdx_cons_succ] at hF)) | (refine w_st rfl hF rfl rfl ?_; clear hF; intro wN hF; (try simp only [List.set_cons_zero, List.set_cons_succ, List.eraseIdx_cons_zero, List.eraseIdx_cons_succ] at hF)) | (refine w_fldB rfl rfl ?_) | (refine w_fld rfl hF rfl ?_) | (refine w_ix rfl hF rfl rfl ?_) | (refine w_lde1 rfl hF rfl ?_) | (refine w_lde rfl hF rfl ?_) | (refine w_bs1 rfl hF rfl ?_; clear hF; intro gN wN hF) | (refine w_bs0 rfl hF ?_; clear hF; intro gN wN hF) | (refine w_app rfl hF rfl rfl ?_; clear hF; intro vN wN hF; (try simp only [List.set_cons_zero, List.set_cons_succ, List.eraseIdx_cons_zero, List.eraseIdx_cons_succ] at hF)) | (refine w_appD rfl hF rfl rfl ?_; clear hF; intro vN wN hF; (try simp only [List.set_cons_zero, List.set_cons_succ, List.eraseIdx_cons_zero, List.eraseIdx_cons_succ] at hF)) | (refine w_ld1o rfl hF rfl ?_) | (refine w_st1o rfl hF rfl rfl ?_; clear hF; intro wN hF; (try simp only [List.set_cons_zero, List.set_cons_succ, List.eraseIdx_cons_zero, List.eraseIdx_cons_succ] at hF)) | (refine w_make0 rfl hF rfl rfl ?_; clear hF; intro gN wN hF) | (refine w_to rfl hF rfl rfl ?_; clear hF; intro hF) | (refine w_from rfl hF rfl rfl ?_; clear hF; intro hF)); (try simp only [Act.put, List.setIfInBounds_toArray, List.set_cons_zero, List.set_cons_succ, Nat.zero_add, Nat.zero_mul, Nat.reduceAdd])))
          go_roundw
          case rel => exact ⟨k + 1, N', by omega, by omega, by go_num, hF.lessA _⟩
          case measure => first | (simp [intOf]; done) | (simp [intOf]; omega)
    · obtain rfl : k = n := by omega
      rw [List.take_of_length_le (by rw [cont_len]; omega)] at hF
      go_wp2_with (first | ((first | (refine w_box rfl hF rfl ?_; clear hF; intro gN wN hF) | (refine w_alloc rfl hF ?_; clear hF; intro gN wN hF) | (refine w_ld1 rfl hF rfl ?_) | (refine w_ld rfl hF rfl ?_) | (refine w_st1 rfl hF rfl rfl ?_; clear hF; intro wN hF; (try simp only [List.set_cons_zero, List.set_cons_succ, List.eraseIdx_cons_zero, List.eraseIdx_cons_succ] at hF)) | (refine w_st rfl hF rfl rfl ?_; clear hF; intro wN hF; (try simp only [List.set_cons_zero, List.set_cons_succ, List.eraseIdx_cons_zero, List.eraseIdx_cons_succ] at hF)) | (refine w_fldB rfl rfl ?_) | (refine w_fld rfl hF rfl ?_) | (refine w_ix rfl hF rfl rfl ?_) | (refine w_lde1 rfl hF rfl ?_) | (refine w_lde rfl hF rfl ?_) | (refine w_bs1 rfl hF rfl ?_; clear hF; intro gN wN hF) | (refine w_bs0 rfl hF ?_; clear hF; intro gN wN hF) | (refine w_app rfl hF rfl rfl ?_; clear hF; intro vN wN hF; (try simp only [List.set_cons_zero, List.set_cons_succ, List.eraseIdx_cons_zero, List.eraseIdx_cons_succ] at hF)) | (refine w_appD rfl hF rfl rfl ?_; clear hF; intro vN wN hF; (try simp only [List.set_cons_zero, List.set_cons_succ, List.eraseIdx_cons_zero, List.eraseIdx_cons_succ] at hF)) | (refine w_ld1o rfl hF rfl ?_) | (refine w_st1o rfl hF rfl rfl ?_; clear hF; intro wN hF; (try simp only [List.set_cons_zero, List.set_cons_succ, List.eraseIdx_cons_zero, List.eraseIdx_cons_succ] at hF)) | (refine w_make0 rfl hF rfl rfl ?_; clear hF; intro gN wN hF) | (refine w_to rfl hF rfl rfl ?_; clear hF; intro hF) | (refine w_from rfl hF rfl rfl ?_; clear hF; intro hF)); (try simp only [Act.put, List.setIfInBounds_toArray, List.set_cons_zero, List.set_cons_succ, Nat.zero_add, Nat.zero_mul, Nat.reduceAdd])))
      go_ret
      exact ⟨_, N, rfl, hN, hF.ownAt at0, hF.bel⟩
set_option maxHeartbeats 8000000 in
theorem refBelow_any (m : ByteArray) (A : Option Addr) (n c : Nat) (q : List Rq) (w : World) (hr : Rd w w.heap.size 4 A n c (rqs q)) (hm : m.size ≤ 1000000) (hqn : n ≤ 1000000) (hq : ∀ r ∈ q, r.line < 4294967296 ∧ r.data.size ≤ maxLen) :
    Calls Try.prog 58 #[.slice A n c, .string m] w fun e w' => e = .returned (.string (ovS m (writesL q))) ∧ Bel w w' := by
  have hF := St.start w [rowD 4 A n c (rqs q)] (fun d hd => by obtain rfl := List.mem_singleton.1 hd; exact hr)
  have hpp : ∀ p ∈ writesL q, p.addr < 4294967296 ∧ p.data.size ≤ maxLen := fun p hp => by
    obtain ⟨r, hr, rfl⟩ := List.mem_map.1 hp
    exact hq r (List.mem_filter.1 hr).1
  go_enter Try.func58, Try.ntmps58
  go_wp2_with (first | (go_at_call 62; refine (refWrites_any _ _ _ _ _ hF.rdA hqn).mono ?_; rintro e wN ⟨vW, nW, rfl, hnW, ho, hb⟩; replace hF := hF.pushOwn hb ho; clear ho hb; obtain ⟨AW, cW, rfl, hF⟩ := hF.freeze 0 at0; (try simp only [List.set_cons_zero, List.set_cons_succ, List.eraseIdx_cons_zero, List.eraseIdx_cons_succ] at hF)) | (go_at_call 64; refine (refOver_any _ _ _ _ _ _ hF.rdA hm hpp).mono ?_; rintro e wN ⟨rfl, hb⟩; replace hF := hF.grow hb; clear hb) | ((first | (refine w_box rfl hF rfl ?_; clear hF; intro gN wN hF) | (refine w_alloc rfl hF ?_; clear hF; intro gN wN hF) | (refine w_ld1 rfl hF rfl ?_) | (refine w_ld rfl hF rfl ?_) | (refine w_st1 rfl hF rfl rfl ?_; clear hF; intro wN hF; (try simp only [List.set_cons_zero, List.set_cons_succ, List.eraseIdx_cons_zero, List.eraseIdx_cons_succ] at hF)) | (refine w_st rfl hF rfl rfl ?_; clear hF; intro wN hF; (try simp only [List.set_cons_zero, List.set_cons_succ, List.eraseIdx_cons_zero, List.eraseIdx_cons_succ] at hF)) | (refine w_fldB rfl rfl ?_) | (refine w_fld rfl hF rfl ?_) | (refine w_ix rfl hF rfl rfl ?_) | (refine w_lde1 rfl hF rfl ?_) | (refine w_lde rfl hF rfl ?_) | (refine w_bs1 rfl hF rfl ?_; clear hF; intro gN wN hF) | (refine w_bs0 rfl hF ?_; clear hF; intro gN wN hF) | (refine w_app rfl hF rfl rfl ?_; clear hF; intro vN wN hF; (try simp only [List.set_cons_zero, List.set_cons_succ, List.eraseIdx_cons_zero, List.eraseIdx_cons_succ] at hF)) | (refine w_appD rfl hF rfl rfl ?_; clear hF; intro vN wN hF; (try simp only [List.set_cons_zero, List.set_cons_succ, List.eraseIdx_cons_zero, List.eraseIdx_cons_succ] at hF)) | (refine w_ld1o rfl hF rfl ?_) | (refine w_st1o rfl hF rfl rfl ?_; clear hF; intro wN hF; (try simp only [List.set_cons_zero, List.set_cons_succ, List.eraseIdx_cons_zero, List.eraseIdx_cons_succ] at hF)) | (refine w_make0 rfl hF rfl rfl ?_; clear hF; intro gN wN hF) | (refine w_to rfl hF rfl rfl ?_; clear hF; intro hF) | (refine w_from rfl hF rfl rfl ?_; clear hF; intro hF)); (try simp only [Act.put, List.setIfInBounds_toArray, List.set_cons_zero, List.set_cons_succ, Nat.zero_add, Nat.zero_mul, Nat.reduceAdd])))
  go_ret
  exact ⟨rfl, hF.bel⟩
set_option maxHeartbeats 8000000 in
theorem refAll_any (m : ByteArray) (ways : Int) (A : Option Addr) (n c : Nat) (S : List Cs) (Aq : Option Addr) (nq cq : Nat) (q : List Rq) (As : Option Addr) (ns cs : Nat) (ss : List Pu) (w : World) (hr : RdS w w.heap.size A n c S) (hrq : Rd w w.heap.size 4 Aq nq cq (rqs q)) (hrs : Rd w w.heap.size 2 As ns cs (pus ss))
    (hm : m.size ≤ 1000000) (hso : SOk S) (hn : n ≤ 1000) (hws : ∀ ws ∈ cont S, ws.length ≤ 1000) (hqn : nq ≤ 1000000) (hq : ∀ r ∈ q, r.line < 4294967296 ∧ r.data.size ≤ maxLen) (hsn : ns ≤ 1000000) (hss : ∀ p ∈ ss, p.addr < 4294967296 ∧ p.data.size ≤ maxLen) :
    Calls Try.prog 23 #[.slice As ns cs, .agg #[.int .i64 ways, .slice A n c], .slice Aq nq cq, .string m] w fun e w' => e = .returned (.string (ovS m (writesL q ++ linesL (cont S) ++ ss))) ∧ Bel w w' := by
  have hF := St.start w [rowD 1 A n c (csv S), elemsD S, rowD 4 Aq nq cq (rqs q), rowD 2 As ns cs (pus ss)] (fun d hd => by
    rcases List.mem_cons.1 hd with rfl | hd
    · exact hr.rd
    · rcases List.mem_cons.1 hd with rfl | hd
      · exact hr.sets
      · rcases List.mem_cons.1 hd with rfl | hd
        · exact hrq
        · obtain rfl := List.mem_singleton.1 hd; exact hrs)
  have hpp : ∀ p ∈ writesL q ++ linesL (cont S) ++ ss, p.addr < 4294967296 ∧ p.data.size ≤ maxLen := fun p hp => by
    rcases List.mem_append.1 hp with hp | hp
    · rcases List.mem_append.1 hp with hp | hp
      · obtain ⟨r, hr, rfl⟩ := List.mem_map.1 hp
        exact hq r (List.mem_filter.1 hr).1
      · obtain ⟨v, hv, rfl⟩ := List.mem_map.1 hp
        obtain ⟨ws, hw, hv⟩ := List.mem_flatten.1 hv
        obtain ⟨s, hs, rfl⟩ := List.mem_map.1 hw
        exact hso s hs v hv
    · exact hss p hp
  go_enter Try.func23, Try.ntmps23
  go_upto_region 4 with (first | (go_at_call 62; refine (refWrites_any _ _ _ _ _ hF.rdA hqn).mono ?_; rintro e wN ⟨vW, nW, rfl, hnW, ho, hb⟩; replace hF := hF.pushOwn hb ho; clear ho hb) | (go_at_call 63; refine (refLines_any _ _ _ _ _ _ hF.rds hn hws).mono ?_; rintro e wN ⟨vL, nL, rfl, hnL, ho, hb⟩; replace hF := hF.pushOwn hb ho; clear ho hb; obtain ⟨AL, cL, rfl, hF⟩ := hF.freeze 0 at0; (try simp only [List.set_cons_zero, List.set_cons_succ, List.eraseIdx_cons_zero, List.eraseIdx_cons_succ] at hF)) | ((first | (refine w_box rfl hF rfl ?_; clear hF; intro gN wN hF) | (refine w_alloc rfl hF ?_; clear hF; intro gN wN hF) | (refine w_ld1 rfl hF rfl ?_) | (refine w_ld rfl hF rfl ?_) | (refine w_st1 rfl hF rfl rfl ?_; clear hF; intro wN hF; (try simp only [List.set_cons_zero, List.set_cons_succ, List.eraseIdx_cons_zero, List.eraseIdx_cons_succ] at hF)) | (refine w_st rfl hF rfl rfl ?_; clear hF; intro wN hF; (try simp only [List.set_cons_zero, List.set_cons_succ, List.eraseIdx_cons_zero, List.eraseIdx_cons_succ] at hF)) | (refine w_fldB rfl rfl ?_) | (refine w_fld rfl hF rfl ?_) | (refine w_ix rfl hF rfl rfl ?_) | (refine w_lde1 rfl hF rfl ?_) | (refine w_lde rfl hF rfl ?_) | (refine w_bs1 rfl hF rfl ?_; clear hF; intro gN wN hF) | (refine w_bs0 rfl hF ?_; clear hF; intro gN wN hF) | (refine w_app rfl hF rfl rfl ?_; clear hF; intro vN wN hF; (try simp only [List.set_cons_zero, List.set_cons_succ, List.eraseIdx_cons_zero, List.eraseIdx_cons_succ] at hF)) | (refine w_appD rfl hF rfl rfl ?_; clear hF; intro vN wN hF; (try simp only [List.set_cons_zero, List.set_cons_succ, List.eraseIdx_cons_zero, List.eraseIdx_cons_succ] at hF)) | (refine w_ld1o rfl hF rfl ?_) | (refine w_st1o rfl hF rfl rfl ?_; clear hF; intro wN hF; (try simp only [List.set_cons_zero, List.set_cons_succ, List.eraseIdx_cons_zero, List.eraseIdx_cons_succ] at hF)) | (refine w_make0 rfl hF rfl rfl ?_; clear hF; intro gN wN hF) | (refine w_to rfl hF rfl rfl ?_; clear hF; intro hF) | (refine w_from rfl hF rfl rfl ?_; clear hF; intro hF)); (try simp only [Act.put, List.setIfInBounds_toArray, List.set_cons_zero, List.set_cons_succ, Nat.zero_add, Nat.zero_mul, Nat.reduceAdd])))
  rw [← pus_append, ← pus_append, List.append_assoc] at hF
  rw [List.append_assoc] at hpp
  obtain ⟨AX, cX, rfl, hF⟩ := hF.freeze 0 at0
  (try simp only [List.set_cons_zero, List.set_cons_succ, List.eraseIdx_cons_zero, List.eraseIdx_cons_succ] at hF)
  go_wp2_with (first | (go_at_call 64; refine (refOver_any _ _ _ _ _ _ hF.rdA hm hpp).mono ?_; rintro e wN ⟨rfl, hb⟩; replace hF := hF.grow hb; clear hb) | ((first | (refine w_box rfl hF rfl ?_; clear hF; intro gN wN hF) | (refine w_alloc rfl hF ?_; clear hF; intro gN wN hF) | (refine w_ld1 rfl hF rfl ?_) | (refine w_ld rfl hF rfl ?_) | (refine w_st1 rfl hF rfl rfl ?_; clear hF; intro wN hF; (try simp only [List.set_cons_zero, List.set_cons_succ, List.eraseIdx_cons_zero, List.eraseIdx_cons_succ] at hF)) | (refine w_st rfl hF rfl rfl ?_; clear hF; intro wN hF; (try simp only [List.set_cons_zero, List.set_cons_succ, List.eraseIdx_cons_zero, List.eraseIdx_cons_succ] at hF)) | (refine w_fldB rfl rfl ?_) | (refine w_fld rfl hF rfl ?_) | (refine w_ix rfl hF rfl rfl ?_) | (refine w_lde1 rfl hF rfl ?_) | (refine w_lde rfl hF rfl ?_) | (refine w_bs1 rfl hF rfl ?_; clear hF; intro gN wN hF) | (refine w_bs0 rfl hF ?_; clear hF; intro gN wN hF) | (refine w_app rfl hF rfl rfl ?_; clear hF; intro vN wN hF; (try simp only [List.set_cons_zero, List.set_cons_succ, List.eraseIdx_cons_zero, List.eraseIdx_cons_succ] at hF)) | (refine w_appD rfl hF rfl rfl ?_; clear hF; intro vN wN hF; (try simp only [List.set_cons_zero, List.set_cons_succ, List.eraseIdx_cons_zero, List.eraseIdx_cons_succ] at hF)) | (refine w_ld1o rfl hF rfl ?_) | (refine w_st1o rfl hF rfl rfl ?_; clear hF; intro wN hF; (try simp only [List.set_cons_zero, List.set_cons_succ, List.eraseIdx_cons_zero, List.eraseIdx_cons_succ] at hF)) | (refine w_make0 rfl hF rfl rfl ?_; clear hF; intro gN wN hF) | (refine w_to rfl hF rfl rfl ?_; clear hF; intro hF) | (refine w_from rfl hF rfl rfl ?_; clear hF; intro hF)); (try simp only [Act.put, List.setIfInBounds_toArray, List.set_cons_zero, List.set_cons_succ, Nat.zero_add, Nat.zero_mul, Nat.reduceAdd])))
  go_ret
  exact ⟨by rw [List.append_assoc]; rfl, hF.bel⟩
set_option maxHeartbeats 8000000 in
theorem refCut_any (m : ByteArray) (x : Nat) (w : World) (hm : m.size ≤ 1000000) (hx : x < 4294967296) :
    Calls Try.prog 57 #[.string m, .int .u32 (x : Int)] w fun e w' => e = .returned (.string (cutS m x)) ∧ Bel w w' := by
  have hF := St.start w [] (fun d hd => by cases hd)
  have HL := Lib.hid (fun W => refLineOf_any x W hx)
  have hml : (bl m).length = m.size := bl_len m
  obtain ⟨L, hL⟩ : ∃ L, L = cutL (bl m) x := ⟨_, rfl⟩
  have hS : cutS m x = ⟨L.toArray⟩ := by rw [hL]; rfl
  obtain ⟨lo, hlo⟩ : ∃ lo, x - x % 16 = lo := ⟨_, rfl⟩
  unfold cutL at hL
  rw [hlo] at HL hL
  have hlo2 : lo < 4294967296 := by omega
  clear hlo
  have hLl : L.length = min 16 (m.size - lo) := by rw [hL, List.length_take, List.length_drop, hml]
  have hLa : ∀ j, j < L.length → L[j]? = (bl m)[lo + j]? := fun j hj => by rw [hL, List.getElem?_take_of_lt (by omega), List.getElem?_drop]
  replace hLa := Lib.hid hLa
  replace hS := Lib.hid hS
  clear hL
  go_enter Try.func57, Try.ntmps57
  go_wp2_with (first | (go_at_call 68; refine (HL.out _).mono ?_; rintro e wN ⟨rfl, d, rfl⟩; replace hF := hF.grow (Bel.drewN _ d)) | ((first | (refine w_box rfl hF rfl ?_; clear hF; intro gN wN hF) | (refine w_alloc rfl hF ?_; clear hF; intro gN wN hF) | (refine w_ld1 rfl hF rfl ?_) | (refine w_ld rfl hF rfl ?_) | (refine w_st1 rfl hF rfl rfl ?_; clear hF; intro wN hF; (try simp only [List.set_cons_zero, List.set_cons_succ, List.eraseIdx_cons_zero, List.eraseIdx_cons_succ] at hF)) | (refine w_st rfl hF rfl rfl ?_; clear hF; intro wN hF; (try simp only [List.set_cons_zero, List.set_cons_succ, List.eraseIdx_cons_zero, List.eraseIdx_cons_succ] at hF)) | (refine w_fldB rfl rfl ?_) | (refine w_fld rfl hF rfl ?_) | (refine w_ix rfl hF rfl rfl ?_) | (refine w_lde1 rfl hF rfl ?_) | (refine w_lde rfl hF rfl ?_) | (refine w_bs1 rfl hF rfl ?_; clear hF; intro gN wN hF) | (refine w_bs0 rfl hF ?_; clear hF; intro gN wN hF) | (refine w_app rfl hF rfl rfl ?_; clear hF; intro vN wN hF; (try simp only [List.set_cons_zero, List.set_cons_succ, List.eraseIdx_cons_zero, List.eraseIdx_cons_succ] at hF)) | (refine w_appD rfl hF rfl rfl ?_; clear hF; intro vN wN hF; (try simp only [List.set_cons_zero, List.set_cons_succ, List.eraseIdx_cons_zero, List.eraseIdx_cons_succ] at hF)) | (refine w_ld1o rfl hF rfl ?_) | (refine w_st1o rfl hF rfl rfl ?_; clear hF; intro wN hF; (try simp only [List.set_cons_zero, List.set_cons_succ, List.eraseIdx_cons_zero, List.eraseIdx_cons_succ] at hF)) | (refine w_make0 rfl hF rfl rfl ?_; clear hF; intro gN wN hF) | (refine w_to rfl hF rfl rfl ?_; clear hF; intro hF) | (refine w_from rfl hF rfl rfl ?_; clear hF; intro hF)); (try simp only [Act.put, List.setIfInBounds_toArray, List.set_cons_zero, List.set_cons_succ, Nat.zero_add, Nat.zero_mul, Nat.reduceAdd])))
  go_loopw [7, 6] (fun ix x wr => ∃ (I j : Nat), j ≤ L.length ∧ I = lo + j ∧ ix = .int .i64 (I : Int) ∧ St w [] wr [.own x 5 1 j (byteCells (L.take j))] []) (fun ix _ _ => lo + 16 - (intOf ix).toNat)
  case atStart => exact ⟨lo, 0, by omega, rfl, rfl, hF⟩
  case round =>
    obtain ⟨I, j, hj, hI, rfl, hF⟩ := hrel
    have hIlo : lo ≤ I := by omega
    by_cases hjL : j < L.length
    · obtain ⟨bt, hbt⟩ : ∃ b, m.data.toList[I]? = some b := ⟨_, List.getElem?_eq_getElem (by have := hml; unfold bl at this; omega)⟩
      have happ := Lib.hid (bytes_succ ((hLa.out j hjL).trans (by rw [← hI]; exact hbt)))
      have h1 : (I : Int) < (lo : Int) + 16 := by omega
      have h2 : I < m.size := by omega
      have hj16 : j < 16 := by omega
      replace hI := Lib.hid hI
      clear hj hLl
      go_wp2_with (first | (refine w_idxs rfl rfl rfl ?_) | ((first | (refine w_box rfl hF rfl ?_; clear hF; intro gN wN hF) | (refine w_alloc rfl hF ?_; clear hF; intro gN wN hF) | (refine w_ld1 rfl hF rfl ?_) | (refine w_ld rfl hF rfl ?_) | (refine w_st1 rfl hF rfl rfl ?_; clear hF; intro wN hF; (try simp only [List.set_cons_zero, List.set_cons_succ, List.eraseIdx_cons_zero, List.eraseIdx_cons_succ] at hF)) | (refine w_st rfl hF rfl rfl ?_; clear hF; intro wN hF; (try simp only [List.set_cons_zero, List.set_cons_succ, List.eraseIdx_cons_zero, List.eraseIdx_cons_succ] at hF)) | (refine w_fldB rfl rfl ?_) | (refine w_fld rfl hF rfl ?_) | (refine w_ix rfl hF rfl rfl ?_) | (refine w_lde1 rfl hF rfl ?_) | (refine w_lde rfl hF rfl ?_) | (refine w_bs1 rfl hF rfl ?_; clear hF; intro gN wN hF) | (refine w_bs0 rfl hF ?_; clear hF; intro gN wN hF) | (refine w_app rfl hF rfl rfl ?_; clear hF; intro vN wN hF; (try simp only [List.set_cons_zero, List.set_cons_succ, List.eraseIdx_cons_zero, List.eraseIdx_cons_succ] at hF)) | (refine w_appD rfl hF rfl rfl ?_; clear hF; intro vN wN hF; (try simp only [List.set_cons_zero, List.set_cons_succ, List.eraseIdx_cons_zero, List.eraseIdx_cons_succ] at hF)) | (refine w_ld1o rfl hF rfl ?_) | (refine w_st1o rfl hF rfl rfl ?_; clear hF; intro wN hF; (try simp only [List.set_cons_zero, List.set_cons_succ, List.eraseIdx_cons_zero, List.eraseIdx_cons_succ] at hF)) | (refine w_make0 rfl hF rfl rfl ?_; clear hF; intro gN wN hF) | (refine w_to rfl hF rfl rfl ?_; clear hF; intro hF) | (refine w_from rfl hF rfl rfl ?_; clear hF; intro hF)); (try simp only [Act.put, List.setIfInBounds_toArray, List.set_cons_zero, List.set_cons_succ, Nat.zero_add, Nat.zero_mul, Nat.reduceAdd])))
      go_roundw
      case rel => exact ⟨I + 1, j + 1, by omega, by have := hI.out; omega, by go_num, by rw [← happ.out]; exact hF⟩
      case measure => first | (simp [intOf]; done) | (simp [intOf]; omega)
    · obtain rfl : j = L.length := by omega
      rw [List.take_of_length_le (by omega)] at hF
      obtain ⟨A2, c2, rfl, hF⟩ := hF.freeze 0 at0
      (try simp only [List.set_cons_zero, List.set_cons_succ, List.eraseIdx_cons_zero, List.eraseIdx_cons_succ] at hF)
      by_cases h16 : L.length = 16
      · have h1 : ¬ (I : Int) < (lo : Int) + 16 := by omega
        replace hI := Lib.hid hI
        replace hLl := Lib.hid hLl
        replace h16 := Lib.hid h16
        go_wp2_with (first | (refine w_stringD rfl hF rfl ?_) | ((first | (refine w_box rfl hF rfl ?_; clear hF; intro gN wN hF) | (refine w_alloc rfl hF ?_; clear hF; intro gN wN hF) | (refine w_ld1 rfl hF rfl ?_) | (refine w_ld rfl hF rfl ?_) | (refine w_st1 rfl hF rfl rfl ?_; clear hF; intro wN hF; (try simp only [List.set_cons_zero, List.set_cons_succ, List.eraseIdx_cons_zero, List.eraseIdx_cons_succ] at hF)) | (refine w_st rfl hF rfl rfl ?_; clear hF; intro wN hF; (try simp only [List.set_cons_zero, List.set_cons_succ, List.eraseIdx_cons_zero, List.eraseIdx_cons_succ] at hF)) | (refine w_fldB rfl rfl ?_) | (refine w_fld rfl hF rfl ?_) | (refine w_ix rfl hF rfl rfl ?_) | (refine w_lde1 rfl hF rfl ?_) | (refine w_lde rfl hF rfl ?_) | (refine w_bs1 rfl hF rfl ?_; clear hF; intro gN wN hF) | (refine w_bs0 rfl hF ?_; clear hF; intro gN wN hF) | (refine w_app rfl hF rfl rfl ?_; clear hF; intro vN wN hF; (try simp only [List.set_cons_zero, List.set_cons_succ, List.eraseIdx_cons_zero, List.eraseIdx_cons_succ] at hF)) | (refine w_appD rfl hF rfl rfl ?_; clear hF; intro vN wN hF; (try simp only [List.set_cons_zero, List.set_cons_succ, List.eraseIdx_cons_zero, List.eraseIdx_cons_succ] at hF)) | (refine w_ld1o rfl hF rfl ?_) | (refine w_st1o rfl hF rfl rfl ?_; clear hF; intro wN hF; (try simp only [List.set_cons_zero, List.set_cons_succ, List.eraseIdx_cons_zero, List.eraseIdx_cons_succ] at hF)) | (refine w_make0 rfl hF rfl rfl ?_; clear hF; intro gN wN hF) | (refine w_to rfl hF rfl rfl ?_; clear hF; intro hF) | (refine w_from rfl hF rfl rfl ?_; clear hF; intro hF)); (try simp only [Act.put, List.setIfInBounds_toArray, List.set_cons_zero, List.set_cons_succ, Nat.zero_add, Nat.zero_mul, Nat.reduceAdd])))
        go_ret
        exact ⟨by rw [hS.out]; rfl, hF.bel⟩
      · have h1 : (I : Int) < (lo : Int) + 16 := by omega
        have h2 : ¬ I < m.size := by omega
        replace hI := Lib.hid hI
        replace hLl := Lib.hid hLl
        replace h16 := Lib.hid h16
        go_wp2_with (first | (refine w_stringD rfl hF rfl ?_) | ((first | (refine w_box rfl hF rfl ?_; clear hF; intro gN wN hF) | (refine w_alloc rfl hF ?_; clear hF; intro gN wN hF) | (refine w_ld1 rfl hF rfl ?_) | (refine w_ld rfl hF rfl ?_) | (refine w_st1 rfl hF rfl rfl ?_; clear hF; intro wN hF; (try simp only [List.set_cons_zero, List.set_cons_succ, List.eraseIdx_cons_zero, List.eraseIdx_cons_succ] at hF)) | (refine w_st rfl hF rfl rfl ?_; clear hF; intro wN hF; (try simp only [List.set_cons_zero, List.set_cons_succ, List.eraseIdx_cons_zero, List.eraseIdx_cons_succ] at hF)) | (refine w_fldB rfl rfl ?_) | (refine w_fld rfl hF rfl ?_) | (refine w_ix rfl hF rfl rfl ?_) | (refine w_lde1 rfl hF rfl ?_) | (refine w_lde rfl hF rfl ?_) | (refine w_bs1 rfl hF rfl ?_; clear hF; intro gN wN hF) | (refine w_bs0 rfl hF ?_; clear hF; intro gN wN hF) | (refine w_app rfl hF rfl rfl ?_; clear hF; intro vN wN hF; (try simp only [List.set_cons_zero, List.set_cons_succ, List.eraseIdx_cons_zero, List.eraseIdx_cons_succ] at hF)) | (refine w_appD rfl hF rfl rfl ?_; clear hF; intro vN wN hF; (try simp only [List.set_cons_zero, List.set_cons_succ, List.eraseIdx_cons_zero, List.eraseIdx_cons_succ] at hF)) | (refine w_ld1o rfl hF rfl ?_) | (refine w_st1o rfl hF rfl rfl ?_; clear hF; intro wN hF; (try simp only [List.set_cons_zero, List.set_cons_succ, List.eraseIdx_cons_zero, List.eraseIdx_cons_succ] at hF)) | (refine w_make0 rfl hF rfl rfl ?_; clear hF; intro gN wN hF) | (refine w_to rfl hF rfl rfl ?_; clear hF; intro hF) | (refine w_from rfl hF rfl rfl ?_; clear hF; intro hF)); (try simp only [Act.put, List.setIfInBounds_toArray, List.set_cons_zero, List.set_cons_succ, Nat.zero_add, Nat.zero_mul, Nat.reduceAdd])))
        go_ret
        exact ⟨by rw [hS.out]; rfl, hF.bel⟩
end Go.Proofs.Ytcahadkkjfijfaa

/- Bytes written into a line of a cache: the document's walk; both over all cases. -/
set_option linter.unusedVariables false
set_option linter.unusedSimpArgs false
set_option maxRecDepth 100000
namespace Go.Proofs.Ytcahadkkjfijfaa
open Go.RowKit Go.Sort

set_option maxHeartbeats 8000000 in
theorem refWrite_no (ways : Int) (A : Option Addr) (n c x : Nat) (bytes : ByteArray) (S : List Cs) (k i : Nat) (w : World) (hr : RdS w w.heap.size A n c S) (HF : Hid (FindC 34 ways A n c x S k i false)) :
    Calls Try.prog 49 #[.agg #[.int .i64 ways, .slice A n c], .int .u32 (x : Int), .string bytes] w fun e w' => e = .returned (.tuple #[.agg #[.int .i64 ways, .slice A n c], .bool false]) ∧ Bel w w' := by
  have hF := St.start w _ (cacheD_ok hr)
  unfold cacheD at hF
  go_enter Try.func49, Try.ntmps49
  go_wp2_with (first | (go_at_call 34; refine (HF.out _ hF.rds).mono ?_; rintro e wN ⟨rfl, hb⟩; replace hF := hF.grow hb; clear hb) | ((first | (refine w_box rfl hF rfl ?_; clear hF; intro gN wN hF) | (refine w_alloc rfl hF ?_; clear hF; intro gN wN hF) | (refine w_ld1 rfl hF rfl ?_) | (refine w_ld rfl hF rfl ?_) | (refine w_st1 rfl hF rfl rfl ?_; clear hF; intro wN hF; (try simp only [List.set_cons_zero, List.set_cons_succ, List.eraseIdx_cons_zero, List.eraseIdx_cons_succ] at hF)) | (refine w_st rfl hF rfl rfl ?_; clear hF; intro wN hF; (try simp only [List.set_cons_zero, List.set_cons_succ, List.eraseIdx_cons_zero, List.eraseIdx_cons_succ] at hF)) | (refine w_fldB rfl rfl ?_) | (refine w_fld rfl hF rfl ?_) | (refine w_ix rfl hF rfl rfl ?_) | (refine w_lde1 rfl hF rfl ?_) | (refine w_lde rfl hF rfl ?_) | (refine w_bs1 rfl hF rfl ?_; clear hF; intro gN wN hF) | (refine w_bs0 rfl hF ?_; clear hF; intro gN wN hF) | (refine w_app rfl hF rfl rfl ?_; clear hF; intro vN wN hF; (try simp only [List.set_cons_zero, List.set_cons_succ, List.eraseIdx_cons_zero, List.eraseIdx_cons_succ] at hF)) | (refine w_appD rfl hF rfl rfl ?_; clear hF; intro vN wN hF; (try simp only [List.set_cons_zero, List.set_cons_succ, List.eraseIdx_cons_zero, List.eraseIdx_cons_succ] at hF)) | (refine w_ld1o rfl hF rfl ?_) | (refine w_st1o rfl hF rfl rfl ?_; clear hF; intro wN hF; (try simp only [List.set_cons_zero, List.set_cons_succ, List.eraseIdx_cons_zero, List.eraseIdx_cons_succ] at hF)) | (refine w_make0 rfl hF rfl rfl ?_; clear hF; intro gN wN hF) | (refine w_to rfl hF rfl rfl ?_; clear hF; intro hF) | (refine w_from rfl hF rfl rfl ?_; clear hF; intro hF)); (try simp only [Act.put, List.setIfInBounds_toArray, List.set_cons_zero, List.set_cons_succ, Nat.zero_add, Nat.zero_mul, Nat.reduceAdd])))
  ((try simp only [Exit.inBlock, Exit.then]); refine bodyPost_ret (w_rescs rfl hF) rfl ?_)
  exact ⟨rfl, hF.bel⟩
set_option maxHeartbeats 8000000 in
theorem refWrite_bad (ways : Int) (A : Option Addr) (n c x : Nat) (bytes : ByteArray) (S : List Cs) (k i : Nat) (v : Wy) (w : World) (hr : RdS w w.heap.size A n c S) (hx : x < 4294967296) (hbs : bytes.size ≤ 140737488355328)
    (hd : v.data.size = 0 ∨ v.data.size = 16 ∧ 16 < x % 16 + bytes.size) (HF : Hid (FindC 34 ways A n c x S k i true)) (HG : Hid (GetC ways A n c x S v)) :
    Calls Try.prog 49 #[.agg #[.int .i64 ways, .slice A n c], .int .u32 (x : Int), .string bytes] w fun e w' => e = .returned (.tuple #[.agg #[.int .i64 ways, .slice A n c], .bool false]) ∧ Bel w w' := by
  have hF := St.start w _ (cacheD_ok hr)
  unfold cacheD at hF
  obtain ⟨f, hf, hxi, hf16⟩ : ∃ f, x % 16 = f ∧ (x : Int) % 16 = (f : Int) ∧ f < 16 := ⟨_, rfl, by omega, by omega⟩
  rw [hf] at hd
  clear hf
  go_enter Try.func49, Try.ntmps49
  rcases hd with h0 | ⟨h16, hlong⟩
  · have hemp := isEmpty_yes h0
    clear h0
    go_wp2_with (first | (go_at_call 34; refine (HF.out _ hF.rds).mono ?_; rintro e wN ⟨rfl, hb⟩; replace hF := hF.grow hb; clear hb) | (go_at_call 47; refine (HG.out _ hF.rds).mono ?_; rintro e wN ⟨rfl, hb⟩; replace hF := hF.grow hb; clear hb) | ((first | (refine w_box rfl hF rfl ?_; clear hF; intro gN wN hF) | (refine w_alloc rfl hF ?_; clear hF; intro gN wN hF) | (refine w_ld1 rfl hF rfl ?_) | (refine w_ld rfl hF rfl ?_) | (refine w_st1 rfl hF rfl rfl ?_; clear hF; intro wN hF; (try simp only [List.set_cons_zero, List.set_cons_succ, List.eraseIdx_cons_zero, List.eraseIdx_cons_succ] at hF)) | (refine w_st rfl hF rfl rfl ?_; clear hF; intro wN hF; (try simp only [List.set_cons_zero, List.set_cons_succ, List.eraseIdx_cons_zero, List.eraseIdx_cons_succ] at hF)) | (refine w_fldB rfl rfl ?_) | (refine w_fld rfl hF rfl ?_) | (refine w_ix rfl hF rfl rfl ?_) | (refine w_lde1 rfl hF rfl ?_) | (refine w_lde rfl hF rfl ?_) | (refine w_bs1 rfl hF rfl ?_; clear hF; intro gN wN hF) | (refine w_bs0 rfl hF ?_; clear hF; intro gN wN hF) | (refine w_app rfl hF rfl rfl ?_; clear hF; intro vN wN hF; (try simp only [List.set_cons_zero, List.set_cons_succ, List.eraseIdx_cons_zero, List.eraseIdx_cons_succ] at hF)) | (refine w_appD rfl hF rfl rfl ?_; clear hF; intro vN wN hF; (try simp only [List.set_cons_zero, List.set_cons_succ, List.eraseIdx_cons_zero, List.eraseIdx_cons_succ] at hF)) | (refine w_ld1o rfl hF rfl ?_) | (refine w_st1o rfl hF rfl rfl ?_; clear hF; intro wN hF; (try simp only [List.set_cons_zero, List.set_cons_succ, List.eraseIdx_cons_zero, List.eraseIdx_cons_succ] at hF)) | (refine w_make0 rfl hF rfl rfl ?_; clear hF; intro gN wN hF) | (refine w_to rfl hF rfl rfl ?_; clear hF; intro hF) | (refine w_from rfl hF rfl rfl ?_; clear hF; intro hF)); (try simp only [Act.put, List.setIfInBounds_toArray, List.set_cons_zero, List.set_cons_succ, Nat.zero_add, Nat.zero_mul, Nat.reduceAdd])))
    ((try simp only [Exit.inBlock, Exit.then]); refine bodyPost_ret (w_rescs rfl hF) rfl ?_)
    exact ⟨rfl, hF.bel⟩
  · have hemp := isEmpty_no (d := v.data) (by omega)
    obtain ⟨sm, hsm⟩ : ∃ sm : Nat, sm = f + bytes.size := ⟨_, rfl⟩
    have hcast : (f : Int) + (bytes.size : Int) = (sm : Int) := by omega
    have hlg : (16 : Int) < (sm : Int) := by omega
    have hsb : (sm : Int) ≤ 140737488355344 := by omega
    clear h16 hsm hlong
    go_wp2_with (first | (go_at_call 34; refine (HF.out _ hF.rds).mono ?_; rintro e wN ⟨rfl, hb⟩; replace hF := hF.grow hb; clear hb) | (go_at_call 47; refine (HG.out _ hF.rds).mono ?_; rintro e wN ⟨rfl, hb⟩; replace hF := hF.grow hb; clear hb) | ((first | (refine w_box rfl hF rfl ?_; clear hF; intro gN wN hF) | (refine w_alloc rfl hF ?_; clear hF; intro gN wN hF) | (refine w_ld1 rfl hF rfl ?_) | (refine w_ld rfl hF rfl ?_) | (refine w_st1 rfl hF rfl rfl ?_; clear hF; intro wN hF; (try simp only [List.set_cons_zero, List.set_cons_succ, List.eraseIdx_cons_zero, List.eraseIdx_cons_succ] at hF)) | (refine w_st rfl hF rfl rfl ?_; clear hF; intro wN hF; (try simp only [List.set_cons_zero, List.set_cons_succ, List.eraseIdx_cons_zero, List.eraseIdx_cons_succ] at hF)) | (refine w_fldB rfl rfl ?_) | (refine w_fld rfl hF rfl ?_) | (refine w_ix rfl hF rfl rfl ?_) | (refine w_lde1 rfl hF rfl ?_) | (refine w_lde rfl hF rfl ?_) | (refine w_bs1 rfl hF rfl ?_; clear hF; intro gN wN hF) | (refine w_bs0 rfl hF ?_; clear hF; intro gN wN hF) | (refine w_app rfl hF rfl rfl ?_; clear hF; intro vN wN hF; (try simp only [List.set_cons_zero, List.set_cons_succ, List.eraseIdx_cons_zero, List.eraseIdx_cons_succ] at hF)) | (refine w_appD rfl hF rfl rfl ?_; clear hF; intro vN wN hF; (try simp only [List.set_cons_zero, List.set_cons_succ, List.eraseIdx_cons_zero, List.eraseIdx_cons_succ] at hF)) | (refine w_ld1o rfl hF rfl ?_) | (refine w_st1o rfl hF rfl rfl ?_; clear hF; intro wN hF; (try simp only [List.set_cons_zero, List.set_cons_succ, List.eraseIdx_cons_zero, List.eraseIdx_cons_succ] at hF)) | (refine w_make0 rfl hF rfl rfl ?_; clear hF; intro gN wN hF) | (refine w_to rfl hF rfl rfl ?_; clear hF; intro hF) | (refine w_from rfl hF rfl rfl ?_; clear hF; intro hF)); (try simp only [Act.put, List.setIfInBounds_toArray, List.set_cons_zero, List.set_cons_succ, Nat.zero_add, Nat.zero_mul, Nat.reduceAdd])))
    ((try simp only [Exit.inBlock, Exit.then]); refine bodyPost_ret (w_rescs rfl hF) rfl ?_)
    exact ⟨rfl, hF.bel⟩
/-- the bytes while they are put in -/
def mixB (d : List UInt8) (f : Nat) (s : List UInt8) (i : Nat) : List UInt8 := d.take f ++ s.take i ++ d.drop (f + i)
theorem mixB_len {d s : List UInt8} {f i : Nat} (h : f + i ≤ d.length) (hi : i ≤ s.length) : (mixB d f s i).length = d.length := by simp [mixB]; omega
theorem mixB_set {d s : List UInt8} {f i : Nat} {b : UInt8} (h : f + s.length ≤ d.length) (hb : s[i]? = some b) : (mixB d f s i).set (f + i) b = mixB d f s (i + 1) := by
  obtain ⟨hl, e⟩ := List.getElem?_eq_some_iff.1 hb
  unfold mixB
  rw [List.set_append_right _ _ (by simp; omega)]
  have h1 : f + i - (d.take f ++ s.take i).length = 0 := by simp; omega
  rw [h1, List.drop_eq_getElem_cons (show f + i < d.length by omega), List.set_cons_zero, List.take_succ_eq_append_getElem hl, e, ← Nat.add_assoc]
  simp
theorem mixB_0 (d : List UInt8) (f : Nat) (s : List UInt8) : mixB d f s 0 = d := by simp [mixB]
theorem mixB_all (d : ByteArray) (f : Nat) (s : ByteArray) : (⟨(mixB d.data.toList f s.data.toList s.size).toArray⟩ : ByteArray) = putB d f s := by
  apply ByteArray.ext
  apply Array.ext'
  rw [putB_list]
  simp [mixB]
  rw [List.take_of_length_le (by simp)]
set_option maxHeartbeats 8000000 in
theorem refWrite_yes (ways : Int) (A : Option Addr) (n c x : Nat) (bytes : ByteArray) (S : List Cs) (k i : Nat) (v : Wy) (C : List (List Wy)) (w : World) (hr : RdS w w.heap.size A n c S) (hx : x < 4294967296) (hbs : bytes.size ≤ maxLen) (hd : v.data.size = 16) (hfit : x % 16 + bytes.size ≤ 16)
    (HF : Hid (FindC 34 ways A n c x S k i true)) (HG : Hid (GetC ways A n c x S v)) (HFi : Hid (FirstC ways A n c S ⟨v.line, true, putB v.data (x % 16) bytes⟩ C)) :
    Calls Try.prog 49 #[.agg #[.int .i64 ways, .slice A n c], .int .u32 (x : Int), .string bytes] w fun e w' => ∃ y, e = .returned (.tuple #[y, .bool true]) ∧ CRes w (cacheD A n c S) ways y w' C := by
  have hF := St.start w _ (cacheD_ok hr)
  unfold cacheD at hF
  unfold maxLen at hbs
  obtain ⟨f, hf, hxi, hf16⟩ : ∃ f, x % 16 = f ∧ (x : Int) % 16 = (f : Int) ∧ f < 16 := ⟨_, rfl, by omega, by omega⟩
  rw [hf] at hfit HFi
  clear hf
  have hemp := isEmpty_no (d := v.data) (by omega)
  have hlg : ¬ ((16 : Int) < (f : Int) + (bytes.size : Int)) := by omega
  have hd16 : v.data.size ≤ 16 := by omega
  have hdm : v.data.size ≤ maxLen := by unfold maxLen; omega
  replace hd := Lib.hid hd
  have hdl := Lib.hid (str_len v.data)
  have hbl := Lib.hid (str_len bytes)
  go_enter Try.func49, Try.ntmps49
  go_wp2_with (first | (go_at_call 34; refine (HF.out _ hF.rds).mono ?_; rintro e wN ⟨rfl, hb⟩; replace hF := hF.grow hb; clear hb) | (go_at_call 47; refine (HG.out _ hF.rds).mono ?_; rintro e wN ⟨rfl, hb⟩; replace hF := hF.grow hb; clear hb) | (refine w_bytes rfl hF rfl ?_; clear hF; intro gN capN rN wN hF hcap hcapm) | ((first | (refine w_box rfl hF rfl ?_; clear hF; intro gN wN hF) | (refine w_alloc rfl hF ?_; clear hF; intro gN wN hF) | (refine w_ld1 rfl hF rfl ?_) | (refine w_ld rfl hF rfl ?_) | (refine w_st1 rfl hF rfl rfl ?_; clear hF; intro wN hF; (try simp only [List.set_cons_zero, List.set_cons_succ, List.eraseIdx_cons_zero, List.eraseIdx_cons_succ] at hF)) | (refine w_st rfl hF rfl rfl ?_; clear hF; intro wN hF; (try simp only [List.set_cons_zero, List.set_cons_succ, List.eraseIdx_cons_zero, List.eraseIdx_cons_succ] at hF)) | (refine w_fldB rfl rfl ?_) | (refine w_fld rfl hF rfl ?_) | (refine w_ix rfl hF rfl rfl ?_) | (refine w_lde1 rfl hF rfl ?_) | (refine w_lde rfl hF rfl ?_) | (refine w_bs1 rfl hF rfl ?_; clear hF; intro gN wN hF) | (refine w_bs0 rfl hF ?_; clear hF; intro gN wN hF) | (refine w_app rfl hF rfl rfl ?_; clear hF; intro vN wN hF; (try simp only [List.set_cons_zero, List.set_cons_succ, List.eraseIdx_cons_zero, List.eraseIdx_cons_succ] at hF)) | (refine w_appD rfl hF rfl rfl ?_; clear hF; intro vN wN hF; (try simp only [List.set_cons_zero, List.set_cons_succ, List.eraseIdx_cons_zero, List.eraseIdx_cons_succ] at hF)) | (refine w_ld1o rfl hF rfl ?_) | (refine w_st1o rfl hF rfl rfl ?_; clear hF; intro wN hF; (try simp only [List.set_cons_zero, List.set_cons_succ, List.eraseIdx_cons_zero, List.eraseIdx_cons_succ] at hF)) | (refine w_make0 rfl hF rfl rfl ?_; clear hF; intro gN wN hF) | (refine w_to rfl hF rfl rfl ?_; clear hF; intro hF) | (refine w_from rfl hF rfl rfl ?_; clear hF; intro hF)); (try simp only [Act.put, List.setIfInBounds_toArray, List.set_cons_zero, List.set_cons_succ, Nat.zero_add, Nat.zero_mul, Nat.reduceAdd])))
  obtain ⟨gB, gW, gR, gC, rfl, rfl, rfl, rfl⟩ := hF.names4
  replace hcap := Lib.hid hcap
  go_loopw [14] (fun ix wr => ∃ j : Nat, j ≤ bytes.size ∧ ix = .int .i64 (j : Int) ∧ St w [rowD 1 A n c (csv S), elemsD S] wr [.blk gB 5 (byteCells (mixB v.data.data.toList f bytes.data.toList j) ++ rN), .blk gW 49 [.int .u32 (v.line : Int), .bool v.dirty, .string v.data], .blk gR 36 [.int .i64 0, .slice none 0 0], .blk gC 36 [.int .i64 ways, .slice A n c]] [rowD 1 A n c (csv S), elemsD S]) (fun ix _ => bytes.size - (intOf ix).toNat)
  case atStart => exact ⟨0, by omega, rfl, by rw [mixB_0]; exact hF⟩
  case round =>
    obtain ⟨j, hj, rfl, hF⟩ := hrel
    by_cases hjm : j < bytes.size
    · obtain ⟨bt, hbt⟩ : ∃ b, bytes.data.toList[j]? = some b := ⟨_, List.getElem?_eq_getElem (by rw [hbl.out]; exact hjm)⟩
      obtain ⟨e, he⟩ : ∃ e, e = f + j := ⟨_, rfl⟩
      have hcast : (f : Int) + (j : Int) = (e : Int) := by omega
      have hes : e < v.data.size := by have := hd.out; omega
      have hoff : e * 1 < (byteCells (mixB v.data.data.toList f bytes.data.toList j) ++ rN).length := by
        rw [List.length_append, byteCells_len, mixB_len (by rw [hdl.out]; have := hd.out; omega) (by rw [hbl.out]; omega), hdl.out]; omega
      have hset : Hid ((byteCells (mixB v.data.data.toList f bytes.data.toList j) ++ rN).set (e * 1) (.int .u8 (bt.toNat : Int)) = byteCells (mixB v.data.data.toList f bytes.data.toList (j + 1)) ++ rN) := Lib.hid (by
        rw [bytes_set (by rw [mixB_len (by rw [hdl.out]; have := hd.out; omega) (by rw [hbl.out]; omega), hdl.out]; omega), he, mixB_set (by rw [hdl.out, hbl.out]; have := hd.out; omega) hbt])
      replace he := Lib.hid he
      go_wp2_with (first | (refine w_idxs rfl rfl rfl ?_) | (refine w_ixB rfl rfl rfl ?_) | ((first | (refine w_box rfl hF rfl ?_; clear hF; intro gN wN hF) | (refine w_alloc rfl hF ?_; clear hF; intro gN wN hF) | (refine w_ld1 rfl hF rfl ?_) | (refine w_ld rfl hF rfl ?_) | (refine w_st1 rfl hF rfl rfl ?_; clear hF; intro wN hF; (try simp only [List.set_cons_zero, List.set_cons_succ, List.eraseIdx_cons_zero, List.eraseIdx_cons_succ] at hF)) | (refine w_st rfl hF rfl rfl ?_; clear hF; intro wN hF; (try simp only [List.set_cons_zero, List.set_cons_succ, List.eraseIdx_cons_zero, List.eraseIdx_cons_succ] at hF)) | (refine w_fldB rfl rfl ?_) | (refine w_fld rfl hF rfl ?_) | (refine w_ix rfl hF rfl rfl ?_) | (refine w_lde1 rfl hF rfl ?_) | (refine w_lde rfl hF rfl ?_) | (refine w_bs1 rfl hF rfl ?_; clear hF; intro gN wN hF) | (refine w_bs0 rfl hF ?_; clear hF; intro gN wN hF) | (refine w_app rfl hF rfl rfl ?_; clear hF; intro vN wN hF; (try simp only [List.set_cons_zero, List.set_cons_succ, List.eraseIdx_cons_zero, List.eraseIdx_cons_succ] at hF)) | (refine w_appD rfl hF rfl rfl ?_; clear hF; intro vN wN hF; (try simp only [List.set_cons_zero, List.set_cons_succ, List.eraseIdx_cons_zero, List.eraseIdx_cons_succ] at hF)) | (refine w_ld1o rfl hF rfl ?_) | (refine w_st1o rfl hF rfl rfl ?_; clear hF; intro wN hF; (try simp only [List.set_cons_zero, List.set_cons_succ, List.eraseIdx_cons_zero, List.eraseIdx_cons_succ] at hF)) | (refine w_make0 rfl hF rfl rfl ?_; clear hF; intro gN wN hF) | (refine w_to rfl hF rfl rfl ?_; clear hF; intro hF) | (refine w_from rfl hF rfl rfl ?_; clear hF; intro hF)); (try simp only [Act.put, List.setIfInBounds_toArray, List.set_cons_zero, List.set_cons_succ, Nat.zero_add, Nat.zero_mul, Nat.reduceAdd])))
      go_roundw
      case rel => exact ⟨j + 1, by omega, by go_num, by rw [← hset.out]; exact hF⟩
      case measure => first | (simp [intOf]; done) | (simp [intOf]; omega)
    · obtain rfl : j = bytes.size := by omega
      have hml : (mixB v.data.data.toList f bytes.data.toList bytes.size).length = v.data.size := by rw [mixB_len (by rw [hdl.out]; have := hd.out; omega) (by rw [hbl.out]; omega), hdl.out]
      have hsc : v.data.size ≤ capN := by have := hcap.out; omega
      have hall := mixB_all v.data f bytes
      go_wp2_with (first | (refine w_string rfl hF rfl ?_) | (go_at_call 69; refine (HFi.out _ hF.rds).mono ?_; rintro e wN ⟨_, rfl, A', n', c', S', rfl, hO, hC⟩; replace hF := hF.callA hO; clear hO) | ((first | (refine w_box rfl hF rfl ?_; clear hF; intro gN wN hF) | (refine w_alloc rfl hF ?_; clear hF; intro gN wN hF) | (refine w_ld1 rfl hF rfl ?_) | (refine w_ld rfl hF rfl ?_) | (refine w_st1 rfl hF rfl rfl ?_; clear hF; intro wN hF; (try simp only [List.set_cons_zero, List.set_cons_succ, List.eraseIdx_cons_zero, List.eraseIdx_cons_succ] at hF)) | (refine w_st rfl hF rfl rfl ?_; clear hF; intro wN hF; (try simp only [List.set_cons_zero, List.set_cons_succ, List.eraseIdx_cons_zero, List.eraseIdx_cons_succ] at hF)) | (refine w_fldB rfl rfl ?_) | (refine w_fld rfl hF rfl ?_) | (refine w_ix rfl hF rfl rfl ?_) | (refine w_lde1 rfl hF rfl ?_) | (refine w_lde rfl hF rfl ?_) | (refine w_bs1 rfl hF rfl ?_; clear hF; intro gN wN hF) | (refine w_bs0 rfl hF ?_; clear hF; intro gN wN hF) | (refine w_app rfl hF rfl rfl ?_; clear hF; intro vN wN hF; (try simp only [List.set_cons_zero, List.set_cons_succ, List.eraseIdx_cons_zero, List.eraseIdx_cons_succ] at hF)) | (refine w_appD rfl hF rfl rfl ?_; clear hF; intro vN wN hF; (try simp only [List.set_cons_zero, List.set_cons_succ, List.eraseIdx_cons_zero, List.eraseIdx_cons_succ] at hF)) | (refine w_ld1o rfl hF rfl ?_) | (refine w_st1o rfl hF rfl rfl ?_; clear hF; intro wN hF; (try simp only [List.set_cons_zero, List.set_cons_succ, List.eraseIdx_cons_zero, List.eraseIdx_cons_succ] at hF)) | (refine w_make0 rfl hF rfl rfl ?_; clear hF; intro gN wN hF) | (refine w_to rfl hF rfl rfl ?_; clear hF; intro hF) | (refine w_from rfl hF rfl rfl ?_; clear hF; intro hF)); (try simp only [Act.put, List.setIfInBounds_toArray, List.set_cons_zero, List.set_cons_succ, Nat.zero_add, Nat.zero_mul, Nat.reduceAdd])))
      ((try simp only [Exit.inBlock, Exit.then]); refine bodyPost_ret (w_rescs rfl hF) rfl ?_)
      exact ⟨_, rfl, A', n', c', S', rfl, hF.outA, hC⟩
section
variable {ways : Int} {A : Option Addr} {n c x : Nat} {S : List Cs}
theorem Write_all {bytes : ByteArray} {C' : List (List Wy)} {ok : Bool} (hx : x < 4294967296) (hbs : bytes.size ≤ maxLen) (ho : SOk S) (h : WriteR ways (cont S) x bytes C' ok) (w : World) (hr : RdS w w.heap.size A n c S) :
    Calls Try.prog 44 #[.agg #[.int .i64 ways, .slice A n c], .int .u32 (x : Int), .string bytes] w fun e w' => ∃ y, e = .returned (.tuple #[y, .bool ok]) ∧ CRes w (cacheD A n c S) ways y w' C' := by
  cases h with
  | no k i h he hb =>
    subst he hb
    refine (Write_no ways A n c x bytes S k i w hr (Lib.hid (Find_all hx ho h))).mono ?_
    rintro e w' ⟨rfl, hb⟩
    exact ⟨_, rfl, CRes.sameC hr hb⟩
  | bad k i h ws v hw hv hd he hb =>
    subst he hb
    refine (Write_bad ways A n c x bytes S k i ws v w hr hx hbs (k_lt hr hw) hw hv hd (Lib.hid (Find_all hx ho h))).mono ?_
    rintro e w' ⟨rfl, hb⟩
    exact ⟨_, rfl, CRes.sameC hr hb⟩
  | yes k i h ws v hw hv hd hf he hb =>
    subst he hb
    obtain ⟨hR, _, ws', v', hw', _, _, hl⟩ := h.at_
    rw [hw] at hw'; injection hw' with hw'; subst hw'
    exact Write_yes ways A n c x bytes S k i ws v w hr hx hbs (n_le hr hR) (k_lt hr hw) hw (by have := ways_le hR hl; omega) hv hd hf (Lib.hid (Find_all hx ho h))
theorem refWrite_all {bytes : ByteArray} {C' : List (List Wy)} {ok : Bool} (hx : x < 4294967296) (hbs : bytes.size ≤ 140737488355328) (ho : SOk S) (h : WriteR ways (cont S) x bytes C' ok) (w : World) (hr : RdS w w.heap.size A n c S) :
    Calls Try.prog 49 #[.agg #[.int .i64 ways, .slice A n c], .int .u32 (x : Int), .string bytes] w fun e w' => ∃ y, e = .returned (.tuple #[y, .bool ok]) ∧ CRes w (cacheD A n c S) ways y w' C' := by
  cases h with
  | no k i h he hb =>
    subst he hb
    refine (refWrite_no ways A n c x bytes S k i w hr (Lib.hid (refFind_all hx ho h))).mono ?_
    rintro e w' ⟨rfl, hb⟩
    exact ⟨_, rfl, CRes.sameC hr hb⟩
  | bad k i h ws v hw hv hd he hb =>
    subst he hb
    refine (refWrite_bad ways A n c x bytes S k i v w hr hx hbs hd (Lib.hid (refFind_all hx ho h)) (Lib.hid (Get_all hx ho h hw hv))).mono ?_
    rintro e w' ⟨rfl, hb⟩
    exact ⟨_, rfl, CRes.sameC hr hb⟩
  | yes k i h ws v hw hv hd hf he hb =>
    subst he hb
    obtain ⟨hR, hk, ws', v', hw', hv', hvl, hl⟩ := h.at_
    rw [hw] at hw'; injection hw' with hw'; subst hw'
    rw [hv] at hv'; injection hv' with hv'; subst hv'
    rw [← firstL_lone (v := ⟨v.line, true, putB v.data (x % 16) bytes⟩) (h.lone hw) ⟨hv, rfl⟩ rfl]
    exact refWrite_yes ways A n c x bytes S k i v _ w hr hx (by unfold maxLen; omega) hd hf (Lib.hid (refFind_all hx ho h)) (Lib.hid (Get_all hx ho h hw hv))
      (Lib.hid (First_all hR (show v.line < 4294967296 by omega) (by rw [← hk]; show v.line / 16 % _ = _; rw [hvl]; congr 1; omega) hw (by have := ways_le hR hl; omega)))
end
end Go.Proofs.Ytcahadkkjfijfaa
