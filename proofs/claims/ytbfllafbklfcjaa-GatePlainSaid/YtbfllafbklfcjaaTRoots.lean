/- taint.Roots, taint.Tainted: the walks. -/
import Derived.Test.YtbfllafbklfcjaaTBase
set_option linter.unusedVariables false
set_option linter.unusedSimpArgs false
set_option maxRecDepth 100000
namespace Go.Proofs.Ytbfllafbklfcjaa
open Go.RowKit Go.Sort

set_option maxHeartbeats 4000000 in
theorem of_any {g1 g4 : Nat} {A : Option Addr} {n c : Nat} {q : List En} {v : Value} {B : Nat} {e : TypeId} {L : List Int} {k : Nat} {reg : Int} {w : World} (hb1 : Bk w g1 22 [.slice A n c]) (hb4 : Bk w g4 35 [v]) (ho : w.ownsRow B e 1 v k (i64s L)) (hr : Rd w w.heap.size 17 A n c (ens q)) (hk : k ≤ 1000000)
    (hreg : okI reg) : Calls Try.prog 25 #[.int .i64 (k : Int), .int .i64 reg, .pointer (some ⟨g1, 0, none⟩), .pointer (some ⟨g4, 0, none⟩)] w fun x w' => x = .returned (.int .i64 (ofR q L k reg)) ∧ Bel w w' := by
  obtain ⟨A2, c2, rfl, hr2⟩ := Rd.of_own ho
  have hl := hr2.i64slen
  have hm := hr2.le
  have hm2 := hr2.mx
  unfold maxLen at hm2
  have c1 := hb1.cell 0
  have c4 := hb4.cell 0
  dsimp only [List.getElem?_cons_zero] at c1 c4
  have HM := Lib.hid (Maker_any A n c (k : Int) reg q w hr ⟨by omega, by omega⟩ hreg)
  have HO := Lib.hid (show ofR q L k reg = if 0 ≤ makerL q k reg then L[(makerL q k reg).toNat]?.getD (-1) else -1 from rfl)
  by_cases h0 : 0 ≤ makerL q k reg
  · obtain ⟨m1, m2⟩ := makerL_lt h0
    obtain ⟨m, hm⟩ : ∃ m : Nat, makerL q k reg = (m : Int) := ⟨_, (Int.toNat_of_nonneg h0).symm⟩
    rw [hm] at HM HO m1 m2
    obtain ⟨g, o, u, rfl, _, hu, hc⟩ := hr2.cell1 (k := m) (by omega)
    obtain ⟨x, hx⟩ : ∃ x, L[m]? = some x := ⟨_, List.getElem?_eq_getElem (by omega)⟩
    have hu2 := i64s_at hx
    rw [hu] at hu2
    injection hu2 with hu2
    subst hu2
    replace HO := Lib.hid (show ofR q L k reg = x by rw [HO.out, if_pos (by omega), Int.toNat_natCast, hx]; rfl)
    have hmk : m < k := by omega
    replace hc := Lib.hid hc
    clear hm h0 hr2 hu hx hr hb1 hb4 ho m2
    go_enter Try.func25, Try.ntmps25
    go_wp2_with (go_at_call 26; refine HM.out.mono ?_; rintro y w1 ⟨rfl, hb⟩; have c4' := hb.cell_of c4; have hc' := hb.cell_of hc.out)
    go_ret
    exact ⟨by rw [HO.out]; rfl, hb⟩
  · replace HO := Lib.hid (show ofR q L k reg = -1 by rw [HO.out, if_neg h0])
    generalize makerL q k reg = m at *
    clear hr2 hr hb1 hb4 ho
    have h0 : m < 0 := by omega
    go_enter Try.func25, Try.ntmps25
    go_wp2_with (go_at_call 26; refine HM.out.mono ?_; rintro y w1 ⟨rfl, hb⟩)
    go_ret
    exact ⟨by rw [HO.out]; rfl, hb⟩
theorem rt_len {q : List En} {k : Nat} : (rootsN q k).length = k := rootsN_len q k
set_option maxHeartbeats 8000000 in
theorem Roots_any (A : Option Addr) (n c : Nat) (q : List En) (w : World) (hr : Rd w w.heap.size 17 A n c (ens q)) (hq : ensOk q) (hn : n ≤ 1000) :
    Calls Try.prog 14 #[.slice A n c] w fun e w' => ∃ A2 c2, e = .returned (.slice A2 n c2) ∧ Out w [rowD 17 A n c (ens q)] w' [rowD 1 A2 n c2 (i64s (rootsL q))] := by
  have hF := St.start w [rowD 17 A n c (ens q)] (fun d hd => by obtain rfl := List.mem_singleton.1 hd; exact hr)
  have hql := hr.enslen
  have hc1 := hr.le
  have hc2 := hr.mx
  unfold maxLen at hc2
  have hfl := frontL_le q
  have HQ := Lib.hid hq
  go_enter Try.func14, Try.ntmps14
  go_wp2_with (first | (go_at_call 10; refine (Front_any _ _ _ _ _ hF.rdA hq.op).mono ?_; rintro x wN ⟨rfl, hb⟩; replace hF := hF.grow hb; clear hb) | ((first | (refine w_box rfl hF rfl ?_; clear hF; intro gN wN hF) | (refine w_alloc rfl hF ?_; clear hF; intro gN wN hF) | (refine w_ld1 rfl hF rfl ?_) | (refine w_ld rfl hF rfl ?_) | (refine w_st1 rfl hF rfl rfl ?_; clear hF; intro wN hF; (try simp only [List.set_cons_zero, List.set_cons_succ, List.eraseIdx_cons_zero, List.eraseIdx_cons_succ] at hF)) | (refine w_st rfl hF rfl rfl ?_; clear hF; intro wN hF; (try simp only [List.set_cons_zero, List.set_cons_succ, List.eraseIdx_cons_zero, List.eraseIdx_cons_succ] at hF)) | (refine w_fldB rfl rfl ?_) | (refine w_fld rfl hF rfl ?_) | (refine w_ix rfl hF rfl rfl ?_) | (refine w_lde1 rfl hF rfl ?_) | (refine w_lde rfl hF rfl ?_) | (refine w_bs1 rfl hF rfl ?_; clear hF; intro gN wN hF) | (refine w_bs0 rfl hF ?_; clear hF; intro gN wN hF) | (refine w_app rfl hF rfl rfl ?_; clear hF; intro vN wN hF; (try simp only [List.set_cons_zero, List.set_cons_succ, List.eraseIdx_cons_zero, List.eraseIdx_cons_succ] at hF)) | (refine w_appD rfl hF rfl rfl ?_; clear hF; intro vN wN hF; (try simp only [List.set_cons_zero, List.set_cons_succ, List.eraseIdx_cons_zero, List.eraseIdx_cons_succ] at hF)) | (refine w_ld1o rfl hF rfl ?_) | (refine w_st1o rfl hF rfl rfl ?_; clear hF; intro wN hF; (try simp only [List.set_cons_zero, List.set_cons_succ, List.eraseIdx_cons_zero, List.eraseIdx_cons_succ] at hF)) | (refine w_make0 rfl hF rfl rfl ?_; clear hF; intro gN wN hF) | (refine w_to rfl hF rfl rfl ?_; clear hF; intro hF) | (refine w_from rfl hF rfl rfl ?_; clear hF; intro hF)); (try simp only [Act.put, List.setIfInBounds_toArray, List.set_cons_zero, List.set_cons_succ, Nat.zero_add, Nat.zero_mul, Nat.reduceAdd])))
  rename_i g1 wa wb gR wc wd K hK
  go_loopw [19] (fun ix wr => ∃ (k : Nat) (v : Value), k ≤ n ∧ ix = .int .i64 (k : Int) ∧ St w [rowD 17 A n c (ens q)] wr [.blk gN 35 [v], .own v 3 1 k (i64s (rootsN q k)), .blk g1 22 [.slice A n c]] [rowD 17 A n c (ens q)]) (fun ix _ => n - (intOf ix).toNat)
  case atStart => exact ⟨0, _, by omega, rfl, hF⟩
  case round =>
    obtain ⟨k, v, hk, rfl, hF⟩ := hrel
    by_cases hkn : k < n
    · obtain ⟨e, hu⟩ : ∃ e, q[k]? = some e := ⟨_, List.getElem?_eq_getElem (by omega)⟩
      have hok := HQ.out e (List.mem_of_getElem? hu)
      have hrs1 := hok.rs1
      have hrs2 := hok.rs2
      have HK := Lib.hid (fun W => Kind_any e.inst W hok.op)
      have HRd := Lib.hid (fun W => Reads_any e.inst W)
      have hsnoc := Lib.hid (rt_snoc hu)
      have hrt := rt_eq hu
      rw [← ofR_eq, ← ofR_eq] at hrt
      by_cases h3 : kindI e.inst.op = 3
      · rw [if_pos h3] at hrt
        rw [h3] at HK
        clear h3
        have HF := Lib.hid (show frontL q = frontL q from rfl)
        generalize frontL q = f at *
        by_cases hf : f < k
        · rw [if_pos hf] at hrt
          have happ : Hid (i64s (rootsN q k) ++ [.int .i64 (k : Int)] = i64s (rootsN q (k + 1))) := Lib.hid (by rw [hsnoc.out, hrt, i64s_append]; rfl)
          clear hsnoc hok hrt
          go_wp2_with (first | (go_at_call 16; refine (HK.out _).mono ?_; rintro x wN ⟨rfl, hb⟩; replace hF := hF.grow hb; clear hb) | ((refine w_ldp (v := e.inst.val) (n := 5) rfl hF rfl ?_ (hn := Nat.le_of_ble_eq_true rfl)); (try simp only [Act.put, List.setIfInBounds_toArray, List.set_cons_zero, List.set_cons_succ, Nat.zero_add, Nat.zero_mul, Nat.reduceAdd])) | ((first | (refine w_box rfl hF rfl ?_; clear hF; intro gN wN hF) | (refine w_alloc rfl hF ?_; clear hF; intro gN wN hF) | (refine w_ld1 rfl hF rfl ?_) | (refine w_ld rfl hF rfl ?_) | (refine w_st1 rfl hF rfl rfl ?_; clear hF; intro wN hF; (try simp only [List.set_cons_zero, List.set_cons_succ, List.eraseIdx_cons_zero, List.eraseIdx_cons_succ] at hF)) | (refine w_st rfl hF rfl rfl ?_; clear hF; intro wN hF; (try simp only [List.set_cons_zero, List.set_cons_succ, List.eraseIdx_cons_zero, List.eraseIdx_cons_succ] at hF)) | (refine w_fldB rfl rfl ?_) | (refine w_fld rfl hF rfl ?_) | (refine w_ix rfl hF rfl rfl ?_) | (refine w_lde1 rfl hF rfl ?_) | (refine w_lde rfl hF rfl ?_) | (refine w_bs1 rfl hF rfl ?_; clear hF; intro gN wN hF) | (refine w_bs0 rfl hF ?_; clear hF; intro gN wN hF) | (refine w_app rfl hF rfl rfl ?_; clear hF; intro vN wN hF; (try simp only [List.set_cons_zero, List.set_cons_succ, List.eraseIdx_cons_zero, List.eraseIdx_cons_succ] at hF)) | (refine w_appD rfl hF rfl rfl ?_; clear hF; intro vN wN hF; (try simp only [List.set_cons_zero, List.set_cons_succ, List.eraseIdx_cons_zero, List.eraseIdx_cons_succ] at hF)) | (refine w_ld1o rfl hF rfl ?_) | (refine w_st1o rfl hF rfl rfl ?_; clear hF; intro wN hF; (try simp only [List.set_cons_zero, List.set_cons_succ, List.eraseIdx_cons_zero, List.eraseIdx_cons_succ] at hF)) | (refine w_make0 rfl hF rfl rfl ?_; clear hF; intro gN wN hF) | (refine w_to rfl hF rfl rfl ?_; clear hF; intro hF) | (refine w_from rfl hF rfl rfl ?_; clear hF; intro hF)); (try simp only [Act.put, List.setIfInBounds_toArray, List.set_cons_zero, List.set_cons_succ, Nat.zero_add, Nat.zero_mul, Nat.reduceAdd])))
          go_roundw
          case rel => exact ⟨k + 1, _, by omega, by go_num, by rw [← happ.out]; exact hF.drop 0⟩
          case measure => first | (simp [intOf]; done) | (simp [intOf]; omega)
        · rw [if_neg hf] at hrt
          have happ : Hid (i64s (rootsN q k) ++ [.int .i64 (-1)] = i64s (rootsN q (k + 1))) := Lib.hid (by rw [hsnoc.out, hrt, i64s_append]; rfl)
          clear hsnoc hok hrt
          go_wp2_with (first | (go_at_call 16; refine (HK.out _).mono ?_; rintro x wN ⟨rfl, hb⟩; replace hF := hF.grow hb; clear hb) | ((refine w_ldp (v := e.inst.val) (n := 5) rfl hF rfl ?_ (hn := Nat.le_of_ble_eq_true rfl)); (try simp only [Act.put, List.setIfInBounds_toArray, List.set_cons_zero, List.set_cons_succ, Nat.zero_add, Nat.zero_mul, Nat.reduceAdd])) | ((first | (refine w_box rfl hF rfl ?_; clear hF; intro gN wN hF) | (refine w_alloc rfl hF ?_; clear hF; intro gN wN hF) | (refine w_ld1 rfl hF rfl ?_) | (refine w_ld rfl hF rfl ?_) | (refine w_st1 rfl hF rfl rfl ?_; clear hF; intro wN hF; (try simp only [List.set_cons_zero, List.set_cons_succ, List.eraseIdx_cons_zero, List.eraseIdx_cons_succ] at hF)) | (refine w_st rfl hF rfl rfl ?_; clear hF; intro wN hF; (try simp only [List.set_cons_zero, List.set_cons_succ, List.eraseIdx_cons_zero, List.eraseIdx_cons_succ] at hF)) | (refine w_fldB rfl rfl ?_) | (refine w_fld rfl hF rfl ?_) | (refine w_ix rfl hF rfl rfl ?_) | (refine w_lde1 rfl hF rfl ?_) | (refine w_lde rfl hF rfl ?_) | (refine w_bs1 rfl hF rfl ?_; clear hF; intro gN wN hF) | (refine w_bs0 rfl hF ?_; clear hF; intro gN wN hF) | (refine w_app rfl hF rfl rfl ?_; clear hF; intro vN wN hF; (try simp only [List.set_cons_zero, List.set_cons_succ, List.eraseIdx_cons_zero, List.eraseIdx_cons_succ] at hF)) | (refine w_appD rfl hF rfl rfl ?_; clear hF; intro vN wN hF; (try simp only [List.set_cons_zero, List.set_cons_succ, List.eraseIdx_cons_zero, List.eraseIdx_cons_succ] at hF)) | (refine w_ld1o rfl hF rfl ?_) | (refine w_st1o rfl hF rfl rfl ?_; clear hF; intro wN hF; (try simp only [List.set_cons_zero, List.set_cons_succ, List.eraseIdx_cons_zero, List.eraseIdx_cons_succ] at hF)) | (refine w_make0 rfl hF rfl rfl ?_; clear hF; intro gN wN hF) | (refine w_to rfl hF rfl rfl ?_; clear hF; intro hF) | (refine w_from rfl hF rfl rfl ?_; clear hF; intro hF)); (try simp only [Act.put, List.setIfInBounds_toArray, List.set_cons_zero, List.set_cons_succ, Nat.zero_add, Nat.zero_mul, Nat.reduceAdd])))
          go_roundw
          case rel => exact ⟨k + 1, _, by omega, by go_num, by rw [← happ.out]; exact hF.drop 0⟩
          case measure => first | (simp [intOf]; done) | (simp [intOf]; omega)
      · rw [if_neg h3] at hrt
        obtain ⟨N, hN⟩ : ∃ N, rt q k = N := ⟨_, rfl⟩
        rw [hN] at hrt hsnoc
        generalize kindI e.inst.op = kd at *
        replace hrt := Lib.hid (show N = if ofR q (rootsN q k) k e.inst.rs2 > ofR q (rootsN q k) k e.inst.rs1 then ofR q (rootsN q k) k e.inst.rs2 else ofR q (rootsN q k) k e.inst.rs1 by rw [hrt]; split <;> omega)
        have happ : Hid (i64s (rootsN q k) ++ [.int .i64 N] = i64s (rootsN q (k + 1))) := Lib.hid (by rw [hsnoc.out, i64s_append]; rfl)
        clear hsnoc hN hok
        go_wp2_with (first | (go_at_call 16; refine (HK.out _).mono ?_; rintro x wN ⟨rfl, hb⟩; replace hF := hF.grow hb; clear hb) | (go_at_call 17; refine (HRd.out _).mono ?_; rintro x wN ⟨rfl, hb⟩; replace hF := hF.grow hb; clear hb) | (go_at_call 25; refine (of_any (hF.bk (by ((repeat (first | exact List.Mem.head _ | refine List.Mem.tail _ ?_)) <;> exact List.Mem.head _))) (hF.bk (by ((repeat (first | exact List.Mem.head _ | refine List.Mem.tail _ ?_)) <;> exact List.Mem.head _))) (hF.ownAt (by (first | exact at0 | exact at1 | exact at2 | exact at3 | exact at4 | exact at5 | exact at6 | exact at7))) hF.rdA (by omega) (by assumption)).mono ?_; rintro x wN ⟨rfl, hb⟩; replace hF := hF.grow hb; clear hb) | (refine w_max N rfl rfl rfl ?_ (hN := hrt.out)) | ((refine w_neqT rfl rfl rfl ?_); (try simp only [Act.put, List.setIfInBounds_toArray, List.set_cons_zero, List.set_cons_succ, Nat.zero_add, Nat.zero_mul, Nat.reduceAdd])) | ((refine w_ldp (v := e.inst.val) (n := 5) rfl hF rfl ?_ (hn := Nat.le_of_ble_eq_true rfl)); (try simp only [Act.put, List.setIfInBounds_toArray, List.set_cons_zero, List.set_cons_succ, Nat.zero_add, Nat.zero_mul, Nat.reduceAdd])) | ((first | (refine w_box rfl hF rfl ?_; clear hF; intro gN wN hF) | (refine w_alloc rfl hF ?_; clear hF; intro gN wN hF) | (refine w_ld1 rfl hF rfl ?_) | (refine w_ld rfl hF rfl ?_) | (refine w_st1 rfl hF rfl rfl ?_; clear hF; intro wN hF; (try simp only [List.set_cons_zero, List.set_cons_succ, List.eraseIdx_cons_zero, List.eraseIdx_cons_succ] at hF)) | (refine w_st rfl hF rfl rfl ?_; clear hF; intro wN hF; (try simp only [List.set_cons_zero, List.set_cons_succ, List.eraseIdx_cons_zero, List.eraseIdx_cons_succ] at hF)) | (refine w_fldB rfl rfl ?_) | (refine w_fld rfl hF rfl ?_) | (refine w_ix rfl hF rfl rfl ?_) | (refine w_lde1 rfl hF rfl ?_) | (refine w_lde rfl hF rfl ?_) | (refine w_bs1 rfl hF rfl ?_; clear hF; intro gN wN hF) | (refine w_bs0 rfl hF ?_; clear hF; intro gN wN hF) | (refine w_app rfl hF rfl rfl ?_; clear hF; intro vN wN hF; (try simp only [List.set_cons_zero, List.set_cons_succ, List.eraseIdx_cons_zero, List.eraseIdx_cons_succ] at hF)) | (refine w_appD rfl hF rfl rfl ?_; clear hF; intro vN wN hF; (try simp only [List.set_cons_zero, List.set_cons_succ, List.eraseIdx_cons_zero, List.eraseIdx_cons_succ] at hF)) | (refine w_ld1o rfl hF rfl ?_) | (refine w_st1o rfl hF rfl rfl ?_; clear hF; intro wN hF; (try simp only [List.set_cons_zero, List.set_cons_succ, List.eraseIdx_cons_zero, List.eraseIdx_cons_succ] at hF)) | (refine w_make0 rfl hF rfl rfl ?_; clear hF; intro gN wN hF) | (refine w_to rfl hF rfl rfl ?_; clear hF; intro hF) | (refine w_from rfl hF rfl rfl ?_; clear hF; intro hF)); (try simp only [Act.put, List.setIfInBounds_toArray, List.set_cons_zero, List.set_cons_succ, Nat.zero_add, Nat.zero_mul, Nat.reduceAdd])))
        go_roundw
        case rel => exact ⟨k + 1, _, by omega, by go_num, by rw [← happ.out]; exact hF.drop 0⟩
        case measure => first | (simp [intOf]; done) | (simp [intOf]; omega)
    · obtain rfl : k = n := by omega
      obtain ⟨A2, c2, rfl, hF⟩ := hF.freeze 1 at1
      (try simp only [List.set_cons_zero, List.set_cons_succ, List.eraseIdx_cons_zero, List.eraseIdx_cons_succ] at hF)
      go_wp2_with (first | ((first | (refine w_box rfl hF rfl ?_; clear hF; intro gN wN hF) | (refine w_alloc rfl hF ?_; clear hF; intro gN wN hF) | (refine w_ld1 rfl hF rfl ?_) | (refine w_ld rfl hF rfl ?_) | (refine w_st1 rfl hF rfl rfl ?_; clear hF; intro wN hF; (try simp only [List.set_cons_zero, List.set_cons_succ, List.eraseIdx_cons_zero, List.eraseIdx_cons_succ] at hF)) | (refine w_st rfl hF rfl rfl ?_; clear hF; intro wN hF; (try simp only [List.set_cons_zero, List.set_cons_succ, List.eraseIdx_cons_zero, List.eraseIdx_cons_succ] at hF)) | (refine w_fldB rfl rfl ?_) | (refine w_fld rfl hF rfl ?_) | (refine w_ix rfl hF rfl rfl ?_) | (refine w_lde1 rfl hF rfl ?_) | (refine w_lde rfl hF rfl ?_) | (refine w_bs1 rfl hF rfl ?_; clear hF; intro gN wN hF) | (refine w_bs0 rfl hF ?_; clear hF; intro gN wN hF) | (refine w_app rfl hF rfl rfl ?_; clear hF; intro vN wN hF; (try simp only [List.set_cons_zero, List.set_cons_succ, List.eraseIdx_cons_zero, List.eraseIdx_cons_succ] at hF)) | (refine w_appD rfl hF rfl rfl ?_; clear hF; intro vN wN hF; (try simp only [List.set_cons_zero, List.set_cons_succ, List.eraseIdx_cons_zero, List.eraseIdx_cons_succ] at hF)) | (refine w_ld1o rfl hF rfl ?_) | (refine w_st1o rfl hF rfl rfl ?_; clear hF; intro wN hF; (try simp only [List.set_cons_zero, List.set_cons_succ, List.eraseIdx_cons_zero, List.eraseIdx_cons_succ] at hF)) | (refine w_make0 rfl hF rfl rfl ?_; clear hF; intro gN wN hF) | (refine w_to rfl hF rfl rfl ?_; clear hF; intro hF) | (refine w_from rfl hF rfl rfl ?_; clear hF; intro hF)); (try simp only [Act.put, List.setIfInBounds_toArray, List.set_cons_zero, List.set_cons_succ, Nat.zero_add, Nat.zero_mul, Nat.reduceAdd])))
      go_ret
      refine ⟨A2, c2, rfl, ?_⟩
      have hF := hF.lessA [rowD 1 A2 k c2 (i64s (rootsN q k)), rowD 17 A k c (ens q)]
      rw [show rootsN q k = rootsL q by rw [rootsL, hql]] at hF
      exact hF.outA
set_option maxHeartbeats 8000000 in
theorem Tainted_any (A : Option Addr) (n c : Nat) (i reg : Int) (q : List En) (w : World) (hr : Rd w w.heap.size 17 A n c (ens q)) (hq : ensOk q) (hn : n ≤ 1000) (hi : okI i) (hg : okI reg) :
    Calls Try.prog 18 #[.slice A n c, .int .i64 i, .int .i64 reg] w fun e w' => e = .returned (.bool (taintL q i reg)) ∧ Bel w w' := by
  have hF := St.start w [rowD 17 A n c (ens q)] (fun d hd => by obtain rfl := List.mem_singleton.1 hd; exact hr)
  have hql := hr.enslen
  have HM := Lib.hid (fun W (h : Rd W W.heap.size 17 A n c (ens q)) => Maker_any A n c i reg q W h hi hg)
  unfold taintL
  by_cases h0 : 0 ≤ makerL q i reg
  · obtain ⟨m1, m2⟩ := makerL_lt h0
    obtain ⟨m, hm⟩ : ∃ m : Nat, makerL q i reg = (m : Int) := ⟨_, (Int.toNat_of_nonneg h0).symm⟩
    rw [hm] at HM m1 m2 ⊢
    have hv : (i64s (rootsL q))[m * 1]? = some (.int .i64 (rt q m)) := by rw [Nat.mul_one]; exact i64s_at (rt_at q (m := q.length) (n := m) (by omega))
    rw [Int.toNat_natCast]
    obtain ⟨r, hrr⟩ : ∃ r, rt q m = r := ⟨_, rfl⟩
    rw [hrr] at hv ⊢
    have hmn : m < n := by omega
    clear hm h0 m1 m2
    by_cases h1 : 0 ≤ r
    · go_enter Try.func18, Try.ntmps18
      go_wp2_with (first | (go_at_call 26; refine (HM.out _ hF.rdA).mono ?_; rintro x wN ⟨rfl, hb⟩; replace hF := hF.grow hb; clear hb) | (go_at_call 14; refine (Roots_any _ _ _ _ _ hF.rdA hq hn).mono ?_; rintro x wN ⟨A2, c2, rfl, hO⟩; replace hF := hF.call1A hO; clear hO) | ((first | (refine w_box rfl hF rfl ?_; clear hF; intro gN wN hF) | (refine w_alloc rfl hF ?_; clear hF; intro gN wN hF) | (refine w_ld1 rfl hF rfl ?_) | (refine w_ld rfl hF rfl ?_) | (refine w_st1 rfl hF rfl rfl ?_; clear hF; intro wN hF; (try simp only [List.set_cons_zero, List.set_cons_succ, List.eraseIdx_cons_zero, List.eraseIdx_cons_succ] at hF)) | (refine w_st rfl hF rfl rfl ?_; clear hF; intro wN hF; (try simp only [List.set_cons_zero, List.set_cons_succ, List.eraseIdx_cons_zero, List.eraseIdx_cons_succ] at hF)) | (refine w_fldB rfl rfl ?_) | (refine w_fld rfl hF rfl ?_) | (refine w_ix rfl hF rfl rfl ?_) | (refine w_lde1 rfl hF rfl ?_) | (refine w_lde rfl hF rfl ?_) | (refine w_bs1 rfl hF rfl ?_; clear hF; intro gN wN hF) | (refine w_bs0 rfl hF ?_; clear hF; intro gN wN hF) | (refine w_app rfl hF rfl rfl ?_; clear hF; intro vN wN hF; (try simp only [List.set_cons_zero, List.set_cons_succ, List.eraseIdx_cons_zero, List.eraseIdx_cons_succ] at hF)) | (refine w_appD rfl hF rfl rfl ?_; clear hF; intro vN wN hF; (try simp only [List.set_cons_zero, List.set_cons_succ, List.eraseIdx_cons_zero, List.eraseIdx_cons_succ] at hF)) | (refine w_ld1o rfl hF rfl ?_) | (refine w_st1o rfl hF rfl rfl ?_; clear hF; intro wN hF; (try simp only [List.set_cons_zero, List.set_cons_succ, List.eraseIdx_cons_zero, List.eraseIdx_cons_succ] at hF)) | (refine w_make0 rfl hF rfl rfl ?_; clear hF; intro gN wN hF) | (refine w_to rfl hF rfl rfl ?_; clear hF; intro hF) | (refine w_from rfl hF rfl rfl ?_; clear hF; intro hF)); (try simp only [Act.put, List.setIfInBounds_toArray, List.set_cons_zero, List.set_cons_succ, Nat.zero_add, Nat.zero_mul, Nat.reduceAdd])))
      go_ret
      exact ⟨by simp [h1], hF.bel⟩
    · go_enter Try.func18, Try.ntmps18
      go_wp2_with (first | (go_at_call 26; refine (HM.out _ hF.rdA).mono ?_; rintro x wN ⟨rfl, hb⟩; replace hF := hF.grow hb; clear hb) | (go_at_call 14; refine (Roots_any _ _ _ _ _ hF.rdA hq hn).mono ?_; rintro x wN ⟨A2, c2, rfl, hO⟩; replace hF := hF.call1A hO; clear hO) | ((first | (refine w_box rfl hF rfl ?_; clear hF; intro gN wN hF) | (refine w_alloc rfl hF ?_; clear hF; intro gN wN hF) | (refine w_ld1 rfl hF rfl ?_) | (refine w_ld rfl hF rfl ?_) | (refine w_st1 rfl hF rfl rfl ?_; clear hF; intro wN hF; (try simp only [List.set_cons_zero, List.set_cons_succ, List.eraseIdx_cons_zero, List.eraseIdx_cons_succ] at hF)) | (refine w_st rfl hF rfl rfl ?_; clear hF; intro wN hF; (try simp only [List.set_cons_zero, List.set_cons_succ, List.eraseIdx_cons_zero, List.eraseIdx_cons_succ] at hF)) | (refine w_fldB rfl rfl ?_) | (refine w_fld rfl hF rfl ?_) | (refine w_ix rfl hF rfl rfl ?_) | (refine w_lde1 rfl hF rfl ?_) | (refine w_lde rfl hF rfl ?_) | (refine w_bs1 rfl hF rfl ?_; clear hF; intro gN wN hF) | (refine w_bs0 rfl hF ?_; clear hF; intro gN wN hF) | (refine w_app rfl hF rfl rfl ?_; clear hF; intro vN wN hF; (try simp only [List.set_cons_zero, List.set_cons_succ, List.eraseIdx_cons_zero, List.eraseIdx_cons_succ] at hF)) | (refine w_appD rfl hF rfl rfl ?_; clear hF; intro vN wN hF; (try simp only [List.set_cons_zero, List.set_cons_succ, List.eraseIdx_cons_zero, List.eraseIdx_cons_succ] at hF)) | (refine w_ld1o rfl hF rfl ?_) | (refine w_st1o rfl hF rfl rfl ?_; clear hF; intro wN hF; (try simp only [List.set_cons_zero, List.set_cons_succ, List.eraseIdx_cons_zero, List.eraseIdx_cons_succ] at hF)) | (refine w_make0 rfl hF rfl rfl ?_; clear hF; intro gN wN hF) | (refine w_to rfl hF rfl rfl ?_; clear hF; intro hF) | (refine w_from rfl hF rfl rfl ?_; clear hF; intro hF)); (try simp only [Act.put, List.setIfInBounds_toArray, List.set_cons_zero, List.set_cons_succ, Nat.zero_add, Nat.zero_mul, Nat.reduceAdd])))
      go_ret
      exact ⟨by simp [h1], hF.bel⟩
  · have h2 : ¬ (0 ≤ makerL q i reg) := h0
    rw [decide_eq_false h0, Bool.false_and]
    generalize makerL q i reg = m at *
    have h1 : m < 0 := by omega
    go_enter Try.func18, Try.ntmps18
    go_wp2_with (first | (go_at_call 26; refine (HM.out _ hF.rdA).mono ?_; rintro x wN ⟨rfl, hb⟩; replace hF := hF.grow hb; clear hb) | (go_at_call 14; refine (Roots_any _ _ _ _ _ hF.rdA hq hn).mono ?_; rintro x wN ⟨A2, c2, rfl, hO⟩; replace hF := hF.call1A hO; clear hO) | ((first | (refine w_box rfl hF rfl ?_; clear hF; intro gN wN hF) | (refine w_alloc rfl hF ?_; clear hF; intro gN wN hF) | (refine w_ld1 rfl hF rfl ?_) | (refine w_ld rfl hF rfl ?_) | (refine w_st1 rfl hF rfl rfl ?_; clear hF; intro wN hF; (try simp only [List.set_cons_zero, List.set_cons_succ, List.eraseIdx_cons_zero, List.eraseIdx_cons_succ] at hF)) | (refine w_st rfl hF rfl rfl ?_; clear hF; intro wN hF; (try simp only [List.set_cons_zero, List.set_cons_succ, List.eraseIdx_cons_zero, List.eraseIdx_cons_succ] at hF)) | (refine w_fldB rfl rfl ?_) | (refine w_fld rfl hF rfl ?_) | (refine w_ix rfl hF rfl rfl ?_) | (refine w_lde1 rfl hF rfl ?_) | (refine w_lde rfl hF rfl ?_) | (refine w_bs1 rfl hF rfl ?_; clear hF; intro gN wN hF) | (refine w_bs0 rfl hF ?_; clear hF; intro gN wN hF) | (refine w_app rfl hF rfl rfl ?_; clear hF; intro vN wN hF; (try simp only [List.set_cons_zero, List.set_cons_succ, List.eraseIdx_cons_zero, List.eraseIdx_cons_succ] at hF)) | (refine w_appD rfl hF rfl rfl ?_; clear hF; intro vN wN hF; (try simp only [List.set_cons_zero, List.set_cons_succ, List.eraseIdx_cons_zero, List.eraseIdx_cons_succ] at hF)) | (refine w_ld1o rfl hF rfl ?_) | (refine w_st1o rfl hF rfl rfl ?_; clear hF; intro wN hF; (try simp only [List.set_cons_zero, List.set_cons_succ, List.eraseIdx_cons_zero, List.eraseIdx_cons_succ] at hF)) | (refine w_make0 rfl hF rfl rfl ?_; clear hF; intro gN wN hF) | (refine w_to rfl hF rfl rfl ?_; clear hF; intro hF) | (refine w_from rfl hF rfl rfl ?_; clear hF; intro hF)); (try simp only [Act.put, List.setIfInBounds_toArray, List.set_cons_zero, List.set_cons_succ, Nat.zero_add, Nat.zero_mul, Nat.reduceAdd])))
    go_ret
    exact ⟨rfl, hF.bel⟩
end Go.Proofs.Ytbfllafbklfcjaa
