/- Bytes written into a line of a cache: the document's walk; both over all cases. -/
import Derived.Test.YtcahadkkjfijfaaCWrite
set_option linter.unusedVariables false
set_option linter.unusedSimpArgs false
set_option maxRecDepth 100000
namespace Go.Proofs.Ytcahadkkjfijfaa
open Go.RowKit Go.Sort

set_option maxHeartbeats 8000000 in
theorem refWrite_no (ways : Int) (A : Option Addr) (n c x : Nat) (bytes : ByteArray) (S : List Cs) (k i : Nat) (w : World) (hr : RdS w w.heap.size A n c S) (HF : Hid (FindC 34 ways A n c x S k i false)) :
    Calls Try.prog 49 #[.agg #[.int .i64 ways, .slice A n c], .int .u32 (x : Int), .string bytes] w fun e w' => e = .returned (.tuple #[.agg #[.int .i64 ways, .slice A n c], .bool false]) ∧ Bel w w' := by
  have hF := St.start w _ (cacheD_ok hr)
  unfold cacheD at hF
  go_enter Try.func49, Try.ntmps49
  go_wp2_with (first | (go_at_call 34; refine (HF.out _ hF.rds).mono ?_; rintro e wN ⟨rfl, hb⟩; replace hF := hF.grow hb; clear hb) | ((first | (refine w_box rfl hF rfl ?_; clear hF; intro gN wN hF) | (refine w_alloc rfl hF ?_; clear hF; intro gN wN hF) | (refine w_ld1 rfl hF rfl ?_) | (refine w_ld rfl hF rfl ?_) | (refine w_st1 rfl hF rfl rfl ?_; clear hF; intro wN hF; (try simp only [List.set_cons_zero, List.set_cons_succ, List.eraseIdx_cons_zero, List.eraseIdx_cons_succ] at hF)) | (refine w_st rfl hF rfl rfl ?_; clear hF; intro wN hF; (try simp only [List.set_cons_zero, List.set_cons_succ, List.eraseIdx_cons_zero, List.eraseIdx_cons_succ] at hF)) | (refine w_fldB rfl rfl ?_) | (refine w_fld rfl hF rfl ?_) | (refine w_ix rfl hF rfl rfl ?_) | (refine w_lde1 rfl hF rfl ?_) | (refine w_lde rfl hF rfl ?_) | (refine w_bs1 rfl hF rfl ?_; clear hF; intro gN wN hF) | (refine w_bs0 rfl hF ?_; clear hF; intro gN wN hF) | (refine w_app rfl hF rfl rfl ?_; clear hF; intro vN wN hF; (try simp only [List.set_cons_zero, List.set_cons_succ, List.eraseIdx_cons_zero, List.eraseIdx_cons_succ] at hF)) | (refine w_appD rfl hF rfl rfl ?_; clear hF; intro vN wN hF; (try simp only [List.set_cons_zero, List.set_cons_succ, List.eraseIdx_cons_zero, List.eraseIdx_cons_succ] at hF)) | (refine w_ld1o rfl hF rfl ?_) | (refine w_st1o rfl hF rfl rfl ?_; clear hF; intro wN hF; (try simp only [List.set_cons_zero, List.set_cons_succ, List.eraseIdx_cons_zero, List.eraseIdx_cons_succ] at hF)) | (refine w_make0 rfl hF rfl rfl ?_; clear hF; intro gN wN hF) | (refine w_to rfl hF rfl rfl ?_; clear hF; intro hF) | (refine w_from rfl hF rfl rfl ?_; clear hF; intro hF)); (try simp only [Act.put, List.setIfInBounds_toArray, List.set_cons_zero, List.set_cons_succ, Nat.zero_add, Nat.zero_mul, Nat.reduceAdd])))
  ((try simp only [Exit.inBlock, Exit.then]); refine bodyPost_ret (w_rescs rfl hF) rfl ?_)
  exact ⟨rfl, hF.bel⟩
set_option maxHeartbeats 8000000 in
theorem refWrite_bad (ways : Int) (A : Option Addr) (n c x : Nat) (bytes : ByteArray) (S : List Cs) (k i : Nat) (v : Wy) (w : World) (hr : RdS w w.heap.size A n c S) (hx : x < 4294967296) (hbs : bytes.size ≤ 140737488355328)
    (hd : v.data.size = 0 ∨ v.data.size = 16 ∧ 16 < x % 16 + bytes.size) (HF : Hid (FindC 34 ways A n c x S k i true)) (HG : Hid (GetC ways A n c x S v)) :
    Calls Try.prog 49 #[.agg #[.int .i64 ways, .slice A n c], .int .u32 (x : Int), .string bytes] w fun e w' => e = .returned (.tuple #[.agg #[.int .i64 ways, .slice A n c], .bool false]) ∧ Bel w w' := by
  have hF := St.start w _ (cacheD_ok hr)
  unfold cacheD at hF
  obtain ⟨f, hf, hxi, hf16⟩ : ∃ f, x % 16 = f ∧ (x : Int) % 16 = (f : Int) ∧ f < 16 := ⟨_, rfl, by omega, by omega⟩
  rw [hf] at hd
  clear hf
  go_enter Try.func49, Try.ntmps49
  rcases hd with h0 | ⟨h16, hlong⟩
  · have hemp := isEmpty_yes h0
    clear h0
    go_wp2_with (first | (go_at_call 34; refine (HF.out _ hF.rds).mono ?_; rintro e wN ⟨rfl, hb⟩; replace hF := hF.grow hb; clear hb) | (go_at_call 47; refine (HG.out _ hF.rds).mono ?_; rintro e wN ⟨rfl, hb⟩; replace hF := hF.grow hb; clear hb) | ((first | (refine w_box rfl hF rfl ?_; clear hF; intro gN wN hF) | (refine w_alloc rfl hF ?_; clear hF; intro gN wN hF) | (refine w_ld1 rfl hF rfl ?_) | (refine w_ld rfl hF rfl ?_) | (refine w_st1 rfl hF rfl rfl ?_; clear hF; intro wN hF; (try simp only [List.set_cons_zero, List.set_cons_succ, List.eraseIdx_cons_zero, List.eraseIdx_cons_succ] at hF)) | (refine w_st rfl hF rfl rfl ?_; clear hF; intro wN hF; (try simp only [List.set_cons_zero, List.set_cons_succ, List.eraseIdx_cons_zero, List.eraseIdx_cons_succ] at hF)) | (refine w_fldB rfl rfl ?_) | (refine w_fld rfl hF rfl ?_) | (refine w_ix rfl hF rfl rfl ?_) | (refine w_lde1 rfl hF rfl ?_) | (refine w_lde rfl hF rfl ?_) | (refine w_bs1 rfl hF rfl ?_; clear hF; intro gN wN hF) | (refine w_bs0 rfl hF ?_; clear hF; intro gN wN hF) | (refine w_app rfl hF rfl rfl ?_; clear hF; intro vN wN hF; (try simp only [List.set_cons_zero, List.set_cons_succ, List.eraseIdx_cons_zero, List.eraseIdx_cons_succ] at hF)) | (refine w_appD rfl hF rfl rfl ?_; clear hF; intro vN wN hF; (try simp only [List.set_cons_zero, List.set_cons_succ, List.eraseIdx_cons_zero, List.eraseIdx_cons_succ] at hF)) | (refine w_ld1o rfl hF rfl ?_) | (refine w_st1o rfl hF rfl rfl ?_; clear hF; intro wN hF; (try simp only [List.set_cons_zero, List.set_cons_succ, List.eraseIdx_cons_zero, List.eraseIdx_cons_succ] at hF)) | (refine w_make0 rfl hF rfl rfl ?_; clear hF; intro gN wN hF) | (refine w_to rfl hF rfl rfl ?_; clear hF; intro hF) | (refine w_from rfl hF rfl rfl ?_; clear hF; intro hF)); (try simp only [Act.put, List.setIfInBounds_toArray, List.set_cons_zero, List.set_cons_succ, Nat.zero_add, Nat.zero_mul, Nat.reduceAdd])))
    ((try simp only [Exit.inBlock, Exit.then]); refine bodyPost_ret (w_rescs rfl hF) rfl ?_)
    exact ⟨rfl, hF.bel⟩
  · have hemp := isEmpty_no (d := v.data) (by omega)
    obtain ⟨sm, hsm⟩ : ∃ sm : Nat, sm = f + bytes.size := ⟨_, rfl⟩
    have hcast : (f : Int) + (bytes.size : Int) = (sm : Int) := by omega
    have hlg : (16 : Int) < (sm : Int) := by omega
    have hsb : (sm : Int) ≤ 140737488355344 := by omega
    clear h16 hsm hlong
    go_wp2_with (first | (go_at_call 34; refine (HF.out _ hF.rds).mono ?_; rintro e wN ⟨rfl, hb⟩; replace hF := hF.grow hb; clear hb) | (go_at_call 47; refine (HG.out _ hF.rds).mono ?_; rintro e wN ⟨rfl, hb⟩; replace hF := hF.grow hb; clear hb) | ((first | (refine w_box rfl hF rfl ?_; clear hF; intro gN wN hF) | (refine w_alloc rfl hF ?_; clear hF; intro gN wN hF) | (refine w_ld1 rfl hF rfl ?_) | (refine w_ld rfl hF rfl ?_) | (refine w_st1 rfl hF rfl rfl ?_; clear hF; intro wN hF; (try simp only [List.set_cons_zero, List.set_cons_succ, List.eraseIdx_cons_zero, List.eraseIdx_cons_succ] at hF)) | (refine w_st rfl hF rfl rfl ?_; clear hF; intro wN hF; (try simp only [List.set_cons_zero, List.set_cons_succ, List.eraseIdx_cons_zero, List.eraseIdx_cons_succ] at hF)) | (refine w_fldB rfl rfl ?_) | (refine w_fld rfl hF rfl ?_) | (refine w_ix rfl hF rfl rfl ?_) | (refine w_lde1 rfl hF rfl ?_) | (refine w_lde rfl hF rfl ?_) | (refine w_bs1 rfl hF rfl ?_; clear hF; intro gN wN hF) | (refine w_bs0 rfl hF ?_; clear hF; intro gN wN hF) | (refine w_app rfl hF rfl rfl ?_; clear hF; intro vN wN hF; (try simp only [List.set_cons_zero, List.set_cons_succ, List.eraseIdx_cons_zero, List.eraseIdx_cons_succ] at hF)) | (refine w_appD rfl hF rfl rfl ?_; clear hF; intro vN wN hF; (try simp only [List.set_cons_zero, List.set_cons_succ, List.eraseIdx_cons_zero, List.eraseIdx_cons_succ] at hF)) | (refine w_ld1o rfl hF rfl ?_) | (refine w_st1o rfl hF rfl rfl ?_; clear hF; intro wN hF; (try simp only [List.set_cons_zero, List.set_cons_succ, List.eraseIdx_cons_zero, List.eraseIdx_cons_succ] at hF)) | (refine w_make0 rfl hF rfl rfl ?_; clear hF; intro gN wN hF) | (refine w_to rfl hF rfl rfl ?_; clear hF; intro hF) | (refine w_from rfl hF rfl rfl ?_; clear hF; intro hF)); (try simp only [Act.put, List.setIfInBounds_toArray, List.set_cons_zero, List.set_cons_succ, Nat.zero_add, Nat.zero_mul, Nat.reduceAdd])))
    ((try simp only [Exit.inBlock, Exit.then]); refine bodyPost_ret (w_rescs rfl hF) rfl ?_)
    exact ⟨rfl, hF.bel⟩
/-- the bytes while they are put in -/
def mixB (d : List UInt8) (f : Nat) (s : List UInt8) (i : Nat) : List UInt8 := d.take f ++ s.take i ++ d.drop (f + i)
theorem mixB_len {d s : List UInt8} {f i : Nat} (h : f + i ≤ d.length) (hi : i ≤ s.length) : (mixB d f s i).length = d.length := by simp [mixB]; omega
theorem mixB_set {d s : List UInt8} {f i : Nat} {b : UInt8} (h : f + s.length ≤ d.length) (hb : s[i]? = some b) : (mixB d f s i).set (f + i) b = mixB d f s (i + 1) := by
  obtain ⟨hl, e⟩ := List.getElem?_eq_some_iff.1 hb
  unfold mixB
  rw [List.set_append_right _ _ (by simp; omega)]
  have h1 : f + i - (d.take f ++ s.take i).length = 0 := by simp; omega
  rw [h1, List.drop_eq_getElem_cons (show f + i < d.length by omega), List.set_cons_zero, List.take_succ_eq_append_getElem hl, e, ← Nat.add_assoc]
  simp
theorem mixB_0 (d : List UInt8) (f : Nat) (s : List UInt8) : mixB d f s 0 = d := by simp [mixB]
theorem mixB_all (d : ByteArray) (f : Nat) (s : ByteArray) : (⟨(mixB d.data.toList f s.data.toList s.size).toArray⟩ : ByteArray) = putB d f s := by
  apply ByteArray.ext
  apply Array.ext'
  rw [putB_list]
  simp [mixB]
  rw [List.take_of_length_le (by simp)]
set_option maxHeartbeats 8000000 in
theorem refWrite_yes (ways : Int) (A : Option Addr) (n c x : Nat) (bytes : ByteArray) (S : List Cs) (k i : Nat) (v : Wy) (C : List (List Wy)) (w : World) (hr : RdS w w.heap.size A n c S) (hx : x < 4294967296) (hbs : bytes.size ≤ maxLen) (hd : v.data.size = 16) (hfit : x % 16 + bytes.size ≤ 16)
    (HF : Hid (FindC 34 ways A n c x S k i true)) (HG : Hid (GetC ways A n c x S v)) (HFi : Hid (FirstC ways A n c S ⟨v.line, true, putB v.data (x % 16) bytes⟩ C)) :
    Calls Try.prog 49 #[.agg #[.int .i64 ways, .slice A n c], .int .u32 (x : Int), .string bytes] w fun e w' => ∃ y, e = .returned (.tuple #[y, .bool true]) ∧ CRes w (cacheD A n c S) ways y w' C := by
  have hF := St.start w _ (cacheD_ok hr)
  unfold cacheD at hF
  unfold maxLen at hbs
  obtain ⟨f, hf, hxi, hf16⟩ : ∃ f, x % 16 = f ∧ (x : Int) % 16 = (f : Int) ∧ f < 16 := ⟨_, rfl, by omega, by omega⟩
  rw [hf] at hfit HFi
  clear hf
  have hemp := isEmpty_no (d := v.data) (by omega)
  have hlg : ¬ ((16 : Int) < (f : Int) + (bytes.size : Int)) := by omega
  have hd16 : v.data.size ≤ 16 := by omega
  have hdm : v.data.size ≤ maxLen := by unfold maxLen; omega
  replace hd := Lib.hid hd
  have hdl := Lib.hid (str_len v.data)
  have hbl := Lib.hid (str_len bytes)
  go_enter Try.func49, Try.ntmps49
  go_wp2_with (first | (go_at_call 34; refine (HF.out _ hF.rds).mono ?_; rintro e wN ⟨rfl, hb⟩; replace hF := hF.grow hb; clear hb) | (go_at_call 47; refine (HG.out _ hF.rds).mono ?_; rintro e wN ⟨rfl, hb⟩; replace hF := hF.grow hb; clear hb) | (refine w_bytes rfl hF rfl ?_; clear hF; intro gN capN rN wN hF hcap hcapm) | ((first | (refine w_box rfl hF rfl ?_; clear hF; intro gN wN hF) | (refine w_alloc rfl hF ?_; clear hF; intro gN wN hF) | (refine w_ld1 rfl hF rfl ?_) | (refine w_ld rfl hF rfl ?_) | (refine w_st1 rfl hF rfl rfl ?_; clear hF; intro wN hF; (try simp only [List.set_cons_zero, List.set_cons_succ, List.eraseIdx_cons_zero, List.eraseIdx_cons_succ] at hF)) | (refine w_st rfl hF rfl rfl ?_; clear hF; intro wN hF; (try simp only [List.set_cons_zero, List.set_cons_succ, List.eraseIdx_cons_zero, List.eraseIdx_cons_succ] at hF)) | (refine w_fldB rfl rfl ?_) | (refine w_fld rfl hF rfl ?_) | (refine w_ix rfl hF rfl rfl ?_) | (refine w_lde1 rfl hF rfl ?_) | (refine w_lde rfl hF rfl ?_) | (refine w_bs1 rfl hF rfl ?_; clear hF; intro gN wN hF) | (refine w_bs0 rfl hF ?_; clear hF; intro gN wN hF) | (refine w_app rfl hF rfl rfl ?_; clear hF; intro vN wN hF; (try simp only [List.set_cons_zero, List.set_cons_succ, List.eraseIdx_cons_zero, List.eraseIdx_cons_succ] at hF)) | (refine w_appD rfl hF rfl rfl ?_; clear hF; intro vN wN hF; (try simp only [List.set_cons_zero, List.set_cons_succ, List.eraseIdx_cons_zero, List.eraseIdx_cons_succ] at hF)) | (refine w_ld1o rfl hF rfl ?_) | (refine w_st1o rfl hF rfl rfl ?_; clear hF; intro wN hF; (try simp only [List.set_cons_zero, List.set_cons_succ, List.eraseIdx_cons_zero, List.eraseIdx_cons_succ] at hF)) | (refine w_make0 rfl hF rfl rfl ?_; clear hF; intro gN wN hF) | (refine w_to rfl hF rfl rfl ?_; clear hF; intro hF) | (refine w_from rfl hF rfl rfl ?_; clear hF; intro hF)); (try simp only [Act.put, List.setIfInBounds_toArray, List.set_cons_zero, List.set_cons_succ, Nat.zero_add, Nat.zero_mul, Nat.reduceAdd])))
  obtain ⟨gB, gW, gR, gC, rfl, rfl, rfl, rfl⟩ := hF.names4
  replace hcap := Lib.hid hcap
  go_loopw [14] (fun ix wr => ∃ j : Nat, j ≤ bytes.size ∧ ix = .int .i64 (j : Int) ∧ St w [rowD 1 A n c (csv S), elemsD S] wr [.blk gB 5 (byteCells (mixB v.data.data.toList f bytes.data.toList j) ++ rN), .blk gW 49 [.int .u32 (v.line : Int), .bool v.dirty, .string v.data], .blk gR 36 [.int .i64 0, .slice none 0 0], .blk gC 36 [.int .i64 ways, .slice A n c]] [rowD 1 A n c (csv S), elemsD S]) (fun ix _ => bytes.size - (intOf ix).toNat)
  case atStart => exact ⟨0, by omega, rfl, by rw [mixB_0]; exact hF⟩
  case round =>
    obtain ⟨j, hj, rfl, hF⟩ := hrel
    by_cases hjm : j < bytes.size
    · obtain ⟨bt, hbt⟩ : ∃ b, bytes.data.toList[j]? = some b := ⟨_, List.getElem?_eq_getElem (by rw [hbl.out]; exact hjm)⟩
      obtain ⟨e, he⟩ : ∃ e, e = f + j := ⟨_, rfl⟩
      have hcast : (f : Int) + (j : Int) = (e : Int) := by omega
      have hes : e < v.data.size := by have := hd.out; omega
      have hoff : e * 1 < (byteCells (mixB v.data.data.toList f bytes.data.toList j) ++ rN).length := by
        rw [List.length_append, byteCells_len, mixB_len (by rw [hdl.out]; have := hd.out; omega) (by rw [hbl.out]; omega), hdl.out]; omega
      have hset : Hid ((byteCells (mixB v.data.data.toList f bytes.data.toList j) ++ rN).set (e * 1) (.int .u8 (bt.toNat : Int)) = byteCells (mixB v.data.data.toList f bytes.data.toList (j + 1)) ++ rN) := Lib.hid (by
        rw [bytes_set (by rw [mixB_len (by rw [hdl.out]; have := hd.out; omega) (by rw [hbl.out]; omega), hdl.out]; omega), he, mixB_set (by rw [hdl.out, hbl.out]; have := hd.out; omega) hbt])
      replace he := Lib.hid he
      go_wp2_with (first | (refine w_idxs rfl rfl rfl ?_) | (refine w_ixB rfl rfl rfl ?_) | ((first | (refine w_box rfl hF rfl ?_; clear hF; intro gN wN hF) | (refine w_alloc rfl hF ?_; clear hF; intro gN wN hF) | (refine w_ld1 rfl hF rfl ?_) | (refine w_ld rfl hF rfl ?_) | (refine w_st1 rfl hF rfl rfl ?_; clear hF; intro wN hF; (try simp only [List.set_cons_zero, List.set_cons_succ, List.eraseIdx_cons_zero, List.eraseIdx_cons_succ] at hF)) | (refine w_st rfl hF rfl rfl ?_; clear hF; intro wN hF; (try simp only [List.set_cons_zero, List.set_cons_succ, List.eraseIdx_cons_zero, List.eraseIdx_cons_succ] at hF)) | (refine w_fldB rfl rfl ?_) | (refine w_fld rfl hF rfl ?_) | (refine w_ix rfl hF rfl rfl ?_) | (refine w_lde1 rfl hF rfl ?_) | (refine w_lde rfl hF rfl ?_) | (refine w_bs1 rfl hF rfl ?_; clear hF; intro gN wN hF) | (refine w_bs0 rfl hF ?_; clear hF; intro gN wN hF) | (refine w_app rfl hF rfl rfl ?_; clear hF; intro vN wN hF; (try simp only [List.set_cons_zero, List.set_cons_succ, List.eraseIdx_cons_zero, List.eraseIdx_cons_succ] at hF)) | (refine w_appD rfl hF rfl rfl ?_; clear hF; intro vN wN hF; (try simp only [List.set_cons_zero, List.set_cons_succ, List.eraseIdx_cons_zero, List.eraseIdx_cons_succ] at hF)) | (refine w_ld1o rfl hF rfl ?_) | (refine w_st1o rfl hF rfl rfl ?_; clear hF; intro wN hF; (try simp only [List.set_cons_zero, List.set_cons_succ, List.eraseIdx_cons_zero, List.eraseIdx_cons_succ] at hF)) | (refine w_make0 rfl hF rfl rfl ?_; clear hF; intro gN wN hF) | (refine w_to rfl hF rfl rfl ?_; clear hF; intro hF) | (refine w_from rfl hF rfl rfl ?_; clear hF; intro hF)); (try simp only [Act.put, List.setIfInBounds_toArray, List.set_cons_zero, List.set_cons_succ, Nat.zero_add, Nat.zero_mul, Nat.reduceAdd])))
      go_roundw
      case rel => exact ⟨j + 1, by omega, by go_num, by rw [← hset.out]; exact hF⟩
      case measure => first | (simp [intOf]; done) | (simp [intOf]; omega)
    · obtain rfl : j = bytes.size := by omega
      have hml : (mixB v.data.data.toList f bytes.data.toList bytes.size).length = v.data.size := by rw [mixB_len (by rw [hdl.out]; have := hd.out; omega) (by rw [hbl.out]; omega), hdl.out]
      have hsc : v.data.size ≤ capN := by have := hcap.out; omega
      have hall := mixB_all v.data f bytes
      go_wp2_with (first | (refine w_string rfl hF rfl ?_) | (go_at_call 69; refine (HFi.out _ hF.rds).mono ?_; rintro e wN ⟨_, rfl, A', n', c', S', rfl, hO, hC⟩; replace hF := hF.callA hO; clear hO) | ((first | (refine w_box rfl hF rfl ?_; clear hF; intro gN wN hF) | (refine w_alloc rfl hF ?_; clear hF; intro gN wN hF) | (refine w_ld1 rfl hF rfl ?_) | (refine w_ld rfl hF rfl ?_) | (refine w_st1 rfl hF rfl rfl ?_; clear hF; intro wN hF; (try simp only [List.set_cons_zero, List.set_cons_succ, List.eraseIdx_cons_zero, List.eraseIdx_cons_succ] at hF)) | (refine w_st rfl hF rfl rfl ?_; clear hF; intro wN hF; (try simp only [List.set_cons_zero, List.set_cons_succ, List.eraseIdx_cons_zero, List.eraseIdx_cons_succ] at hF)) | (refine w_fldB rfl rfl ?_) | (refine w_fld rfl hF rfl ?_) | (refine w_ix rfl hF rfl rfl ?_) | (refine w_lde1 rfl hF rfl ?_) | (refine w_lde rfl hF rfl ?_) | (refine w_bs1 rfl hF rfl ?_; clear hF; intro gN wN hF) | (refine w_bs0 rfl hF ?_; clear hF; intro gN wN hF) | (refine w_app rfl hF rfl rfl ?_; clear hF; intro vN wN hF; (try simp only [List.set_cons_zero, List.set_cons_succ, List.eraseIdx_cons_zero, List.eraseIdx_cons_succ] at hF)) | (refine w_appD rfl hF rfl rfl ?_; clear hF; intro vN wN hF; (try simp only [List.set_cons_zero, List.set_cons_succ, List.eraseIdx_cons_zero, List.eraseIdx_cons_succ] at hF)) | (refine w_ld1o rfl hF rfl ?_) | (refine w_st1o rfl hF rfl rfl ?_; clear hF; intro wN hF; (try simp only [List.set_cons_zero, List.set_cons_succ, List.eraseIdx_cons_zero, List.eraseIdx_cons_succ] at hF)) | (refine w_make0 rfl hF rfl rfl ?_; clear hF; intro gN wN hF) | (refine w_to rfl hF rfl rfl ?_; clear hF; intro hF) | (refine w_from rfl hF rfl rfl ?_; clear hF; intro hF)); (try simp only [Act.put, List.setIfInBounds_toArray, List.set_cons_zero, List.set_cons_succ, Nat.zero_add, Nat.zero_mul, Nat.reduceAdd])))
      ((try simp only [Exit.inBlock, Exit.then]); refine bodyPost_ret (w_rescs rfl hF) rfl ?_)
      exact ⟨_, rfl, A', n', c', S', rfl, hF.outA, hC⟩
section
variable {ways : Int} {A : Option Addr} {n c x : Nat} {S : List Cs}
theorem Write_all {bytes : ByteArray} {C' : List (List Wy)} {ok : Bool} (hx : x < 4294967296) (hbs : bytes.size ≤ maxLen) (ho : SOk S) (h : WriteR ways (cont S) x bytes C' ok) (w : World) (hr : RdS w w.heap.size A n c S) :
    Calls Try.prog 44 #[.agg #[.int .i64 ways, .slice A n c], .int .u32 (x : Int), .string bytes] w fun e w' => ∃ y, e = .returned (.tuple #[y, .bool ok]) ∧ CRes w (cacheD A n c S) ways y w' C' := by
  cases h with
  | no k i h he hb =>
    subst he hb
    refine (Write_no ways A n c x bytes S k i w hr (Lib.hid (Find_all hx ho h))).mono ?_
    rintro e w' ⟨rfl, hb⟩
    exact ⟨_, rfl, CRes.sameC hr hb⟩
  | bad k i h ws v hw hv hd he hb =>
    subst he hb
    refine (Write_bad ways A n c x bytes S k i ws v w hr hx hbs (k_lt hr hw) hw hv hd (Lib.hid (Find_all hx ho h))).mono ?_
    rintro e w' ⟨rfl, hb⟩
    exact ⟨_, rfl, CRes.sameC hr hb⟩
  | yes k i h ws v hw hv hd hf he hb =>
    subst he hb
    obtain ⟨hR, _, ws', v', hw', _, _, hl⟩ := h.at_
    rw [hw] at hw'; injection hw' with hw'; subst hw'
    exact Write_yes ways A n c x bytes S k i ws v w hr hx hbs (n_le hr hR) (k_lt hr hw) hw (by have := ways_le hR hl; omega) hv hd hf (Lib.hid (Find_all hx ho h))
theorem refWrite_all {bytes : ByteArray} {C' : List (List Wy)} {ok : Bool} (hx : x < 4294967296) (hbs : bytes.size ≤ 140737488355328) (ho : SOk S) (h : WriteR ways (cont S) x bytes C' ok) (w : World) (hr : RdS w w.heap.size A n c S) :
    Calls Try.prog 49 #[.agg #[.int .i64 ways, .slice A n c], .int .u32 (x : Int), .string bytes] w fun e w' => ∃ y, e = .returned (.tuple #[y, .bool ok]) ∧ CRes w (cacheD A n c S) ways y w' C' := by
  cases h with
  | no k i h he hb =>
    subst he hb
    refine (refWrite_no ways A n c x bytes S k i w hr (Lib.hid (refFind_all hx ho h))).mono ?_
    rintro e w' ⟨rfl, hb⟩
    exact ⟨_, rfl, CRes.sameC hr hb⟩
  | bad k i h ws v hw hv hd he hb =>
    subst he hb
    refine (refWrite_bad ways A n c x bytes S k i v w hr hx hbs hd (Lib.hid (refFind_all hx ho h)) (Lib.hid (Get_all hx ho h hw hv))).mono ?_
    rintro e w' ⟨rfl, hb⟩
    exact ⟨_, rfl, CRes.sameC hr hb⟩
  | yes k i h ws v hw hv hd hf he hb =>
    subst he hb
    obtain ⟨hR, hk, ws', v', hw', hv', hvl, hl⟩ := h.at_
    rw [hw] at hw'; injection hw' with hw'; subst hw'
    rw [hv] at hv'; injection hv' with hv'; subst hv'
    rw [← firstL_lone (v := ⟨v.line, true, putB v.data (x % 16) bytes⟩) (h.lone hw) ⟨hv, rfl⟩ rfl]
    exact refWrite_yes ways A n c x bytes S k i v _ w hr hx (by unfold maxLen; omega) hd hf (Lib.hid (refFind_all hx ho h)) (Lib.hid (Get_all hx ho h hw hv))
      (Lib.hid (First_all hR (show v.line < 4294967296 by omega) (by rw [← hk]; show v.line / 16 % _ = _; rw [hvl]; congr 1; omega) hw (by have := ways_le hR hl; omega)))
end
end Go.Proofs.Ytcahadkkjfijfaa
