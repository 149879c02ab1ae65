/- Joined: CLike, CLike2, CAny, CPlain2. -/
import Derived.Test.YtcahadkkjfijfaaZ6
import Derived.Laws.StructEq
import Derived.Test.YtcahadkkjfijfaaZ7
import Derived.Test.YtcahadkkjfijfaaZ8
import Derived.Test.YtcahadkkjfijfaaZ9
/- The document's Like: two rows of sets. -/
set_option linter.unusedVariables false
set_option linter.unusedSimpArgs false
set_option maxRecDepth 100000
namespace Go.Proofs.Ytcahadkkjfijfaa
open Go.RowKit Go.Sort

theorem wy_ext {v u : Wy} (h1 : v.line = u.line) (h2 : v.dirty = u.dirty) (h3 : v.data.data.toList = u.data.data.toList) : v = u := by
  obtain ⟨l1, d1, ⟨⟨b1⟩⟩⟩ := v
  obtain ⟨l2, d2, ⟨⟨b2⟩⟩⟩ := u
  simp only at h1 h2 h3
  subst h1 h2 h3
  rfl
theorem cont_el {S : List Cs} {k : Nat} {A : Option Addr} {n c : Nat} {q : List Wy} (h : S[k]? = some ⟨A, n, c, q⟩) : (cont S)[k]? = some q := by simp [cont, h]
theorem take_next {α : Type} {p q : List α} {i : Nat} {x : α} (h : p.take i = q.take i) (h1 : p[i]? = some x) (h2 : q[i]? = some x) : p.take (i + 1) = q.take (i + 1) := by
  obtain ⟨a1, e1⟩ := List.getElem?_eq_some_iff.1 h1
  obtain ⟨a2, e2⟩ := List.getElem?_eq_some_iff.1 h2
  rw [List.take_succ_eq_append_getElem a1, List.take_succ_eq_append_getElem a2, h, e1, e2]
theorem no_of {b : Bool} {ws ws2 : List Wy} {i : Nat} {v u : Wy} (h : b = true → ws = ws2) (hv : ws[i]? = some v) (hu : ws2[i]? = some u) (hn : ¬ v = u) : b = false := by
  cases hbb : b
  · rfl
  · have := h hbb
    subst this
    rw [hv] at hu
    injection hu with hu
    exact absurd hu hn
set_option maxHeartbeats 8000000 in
theorem likeSets_any (A A2 : Option Addr) (n c n2 c2 : Nat) (S S2 : List Cs) (w : World) (hr : RdS w w.heap.size A n c S) (hr2 : RdS w w.heap.size A2 n2 c2 S2) (b : Bool) (hb : b = true ↔ cont S = cont S2) :
    Calls Try.prog 38 #[.slice A n c, .slice A2 n2 c2] w fun e w' => e = .returned (.bool b) ∧ Bel w w' := by
  have hF := St.start w [rowD 1 A n c (csv S), elemsD S, rowD 1 A2 n2 c2 (csv S2), elemsD S2] (by
    intro d hd
    rcases List.mem_cons.1 hd with rfl | hd
    · exact hr.rd
    · rcases List.mem_cons.1 hd with rfl | hd
      · exact hr.sets
      · exact cacheD_ok hr2 d hd)
  have hsl := hr.slen
  have hsl2 := hr2.slen
  have hc1 := hr.rd.le
  have hc2 := hr.rd.mx
  unfold maxLen at hc2
  have Hb := Lib.hid hb
  clear hb
  go_enter Try.func38, Try.ntmps38
  by_cases hnn : n = n2
  · subst hnn
    go_wp2_with (first | ((first | (refine w_box rfl hF rfl ?_; clear hF; intro gN wN hF) | (refine w_alloc rfl hF ?_; clear hF; intro gN wN hF) | (refine w_ld1 rfl hF rfl ?_) | (refine w_ld rfl hF rfl ?_) | (refine w_st1 rfl hF rfl rfl ?_; clear hF; intro wN hF; (try simp only [List.set_cons_zero, List.set_cons_succ, List.eraseIdx_cons_zero, List.eraseIdx_cons_succ] at hF)) | (refine w_st rfl hF rfl rfl ?_; clear hF; intro wN hF; (try simp only [List.set_cons_zero, List.set_cons_succ, List.eraseIdx_cons_zero, List.eraseIdx_cons_succ] at hF)) | (refine w_fldB rfl rfl ?_) | (refine w_fld rfl hF rfl ?_) | (refine w_ix rfl hF rfl rfl ?_) | (refine w_lde1 rfl hF rfl ?_) | (refine w_lde rfl hF rfl ?_) | (refine w_bs1 rfl hF rfl ?_; clear hF; intro gN wN hF) | (refine w_bs0 rfl hF ?_; clear hF; intro gN wN hF) | (refine w_app rfl hF rfl rfl ?_; clear hF; intro vN wN hF; (try simp only [List.set_cons_zero, List.set_cons_succ, List.eraseIdx_cons_zero, List.eraseIdx_cons_succ] at hF)) | (refine w_appD rfl hF rfl rfl ?_; clear hF; intro vN wN hF; (try simp only [List.set_cons_zero, List.set_cons_succ, List.eraseIdx_cons_zero, List.eraseIdx_cons_succ] at hF)) | (refine w_ld1o rfl hF rfl ?_) | (refine w_st1o rfl hF rfl rfl ?_; clear hF; intro wN hF; (try simp only [List.set_cons_zero, List.set_cons_succ, List.eraseIdx_cons_zero, List.eraseIdx_cons_succ] at hF)) | (refine w_make0 rfl hF rfl rfl ?_; clear hF; intro gN wN hF) | (refine w_to rfl hF rfl rfl ?_; clear hF; intro hF) | (refine w_from rfl hF rfl rfl ?_; clear hF; intro hF)); (try simp only [Act.put, List.setIfInBounds_toArray, List.set_cons_zero, List.set_cons_succ, Nat.zero_add, Nat.zero_mul, Nat.reduceAdd])))
    go_loopw [14] (fun i wr => ∃ k : Nat, k ≤ n ∧ i = .int .i64 (k : Int) ∧ (cont S).take k = (cont S2).take k ∧ St w [rowD 1 A n c (csv S), elemsD S, rowD 1 A2 n c2 (csv S2), elemsD S2] wr [] [rowD 1 A n c (csv S), elemsD S, rowD 1 A2 n c2 (csv S2), elemsD S2]) (fun i _ => n - (intOf i).toNat)
    case atStart => exact ⟨0, by omega, rfl, by simp, hF⟩
    case round =>
      obtain ⟨k, hk, rfl, htk, hF⟩ := hrel
      replace htk := Lib.hid htk
      by_cases hkn : k < n
      · obtain ⟨s, hs⟩ : ∃ s, S[k]? = some s := ⟨_, List.getElem?_eq_getElem (by omega)⟩
        obtain ⟨s2, hs2⟩ : ∃ s, S2[k]? = some s := ⟨_, List.getElem?_eq_getElem (by omega)⟩
        obtain ⟨sA, m, sc, ws⟩ := s
        obtain ⟨sA2, m2, sc2, ws2⟩ := s2
        have hF := (hF.elem (by ((repeat (first | exact List.Mem.head _ | refine List.Mem.tail _ ?_)) <;> exact List.Mem.head _)) hs).elem (by ((repeat (first | exact List.Mem.head _ | refine List.Mem.tail _ ?_)) <;> exact List.Mem.head _)) hs2
        simp only at hF
        have hm1 : m ≤ sc := (hF.rd (sz := 3) (A := sA) (n := m) (c := sc) (xs := wys ws) (by ((repeat (first | exact List.Mem.head _ | refine List.Mem.tail _ ?_)) <;> exact List.Mem.head _))).le
        have hm2 : sc ≤ 9223372036854775807 := by have := (hF.rd (sz := 3) (A := sA) (n := m) (c := sc) (xs := wys ws) (by ((repeat (first | exact List.Mem.head _ | refine List.Mem.tail _ ?_)) <;> exact List.Mem.head _))).mx; unfold maxLen at this; omega
        have hse := Lib.hid (hF.rd (sz := 3) (A := sA) (n := m) (c := sc) (xs := wys ws) (by ((repeat (first | exact List.Mem.head _ | refine List.Mem.tail _ ?_)) <;> exact List.Mem.head _))).wyslen
        have hse2 := Lib.hid (hF.rd (sz := 3) (A := sA2) (n := m2) (c := sc2) (xs := wys ws2) (by ((repeat (first | exact List.Mem.head _ | refine List.Mem.tail _ ?_)) <;> exact List.Mem.head _))).wyslen
        go_upto_region 6 with (first | ((first | (refine w_box rfl hF rfl ?_; clear hF; intro gN wN hF) | (refine w_alloc rfl hF ?_; clear hF; intro gN wN hF) | (refine w_ld1 rfl hF rfl ?_) | (refine w_ld rfl hF rfl ?_) | (refine w_st1 rfl hF rfl rfl ?_; clear hF; intro wN hF; (try simp only [List.set_cons_zero, List.set_cons_succ, List.eraseIdx_cons_zero, List.eraseIdx_cons_succ] at hF)) | (refine w_st rfl hF rfl rfl ?_; clear hF; intro wN hF; (try simp only [List.set_cons_zero, List.set_cons_succ, List.eraseIdx_cons_zero, List.eraseIdx_cons_succ] at hF)) | (refine w_fldB rfl rfl ?_) | (refine w_fld rfl hF rfl ?_) | (refine w_ix rfl hF rfl rfl ?_) | (refine w_lde1 rfl hF rfl ?_) | (refine w_lde rfl hF rfl ?_) | (refine w_bs1 rfl hF rfl ?_; clear hF; intro gN wN hF) | (refine w_bs0 rfl hF ?_; clear hF; intro gN wN hF) | (refine w_app rfl hF rfl rfl ?_; clear hF; intro vN wN hF; (try simp only [List.set_cons_zero, List.set_cons_succ, List.eraseIdx_cons_zero, List.eraseIdx_cons_succ] at hF)) | (refine w_appD rfl hF rfl rfl ?_; clear hF; intro vN wN hF; (try simp only [List.set_cons_zero, List.set_cons_succ, List.eraseIdx_cons_zero, List.eraseIdx_cons_succ] at hF)) | (refine w_ld1o rfl hF rfl ?_) | (refine w_st1o rfl hF rfl rfl ?_; clear hF; intro wN hF; (try simp only [List.set_cons_zero, List.set_cons_succ, List.eraseIdx_cons_zero, List.eraseIdx_cons_succ] at hF)) | (refine w_make0 rfl hF rfl rfl ?_; clear hF; intro gN wN hF) | (refine w_to rfl hF rfl rfl ?_; clear hF; intro hF) | (refine w_from rfl hF rfl rfl ?_; clear hF; intro hF)); (try simp only [Act.put, List.setIfInBounds_toArray, List.set_cons_zero, List.set_cons_succ, Nat.zero_add, Nat.zero_mul, Nat.reduceAdd])))
        by_cases hmm : m = m2
        · subst hmm
          refine wp_region_st (by kernel_rfl) hF [] [rowD 1 A n c (csv S), rowD 1 A2 n c2 (csv S2)] (by ((repeat (first | exact subn_nil | refine subn_cons (by ((repeat (first | exact List.Mem.head _ | refine List.Mem.tail _ ?_)) <;> exact List.Mem.head _)) ?_)) <;> exact subn_nil)) (by ((repeat (first | exact subn_nil | refine subn_cons (by ((repeat (first | exact List.Mem.head _ | refine List.Mem.tail _ ?_)) <;> exact List.Mem.head _)) ?_)) <;> exact subn_nil)) ?_
          clear hF; intro hF hH
          (refine w_take (i := 0) rfl (y_move rfl rfl) hH ?_); (try simp only [Act.put, List.setIfInBounds_toArray, List.set_cons_zero, List.set_cons_succ, Nat.zero_add, Nat.zero_mul, Nat.reduceAdd])
          (refine w_take (i := 1) rfl (y_move rfl rfl) hH ?_); (try simp only [Act.put, List.setIfInBounds_toArray, List.set_cons_zero, List.set_cons_succ, Nat.zero_add, Nat.zero_mul, Nat.reduceAdd])
          (first | refine w_take (i := 2) rfl (y_ix rfl rfl rfl) hH ?_ | refine w_take (i := 2) rfl (y_ixB rfl rfl rfl) hH ?_); (try simp only [Act.put, List.setIfInBounds_toArray, List.set_cons_zero, List.set_cons_succ, Nat.zero_add, Nat.zero_mul, Nat.reduceAdd])
          (first | refine w_take (i := 3) rfl (y_ld1 rfl rfl) hH ?_ | refine w_take (i := 3) rfl (y_ld rfl rfl) hH ?_ | refine w_take (i := 3) rfl (y_lde1 rfl rfl) hH ?_ | refine w_take (i := 3) rfl (y_lde rfl rfl) hH ?_); (try simp only [Act.put, List.setIfInBounds_toArray, List.set_cons_zero, List.set_cons_succ, Nat.zero_add, Nat.zero_mul, Nat.reduceAdd])
          (first | refine w_take (i := 4) rfl (y_len rfl rfl) hH ?_ | refine w_take (i := 4) rfl (y_lens rfl rfl) hH ?_); (try simp only [Act.put, List.setIfInBounds_toArray, List.set_cons_zero, List.set_cons_succ, Nat.zero_add, Nat.zero_mul, Nat.reduceAdd])
          (refine w_take (i := 5) rfl (y_move rfl rfl) hH ?_); (try simp only [Act.put, List.setIfInBounds_toArray, List.set_cons_zero, List.set_cons_succ, Nat.zero_add, Nat.zero_mul, Nat.reduceAdd])
          (refine w_take (i := 6) rfl (y_move rfl rfl) hH ?_); (try simp only [Act.put, List.setIfInBounds_toArray, List.set_cons_zero, List.set_cons_succ, Nat.zero_add, Nat.zero_mul, Nat.reduceAdd])
          (first | refine w_take (i := 7) rfl (y_ix rfl rfl rfl) hH ?_ | refine w_take (i := 7) rfl (y_ixB rfl rfl rfl) hH ?_); (try simp only [Act.put, List.setIfInBounds_toArray, List.set_cons_zero, List.set_cons_succ, Nat.zero_add, Nat.zero_mul, Nat.reduceAdd])
          (first | refine w_take (i := 8) rfl (y_ld1 rfl rfl) hH ?_ | refine w_take (i := 8) rfl (y_ld rfl rfl) hH ?_ | refine w_take (i := 8) rfl (y_lde1 rfl rfl) hH ?_ | refine w_take (i := 8) rfl (y_lde rfl rfl) hH ?_); (try simp only [Act.put, List.setIfInBounds_toArray, List.set_cons_zero, List.set_cons_succ, Nat.zero_add, Nat.zero_mul, Nat.reduceAdd])
          (first | refine w_take (i := 9) rfl (y_len rfl rfl) hH ?_ | refine w_take (i := 9) rfl (y_lens rfl rfl) hH ?_); (try simp only [Act.put, List.setIfInBounds_toArray, List.set_cons_zero, List.set_cons_succ, Nat.zero_add, Nat.zero_mul, Nat.reduceAdd])
          (refine rg_take (i := 10) (v := ?_) rfl rfl (by kernel_rfl) (by kernel_rfl) (by kernel_rfl) (fun _ _ _ h => h) ?_ hH ?_; rotate_left; (first | exact yi_eq y_skip (by rfl) | (refine yi_pure (by rfl) ?_; intro w; go_simp; done) | (refine yi_pure (by rfl) ?_; intro w; go_simp; with_reducible rfl) | (refine yi_pure (by rfl) ?_; intro w; simp only [Wy.cells]; go_simp; with_reducible rfl)); (try simp only [Act.put, List.setIfInBounds_toArray, List.set_cons_zero, List.set_cons_succ, Nat.zero_add, Nat.zero_mul, Nat.reduceAdd]))
          refine wpAnyH_done (by kernel_rfl) ?_ _
          go_wp2_with (first | ((first | (refine w_box rfl hF rfl ?_; clear hF; intro gN wN hF) | (refine w_alloc rfl hF ?_; clear hF; intro gN wN hF) | (refine w_ld1 rfl hF rfl ?_) | (refine w_ld rfl hF rfl ?_) | (refine w_st1 rfl hF rfl rfl ?_; clear hF; intro wN hF; (try simp only [List.set_cons_zero, List.set_cons_succ, List.eraseIdx_cons_zero, List.eraseIdx_cons_succ] at hF)) | (refine w_st rfl hF rfl rfl ?_; clear hF; intro wN hF; (try simp only [List.set_cons_zero, List.set_cons_succ, List.eraseIdx_cons_zero, List.eraseIdx_cons_succ] at hF)) | (refine w_fldB rfl rfl ?_) | (refine w_fld rfl hF rfl ?_) | (refine w_ix rfl hF rfl rfl ?_) | (refine w_lde1 rfl hF rfl ?_) | (refine w_lde rfl hF rfl ?_) | (refine w_bs1 rfl hF rfl ?_; clear hF; intro gN wN hF) | (refine w_bs0 rfl hF ?_; clear hF; intro gN wN hF) | (refine w_app rfl hF rfl rfl ?_; clear hF; intro vN wN hF; (try simp only [List.set_cons_zero, List.set_cons_succ, List.eraseIdx_cons_zero, List.eraseIdx_cons_succ] at hF)) | (refine w_appD rfl hF rfl rfl ?_; clear hF; intro vN wN hF; (try simp only [List.set_cons_zero, List.set_cons_succ, List.eraseIdx_cons_zero, List.eraseIdx_cons_succ] at hF)) | (refine w_ld1o rfl hF rfl ?_) | (refine w_st1o rfl hF rfl rfl ?_; clear hF; intro wN hF; (try simp only [List.set_cons_zero, List.set_cons_succ, List.eraseIdx_cons_zero, List.eraseIdx_cons_succ] at hF)) | (refine w_make0 rfl hF rfl rfl ?_; clear hF; intro gN wN hF) | (refine w_to rfl hF rfl rfl ?_; clear hF; intro hF) | (refine w_from rfl hF rfl rfl ?_; clear hF; intro hF)); (try simp only [Act.put, List.setIfInBounds_toArray, List.set_cons_zero, List.set_cons_succ, Nat.zero_add, Nat.zero_mul, Nat.reduceAdd])))
          go_loopw [33] (fun x wx => ∃ i : Nat, i ≤ m ∧ x = .int .i64 (i : Int) ∧ Hid (ws.take i = ws2.take i) ∧ St w [rowD 1 A n c (csv S), elemsD S, rowD 1 A2 n c2 (csv S2), elemsD S2] wx [] [rowD 3 sA2 m sc2 (wys ws2), rowD 3 sA m sc (wys ws), rowD 1 A n c (csv S), elemsD S, rowD 1 A2 n c2 (csv S2), elemsD S2]) (fun x _ => m - (intOf x).toNat)
          case atStart => exact ⟨0, by omega, rfl, Lib.hid (by simp), hF⟩
          case round =>
            obtain ⟨i, hi, rfl, hti, hF⟩ := hrel
            by_cases him : i < m
            · obtain ⟨v, hv⟩ : ∃ v, ws[i]? = some v := ⟨_, List.getElem?_eq_getElem (by have := hse.out; omega)⟩
              obtain ⟨u, hu⟩ : ∃ u, ws2[i]? = some u := ⟨_, List.getElem?_eq_getElem (by have := hse2.out; omega)⟩
              have Hw : Hid (b = true → ws = ws2) := Lib.hid fun hbt => by
                have h := Hb.out.1 hbt
                have h1 := cont_el hs
                have h2 := cont_el hs2
                rw [h, h2] at h1
                injection h1 with h1
                exact h1.symm
              go_upto_region 11 with (first | ((first | (refine w_box rfl hF rfl ?_; clear hF; intro gN wN hF) | (refine w_alloc rfl hF ?_; clear hF; intro gN wN hF) | (refine w_ld1 rfl hF rfl ?_) | (refine w_ld rfl hF rfl ?_) | (refine w_st1 rfl hF rfl rfl ?_; clear hF; intro wN hF; (try simp only [List.set_cons_zero, List.set_cons_succ, List.eraseIdx_cons_zero, List.eraseIdx_cons_succ] at hF)) | (refine w_st rfl hF rfl rfl ?_; clear hF; intro wN hF; (try simp only [List.set_cons_zero, List.set_cons_succ, List.eraseIdx_cons_zero, List.eraseIdx_cons_succ] at hF)) | (refine w_fldB rfl rfl ?_) | (refine w_fld rfl hF rfl ?_) | (refine w_ix rfl hF rfl rfl ?_) | (refine w_lde1 rfl hF rfl ?_) | (refine w_lde rfl hF rfl ?_) | (refine w_bs1 rfl hF rfl ?_; clear hF; intro gN wN hF) | (refine w_bs0 rfl hF ?_; clear hF; intro gN wN hF) | (refine w_app rfl hF rfl rfl ?_; clear hF; intro vN wN hF; (try simp only [List.set_cons_zero, List.set_cons_succ, List.eraseIdx_cons_zero, List.eraseIdx_cons_succ] at hF)) | (refine w_appD rfl hF rfl rfl ?_; clear hF; intro vN wN hF; (try simp only [List.set_cons_zero, List.set_cons_succ, List.eraseIdx_cons_zero, List.eraseIdx_cons_succ] at hF)) | (refine w_ld1o rfl hF rfl ?_) | (refine w_st1o rfl hF rfl rfl ?_; clear hF; intro wN hF; (try simp only [List.set_cons_zero, List.set_cons_succ, List.eraseIdx_cons_zero, List.eraseIdx_cons_succ] at hF)) | (refine w_make0 rfl hF rfl rfl ?_; clear hF; intro gN wN hF) | (refine w_to rfl hF rfl rfl ?_; clear hF; intro hF) | (refine w_from rfl hF rfl rfl ?_; clear hF; intro hF)); (try simp only [Act.put, List.setIfInBounds_toArray, List.set_cons_zero, List.set_cons_succ, Nat.zero_add, Nat.zero_mul, Nat.reduceAdd])))
              by_cases h1 : (v.line : Int) = (u.line : Int)
              · by_cases h2 : v.dirty = u.dirty
                · by_cases h3 : v.data.toList = u.data.toList
                  · have hvu : Hid (v = u) := Lib.hid (wy_ext (by omega) h2 (by rw [ByteArray.toList_eq, ByteArray.toList_eq] at h3; exact h3))
                    refine wp_region_st (by kernel_rfl) hF [] [rowD 1 A n c (csv S), rowD 1 A2 n c2 (csv S2), rowD 3 sA m sc (wys ws), rowD 3 sA2 m sc2 (wys ws2)] (by ((repeat (first | exact subn_nil | refine subn_cons (by ((repeat (first | exact List.Mem.head _ | refine List.Mem.tail _ ?_)) <;> exact List.Mem.head _)) ?_)) <;> exact subn_nil)) (by ((repeat (first | exact subn_nil | refine subn_cons (by ((repeat (first | exact List.Mem.head _ | refine List.Mem.tail _ ?_)) <;> exact List.Mem.head _)) ?_)) <;> exact subn_nil)) ?_
                    clear hF; intro hF hH
                    (refine w_take (i := 0) rfl (y_move rfl rfl) hH ?_); (try simp only [Act.put, List.setIfInBounds_toArray, List.set_cons_zero, List.set_cons_succ, Nat.zero_add, Nat.zero_mul, Nat.reduceAdd])
                    (refine w_take (i := 1) rfl (y_move rfl rfl) hH ?_); (try simp only [Act.put, List.setIfInBounds_toArray, List.set_cons_zero, List.set_cons_succ, Nat.zero_add, Nat.zero_mul, Nat.reduceAdd])
                    (first | refine w_take (i := 2) rfl (y_ix rfl rfl rfl) hH ?_ | refine w_take (i := 2) rfl (y_ixB rfl rfl rfl) hH ?_); (try simp only [Act.put, List.setIfInBounds_toArray, List.set_cons_zero, List.set_cons_succ, Nat.zero_add, Nat.zero_mul, Nat.reduceAdd])
                    (first | refine w_take (i := 3) rfl (y_ld1 rfl rfl) hH ?_ | refine w_take (i := 3) rfl (y_ld rfl rfl) hH ?_ | refine w_take (i := 3) rfl (y_lde1 rfl rfl) hH ?_ | refine w_take (i := 3) rfl (y_lde rfl rfl) hH ?_); (try simp only [Act.put, List.setIfInBounds_toArray, List.set_cons_zero, List.set_cons_succ, Nat.zero_add, Nat.zero_mul, Nat.reduceAdd])
                    (refine w_take (i := 4) rfl (y_move rfl rfl) hH ?_); (try simp only [Act.put, List.setIfInBounds_toArray, List.set_cons_zero, List.set_cons_succ, Nat.zero_add, Nat.zero_mul, Nat.reduceAdd])
                    (first | refine w_take (i := 5) rfl (y_ix rfl rfl rfl) hH ?_ | refine w_take (i := 5) rfl (y_ixB rfl rfl rfl) hH ?_); (try simp only [Act.put, List.setIfInBounds_toArray, List.set_cons_zero, List.set_cons_succ, Nat.zero_add, Nat.zero_mul, Nat.reduceAdd])
                    (first | refine w_take (i := 6) rfl (y_ld1 rfl rfl) hH ?_ | refine w_take (i := 6) rfl (y_ld rfl rfl) hH ?_ | refine w_take (i := 6) rfl (y_lde1 rfl rfl) hH ?_ | refine w_take (i := 6) rfl (y_lde rfl rfl) hH ?_); (try simp only [Act.put, List.setIfInBounds_toArray, List.set_cons_zero, List.set_cons_succ, Nat.zero_add, Nat.zero_mul, Nat.reduceAdd])
                    (refine w_take (i := 7) rfl (y_move rfl rfl) hH ?_); (try simp only [Act.put, List.setIfInBounds_toArray, List.set_cons_zero, List.set_cons_succ, Nat.zero_add, Nat.zero_mul, Nat.reduceAdd])
                    (refine w_take (i := 8) rfl (y_move rfl rfl) hH ?_); (try simp only [Act.put, List.setIfInBounds_toArray, List.set_cons_zero, List.set_cons_succ, Nat.zero_add, Nat.zero_mul, Nat.reduceAdd])
                    (first | refine w_take (i := 9) rfl (y_ix rfl rfl rfl) hH ?_ | refine w_take (i := 9) rfl (y_ixB rfl rfl rfl) hH ?_); (try simp only [Act.put, List.setIfInBounds_toArray, List.set_cons_zero, List.set_cons_succ, Nat.zero_add, Nat.zero_mul, Nat.reduceAdd])
                    (first | refine w_take (i := 10) rfl (y_ld1 rfl rfl) hH ?_ | refine w_take (i := 10) rfl (y_ld rfl rfl) hH ?_ | refine w_take (i := 10) rfl (y_lde1 rfl rfl) hH ?_ | refine w_take (i := 10) rfl (y_lde rfl rfl) hH ?_); (try simp only [Act.put, List.setIfInBounds_toArray, List.set_cons_zero, List.set_cons_succ, Nat.zero_add, Nat.zero_mul, Nat.reduceAdd])
                    (refine w_take (i := 11) rfl (y_move rfl rfl) hH ?_); (try simp only [Act.put, List.setIfInBounds_toArray, List.set_cons_zero, List.set_cons_succ, Nat.zero_add, Nat.zero_mul, Nat.reduceAdd])
                    (first | refine w_take (i := 12) rfl (y_ix rfl rfl rfl) hH ?_ | refine w_take (i := 12) rfl (y_ixB rfl rfl rfl) hH ?_); (try simp only [Act.put, List.setIfInBounds_toArray, List.set_cons_zero, List.set_cons_succ, Nat.zero_add, Nat.zero_mul, Nat.reduceAdd])
                    (first | refine w_take (i := 13) rfl (y_ld1 rfl rfl) hH ?_ | refine w_take (i := 13) rfl (y_ld rfl rfl) hH ?_ | refine w_take (i := 13) rfl (y_lde1 rfl rfl) hH ?_ | refine w_take (i := 13) rfl (y_lde rfl rfl) hH ?_); (try simp only [Act.put, List.setIfInBounds_toArray, List.set_cons_zero, List.set_cons_succ, Nat.zero_add, Nat.zero_mul, Nat.reduceAdd])
                    (refine rg_take (i := 14) (v := ?_) rfl rfl (by kernel_rfl) (by kernel_rfl) (by kernel_rfl) (fun _ _ _ h => h) ?_ hH ?_; rotate_left; (first | exact yi_eq y_skip (by rfl) | (refine yi_pure (by rfl) ?_; intro w; go_simp; done) | (refine yi_pure (by rfl) ?_; intro w; go_simp; with_reducible rfl) | (refine yi_pure (by rfl) ?_; intro w; simp only [Wy.cells]; go_simp; with_reducible rfl)); (try simp only [Act.put, List.setIfInBounds_toArray, List.set_cons_zero, List.set_cons_succ, Nat.zero_add, Nat.zero_mul, Nat.reduceAdd]))
                    refine wpAnyH_done (by kernel_rfl) ?_ _
                    clear h1 h2 h3
                    go_wp2_with (first | ((first | (refine w_box rfl hF rfl ?_; clear hF; intro gN wN hF) | (refine w_alloc rfl hF ?_; clear hF; intro gN wN hF) | (refine w_ld1 rfl hF rfl ?_) | (refine w_ld rfl hF rfl ?_) | (refine w_st1 rfl hF rfl rfl ?_; clear hF; intro wN hF; (try simp only [List.set_cons_zero, List.set_cons_succ, List.eraseIdx_cons_zero, List.eraseIdx_cons_succ] at hF)) | (refine w_st rfl hF rfl rfl ?_; clear hF; intro wN hF; (try simp only [List.set_cons_zero, List.set_cons_succ, List.eraseIdx_cons_zero, List.eraseIdx_cons_succ] at hF)) | (refine w_fldB rfl rfl ?_) | (refine w_fld rfl hF rfl ?_) | (refine w_ix rfl hF rfl rfl ?_) | (refine w_lde1 rfl hF rfl ?_) | (refine w_lde rfl hF rfl ?_) | (refine w_bs1 rfl hF rfl ?_; clear hF; intro gN wN hF) | (refine w_bs0 rfl hF ?_; clear hF; intro gN wN hF) | (refine w_app rfl hF rfl rfl ?_; clear hF; intro vN wN hF; (try simp only [List.set_cons_zero, List.set_cons_succ, List.eraseIdx_cons_zero, List.eraseIdx_cons_succ] at hF)) | (refine w_appD rfl hF rfl rfl ?_; clear hF; intro vN wN hF; (try simp only [List.set_cons_zero, List.set_cons_succ, List.eraseIdx_cons_zero, List.eraseIdx_cons_succ] at hF)) | (refine w_ld1o rfl hF rfl ?_) | (refine w_st1o rfl hF rfl rfl ?_; clear hF; intro wN hF; (try simp only [List.set_cons_zero, List.set_cons_succ, List.eraseIdx_cons_zero, List.eraseIdx_cons_succ] at hF)) | (refine w_make0 rfl hF rfl rfl ?_; clear hF; intro gN wN hF) | (refine w_to rfl hF rfl rfl ?_; clear hF; intro hF) | (refine w_from rfl hF rfl rfl ?_; clear hF; intro hF)); (try simp only [Act.put, List.setIfInBounds_toArray, List.set_cons_zero, List.set_cons_succ, Nat.zero_add, Nat.zero_mul, Nat.reduceAdd])))
                    go_roundw
                    case rel => exact ⟨i + 1, by omega, by go_num, Lib.hid (take_next hti.out hv (by rw [hvu.out]; exact hu)), hF⟩
                    case measure => first | (simp [intOf]; done) | (simp [intOf]; omega)
                  · have hno : Hid (b = false) := no_of Hw.out hv hu (fun e => h3 (by rw [e]))
                    refine wp_region_st (by kernel_rfl) hF [] [rowD 1 A n c (csv S), rowD 1 A2 n c2 (csv S2), rowD 3 sA m sc (wys ws), rowD 3 sA2 m sc2 (wys ws2)] (by ((repeat (first | exact subn_nil | refine subn_cons (by ((repeat (first | exact List.Mem.head _ | refine List.Mem.tail _ ?_)) <;> exact List.Mem.head _)) ?_)) <;> exact subn_nil)) (by ((repeat (first | exact subn_nil | refine subn_cons (by ((repeat (first | exact List.Mem.head _ | refine List.Mem.tail _ ?_)) <;> exact List.Mem.head _)) ?_)) <;> exact subn_nil)) ?_
                    clear hF; intro hF hH
                    (refine w_take (i := 0) rfl (y_move rfl rfl) hH ?_); (try simp only [Act.put, List.setIfInBounds_toArray, List.set_cons_zero, List.set_cons_succ, Nat.zero_add, Nat.zero_mul, Nat.reduceAdd])
                    (refine w_take (i := 1) rfl (y_move rfl rfl) hH ?_); (try simp only [Act.put, List.setIfInBounds_toArray, List.set_cons_zero, List.set_cons_succ, Nat.zero_add, Nat.zero_mul, Nat.reduceAdd])
                    (first | refine w_take (i := 2) rfl (y_ix rfl rfl rfl) hH ?_ | refine w_take (i := 2) rfl (y_ixB rfl rfl rfl) hH ?_); (try simp only [Act.put, List.setIfInBounds_toArray, List.set_cons_zero, List.set_cons_succ, Nat.zero_add, Nat.zero_mul, Nat.reduceAdd])
                    (first | refine w_take (i := 3) rfl (y_ld1 rfl rfl) hH ?_ | refine w_take (i := 3) rfl (y_ld rfl rfl) hH ?_ | refine w_take (i := 3) rfl (y_lde1 rfl rfl) hH ?_ | refine w_take (i := 3) rfl (y_lde rfl rfl) hH ?_); (try simp only [Act.put, List.setIfInBounds_toArray, List.set_cons_zero, List.set_cons_succ, Nat.zero_add, Nat.zero_mul, Nat.reduceAdd])
                    (refine w_take (i := 4) rfl (y_move rfl rfl) hH ?_); (try simp only [Act.put, List.setIfInBounds_toArray, List.set_cons_zero, List.set_cons_succ, Nat.zero_add, Nat.zero_mul, Nat.reduceAdd])
                    (first | refine w_take (i := 5) rfl (y_ix rfl rfl rfl) hH ?_ | refine w_take (i := 5) rfl (y_ixB rfl rfl rfl) hH ?_); (try simp only [Act.put, List.setIfInBounds_toArray, List.set_cons_zero, List.set_cons_succ, Nat.zero_add, Nat.zero_mul, Nat.reduceAdd])
                    (first | refine w_take (i := 6) rfl (y_ld1 rfl rfl) hH ?_ | refine w_take (i := 6) rfl (y_ld rfl rfl) hH ?_ | refine w_take (i := 6) rfl (y_lde1 rfl rfl) hH ?_ | refine w_take (i := 6) rfl (y_lde rfl rfl) hH ?_); (try simp only [Act.put, List.setIfInBounds_toArray, List.set_cons_zero, List.set_cons_succ, Nat.zero_add, Nat.zero_mul, Nat.reduceAdd])
                    (refine w_take (i := 7) rfl (y_move rfl rfl) hH ?_); (try simp only [Act.put, List.setIfInBounds_toArray, List.set_cons_zero, List.set_cons_succ, Nat.zero_add, Nat.zero_mul, Nat.reduceAdd])
                    (refine w_take (i := 8) rfl (y_move rfl rfl) hH ?_); (try simp only [Act.put, List.setIfInBounds_toArray, List.set_cons_zero, List.set_cons_succ, Nat.zero_add, Nat.zero_mul, Nat.reduceAdd])
                    (first | refine w_take (i := 9) rfl (y_ix rfl rfl rfl) hH ?_ | refine w_take (i := 9) rfl (y_ixB rfl rfl rfl) hH ?_); (try simp only [Act.put, List.setIfInBounds_toArray, List.set_cons_zero, List.set_cons_succ, Nat.zero_add, Nat.zero_mul, Nat.reduceAdd])
                    (first | refine w_take (i := 10) rfl (y_ld1 rfl rfl) hH ?_ | refine w_take (i := 10) rfl (y_ld rfl rfl) hH ?_ | refine w_take (i := 10) rfl (y_lde1 rfl rfl) hH ?_ | refine w_take (i := 10) rfl (y_lde rfl rfl) hH ?_); (try simp only [Act.put, List.setIfInBounds_toArray, List.set_cons_zero, List.set_cons_succ, Nat.zero_add, Nat.zero_mul, Nat.reduceAdd])
                    (refine w_take (i := 11) rfl (y_move rfl rfl) hH ?_); (try simp only [Act.put, List.setIfInBounds_toArray, List.set_cons_zero, List.set_cons_succ, Nat.zero_add, Nat.zero_mul, Nat.reduceAdd])
                    (first | refine w_take (i := 12) rfl (y_ix rfl rfl rfl) hH ?_ | refine w_take (i := 12) rfl (y_ixB rfl rfl rfl) hH ?_); (try simp only [Act.put, List.setIfInBounds_toArray, List.set_cons_zero, List.set_cons_succ, Nat.zero_add, Nat.zero_mul, Nat.reduceAdd])
                    (first | refine w_take (i := 13) rfl (y_ld1 rfl rfl) hH ?_ | refine w_take (i := 13) rfl (y_ld rfl rfl) hH ?_ | refine w_take (i := 13) rfl (y_lde1 rfl rfl) hH ?_ | refine w_take (i := 13) rfl (y_lde rfl rfl) hH ?_); (try simp only [Act.put, List.setIfInBounds_toArray, List.set_cons_zero, List.set_cons_succ, Nat.zero_add, Nat.zero_mul, Nat.reduceAdd])
                    (refine rg_take (i := 14) (v := ?_) rfl rfl (by kernel_rfl) (by kernel_rfl) (by kernel_rfl) (fun _ _ _ h => h) ?_ hH ?_; rotate_left; (first | exact yi_eq y_skip (by rfl) | (refine yi_pure (by rfl) ?_; intro w; go_simp; done) | (refine yi_pure (by rfl) ?_; intro w; go_simp; with_reducible rfl) | (refine yi_pure (by rfl) ?_; intro w; simp only [Wy.cells]; go_simp; with_reducible rfl)); (try simp only [Act.put, List.setIfInBounds_toArray, List.set_cons_zero, List.set_cons_succ, Nat.zero_add, Nat.zero_mul, Nat.reduceAdd]))
                    refine wpAnyH_done (by kernel_rfl) ?_ _
                    clear h1 h2 h3
                    go_wp2_with (first | ((first | (refine w_box rfl hF rfl ?_; clear hF; intro gN wN hF) | (refine w_alloc rfl hF ?_; clear hF; intro gN wN hF) | (refine w_ld1 rfl hF rfl ?_) | (refine w_ld rfl hF rfl ?_) | (refine w_st1 rfl hF rfl rfl ?_; clear hF; intro wN hF; (try simp only [List.set_cons_zero, List.set_cons_succ, List.eraseIdx_cons_zero, List.eraseIdx_cons_succ] at hF)) | (refine w_st rfl hF rfl rfl ?_; clear hF; intro wN hF; (try simp only [List.set_cons_zero, List.set_cons_succ, List.eraseIdx_cons_zero, List.eraseIdx_cons_succ] at hF)) | (refine w_fldB rfl rfl ?_) | (refine w_fld rfl hF rfl ?_) | (refine w_ix rfl hF rfl rfl ?_) | (refine w_lde1 rfl hF rfl ?_) | (refine w_lde rfl hF rfl ?_) | (refine w_bs1 rfl hF rfl ?_; clear hF; intro gN wN hF) | (refine w_bs0 rfl hF ?_; clear hF; intro gN wN hF) | (refine w_app rfl hF rfl rfl ?_; clear hF; intro vN wN hF; (try simp only [List.set_cons_zero, List.set_cons_succ, List.eraseIdx_cons_zero, List.eraseIdx_cons_succ] at hF)) | (refine w_appD rfl hF rfl rfl ?_; clear hF; intro vN wN hF; (try simp only [List.set_cons_zero, List.set_cons_succ, List.eraseIdx_cons_zero, List.eraseIdx_cons_succ] at hF)) | (refine w_ld1o rfl hF rfl ?_) | (refine w_st1o rfl hF rfl rfl ?_; clear hF; intro wN hF; (try simp only [List.set_cons_zero, List.set_cons_succ, List.eraseIdx_cons_zero, List.eraseIdx_cons_succ] at hF)) | (refine w_make0 rfl hF rfl rfl ?_; clear hF; intro gN wN hF) | (refine w_to rfl hF rfl rfl ?_; clear hF; intro hF) | (refine w_from rfl hF rfl rfl ?_; clear hF; intro hF)); (try simp only [Act.put, List.setIfInBounds_toArray, List.set_cons_zero, List.set_cons_succ, Nat.zero_add, Nat.zero_mul, Nat.reduceAdd])))
                    go_ret
                    exact ⟨val_bool (by rw [hno.out]), hF.bel⟩
                · have hno : Hid (b = false) := no_of Hw.out hv hu (fun e => h2 (by rw [e]))
                  refine wp_region_st (by kernel_rfl) hF [] [rowD 1 A n c (csv S), rowD 1 A2 n c2 (csv S2), rowD 3 sA m sc (wys ws), rowD 3 sA2 m sc2 (wys ws2)] (by ((repeat (first | exact subn_nil | refine subn_cons (by ((repeat (first | exact List.Mem.head _ | refine List.Mem.tail _ ?_)) <;> exact List.Mem.head _)) ?_)) <;> exact subn_nil)) (by ((repeat (first | exact subn_nil | refine subn_cons (by ((repeat (first | exact List.Mem.head _ | refine List.Mem.tail _ ?_)) <;> exact List.Mem.head _)) ?_)) <;> exact subn_nil)) ?_
                  clear hF; intro hF hH
                  (refine w_take (i := 0) rfl (y_move rfl rfl) hH ?_); (try simp only [Act.put, List.setIfInBounds_toArray, List.set_cons_zero, List.set_cons_succ, Nat.zero_add, Nat.zero_mul, Nat.reduceAdd])
                  (refine w_take (i := 1) rfl (y_move rfl rfl) hH ?_); (try simp only [Act.put, List.setIfInBounds_toArray, List.set_cons_zero, List.set_cons_succ, Nat.zero_add, Nat.zero_mul, Nat.reduceAdd])
                  (first | refine w_take (i := 2) rfl (y_ix rfl rfl rfl) hH ?_ | refine w_take (i := 2) rfl (y_ixB rfl rfl rfl) hH ?_); (try simp only [Act.put, List.setIfInBounds_toArray, List.set_cons_zero, List.set_cons_succ, Nat.zero_add, Nat.zero_mul, Nat.reduceAdd])
                  (first | refine w_take (i := 3) rfl (y_ld1 rfl rfl) hH ?_ | refine w_take (i := 3) rfl (y_ld rfl rfl) hH ?_ | refine w_take (i := 3) rfl (y_lde1 rfl rfl) hH ?_ | refine w_take (i := 3) rfl (y_lde rfl rfl) hH ?_); (try simp only [Act.put, List.setIfInBounds_toArray, List.set_cons_zero, List.set_cons_succ, Nat.zero_add, Nat.zero_mul, Nat.reduceAdd])
                  (refine w_take (i := 4) rfl (y_move rfl rfl) hH ?_); (try simp only [Act.put, List.setIfInBounds_toArray, List.set_cons_zero, List.set_cons_succ, Nat.zero_add, Nat.zero_mul, Nat.reduceAdd])
                  (first | refine w_take (i := 5) rfl (y_ix rfl rfl rfl) hH ?_ | refine w_take (i := 5) rfl (y_ixB rfl rfl rfl) hH ?_); (try simp only [Act.put, List.setIfInBounds_toArray, List.set_cons_zero, List.set_cons_succ, Nat.zero_add, Nat.zero_mul, Nat.reduceAdd])
                  (first | refine w_take (i := 6) rfl (y_ld1 rfl rfl) hH ?_ | refine w_take (i := 6) rfl (y_ld rfl rfl) hH ?_ | refine w_take (i := 6) rfl (y_lde1 rfl rfl) hH ?_ | refine w_take (i := 6) rfl (y_lde rfl rfl) hH ?_); (try simp only [Act.put, List.setIfInBounds_toArray, List.set_cons_zero, List.set_cons_succ, Nat.zero_add, Nat.zero_mul, Nat.reduceAdd])
                  (refine w_take (i := 7) rfl (y_move rfl rfl) hH ?_); (try simp only [Act.put, List.setIfInBounds_toArray, List.set_cons_zero, List.set_cons_succ, Nat.zero_add, Nat.zero_mul, Nat.reduceAdd])
                  (refine w_take (i := 8) rfl (y_move rfl rfl) hH ?_); (try simp only [Act.put, List.setIfInBounds_toArray, List.set_cons_zero, List.set_cons_succ, Nat.zero_add, Nat.zero_mul, Nat.reduceAdd])
                  (first | refine w_take (i := 9) rfl (y_ix rfl rfl rfl) hH ?_ | refine w_take (i := 9) rfl (y_ixB rfl rfl rfl) hH ?_); (try simp only [Act.put, List.setIfInBounds_toArray, List.set_cons_zero, List.set_cons_succ, Nat.zero_add, Nat.zero_mul, Nat.reduceAdd])
                  (first | refine w_take (i := 10) rfl (y_ld1 rfl rfl) hH ?_ | refine w_take (i := 10) rfl (y_ld rfl rfl) hH ?_ | refine w_take (i := 10) rfl (y_lde1 rfl rfl) hH ?_ | refine w_take (i := 10) rfl (y_lde rfl rfl) hH ?_); (try simp only [Act.put, List.setIfInBounds_toArray, List.set_cons_zero, List.set_cons_succ, Nat.zero_add, Nat.zero_mul, Nat.reduceAdd])
                  (refine w_take (i := 11) rfl (y_move rfl rfl) hH ?_); (try simp only [Act.put, List.setIfInBounds_toArray, List.set_cons_zero, List.set_cons_succ, Nat.zero_add, Nat.zero_mul, Nat.reduceAdd])
                  (first | refine w_take (i := 12) rfl (y_ix rfl rfl rfl) hH ?_ | refine w_take (i := 12) rfl (y_ixB rfl rfl rfl) hH ?_); (try simp only [Act.put, List.setIfInBounds_toArray, List.set_cons_zero, List.set_cons_succ, Nat.zero_add, Nat.zero_mul, Nat.reduceAdd])
                  (first | refine w_take (i := 13) rfl (y_ld1 rfl rfl) hH ?_ | refine w_take (i := 13) rfl (y_ld rfl rfl) hH ?_ | refine w_take (i := 13) rfl (y_lde1 rfl rfl) hH ?_ | refine w_take (i := 13) rfl (y_lde rfl rfl) hH ?_); (try simp only [Act.put, List.setIfInBounds_toArray, List.set_cons_zero, List.set_cons_succ, Nat.zero_add, Nat.zero_mul, Nat.reduceAdd])
                  (refine rg_take (i := 14) (v := ?_) rfl rfl (by kernel_rfl) (by kernel_rfl) (by kernel_rfl) (fun _ _ _ h => h) ?_ hH ?_; rotate_left; (first | exact yi_eq y_skip (by rfl) | (refine yi_pure (by rfl) ?_; intro w; go_simp; done) | (refine yi_pure (by rfl) ?_; intro w; go_simp; with_reducible rfl) | (refine yi_pure (by rfl) ?_; intro w; simp only [Wy.cells]; go_simp; with_reducible rfl)); (try simp only [Act.put, List.setIfInBounds_toArray, List.set_cons_zero, List.set_cons_succ, Nat.zero_add, Nat.zero_mul, Nat.reduceAdd]))
                  refine wpAnyH_done (by kernel_rfl) ?_ _
                  clear h1 h2
                  go_wp2_with (first | ((first | (refine w_box rfl hF rfl ?_; clear hF; intro gN wN hF) | (refine w_alloc rfl hF ?_; clear hF; intro gN wN hF) | (refine w_ld1 rfl hF rfl ?_) | (refine w_ld rfl hF rfl ?_) | (refine w_st1 rfl hF rfl rfl ?_; clear hF; intro wN hF; (try simp only [List.set_cons_zero, List.set_cons_succ, List.eraseIdx_cons_zero, List.eraseIdx_cons_succ] at hF)) | (refine w_st rfl hF rfl rfl ?_; clear hF; intro wN hF; (try simp only [List.set_cons_zero, List.set_cons_succ, List.eraseIdx_cons_zero, List.eraseIdx_cons_succ] at hF)) | (refine w_fldB rfl rfl ?_) | (refine w_fld rfl hF rfl ?_) | (refine w_ix rfl hF rfl rfl ?_) | (refine w_lde1 rfl hF rfl ?_) | (refine w_lde rfl hF rfl ?_) | (refine w_bs1 rfl hF rfl ?_; clear hF; intro gN wN hF) | (refine w_bs0 rfl hF ?_; clear hF; intro gN wN hF) | (refine w_app rfl hF rfl rfl ?_; clear hF; intro vN wN hF; (try simp only [List.set_cons_zero, List.set_cons_succ, List.eraseIdx_cons_zero, List.eraseIdx_cons_succ] at hF)) | (refine w_appD rfl hF rfl rfl ?_; clear hF; intro vN wN hF; (try simp only [List.set_cons_zero, List.set_cons_succ, List.eraseIdx_cons_zero, List.eraseIdx_cons_succ] at hF)) | (refine w_ld1o rfl hF rfl ?_) | (refine w_st1o rfl hF rfl rfl ?_; clear hF; intro wN hF; (try simp only [List.set_cons_zero, List.set_cons_succ, List.eraseIdx_cons_zero, List.eraseIdx_cons_succ] at hF)) | (refine w_make0 rfl hF rfl rfl ?_; clear hF; intro gN wN hF) | (refine w_to rfl hF rfl rfl ?_; clear hF; intro hF) | (refine w_from rfl hF rfl rfl ?_; clear hF; intro hF)); (try simp only [Act.put, List.setIfInBounds_toArray, List.set_cons_zero, List.set_cons_succ, Nat.zero_add, Nat.zero_mul, Nat.reduceAdd])))
                  go_ret
                  exact ⟨val_bool (by rw [hno.out]), hF.bel⟩
              · have hno : Hid (b = false) := no_of Hw.out hv hu (fun e => h1 (by rw [e]))
                refine wp_region_st (by kernel_rfl) hF [] [rowD 1 A n c (csv S), rowD 1 A2 n c2 (csv S2), rowD 3 sA m sc (wys ws), rowD 3 sA2 m sc2 (wys ws2)] (by ((repeat (first | exact subn_nil | refine subn_cons (by ((repeat (first | exact List.Mem.head _ | refine List.Mem.tail _ ?_)) <;> exact List.Mem.head _)) ?_)) <;> exact subn_nil)) (by ((repeat (first | exact subn_nil | refine subn_cons (by ((repeat (first | exact List.Mem.head _ | refine List.Mem.tail _ ?_)) <;> exact List.Mem.head _)) ?_)) <;> exact subn_nil)) ?_
                clear hF; intro hF hH
                (refine w_take (i := 0) rfl (y_move rfl rfl) hH ?_); (try simp only [Act.put, List.setIfInBounds_toArray, List.set_cons_zero, List.set_cons_succ, Nat.zero_add, Nat.zero_mul, Nat.reduceAdd])
                (refine w_take (i := 1) rfl (y_move rfl rfl) hH ?_); (try simp only [Act.put, List.setIfInBounds_toArray, List.set_cons_zero, List.set_cons_succ, Nat.zero_add, Nat.zero_mul, Nat.reduceAdd])
                (first | refine w_take (i := 2) rfl (y_ix rfl rfl rfl) hH ?_ | refine w_take (i := 2) rfl (y_ixB rfl rfl rfl) hH ?_); (try simp only [Act.put, List.setIfInBounds_toArray, List.set_cons_zero, List.set_cons_succ, Nat.zero_add, Nat.zero_mul, Nat.reduceAdd])
                (first | refine w_take (i := 3) rfl (y_ld1 rfl rfl) hH ?_ | refine w_take (i := 3) rfl (y_ld rfl rfl) hH ?_ | refine w_take (i := 3) rfl (y_lde1 rfl rfl) hH ?_ | refine w_take (i := 3) rfl (y_lde rfl rfl) hH ?_); (try simp only [Act.put, List.setIfInBounds_toArray, List.set_cons_zero, List.set_cons_succ, Nat.zero_add, Nat.zero_mul, Nat.reduceAdd])
                (refine w_take (i := 4) rfl (y_move rfl rfl) hH ?_); (try simp only [Act.put, List.setIfInBounds_toArray, List.set_cons_zero, List.set_cons_succ, Nat.zero_add, Nat.zero_mul, Nat.reduceAdd])
                (first | refine w_take (i := 5) rfl (y_ix rfl rfl rfl) hH ?_ | refine w_take (i := 5) rfl (y_ixB rfl rfl rfl) hH ?_); (try simp only [Act.put, List.setIfInBounds_toArray, List.set_cons_zero, List.set_cons_succ, Nat.zero_add, Nat.zero_mul, Nat.reduceAdd])
                (first | refine w_take (i := 6) rfl (y_ld1 rfl rfl) hH ?_ | refine w_take (i := 6) rfl (y_ld rfl rfl) hH ?_ | refine w_take (i := 6) rfl (y_lde1 rfl rfl) hH ?_ | refine w_take (i := 6) rfl (y_lde rfl rfl) hH ?_); (try simp only [Act.put, List.setIfInBounds_toArray, List.set_cons_zero, List.set_cons_succ, Nat.zero_add, Nat.zero_mul, Nat.reduceAdd])
                (refine w_take (i := 7) rfl (y_move rfl rfl) hH ?_); (try simp only [Act.put, List.setIfInBounds_toArray, List.set_cons_zero, List.set_cons_succ, Nat.zero_add, Nat.zero_mul, Nat.reduceAdd])
                (refine w_take (i := 8) rfl (y_move rfl rfl) hH ?_); (try simp only [Act.put, List.setIfInBounds_toArray, List.set_cons_zero, List.set_cons_succ, Nat.zero_add, Nat.zero_mul, Nat.reduceAdd])
                (first | refine w_take (i := 9) rfl (y_ix rfl rfl rfl) hH ?_ | refine w_take (i := 9) rfl (y_ixB rfl rfl rfl) hH ?_); (try simp only [Act.put, List.setIfInBounds_toArray, List.set_cons_zero, List.set_cons_succ, Nat.zero_add, Nat.zero_mul, Nat.reduceAdd])
                (first | refine w_take (i := 10) rfl (y_ld1 rfl rfl) hH ?_ | refine w_take (i := 10) rfl (y_ld rfl rfl) hH ?_ | refine w_take (i := 10) rfl (y_lde1 rfl rfl) hH ?_ | refine w_take (i := 10) rfl (y_lde rfl rfl) hH ?_); (try simp only [Act.put, List.setIfInBounds_toArray, List.set_cons_zero, List.set_cons_succ, Nat.zero_add, Nat.zero_mul, Nat.reduceAdd])
                (refine w_take (i := 11) rfl (y_move rfl rfl) hH ?_); (try simp only [Act.put, List.setIfInBounds_toArray, List.set_cons_zero, List.set_cons_succ, Nat.zero_add, Nat.zero_mul, Nat.reduceAdd])
                (first | refine w_take (i := 12) rfl (y_ix rfl rfl rfl) hH ?_ | refine w_take (i := 12) rfl (y_ixB rfl rfl rfl) hH ?_); (try simp only [Act.put, List.setIfInBounds_toArray, List.set_cons_zero, List.set_cons_succ, Nat.zero_add, Nat.zero_mul, Nat.reduceAdd])
                (first | refine w_take (i := 13) rfl (y_ld1 rfl rfl) hH ?_ | refine w_take (i := 13) rfl (y_ld rfl rfl) hH ?_ | refine w_take (i := 13) rfl (y_lde1 rfl rfl) hH ?_ | refine w_take (i := 13) rfl (y_lde rfl rfl) hH ?_); (try simp only [Act.put, List.setIfInBounds_toArray, List.set_cons_zero, List.set_cons_succ, Nat.zero_add, Nat.zero_mul, Nat.reduceAdd])
                (refine rg_take (i := 14) (v := ?_) rfl rfl (by kernel_rfl) (by kernel_rfl) (by kernel_rfl) (fun _ _ _ h => h) ?_ hH ?_; rotate_left; (first | exact yi_eq y_skip (by rfl) | (refine yi_pure (by rfl) ?_; intro w; go_simp; done) | (refine yi_pure (by rfl) ?_; intro w; go_simp; with_reducible rfl) | (refine yi_pure (by rfl) ?_; intro w; simp only [Wy.cells]; go_simp; with_reducible rfl)); (try simp only [Act.put, List.setIfInBounds_toArray, List.set_cons_zero, List.set_cons_succ, Nat.zero_add, Nat.zero_mul, Nat.reduceAdd]))
                refine wpAnyH_done (by kernel_rfl) ?_ _
                clear h1
                go_wp2_with (first | ((first | (refine w_box rfl hF rfl ?_; clear hF; intro gN wN hF) | (refine w_alloc rfl hF ?_; clear hF; intro gN wN hF) | (refine w_ld1 rfl hF rfl ?_) | (refine w_ld rfl hF rfl ?_) | (refine w_st1 rfl hF rfl rfl ?_; clear hF; intro wN hF; (try simp only [List.set_cons_zero, List.set_cons_succ, List.eraseIdx_cons_zero, List.eraseIdx_cons_succ] at hF)) | (refine w_st rfl hF rfl rfl ?_; clear hF; intro wN hF; (try simp only [List.set_cons_zero, List.set_cons_succ, List.eraseIdx_cons_zero, List.eraseIdx_cons_succ] at hF)) | (refine w_fldB rfl rfl ?_) | (refine w_fld rfl hF rfl ?_) | (refine w_ix rfl hF rfl rfl ?_) | (refine w_lde1 rfl hF rfl ?_) | (refine w_lde rfl hF rfl ?_) | (refine w_bs1 rfl hF rfl ?_; clear hF; intro gN wN hF) | (refine w_bs0 rfl hF ?_; clear hF; intro gN wN hF) | (refine w_app rfl hF rfl rfl ?_; clear hF; intro vN wN hF; (try simp only [List.set_cons_zero, List.set_cons_succ, List.eraseIdx_cons_zero, List.eraseIdx_cons_succ] at hF)) | (refine w_appD rfl hF rfl rfl ?_; clear hF; intro vN wN hF; (try simp only [List.set_cons_zero, List.set_cons_succ, List.eraseIdx_cons_zero, List.eraseIdx_cons_succ] at hF)) | (refine w_ld1o rfl hF rfl ?_) | (refine w_st1o rfl hF rfl rfl ?_; clear hF; intro wN hF; (try simp only [List.set_cons_zero, List.set_cons_succ, List.eraseIdx_cons_zero, List.eraseIdx_cons_succ] at hF)) | (refine w_make0 rfl hF rfl rfl ?_; clear hF; intro gN wN hF) | (refine w_to rfl hF rfl rfl ?_; clear hF; intro hF) | (refine w_from rfl hF rfl rfl ?_; clear hF; intro hF)); (try simp only [Act.put, List.setIfInBounds_toArray, List.set_cons_zero, List.set_cons_succ, Nat.zero_add, Nat.zero_mul, Nat.reduceAdd])))
                go_ret
                exact ⟨val_bool (by rw [hno.out]), hF.bel⟩
            · obtain rfl : i = m := by omega
              have hww : Hid (ws = ws2) := Lib.hid (by have := hti.out; rwa [List.take_of_length_le (by have := hse.out; omega), List.take_of_length_le (by have := hse2.out; omega)] at this)
              go_wp2_with (first | ((first | (refine w_box rfl hF rfl ?_; clear hF; intro gN wN hF) | (refine w_alloc rfl hF ?_; clear hF; intro gN wN hF) | (refine w_ld1 rfl hF rfl ?_) | (refine w_ld rfl hF rfl ?_) | (refine w_st1 rfl hF rfl rfl ?_; clear hF; intro wN hF; (try simp only [List.set_cons_zero, List.set_cons_succ, List.eraseIdx_cons_zero, List.eraseIdx_cons_succ] at hF)) | (refine w_st rfl hF rfl rfl ?_; clear hF; intro wN hF; (try simp only [List.set_cons_zero, List.set_cons_succ, List.eraseIdx_cons_zero, List.eraseIdx_cons_succ] at hF)) | (refine w_fldB rfl rfl ?_) | (refine w_fld rfl hF rfl ?_) | (refine w_ix rfl hF rfl rfl ?_) | (refine w_lde1 rfl hF rfl ?_) | (refine w_lde rfl hF rfl ?_) | (refine w_bs1 rfl hF rfl ?_; clear hF; intro gN wN hF) | (refine w_bs0 rfl hF ?_; clear hF; intro gN wN hF) | (refine w_app rfl hF rfl rfl ?_; clear hF; intro vN wN hF; (try simp only [List.set_cons_zero, List.set_cons_succ, List.eraseIdx_cons_zero, List.eraseIdx_cons_succ] at hF)) | (refine w_appD rfl hF rfl rfl ?_; clear hF; intro vN wN hF; (try simp only [List.set_cons_zero, List.set_cons_succ, List.eraseIdx_cons_zero, List.eraseIdx_cons_succ] at hF)) | (refine w_ld1o rfl hF rfl ?_) | (refine w_st1o rfl hF rfl rfl ?_; clear hF; intro wN hF; (try simp only [List.set_cons_zero, List.set_cons_succ, List.eraseIdx_cons_zero, List.eraseIdx_cons_succ] at hF)) | (refine w_make0 rfl hF rfl rfl ?_; clear hF; intro gN wN hF) | (refine w_to rfl hF rfl rfl ?_; clear hF; intro hF) | (refine w_from rfl hF rfl rfl ?_; clear hF; intro hF)); (try simp only [Act.put, List.setIfInBounds_toArray, List.set_cons_zero, List.set_cons_succ, Nat.zero_add, Nat.zero_mul, Nat.reduceAdd])))
              go_roundw
              case rel => exact ⟨k + 1, by omega, by go_num, take_next htk.out (cont_el hs) (by rw [hww.out]; exact cont_el hs2), hF.lessD (by ((repeat (first | exact subn_nil | refine subn_cons (by ((repeat (first | exact List.Mem.head _ | refine List.Mem.tail _ ?_)) <;> exact List.Mem.head _)) ?_)) <;> exact subn_nil))⟩
              case measure => first | (simp [intOf]; done) | (simp [intOf]; omega)
        · have hno : Hid (b = false) := by
            show b = false
            cases hbb : b
            · rfl
            · have h := Hb.out.1 hbb
              have h1 := cont_el hs
              rw [h, cont_el hs2] at h1
              injection h1 with h1
              have := hse.out
              have := hse2.out
              rw [h1] at *
              omega
          refine wp_region_st (by kernel_rfl) hF [] [rowD 1 A n c (csv S), rowD 1 A2 n c2 (csv S2)] (by ((repeat (first | exact subn_nil | refine subn_cons (by ((repeat (first | exact List.Mem.head _ | refine List.Mem.tail _ ?_)) <;> exact List.Mem.head _)) ?_)) <;> exact subn_nil)) (by ((repeat (first | exact subn_nil | refine subn_cons (by ((repeat (first | exact List.Mem.head _ | refine List.Mem.tail _ ?_)) <;> exact List.Mem.head _)) ?_)) <;> exact subn_nil)) ?_
          clear hF; intro hF hH
          (refine w_take (i := 0) rfl (y_move rfl rfl) hH ?_); (try simp only [Act.put, List.setIfInBounds_toArray, List.set_cons_zero, List.set_cons_succ, Nat.zero_add, Nat.zero_mul, Nat.reduceAdd])
          (refine w_take (i := 1) rfl (y_move rfl rfl) hH ?_); (try simp only [Act.put, List.setIfInBounds_toArray, List.set_cons_zero, List.set_cons_succ, Nat.zero_add, Nat.zero_mul, Nat.reduceAdd])
          (first | refine w_take (i := 2) rfl (y_ix rfl rfl rfl) hH ?_ | refine w_take (i := 2) rfl (y_ixB rfl rfl rfl) hH ?_); (try simp only [Act.put, List.setIfInBounds_toArray, List.set_cons_zero, List.set_cons_succ, Nat.zero_add, Nat.zero_mul, Nat.reduceAdd])
          (first | refine w_take (i := 3) rfl (y_ld1 rfl rfl) hH ?_ | refine w_take (i := 3) rfl (y_ld rfl rfl) hH ?_ | refine w_take (i := 3) rfl (y_lde1 rfl rfl) hH ?_ | refine w_take (i := 3) rfl (y_lde rfl rfl) hH ?_); (try simp only [Act.put, List.setIfInBounds_toArray, List.set_cons_zero, List.set_cons_succ, Nat.zero_add, Nat.zero_mul, Nat.reduceAdd])
          (first | refine w_take (i := 4) rfl (y_len rfl rfl) hH ?_ | refine w_take (i := 4) rfl (y_lens rfl rfl) hH ?_); (try simp only [Act.put, List.setIfInBounds_toArray, List.set_cons_zero, List.set_cons_succ, Nat.zero_add, Nat.zero_mul, Nat.reduceAdd])
          (refine w_take (i := 5) rfl (y_move rfl rfl) hH ?_); (try simp only [Act.put, List.setIfInBounds_toArray, List.set_cons_zero, List.set_cons_succ, Nat.zero_add, Nat.zero_mul, Nat.reduceAdd])
          (refine w_take (i := 6) rfl (y_move rfl rfl) hH ?_); (try simp only [Act.put, List.setIfInBounds_toArray, List.set_cons_zero, List.set_cons_succ, Nat.zero_add, Nat.zero_mul, Nat.reduceAdd])
          (first | refine w_take (i := 7) rfl (y_ix rfl rfl rfl) hH ?_ | refine w_take (i := 7) rfl (y_ixB rfl rfl rfl) hH ?_); (try simp only [Act.put, List.setIfInBounds_toArray, List.set_cons_zero, List.set_cons_succ, Nat.zero_add, Nat.zero_mul, Nat.reduceAdd])
          (first | refine w_take (i := 8) rfl (y_ld1 rfl rfl) hH ?_ | refine w_take (i := 8) rfl (y_ld rfl rfl) hH ?_ | refine w_take (i := 8) rfl (y_lde1 rfl rfl) hH ?_ | refine w_take (i := 8) rfl (y_lde rfl rfl) hH ?_); (try simp only [Act.put, List.setIfInBounds_toArray, List.set_cons_zero, List.set_cons_succ, Nat.zero_add, Nat.zero_mul, Nat.reduceAdd])
          (first | refine w_take (i := 9) rfl (y_len rfl rfl) hH ?_ | refine w_take (i := 9) rfl (y_lens rfl rfl) hH ?_); (try simp only [Act.put, List.setIfInBounds_toArray, List.set_cons_zero, List.set_cons_succ, Nat.zero_add, Nat.zero_mul, Nat.reduceAdd])
          (refine rg_take (i := 10) (v := ?_) rfl rfl (by kernel_rfl) (by kernel_rfl) (by kernel_rfl) (fun _ _ _ h => h) ?_ hH ?_; rotate_left; (first | exact yi_eq y_skip (by rfl) | (refine yi_pure (by rfl) ?_; intro w; go_simp; done) | (refine yi_pure (by rfl) ?_; intro w; go_simp; with_reducible rfl) | (refine yi_pure (by rfl) ?_; intro w; simp only [Wy.cells]; go_simp; with_reducible rfl)); (try simp only [Act.put, List.setIfInBounds_toArray, List.set_cons_zero, List.set_cons_succ, Nat.zero_add, Nat.zero_mul, Nat.reduceAdd]))
          refine wpAnyH_done (by kernel_rfl) ?_ _
          go_wp2_with (first | ((first | (refine w_box rfl hF rfl ?_; clear hF; intro gN wN hF) | (refine w_alloc rfl hF ?_; clear hF; intro gN wN hF) | (refine w_ld1 rfl hF rfl ?_) | (refine w_ld rfl hF rfl ?_) | (refine w_st1 rfl hF rfl rfl ?_; clear hF; intro wN hF; (try simp only [List.set_cons_zero, List.set_cons_succ, List.eraseIdx_cons_zero, List.eraseIdx_cons_succ] at hF)) | (refine w_st rfl hF rfl rfl ?_; clear hF; intro wN hF; (try simp only [List.set_cons_zero, List.set_cons_succ, List.eraseIdx_cons_zero, List.eraseIdx_cons_succ] at hF)) | (refine w_fldB rfl rfl ?_) | (refine w_fld rfl hF rfl ?_) | (refine w_ix rfl hF rfl rfl ?_) | (refine w_lde1 rfl hF rfl ?_) | (refine w_lde rfl hF rfl ?_) | (refine w_bs1 rfl hF rfl ?_; clear hF; intro gN wN hF) | (refine w_bs0 rfl hF ?_; clear hF; intro gN wN hF) | (refine w_app rfl hF rfl rfl ?_; clear hF; intro vN wN hF; (try simp only [List.set_cons_zero, List.set_cons_succ, List.eraseIdx_cons_zero, List.eraseIdx_cons_succ] at hF)) | (refine w_appD rfl hF rfl rfl ?_; clear hF; intro vN wN hF; (try simp only [List.set_cons_zero, List.set_cons_succ, List.eraseIdx_cons_zero, List.eraseIdx_cons_succ] at hF)) | (refine w_ld1o rfl hF rfl ?_) | (refine w_st1o rfl hF rfl rfl ?_; clear hF; intro wN hF; (try simp only [List.set_cons_zero, List.set_cons_succ, List.eraseIdx_cons_zero, List.eraseIdx_cons_succ] at hF)) | (refine w_make0 rfl hF rfl rfl ?_; clear hF; intro gN wN hF) | (refine w_to rfl hF rfl rfl ?_; clear hF; intro hF) | (refine w_from rfl hF rfl rfl ?_; clear hF; intro hF)); (try simp only [Act.put, List.setIfInBounds_toArray, List.set_cons_zero, List.set_cons_succ, Nat.zero_add, Nat.zero_mul, Nat.reduceAdd])))
          go_ret
          exact ⟨val_bool (by rw [hno.out]), hF.bel⟩
      · obtain rfl : k = n := by omega
        have hyes : Hid (b = true) := Lib.hid (Hb.out.2 (by have := htk.out; rwa [List.take_of_length_le (by rw [cont_len]; omega), List.take_of_length_le (by rw [cont_len]; omega)] at this))
        go_wp2_with (first | ((first | (refine w_box rfl hF rfl ?_; clear hF; intro gN wN hF) | (refine w_alloc rfl hF ?_; clear hF; intro gN wN hF) | (refine w_ld1 rfl hF rfl ?_) | (refine w_ld rfl hF rfl ?_) | (refine w_st1 rfl hF rfl rfl ?_; clear hF; intro wN hF; (try simp only [List.set_cons_zero, List.set_cons_succ, List.eraseIdx_cons_zero, List.eraseIdx_cons_succ] at hF)) | (refine w_st rfl hF rfl rfl ?_; clear hF; intro wN hF; (try simp only [List.set_cons_zero, List.set_cons_succ, List.eraseIdx_cons_zero, List.eraseIdx_cons_succ] at hF)) | (refine w_fldB rfl rfl ?_) | (refine w_fld rfl hF rfl ?_) | (refine w_ix rfl hF rfl rfl ?_) | (refine w_lde1 rfl hF rfl ?_) | (refine w_lde rfl hF rfl ?_) | (refine w_bs1 rfl hF rfl ?_; clear hF; intro gN wN hF) | (refine w_bs0 rfl hF ?_; clear hF; intro gN wN hF) | (refine w_app rfl hF rfl rfl ?_; clear hF; intro vN wN hF; (try simp only [List.set_cons_zero, List.set_cons_succ, List.eraseIdx_cons_zero, List.eraseIdx_cons_succ] at hF)) | (refine w_appD rfl hF rfl rfl ?_; clear hF; intro vN wN hF; (try simp only [List.set_cons_zero, List.set_cons_succ, List.eraseIdx_cons_zero, List.eraseIdx_cons_succ] at hF)) | (refine w_ld1o rfl hF rfl ?_) | (refine w_st1o rfl hF rfl rfl ?_; clear hF; intro wN hF; (try simp only [List.set_cons_zero, List.set_cons_succ, List.eraseIdx_cons_zero, List.eraseIdx_cons_succ] at hF)) | (refine w_make0 rfl hF rfl rfl ?_; clear hF; intro gN wN hF) | (refine w_to rfl hF rfl rfl ?_; clear hF; intro hF) | (refine w_from rfl hF rfl rfl ?_; clear hF; intro hF)); (try simp only [Act.put, List.setIfInBounds_toArray, List.set_cons_zero, List.set_cons_succ, Nat.zero_add, Nat.zero_mul, Nat.reduceAdd])))
        go_ret
        exact ⟨val_bool (by rw [hyes.out]), hF.bel⟩
  · have hno : Hid (b = false) := by
      show b = false
      cases hbb : b
      · rfl
      · have h := Hb.out.1 hbb
        have := cont_len S
        rw [h, cont_len] at this
        omega
    have hni : ¬ ((n : Int) = (n2 : Int)) := by omega
    go_wp2_with (first | ((first | (refine w_box rfl hF rfl ?_; clear hF; intro gN wN hF) | (refine w_alloc rfl hF ?_; clear hF; intro gN wN hF) | (refine w_ld1 rfl hF rfl ?_) | (refine w_ld rfl hF rfl ?_) | (refine w_st1 rfl hF rfl rfl ?_; clear hF; intro wN hF; (try simp only [List.set_cons_zero, List.set_cons_succ, List.eraseIdx_cons_zero, List.eraseIdx_cons_succ] at hF)) | (refine w_st rfl hF rfl rfl ?_; clear hF; intro wN hF; (try simp only [List.set_cons_zero, List.set_cons_succ, List.eraseIdx_cons_zero, List.eraseIdx_cons_succ] at hF)) | (refine w_fldB rfl rfl ?_) | (refine w_fld rfl hF rfl ?_) | (refine w_ix rfl hF rfl rfl ?_) | (refine w_lde1 rfl hF rfl ?_) | (refine w_lde rfl hF rfl ?_) | (refine w_bs1 rfl hF rfl ?_; clear hF; intro gN wN hF) | (refine w_bs0 rfl hF ?_; clear hF; intro gN wN hF) | (refine w_app rfl hF rfl rfl ?_; clear hF; intro vN wN hF; (try simp only [List.set_cons_zero, List.set_cons_succ, List.eraseIdx_cons_zero, List.eraseIdx_cons_succ] at hF)) | (refine w_appD rfl hF rfl rfl ?_; clear hF; intro vN wN hF; (try simp only [List.set_cons_zero, List.set_cons_succ, List.eraseIdx_cons_zero, List.eraseIdx_cons_succ] at hF)) | (refine w_ld1o rfl hF rfl ?_) | (refine w_st1o rfl hF rfl rfl ?_; clear hF; intro wN hF; (try simp only [List.set_cons_zero, List.set_cons_succ, List.eraseIdx_cons_zero, List.eraseIdx_cons_succ] at hF)) | (refine w_make0 rfl hF rfl rfl ?_; clear hF; intro gN wN hF) | (refine w_to rfl hF rfl rfl ?_; clear hF; intro hF) | (refine w_from rfl hF rfl rfl ?_; clear hF; intro hF)); (try simp only [Act.put, List.setIfInBounds_toArray, List.set_cons_zero, List.set_cons_succ, Nat.zero_add, Nat.zero_mul, Nat.reduceAdd])))
    go_ret
    exact ⟨val_bool (by rw [hno.out]), hF.bel⟩
end Go.Proofs.Ytcahadkkjfijfaa

/- The document's Like: two caches. -/
set_option linter.unusedVariables false
set_option linter.unusedSimpArgs false
set_option maxRecDepth 100000
namespace Go.Proofs.Ytcahadkkjfijfaa
open Go.RowKit Go.Sort

set_option maxHeartbeats 4000000 in
/-- two caches of the same ways are like -/
theorem like_yes (ways : Int) (A A2 : Option Addr) (n c n2 c2 : Nat) (S S2 : List Cs) (w : World) (hr : RdS w w.heap.size A n c S) (hr2 : RdS w w.heap.size A2 n2 c2 S2) (hC : cont S = cont S2) :
    Calls Try.prog 26 #[.agg #[.int .i64 ways, .slice A n c], .agg #[.int .i64 ways, .slice A2 n2 c2]] w fun e w' => e = .returned (.bool true) ∧ Bel w w' := by
  have hF := St.start w [rowD 1 A n c (csv S), elemsD S, rowD 1 A2 n2 c2 (csv S2), elemsD S2] (by
    intro d hd
    rcases List.mem_cons.1 hd with rfl | hd
    · exact hr.rd
    · rcases List.mem_cons.1 hd with rfl | hd
      · exact hr.sets
      · exact cacheD_ok hr2 d hd)
  go_enter Try.func26, Try.ntmps26
  go_wp2_with (first | (go_at_call 38; refine (likeSets_any A A2 n c n2 c2 S S2 _ (rds_of (hF.dat _ (by ((repeat (first | exact List.Mem.head _ | refine List.Mem.tail _ ?_)) <;> exact List.Mem.head _))) (hF.dat _ (by ((repeat (first | exact List.Mem.head _ | refine List.Mem.tail _ ?_)) <;> exact List.Mem.head _)))) (rds_of (hF.dat _ (by ((repeat (first | exact List.Mem.head _ | refine List.Mem.tail _ ?_)) <;> exact List.Mem.head _))) (hF.dat _ (by ((repeat (first | exact List.Mem.head _ | refine List.Mem.tail _ ?_)) <;> exact List.Mem.head _)))) true ⟨fun _ => hC, fun _ => rfl⟩).mono ?_; rintro e wN ⟨rfl, hb⟩; replace hF := hF.grow hb; clear hb) | ((first | (refine w_box rfl hF rfl ?_; clear hF; intro gN wN hF) | (refine w_alloc rfl hF ?_; clear hF; intro gN wN hF) | (refine w_ld1 rfl hF rfl ?_) | (refine w_ld rfl hF rfl ?_) | (refine w_st1 rfl hF rfl rfl ?_; clear hF; intro wN hF; (try simp only [List.set_cons_zero, List.set_cons_succ, List.eraseIdx_cons_zero, List.eraseIdx_cons_succ] at hF)) | (refine w_st rfl hF rfl rfl ?_; clear hF; intro wN hF; (try simp only [List.set_cons_zero, List.set_cons_succ, List.eraseIdx_cons_zero, List.eraseIdx_cons_succ] at hF)) | (refine w_fldB rfl rfl ?_) | (refine w_fld rfl hF rfl ?_) | (refine w_ix rfl hF rfl rfl ?_) | (refine w_lde1 rfl hF rfl ?_) | (refine w_lde rfl hF rfl ?_) | (refine w_bs1 rfl hF rfl ?_; clear hF; intro gN wN hF) | (refine w_bs0 rfl hF ?_; clear hF; intro gN wN hF) | (refine w_app rfl hF rfl rfl ?_; clear hF; intro vN wN hF; (try simp only [List.set_cons_zero, List.set_cons_succ, List.eraseIdx_cons_zero, List.eraseIdx_cons_succ] at hF)) | (refine w_appD rfl hF rfl rfl ?_; clear hF; intro vN wN hF; (try simp only [List.set_cons_zero, List.set_cons_succ, List.eraseIdx_cons_zero, List.eraseIdx_cons_succ] at hF)) | (refine w_ld1o rfl hF rfl ?_) | (refine w_st1o rfl hF rfl rfl ?_; clear hF; intro wN hF; (try simp only [List.set_cons_zero, List.set_cons_succ, List.eraseIdx_cons_zero, List.eraseIdx_cons_succ] at hF)) | (refine w_make0 rfl hF rfl rfl ?_; clear hF; intro gN wN hF) | (refine w_to rfl hF rfl rfl ?_; clear hF; intro hF) | (refine w_from rfl hF rfl rfl ?_; clear hF; intro hF)); (try simp only [Act.put, List.setIfInBounds_toArray, List.set_cons_zero, List.set_cons_succ, Nat.zero_add, Nat.zero_mul, Nat.reduceAdd])))
  go_ret
  exact ⟨rfl, hF.bel⟩
end Go.Proofs.Ytcahadkkjfijfaa

/- Find, Touch, Put of a cache, of the program and of the document: one statement each, over all cases. -/
set_option linter.unusedVariables false
set_option linter.unusedSimpArgs false
set_option maxRecDepth 100000
namespace Go.Proofs.Ytcahadkkjfijfaa
open Go.RowKit Go.Sort

def COk (C : List (List Wy)) : Prop := ∀ ws ∈ C, ∀ v ∈ ws, v.line < 4294967296 ∧ v.data.size ≤ maxLen
theorem COk.of {S : List Cs} (h : SOk S) : COk (cont S) := fun ws hw v hv => by
  obtain ⟨s, hs, rfl⟩ := List.mem_map.1 hw
  exact h s hs v hv
theorem COk.sok {S : List Cs} (h : COk (cont S)) : SOk S := fun s hs v hv => h s.ws (List.mem_map.2 ⟨s, hs, rfl⟩) v hv
theorem COk.set {C : List (List Wy)} (h : COk C) (k : Nat) {ws : List Wy} (hw : ∀ v ∈ ws, v.line < 4294967296 ∧ v.data.size ≤ maxLen) : COk (C.set k ws) := fun us hu v hv => by
  rcases List.mem_or_eq_of_mem_set hu with hu | rfl
  · exact h us hu v hv
  · exact hw v hv
theorem COk.at_ {C : List (List Wy)} (h : COk C) {k : Nat} {ws : List Wy} (hw : C[k]? = some ws) : ∀ v ∈ ws, v.line < 4294967296 ∧ v.data.size ≤ maxLen := h ws (List.mem_of_getElem? hw)
theorem COk.few {C : List (List Wy)} (h : COk C) : COk (fewC C) := fun us hu v hv => by
  obtain ⟨ws, hw, rfl⟩ := List.mem_map.1 hu
  exact h ws (List.mem_of_mem_take hw) v (List.mem_of_mem_take hv)

/-- where a line stands in a set -/
def Spot (ws : List Wy) (l i : Nat) (b : Bool) : Prop :=
  (b = true ∧ ∃ v, At ws l i v ∧ ∀ j < i, ∀ u, ws[j]? = some u → u.line ≠ l) ∨ (b = false ∧ i = 0 ∧ NotIn ws l)
theorem spot_ex (ws : List Wy) (l : Nat) : ∃ i b, Spot ws l i b := by
  rcases first_at ws l with h | ⟨i, v, h1, h2⟩
  · exact ⟨0, false, .inr ⟨rfl, rfl, h⟩⟩
  · exact ⟨i, true, .inl ⟨rfl, v, h1, h2⟩⟩
/-- what Find says of a cache -/
inductive FindR (ways : Int) (C : List (List Wy)) (x k i : Nat) (b : Bool) : Prop
  | no (h : ¬ RightP ways C) (hk : k = 0) (hi : i = 0) (hb : b = false)
  | yes (h : RightP ways C) (hk : x / 16 % C.length = k) (ws : List Wy) (hw : C[k]? = some ws) (hs : Spot ws (x - x % 16) i b)
theorem RightP.set_at {ways : Int} {C : List (List Wy)} (h : RightP ways C) (x : Nat) : ∃ ws, C[x / 16 % C.length]? = some ws :=
  ⟨_, List.getElem?_eq_getElem (Nat.mod_lt _ (by rcases h.hn with h | h | h <;> omega))⟩
theorem find_ex (ways : Int) (C : List (List Wy)) (x : Nat) : ∃ k i b, FindR ways C x k i b := by
  by_cases h : RightP ways C
  · obtain ⟨ws, hw⟩ := h.set_at x
    obtain ⟨i, b, hs⟩ := spot_ex ws (x - x % 16)
    exact ⟨_, i, b, .yes h rfl ws hw hs⟩
  · exact ⟨0, 0, false, .no h rfl rfl rfl⟩
theorem FindR.line {ways : Int} {C : List (List Wy)} {x k i : Nat} {b : Bool} (h : FindR ways C x k i b) : FindR ways C (x - x % 16) k i b := by
  cases h with
  | no h hk hi hb => exact .no h hk hi hb
  | yes h hk ws hw hs => exact .yes h (by rw [← hk]; congr 1; omega) ws hw (by rwa [show x - x % 16 - (x - x % 16) % 16 = x - x % 16 by omega])
/-- a line that is there: its set and its way -/
theorem FindR.at_ {ways : Int} {C : List (List Wy)} {x k i : Nat} (h : FindR ways C x k i true) : RightP ways C ∧ x / 16 % C.length = k ∧ ∃ ws v, C[k]? = some ws ∧ ws[i]? = some v ∧ v.line = x - x % 16 ∧ (ws.length : Int) ≤ ways := by
  cases h with
  | no h hk hi hb => cases hb
  | yes h hk ws hw hs =>
    rcases hs with ⟨_, v, ha, _⟩ | ⟨hb, _⟩
    · exact ⟨h, hk, ws, v, hw, ha.is, ha.line, (h.hs k ws hw).1⟩
    · cases hb
theorem FindR.lone {ways : Int} {C : List (List Wy)} {x k i : Nat} (h : FindR ways C x k i true) {ws : List Wy} (hw : C[k]? = some ws) : Lone ws := (h.at_.1.hs k ws hw).lone

/-- what Touch makes of a cache -/
inductive TouchR (ways : Int) (C : List (List Wy)) (x : Nat) (C' : List (List Wy)) : Prop
  | no (k i : Nat) (h : FindR ways C x k i false) (he : C' = C)
  | yes (k i : Nat) (h : FindR ways C x k i true) (ws : List Wy) (v : Wy) (hw : C[k]? = some ws) (hv : ws[i]? = some v) (he : C' = C.set k (frontL ws i v))
theorem touch_ex (ways : Int) (C : List (List Wy)) (x : Nat) : ∃ C', TouchR ways C x C' := by
  obtain ⟨k, i, b, h⟩ := find_ex ways C x
  cases b
  · exact ⟨_, .no k i h rfl⟩
  · obtain ⟨_, _, ws, v, hw, hv, _⟩ := h.at_
    exact ⟨_, .yes k i h ws v hw hv rfl⟩
/-- what Put makes of a cache, and what had to go -/
inductive PutR (ways : Int) (C : List (List Wy)) (x : Nat) (data : ByteArray) (dirty : Bool) (C' : List (List Wy)) (gone : Wy) (went : Bool) : Prop
  | no (h : ¬ RightP ways C) (he : C' = C) (hg : gone = ⟨0, false, ⟨#[]⟩⟩) (hb : went = false)
  | hit (k i : Nat) (h : FindR ways C x k i true) (ws : List Wy) (v : Wy) (hw : C[k]? = some ws) (hv : ws[i]? = some v)
      (he : C' = C.set k (frontL ws i ⟨v.line, v.dirty || dirty, if data.size = 16 then data else v.data⟩)) (hg : gone = ⟨0, false, ⟨#[]⟩⟩) (hb : went = false)
  | room (k i : Nat) (hR : RightP ways C) (h : FindR ways C x k i false) (ws : List Wy) (hw : C[k]? = some ws) (hl : (ws.length : Int) < ways)
      (he : C' = C.set k (⟨x - x % 16, dirty, trimD data⟩ :: ws)) (hg : gone = ⟨0, false, ⟨#[]⟩⟩) (hb : went = false)
  | full (k i : Nat) (hR : RightP ways C) (h : FindR ways C x k i false) (ws : List Wy) (hw : C[k]? = some ws) (hl : (ws.length : Int) = ways) (l : Nat) (hl1 : ws.length = l + 1) (hgv : ws[l]? = some gone)
      (he : C' = C.set k (⟨x - x % 16, dirty, trimD data⟩ :: ws.take l)) (hb : went = true)
theorem FindR.set_ {ways : Int} {C : List (List Wy)} {x k i : Nat} {b : Bool} (h : FindR ways C x k i b) (hR : RightP ways C) : x / 16 % C.length = k ∧ ∃ ws, C[k]? = some ws ∧ (ws.length : Int) ≤ ways ∧ Spot ws (x - x % 16) i b := by
  cases h with
  | no h hk hi hb => exact absurd hR h
  | yes h hk ws hw hs => exact ⟨hk, ws, hw, (h.hs k ws hw).1, hs⟩
theorem put_ex (ways : Int) (C : List (List Wy)) (x : Nat) (data : ByteArray) (dirty : Bool) : ∃ C' gone went, PutR ways C x data dirty C' gone went := by
  by_cases hR : RightP ways C
  · obtain ⟨k, i, b, h⟩ := find_ex ways C x
    cases b
    · obtain ⟨hk, ws, hw, hl, _⟩ := h.set_ hR
      by_cases hf : (ws.length : Int) < ways
      · exact ⟨_, _, _, .room k i hR h ws hw hf rfl rfl rfl⟩
      · have hw' := hR.hw
        obtain ⟨l, hl1⟩ : ∃ l, ws.length = l + 1 := ⟨ws.length - 1, by omega⟩
        exact ⟨_, _, _, .full k i hR h ws hw (by omega) l hl1 (List.getElem?_eq_getElem (by omega)) rfl rfl⟩
    · obtain ⟨_, _, ws, v, hw, hv, _⟩ := h.at_
      exact ⟨_, _, _, .hit k i h ws v hw hv rfl rfl rfl⟩
  · exact ⟨_, _, _, .no hR rfl rfl rfl⟩

section
variable {ways : Int} {A : Option Addr} {n c x : Nat} {S : List Cs}
theorem CRes.same {w w' : World} {D0 : List Da} {A : Option Addr} {n c : Nat} {S : List Cs} (hr : RdS w w.heap.size A n c S) (hb : Bel w w') (h1 : rowD 1 A n c (csv S) ∈ D0) (h2 : elemsD S ∈ D0) : CRes w D0 ways (.agg #[.int .i64 ways, .slice A n c]) w' (cont S) :=
  ⟨A, n, c, S, rfl, ⟨hb, cacheD_ok (hr.bel hb), fun d hd => by
    rcases List.mem_cons.1 hd with rfl | hd
    · exact From.self h1
    · obtain rfl := List.mem_singleton.1 hd
      exact From.self h2⟩, rfl⟩
theorem CRes.sameC {w w' : World} {A : Option Addr} {n c : Nat} {S : List Cs} (hr : RdS w w.heap.size A n c S) (hb : Bel w w') : CRes w (cacheD A n c S) ways (.agg #[.int .i64 ways, .slice A n c]) w' (cont S) :=
  CRes.same hr hb (List.Mem.head _) (List.Mem.tail _ (List.Mem.head _))
theorem clen {W : World} (h : RdS W W.heap.size A n c S) : (cont S).length = n := by rw [cont_len]; exact h.slen
theorem Find_all (hx : x < 4294967296) (ho : SOk S) {k i : Nat} {b : Bool} (h : FindR ways (cont S) x k i b) : FindC 33 ways A n c x S k i b := fun W hr => by
  cases h with
  | no h hk hi hb => subst hk hi hb; exact Find_no ways A n c S x W hr ho h
  | yes h hk ws hw hs => rw [clen hr] at hk; exact Find_any ways A n c S x W hr ho hx h k hk ws hw i b hs
theorem refFind_all (hx : x < 4294967296) (ho : SOk S) {k i : Nat} {b : Bool} (h : FindR ways (cont S) x k i b) : FindC 34 ways A n c x S k i b := fun W hr => by
  cases h with
  | no h hk hi hb => subst hk hi hb; exact refFind_no ways A n c S x W hr ho h
  | yes h hk ws hw hs => rw [clen hr] at hk; exact refFind_any ways A n c S x W hr ho hx h k hk ws hw i b hs
theorem Right_all (ho : SOk S) {b : Bool} (hb : b = true ↔ RightP ways (cont S)) : RightC 35 ways A n c S b := fun W hr => Right_any ways A n c S W hr ho b hb
theorem refRight_all (ho : SOk S) {b : Bool} (hb : b = true ↔ RightP ways (cont S)) : RightC 22 ways A n c S b := fun W hr => refRight_any ways A n c S W hr ho b hb
theorem yesR {p : Prop} (h : p) : true = true ↔ p := ⟨fun _ => h, fun _ => rfl⟩
theorem noR {p : Prop} (h : ¬ p) : false = true ↔ p := ⟨fun e => (by cases e), fun e => absurd e h⟩
theorem Get_all (hx : x < 4294967296) (ho : SOk S) {k i : Nat} (h : FindR ways (cont S) x k i true) {ws : List Wy} {v : Wy} (hw : (cont S)[k]? = some ws) (hv : ws[i]? = some v) : GetC ways A n c x S v := fun W hr =>
  refGet_any ways A n c S x k i ws v W hr (by have := (List.getElem?_eq_some_iff.1 hw).1; rwa [clen hr] at this) hw hv (Lib.hid fun W' hb => refFind_all hx ho h W' (hr.bel hb))
theorem First_all (hR : RightP ways (cont S)) {v : Wy} {k : Nat} {ws : List Wy} (hl : v.line < 4294967296) (hk : v.line / 16 % (cont S).length = k) (hw : (cont S)[k]? = some ws) (hws : ws.length ≤ 1000) : FirstC ways A n c S v ((cont S).set k (firstL ws v)) := fun W hr =>
  refFirst_st ways A n c S v k ws W hr (by have := hR.hn; rwa [clen hr] at this) hl (by rwa [clen hr] at hk) hw hws
theorem ways_le {ways : Int} {C : List (List Wy)} (h : RightP ways C) {ws : List Wy} (hl : (ws.length : Int) ≤ ways) : ws.length ≤ 2 := by have := h.hw; omega
theorem n_le {W : World} (hr : RdS W W.heap.size A n c S) (h : RightP ways (cont S)) : n ≤ 1000 := by have := h.hn; rw [clen hr] at this; omega
theorem k_lt {W : World} (hr : RdS W W.heap.size A n c S) {k : Nat} {ws : List Wy} (hw : (cont S)[k]? = some ws) : k < n := by have := (List.getElem?_eq_some_iff.1 hw).1; rwa [clen hr] at this

theorem Touch_all {C' : List (List Wy)} (hx : x < 4294967296) (ho : SOk S) (h : TouchR ways (cont S) x C') (w : World) (hr : RdS w w.heap.size A n c S) :
    Calls Try.prog 31 #[.agg #[.int .i64 ways, .slice A n c], .int .u32 (x : Int)] w fun e w' => ∃ y, e = .returned y ∧ CRes w (cacheD A n c S) ways y w' C' := by
  cases h with
  | no k i h he =>
    subst he
    refine (Touch_no ways A n c x S k i w hr (Lib.hid (Find_all hx ho h))).mono ?_
    rintro e w' ⟨rfl, hb⟩
    exact ⟨_, rfl, CRes.sameC hr hb⟩
  | yes k i h ws v hw hv he =>
    subst he
    obtain ⟨hR, _, ws', v', hw', _, _, hl⟩ := h.at_
    rw [hw] at hw'; injection hw' with hw'; subst hw'
    exact Touch_st ways A n c x S k i ws v w hr (n_le hr hR) (k_lt hr hw) hw (by have := ways_le hR hl; omega) hv (Lib.hid (Find_all hx ho h))
theorem refTouch_all {C' : List (List Wy)} (hx : x < 4294967296) (ho : SOk S) (h : TouchR ways (cont S) x C') (w : World) (hr : RdS w w.heap.size A n c S) :
    Calls Try.prog 32 #[.agg #[.int .i64 ways, .slice A n c], .int .u32 (x : Int)] w fun e w' => ∃ y, e = .returned y ∧ CRes w (cacheD A n c S) ways y w' C' := by
  cases h with
  | no k i h he =>
    subst he
    refine (refTouch_same ways A n c x S k i w hr (Lib.hid (refFind_all hx ho h))).mono ?_
    rintro e w' ⟨rfl, hb⟩
    exact ⟨_, rfl, CRes.sameC hr hb⟩
  | yes k i h ws v hw hv he =>
    subst he
    obtain ⟨hR, hk, ws', v', hw', hv', hvl, hl⟩ := h.at_
    rw [hw] at hw'; injection hw' with hw'; subst hw'
    rw [hv] at hv'; injection hv' with hv'; subst hv'
    rw [← firstL_lone (h.lone hw) ⟨hv, hvl⟩ hvl]
    exact refTouch_yes ways A n c x S k i v _ w hr (Lib.hid (refFind_all hx ho h)) (Lib.hid (Get_all hx ho h hw hv))
      (Lib.hid (First_all hR (by omega) (by rw [hvl, ← hk]; congr 1; omega) hw (by have := ways_le hR hl; omega)))
theorem Put_all {data : ByteArray} {dirty : Bool} {C' : List (List Wy)} {gone : Wy} {went : Bool} (hx : x < 4294967296) (ho : SOk S) (h : PutR ways (cont S) x data dirty C' gone went) (w : World) (hr : RdS w w.heap.size A n c S) :
    Calls Try.prog 28 #[.agg #[.int .i64 ways, .slice A n c], .int .u32 (x : Int), .string data, .bool dirty] w fun e w' => ∃ y, e = .returned (.tuple #[y, gone.val, .bool went]) ∧ CRes w (cacheD A n c S) ways y w' C' := by
  cases h with
  | no h he hg hb =>
    subst he hg hb
    refine (Put_no ways A n c x data dirty S w hr (Lib.hid (Right_all ho (noR h)))).mono ?_
    rintro e w' ⟨rfl, hb⟩
    exact ⟨_, rfl, CRes.sameC hr hb⟩
  | hit k i h ws v hw hv he hg hb =>
    subst he hg hb
    obtain ⟨hR, hk, ws', v', hw', hv', hvl, hl⟩ := h.at_
    rw [hw] at hw'; injection hw' with hw'; subst hw'
    exact Put_hit ways A n c x data dirty S k i ws v w hr (n_le hr hR) (k_lt hr hw) hw (by have := ways_le hR hl; omega) hv (Lib.hid (Right_all ho (yesR hR))) (Lib.hid (Find_all hx ho h))
  | room k i hR h ws hw hl he hg hb =>
    subst he hg hb
    exact Put_room ways A n c x data dirty S k i ws w hr hx (n_le hr hR) (k_lt hr hw) hw (by have := ways_le hR (by omega : (ws.length : Int) ≤ ways); omega) (by omega) (Lib.hid (Right_all ho (yesR hR))) (Lib.hid (Find_all hx ho h))
  | full k i hR h ws hw hl l hl1 hgv he hb =>
    subst he hb
    exact Put_full ways A n c x data dirty S k i ws w hr hx (n_le hr hR) (k_lt hr hw) hw (by have := ways_le hR (by omega : (ws.length : Int) ≤ ways); omega) hl l hl1 gone hgv (Lib.hid (Right_all ho (yesR hR))) (Lib.hid (Find_all hx ho h))
theorem notIn_take {ws : List Wy} {l k : Nat} (h : NotIn ws l) : NotIn (ws.take k) l := fun v hv => h v (List.mem_of_mem_take hv)
theorem refPut_all {data : ByteArray} {dirty : Bool} {C' : List (List Wy)} {gone : Wy} {went : Bool} (hx : x < 4294967296) (ho : SOk S) (h : PutR ways (cont S) x data dirty C' gone went) (w : World) (hr : RdS w w.heap.size A n c S) :
    Calls Try.prog 29 #[.agg #[.int .i64 ways, .slice A n c], .int .u32 (x : Int), .string data, .bool dirty] w fun e w' => ∃ y, e = .returned (.tuple #[y, gone.val, .bool went]) ∧ CRes w (cacheD A n c S) ways y w' C' := by
  have hxl : x - x % 16 < 4294967296 := by omega
  cases h with
  | no h he hg hb =>
    subst he hg hb
    refine (refPut_no ways A n c x data dirty S w hr (Lib.hid (refRight_all ho (noR h)))).mono ?_
    rintro e w' ⟨rfl, hb⟩
    exact ⟨_, rfl, CRes.sameC hr hb⟩
  | hit k i h ws v hw hv he hg hb =>
    subst he hg hb
    obtain ⟨hR, hk, ws', v', hw', hv', hvl, hl⟩ := h.at_
    rw [hw] at hw'; injection hw' with hw'; subst hw'
    rw [hv] at hv'; injection hv' with hv'; subst hv'
    rw [← firstL_lone (v := ⟨v.line, v.dirty || dirty, if data.size = 16 then data else v.data⟩) (h.lone hw) ⟨hv, rfl⟩ rfl]
    exact refPut_hit ways A n c x data dirty S k i v _ w hr hx (Lib.hid (refRight_all ho (yesR hR))) (Lib.hid (refFind_all hxl ho h.line)) (Lib.hid (Get_all hxl ho h.line hw hv))
      (Lib.hid (First_all hR (show v.line < 4294967296 by omega) (by rw [← hk]; show v.line / 16 % _ = _; rw [hvl]; congr 1; omega) hw (by have := ways_le hR hl; omega)))
  | room k i hR h ws hw hl he hg hb =>
    subst he hg hb
    obtain ⟨hk, ws', hw', _, hs⟩ := h.set_ hR
    rw [hw] at hw'; injection hw' with hw'; subst hw'
    have hni : NotIn ws (x - x % 16) := by
      rcases hs with ⟨hb, _⟩ | ⟨_, _, h⟩
      · cases hb
      · exact h
    rw [← firstL_new (v := ⟨x - x % 16, dirty, trimD data⟩) hni]
    exact refPut_room ways A n c x data dirty S k i ws _ w hr hx (k_lt hr hw) hw hl (Lib.hid (refRight_all ho (yesR hR))) (Lib.hid (refFind_all hxl ho h.line))
      (Lib.hid (First_all hR hxl (by rw [← hk]; show (x - x % 16) / 16 % _ = _; congr 1; omega) hw (by have := ways_le hR (by omega : (ws.length : Int) ≤ ways); omega)))
  | full k i hR h ws hw hl l hl1 hgv he hb =>
    subst he hb
    obtain ⟨hk, ws', hw', _, hs⟩ := h.set_ hR
    rw [hw] at hw'; injection hw' with hw'; subst hw'
    have hni : NotIn (ws.take l) (x - x % 16) := by
      rcases hs with ⟨hb, _⟩ | ⟨_, _, h⟩
      · cases hb
      · exact notIn_take h
    have hkl := (List.getElem?_eq_some_iff.1 hw).1
    rw [← firstL_new (v := ⟨x - x % 16, dirty, trimD data⟩) hni]
    refine refPut_full ways A n c x data dirty S k i ws _ w hr hx (n_le hr hR) (k_lt hr hw) hw hl l hl1 gone hgv (Lib.hid (refRight_all ho (yesR hR))) (Lib.hid (refFind_all hxl ho h.line))
      (Lib.hid fun A1 c1 S1 hS1 W hr1 => ?_)
    have hlen : (cont S1).length = (cont S).length := by rw [hS1, List.length_set]
    have e : (cont S).set k (firstL (ws.take l) ⟨x - x % 16, dirty, trimD data⟩) = (cont S1).set k (firstL (ws.take l) ⟨x - x % 16, dirty, trimD data⟩) := by rw [hS1, List.set_set]
    rw [e]
    exact refFirst_st ways A1 n c1 S1 ⟨x - x % 16, dirty, trimD data⟩ k (ws.take l) W hr1 (by have := hR.hn; rwa [clen hr] at this) hxl (by rw [← clen hr, ← hk]; show (x - x % 16) / 16 % _ = _; congr 1; omega)
      (by rw [hS1]; exact List.getElem?_set_self hkl) (by rw [List.length_take]; have := ways_le hR (by omega : (ws.length : Int) ≤ ways); omega)
end
end Go.Proofs.Ytcahadkkjfijfaa

/- Caches in plain Lean: what may be still may be behind Touch and Put; what stands where. -/
set_option linter.unusedVariables false
set_option linter.unusedSimpArgs false
namespace Go.Proofs.Ytcahadkkjfijfaa

def Way1 (n k : Nat) (v : Wy) : Prop := v.line % 16 = 0 ∧ v.line / 16 % n = k ∧ (v.data.size = 0 ∨ v.data.size = 16)
theorem setOk_iff {n : Nat} {ways : Int} {k : Nat} {ws : List Wy} : SetOk n ways k ws ↔ (ws.length : Int) ≤ ways ∧ (∀ v ∈ ws, Way1 n k v) ∧ (ws.map Wy.line).Nodup := by
  constructor
  · rintro ⟨h1, h2⟩
    refine ⟨h1, fun v hv => ?_, ?_⟩
    · obtain ⟨i, hi⟩ := List.mem_iff_getElem?.1 hv
      obtain ⟨a, b, c, _⟩ := h2 i v hi
      exact ⟨a, b, c⟩
    · rw [List.nodup_iff_pairwise_ne, List.pairwise_map, List.pairwise_iff_getElem]
      intro i j hi hj hij
      exact (h2 j _ (List.getElem?_eq_getElem hj)).2.2.2 i hij _ (List.getElem?_eq_getElem hi)
  · rintro ⟨h1, h2, h3⟩
    refine ⟨h1, fun i v hv => ?_⟩
    obtain ⟨a, b, c⟩ := h2 v (List.mem_of_getElem? hv)
    refine ⟨a, b, c, fun j hj u hu => ?_⟩
    rw [List.nodup_iff_pairwise_ne, List.pairwise_map, List.pairwise_iff_getElem] at h3
    obtain ⟨hi, e1⟩ := List.getElem?_eq_some_iff.1 hv
    obtain ⟨hj', e2⟩ := List.getElem?_eq_some_iff.1 hu
    have := h3 j i hj' hi hj
    rwa [e1, e2] at this
theorem split_at {ws : List Wy} {i : Nat} {v : Wy} (h : ws[i]? = some v) : ws = ws.take i ++ v :: ws.drop (i + 1) := by
  obtain ⟨hl, e⟩ := List.getElem?_eq_some_iff.1 h
  conv => lhs; rw [← List.take_append_drop i ws, List.drop_eq_getElem_cons hl, e]
theorem frontL_ok {n : Nat} {ways : Int} {k : Nat} {ws : List Wy} (h : SetOk n ways k ws) {i : Nat} {v u : Wy} (hv : ws[i]? = some v) (hl : u.line = v.line) (hd : u.data.size = 0 ∨ u.data.size = 16) : SetOk n ways k (frontL ws i u) := by
  rw [setOk_iff] at h ⊢
  obtain ⟨h1, h2, h3⟩ := h
  have e := split_at hv
  have hp : (ws.map Wy.line).Perm ((frontL ws i u).map Wy.line) := by
    conv => lhs; rw [e]
    simp only [frontL, List.map_cons, List.map_append, hl]
    exact List.perm_middle
  refine ⟨?_, fun x hx => ?_, hp.nodup_iff.1 h3⟩
  · have := hp.length_eq
    rw [List.length_map, List.length_map] at this
    omega
  · rcases List.mem_cons.1 hx with rfl | hx
    · obtain ⟨a, b, _⟩ := h2 v (List.mem_of_getElem? hv)
      exact ⟨by rw [hl]; exact a, by rw [hl]; exact b, hd⟩
    · refine h2 x ?_
      rcases List.mem_append.1 hx with h | h
      · exact List.mem_of_mem_take h
      · exact List.mem_of_mem_drop h
theorem cons_ok {n : Nat} {ways : Int} {k : Nat} {ws : List Wy} (h : SetOk n ways k ws) (hlen : (ws.length : Int) + 1 ≤ ways) {u : Wy} (hu : Way1 n k u) (hn : NotIn ws u.line) : SetOk n ways k (u :: ws) := by
  rw [setOk_iff] at h ⊢
  obtain ⟨h1, h2, h3⟩ := h
  refine ⟨by rw [List.length_cons]; omega, fun x hx => ?_, ?_⟩
  · rcases List.mem_cons.1 hx with rfl | hx
    · exact hu
    · exact h2 x hx
  · rw [List.map_cons, List.nodup_cons]
    refine ⟨fun hm => ?_, h3⟩
    obtain ⟨v, hv, e⟩ := List.mem_map.1 hm
    exact hn v hv e
theorem take_ok {n : Nat} {ways : Int} {k : Nat} {ws : List Wy} (h : SetOk n ways k ws) (l : Nat) : SetOk n ways k (ws.take l) := by
  refine ⟨by have := h.1; rw [List.length_take]; omega, fun i v hv => ?_⟩
  have hi : i < l := by
    have := (List.getElem?_eq_some_iff.1 hv).1
    rw [List.length_take] at this; omega
  rw [List.getElem?_take_of_lt hi] at hv
  obtain ⟨a, b, c, d⟩ := h.2 i v hv
  exact ⟨a, b, c, fun j hj u hu => d j hj u (by rwa [List.getElem?_take_of_lt (by omega)] at hu)⟩
theorem RightP.set_ {ways : Int} {C : List (List Wy)} (h : RightP ways C) {k : Nat} {ws : List Wy} (hw : SetOk C.length ways k ws) : RightP ways (C.set k ws) := by
  refine ⟨by rw [List.length_set]; exact h.hn, h.hw, fun j s hs => ?_⟩
  rw [List.length_set]
  by_cases hj : k = j
  · subst hj
    have hl : k < C.length := by have := (List.getElem?_eq_some_iff.1 hs).1; rwa [List.length_set] at this
    rw [List.getElem?_set_self hl] at hs
    injection hs with hs
    rw [← hs]; exact hw
  · rw [List.getElem?_set_ne hj] at hs
    exact h.hs j s hs
theorem trimD_size (d : ByteArray) : (trimD d).size = 0 ∨ (trimD d).size = 16 := by
  unfold trimD
  split
  · exact .inr (by assumption)
  · exact .inl rfl
theorem new_way {ways : Int} {C : List (List Wy)} {x k i : Nat} {b : Bool} (h : FindR ways C x k i b) (hR : RightP ways C) (d : Bool) (D : ByteArray) (hD : D.size = 0 ∨ D.size = 16) : Way1 C.length k ⟨x - x % 16, d, D⟩ :=
  ⟨by show (x - x % 16) % 16 = 0; omega, by rw [← (h.set_ hR).1]; show (x - x % 16) / 16 % _ = _; congr 1; omega, hD⟩
theorem FindR.notIn {ways : Int} {C : List (List Wy)} {x k i : Nat} (h : FindR ways C x k i false) (hR : RightP ways C) {ws : List Wy} (hw : C[k]? = some ws) : NotIn ws (x - x % 16) := by
  obtain ⟨_, ws', hw', _, hs⟩ := h.set_ hR
  rw [hw] at hw'; injection hw' with hw'; subst hw'
  rcases hs with ⟨hb, _⟩ | ⟨_, _, h⟩
  · cases hb
  · exact h
theorem FindR.size {ways : Int} {C : List (List Wy)} {x k i : Nat} (h : FindR ways C x k i true) {ws : List Wy} {v : Wy} (hw : C[k]? = some ws) (hv : ws[i]? = some v) : v.data.size = 0 ∨ v.data.size = 16 := ((h.at_.1.hs k ws hw).2 i v hv).2.2.1
theorem TouchR.right {ways : Int} {C C' : List (List Wy)} {x : Nat} (h : TouchR ways C x C') (hR : RightP ways C) : RightP ways C' := by
  cases h with
  | no k i h he => subst he; exact hR
  | yes k i h ws v hw hv he =>
    subst he
    exact hR.set_ (frontL_ok (hR.hs k ws hw) hv rfl (h.size hw hv))
theorem PutR.right {ways : Int} {C C' : List (List Wy)} {x : Nat} {data : ByteArray} {dirty : Bool} {gone : Wy} {went : Bool} (h : PutR ways C x data dirty C' gone went) (hR : RightP ways C) : RightP ways C' := by
  cases h with
  | no h he hg hb => subst he; exact hR
  | hit k i h ws v hw hv he hg hb =>
    subst he
    refine hR.set_ (frontL_ok (hR.hs k ws hw) hv rfl ?_)
    dsimp only
    split
    · exact .inr (by assumption)
    · exact h.size hw hv
  | room k i _ h ws hw hl he hg hb =>
    subst he
    exact hR.set_ (cons_ok (hR.hs k ws hw) (by omega) (new_way h hR dirty _ (trimD_size data)) (h.notIn hR hw))
  | full k i _ h ws hw hl l hl1 hgv he hb =>
    subst he
    exact hR.set_ (cons_ok (take_ok (hR.hs k ws hw) l) (by rw [List.length_take]; omega) (new_way h hR dirty _ (trimD_size data)) (notIn_take (h.notIn hR hw)))
/-- a line that stands first in its set is found there -/
theorem find_first {ways : Int} {C : List (List Wy)} (hR : RightP ways C) {x k : Nat} {v : Wy} {r : List Wy} (hk : x / 16 % C.length = k) (hw : C[k]? = some (v :: r)) (hv : v.line = x - x % 16) : FindR ways C x k 0 true :=
  .yes hR hk _ hw (.inl ⟨rfl, v, ⟨rfl, hv⟩, fun j hj => absurd hj (by omega)⟩)
theorem set_first {ways : Int} {C : List (List Wy)} {x k : Nat} {v : Wy} {r ws : List Wy} (hR : RightP ways (C.set k (v :: r))) (hk : x / 16 % C.length = k) (hw : C[k]? = some ws) (hv : v.line = x - x % 16) : FindR ways (C.set k (v :: r)) x k 0 true :=
  find_first hR (by rw [List.length_set]; exact hk) (List.getElem?_set_self (List.getElem?_eq_some_iff.1 hw).1) hv
theorem Spot.det {ws : List Wy} {l i j : Nat} {b c : Bool} (h : Spot ws l i b) (g : Spot ws l j c) : i = j ∧ b = c := by
  rcases h with ⟨hb, v, hv, hf⟩ | ⟨hb, hi, hn⟩
  · rcases g with ⟨hc, u, hu, hg⟩ | ⟨hc, hj, hm⟩
    · refine ⟨?_, by rw [hb, hc]⟩
      rcases Nat.lt_trichotomy i j with hl | hl | hl
      · exact absurd hv.line (hg i hl v hv.is)
      · exact hl
      · exact absurd hu.line (hf j hl u hu.is)
    · exact absurd hv.line (hm v (List.mem_of_getElem? hv.is))
  · rcases g with ⟨hc, u, hu, hg⟩ | ⟨hc, hj, hm⟩
    · exact absurd hu.line (hn u (List.mem_of_getElem? hu.is))
    · exact ⟨by rw [hi, hj], by rw [hb, hc]⟩
theorem FindR.det {ways : Int} {C : List (List Wy)} {x k k' i i' : Nat} {b b' : Bool} (h : FindR ways C x k i b) (g : FindR ways C x k' i' b') : k = k' ∧ i = i' ∧ b = b' := by
  cases h with
  | no h hk hi hb =>
    cases g with
    | no g hk' hi' hb' => exact ⟨by rw [hk, hk'], by rw [hi, hi'], by rw [hb, hb']⟩
    | yes g => exact absurd g h
  | yes h hk ws hw hs =>
    cases g with
    | no g => exact absurd h g
    | yes g hk' ws' hw' hs' =>
      obtain rfl : k = k' := by rw [← hk, ← hk']
      rw [hw] at hw'; injection hw' with hw'; subst hw'
      obtain ⟨rfl, rfl⟩ := hs.det hs'
      exact ⟨rfl, rfl, rfl⟩
/-- where the line stands first, touching changes nothing -/
theorem TouchR.first {ways : Int} {C C' : List (List Wy)} {x k : Nat} (h : TouchR ways C x C') (hf : FindR ways C x k 0 true) : C' = C := by
  cases h with
  | no k' i' h he => exact he
  | yes k' i' h ws v hw hv he =>
    obtain ⟨rfl, rfl, _⟩ := hf.det h
    cases ws with
    | nil => simp at hv
    | cons u r =>
      simp only [List.getElem?_cons_zero, Option.some.injEq] at hv
      subst hv
      rw [he]
      obtain ⟨hl, e⟩ := List.getElem?_eq_some_iff.1 hw
      simp only [frontL, List.take_zero, List.nil_append, Nat.zero_add, List.drop_succ_cons, List.drop_zero]
      rw [← e, List.set_getElem_self]
/-- behind Put the line stands first -/
theorem PutR.first {ways : Int} {C C' : List (List Wy)} {x : Nat} {data : ByteArray} {dirty : Bool} {gone : Wy} {went : Bool} (h : PutR ways C x data dirty C' gone went) (hR : RightP ways C) : ∃ k, FindR ways C' x k 0 true := by
  have hR' := h.right hR
  cases h with
  | no h he hg hb => exact absurd hR h
  | hit k i h ws v hw hv he hg hb =>
    subst he
    obtain ⟨_, hk, ws', v', hw', hv', hvl, _⟩ := h.at_
    rw [hw] at hw'; injection hw' with hw'; subst hw'
    rw [hv] at hv'; injection hv' with hv'; subst hv'
    exact ⟨k, set_first hR' hk hw hvl⟩
  | room k i _ h ws hw hl he hg hb => subst he; exact ⟨k, set_first hR' (h.set_ hR).1 hw rfl⟩
  | full k i _ h ws hw hl l hl1 hgv he hb => subst he; exact ⟨k, set_first hR' (h.set_ hR).1 hw rfl⟩
/-- behind Touch it stands first, if it was there, else nowhere -/
theorem TouchR.find {ways : Int} {C C' : List (List Wy)} {x k i : Nat} {b : Bool} (h : TouchR ways C x C') (hR : RightP ways C) (hf : FindR ways C x k i b) : (b = true ∧ FindR ways C' x k 0 true) ∨ (b = false ∧ C' = C) := by
  have hR' := h.right hR
  cases h with
  | no k' i' h he => obtain ⟨_, _, rfl⟩ := hf.det h; exact .inr ⟨rfl, he⟩
  | yes k' i' h ws v hw hv he =>
    obtain ⟨rfl, rfl, rfl⟩ := hf.det h
    subst he
    obtain ⟨_, hk, ws', v', hw', hv', hvl, _⟩ := h.at_
    rw [hw] at hw'; injection hw' with hw'; subst hw'
    rw [hv] at hv'; injection hv' with hv'; subst hv'
    exact .inl ⟨rfl, set_first hR' hk hw hvl⟩
theorem TouchR.twice {ways : Int} {C C' C'' : List (List Wy)} {x : Nat} (h : TouchR ways C x C') (hR : RightP ways C) (g : TouchR ways C' x C'') : C'' = C' := by
  obtain ⟨k, i, b, hf⟩ := find_ex ways C x
  rcases h.find hR hf with ⟨_, h1⟩ | ⟨rfl, rfl⟩
  · exact g.first h1
  · cases g with
    | no k' i' g he => exact he
    | yes k' i' g ws v hw hv he => obtain ⟨_, _, e⟩ := hf.det g; cases e
/-- what lies in memory stays so -/
theorem TouchR.cok {ways : Int} {C C' : List (List Wy)} {x : Nat} (h : TouchR ways C x C') (ho : COk C) : COk C' := by
  cases h with
  | no k i h he => subst he; exact ho
  | yes k i h ws v hw hv he =>
    subst he
    have := ho.at_ hw
    refine ho.set k fun u hu => ?_
    rcases List.mem_cons.1 hu with rfl | hu
    · exact this _ (List.mem_of_getElem? hv)
    · rcases List.mem_append.1 hu with h | h
      · exact this u (List.mem_of_mem_take h)
      · exact this u (List.mem_of_mem_drop h)
theorem PutR.cok {ways : Int} {C C' : List (List Wy)} {x : Nat} {data : ByteArray} {dirty : Bool} {gone : Wy} {went : Bool} (h : PutR ways C x data dirty C' gone went) (ho : COk C) (hx : x < 4294967296) (hd : data.size ≤ maxLen) : COk C' := by
  have ht : (trimD data).size ≤ maxLen := by
    rcases trimD_size data with h | h <;> rw [h] <;> decide
  cases h with
  | no h he hg hb => subst he; exact ho
  | hit k i h ws v hw hv he hg hb =>
    subst he
    have := ho.at_ hw
    refine ho.set k fun u hu => ?_
    rcases List.mem_cons.1 hu with rfl | hu
    · have hv' := this _ (List.mem_of_getElem? hv)
      refine ⟨hv'.1, ?_⟩
      dsimp only
      split
      · exact hd
      · exact hv'.2
    · rcases List.mem_append.1 hu with h | h
      · exact this u (List.mem_of_mem_take h)
      · exact this u (List.mem_of_mem_drop h)
  | room k i _ h ws hw hl he hg hb =>
    subst he
    refine ho.set k fun u hu => ?_
    rcases List.mem_cons.1 hu with rfl | hu
    · exact ⟨by show x - x % 16 < _; omega, ht⟩
    · exact ho.at_ hw u hu
  | full k i _ h ws hw hl l hl1 hgv he hb =>
    subst he
    refine ho.set k fun u hu => ?_
    rcases List.mem_cons.1 hu with rfl | hu
    · exact ⟨by show x - x % 16 < _; omega, ht⟩
    · exact ho.at_ hw u (List.mem_of_mem_take hu)
end Go.Proofs.Ytcahadkkjfijfaa
