/- The statement RetireZero: the walk of the law function. -/
import Derived.Test.YtcahadkkjfijfaaRetL
set_option linter.unusedVariables false
set_option linter.unusedSimpArgs false
namespace Go.Proofs.Ytcahadkkjfijfaa
open Go.RowKit Go.Sort

/-- how the test of round k goes -/
def ZCase (l l' : List Nat) (s : St) (k : Nat) : Prop :=
  (((k : Int) != s.rd) = true ∧ l'[k]? = l[k]?) ∨ (((k : Int) != s.rd) = false ∧ ((k : Int) == 0) = true ∧ l'[k]? = l[k]?) ∨
  (((k : Int) != s.rd) = false ∧ ((k : Int) == 0) = false ∧ (s.halt != 0) = true ∧ l'[k]? = l[k]?) ∨ (((k : Int) != s.rd) = false ∧ ((k : Int) == 0) = false ∧ (s.halt != 0) = false)
theorem zcase_yes (l : List Nat) (s : St) (k : Nat) (h1 : 1 ≤ s.rd) (h3 : s.halt = 0) : ZCase l (l.set s.rd.toNat s.value) s k := by
  by_cases hk : (k : Int) = s.rd
  · refine .inr (.inr (.inr ⟨by simp [hk], by rw [beq_eq_false_iff_ne]; omega, by simp [h3]⟩))
  · exact .inl ⟨by simpa using hk, List.getElem?_set_ne (by omega)⟩
theorem zcase_no (l : List Nat) (s : St) (k : Nat) (hk32 : k < 32) (h : ¬ (1 ≤ s.rd ∧ s.rd ≤ 31 ∧ s.halt = 0)) : ZCase l l s k := by
  by_cases hk : (k : Int) = s.rd
  · by_cases h0 : (k : Int) = 0
    · exact .inr (.inl ⟨by simp [hk], by simp [h0], rfl⟩)
    · exact .inr (.inr (.inl ⟨by simp [hk], by simpa using h0, by simpa using fun h3 => h ⟨by omega, by omega, h3⟩, rfl⟩))
  · exact .inl ⟨by simpa using hk, rfl⟩

/-- how the last test goes: what is stored, or not -/
def SCase (s : St) (is : Bool) : Prop := is = false ∨ (is = true ∧ s.store = true ∧ (s.halt == 0) = true ∧ 0 < s.size)

theorem Bk.of_heap {w : World} {g : Nat} {t : TypeId} {cs : List Value} (h : w.heap[g]? = some (.cells cs.toArray t (0, 0))) : Bk w g t cs := ⟨(0, 0), h, by intro i _; omega⟩
theorem Bk.setRow {w : World} {g g' : Nat} {t : TypeId} {cs : List Value} (h : Bk w g t cs) (hne : g ≠ g') (R : Array Value) : Bk (w.setRow g' R) g t cs := h.keep (setRow_other w g' g R hne)
set_option maxHeartbeats 1000000 in
set_option maxRecDepth 100000 in
theorem zero_walk (l l' : List Nat) (s : St) (a : Nat) (dd : ByteArray) (is : Bool) (w : World) (hl : l.length = 32) (hl' : l'.length = 32) (hk : ∀ k, k < 32 → ZCase l l' s k) (hs : SCase s is)
    (H1 : Hid (∀ W, Calls Try.prog 19 #[.agg (u32v l).toArray, s.val] W fun e w' => e = .returned (.agg (u32v l').toArray) ∧ Bel W w'))
    (H3 : Hid (∀ W, Calls Try.prog 16 #[s.val] W fun e w' => e = .returned (.tuple #[putV a dd, .bool is]) ∧ Bel W w')) :
    Calls Try.prog 4 #[.agg (u32v l).toArray, s.val] w fun e w' => e = .returned (.bool true) ∧ Bel w w' := by
  have SZ := u32v_sz hl
  have SZ' := u32v_sz hl'
  have ONE' := u32v_one l'
  have Hk := Lib.hid hk
  have Hs := Lib.hid hs
  clear hk hs
  have info25 : (Try.prog.info? 25).map (·.size) = some (#[Value.int .u32 (s.pc : Int), Value.int .u32 (s.next : Int), Value.int .i64 s.rd, Value.int .u32 (s.value : Int), Value.int .u32 (s.addr : Int), Value.int .i64 s.size, Value.bool s.store, Value.int .i64 s.halt, Value.int .i64 s.took] : Array Value).size := by kernel_rfl
  unfold St.val at H1 H3 ⊢
  unfold putV at H3
  go_enter Try.func4, Try.ntmps4
  go_upto_region 1 with (fail)
  go_wp2_with (first | (refine wpList_load_row rfl 23 (.tmp 2) (by rfl) w.heap.size (by rfl) 23 (u32v l).toArray (0, 0) _ ?_ Try.underlying23 rfl ?_ ?_; exact (Below.heap_alloc _ _ _ (by simp)).trans (heap_alloc_new w _); exact info32' SZ) | (go_at_call 19; refine (H1.out _).mono ?_; rintro e w1 ⟨rfl, hb1⟩) | (refine wpList_store_row rfl 23 (.tmp 5) (.tmp 11) (by rfl) w1.heap.size _ (by rfl) (by rfl) 23 zeros32 ?_ ?_ ?_ ?_ ?_; exact heap_alloc_new _ _; exact info32' SZ'; exact SZ'.symm; exact ONE'))
  have hlt : w.heap.size + 1 < w1.heap.size := by have := hb1.size; simp at this; omega
  have B1 : Bk ((w1.alloc (.cells zeros32 23)).setRow w1.heap.size (u32v l').toArray) w.heap.size 23 (u32v l) := ((((Bk.new' w 23 (u32v l) w.heap.size rfl).alloc _).bel hb1).alloc _).setRow (by omega) _
  have B2 : Bk ((w1.alloc (.cells zeros32 23)).setRow w1.heap.size (u32v l').toArray) (w.heap.size + 1) 25 s.cells := (((Bk.new' _ 25 s.cells (w.heap.size + 1) (by simp)).bel hb1).alloc _).setRow (by omega) _
  have B3 : Bk ((w1.alloc (.cells zeros32 23)).setRow w1.heap.size (u32v l').toArray) w1.heap.size 23 (u32v l') := Bk.of_heap (setRow_heap _ _ _ _ _ _ (heap_alloc_new w1 _))
  have hb : Bel w ((w1.alloc (.cells zeros32 23)).setRow w1.heap.size (u32v l').toArray) := ((((Bel.alloc w _).trans (Bel.alloc _ _)).trans hb1).trans (Bel.alloc _ _)).setRow (by omega) _
  unfold zeros32 at B1 B2 B3 hb
  revert B1 B2 B3 hb
  generalize World.setRow _ _ _ = W
  intro B1 B2 B3 hb
  have hW1 : w1.heap.size < W.heap.size := B3.lt
  have hw2 : w.heap.size + 1 < W.heap.size := by omega
  have c0 : W.cell? ⟨w.heap.size + 1, 0, none⟩ = some (.int .u32 (s.pc : Int)) := B2.cell 0
  have c1 : W.cell? ⟨w.heap.size + 1, 1, none⟩ = some (.int .u32 (s.next : Int)) := B2.cell 1
  have c2 : W.cell? ⟨w.heap.size + 1, 2, none⟩ = some (.int .i64 s.rd) := B2.cell 2
  have c3 : W.cell? ⟨w.heap.size + 1, 3, none⟩ = some (.int .u32 (s.value : Int)) := B2.cell 3
  have c4 : W.cell? ⟨w.heap.size + 1, 4, none⟩ = some (.int .u32 (s.addr : Int)) := B2.cell 4
  have c8 : W.cell? ⟨w.heap.size + 1, 8, none⟩ = some (.int .i64 s.took) := B2.cell 8
  have c5 : W.cell? ⟨w.heap.size + 1, 5, none⟩ = some (.int .i64 s.size) := B2.cell 5
  have c6 : W.cell? ⟨w.heap.size + 1, 6, none⟩ = some (.bool s.store) := B2.cell 6
  have c7 : W.cell? ⟨w.heap.size + 1, 7, none⟩ = some (.int .i64 s.halt) := B2.cell 7
  replace B1 := Lib.hid B1
  replace B2 := Lib.hid B2
  replace B3 := Lib.hid B3
  replace hb := Lib.hid hb
  replace hb1 := Lib.hid hb1
  go_loopw [6, 12] (fun _ i wr => ∃ k : Nat, k ≤ 32 ∧ i = .int .i64 (k : Int) ∧ ∃ d, wr = W.drewN d) (fun _ i _ => 32 - (intOf i).toNat)
  case atStart => exact ⟨0, by omega, rfl, 0, rfl⟩
  case round =>
    obtain ⟨k, hk, rfl, d, rfl⟩ := hrel
    by_cases hkn : k < 32
    · have e1 := B1.out.cell k
      have e3 := B3.out.cell k
      rw [u32v_at (show k < l.length by omega)] at e1
      rw [u32v_at (show k < l'.length by omega)] at e3
      rcases Hk.out k hkn with ⟨b1, hq⟩ | ⟨b1, b2, hq⟩ | ⟨b1, b2, b3, hq⟩ | ⟨b1, b2, b3⟩
      · rw [List.getElem?_eq_getElem (by omega), List.getElem?_eq_getElem (by omega)] at hq
        have hq' : l'[k]'(by omega) = l[k]'(by omega) := by injection hq
        rw [hq'] at e3
        clear hq hq'
        (go_wp2; go_quiet (fail); go_wp2; go_roundw; (case rel => exact ⟨k + 1, by omega, by go_num, d + nq, rfl⟩); (case measure => first | (simp [intOf]; done) | (simp [intOf]; omega)))
      · rw [List.getElem?_eq_getElem (by omega), List.getElem?_eq_getElem (by omega)] at hq
        have hq' : l'[k]'(by omega) = l[k]'(by omega) := by injection hq
        rw [hq'] at e3
        clear hq hq'
        (go_wp2; go_quiet (fail); go_wp2; go_roundw; (case rel => exact ⟨k + 1, by omega, by go_num, d + nq, rfl⟩); (case measure => first | (simp [intOf]; done) | (simp [intOf]; omega)))
      · rw [List.getElem?_eq_getElem (by omega), List.getElem?_eq_getElem (by omega)] at hq
        have hq' : l'[k]'(by omega) = l[k]'(by omega) := by injection hq
        rw [hq'] at e3
        clear hq hq'
        (go_wp2; go_quiet (fail); go_wp2; go_roundw; (case rel => exact ⟨k + 1, by omega, by go_num, d + nq, rfl⟩); (case measure => first | (simp [intOf]; done) | (simp [intOf]; omega)))
      · (go_wp2; go_quiet (fail); go_wp2; go_roundw; (case rel => exact ⟨k + 1, by omega, by go_num, d + nq, rfl⟩); (case measure => first | (simp [intOf]; done) | (simp [intOf]; omega)))
    · obtain rfl : k = 32 := by omega
      have L2 := Lib.hid (B2.out.loadIn (P := Try.prog) (ty := 25) stepTy)
      rcases Hs.out with rfl | ⟨rfl, q1, q2, q3⟩
      · go_wp2_with (first | (go_at_call 16; refine (H3.out _).mono ?_; rintro e w3 ⟨rfl, hb3⟩; obtain ⟨hc3, hf3⟩ := bcell ((Bel.drewN W d).trans hb3); have hz3 : w.heap.size + 1 < w3.heap.size := Nat.lt_of_lt_of_le hw2 hb3.size; have hz4 : w.heap.size < w3.heap.size := Nat.lt_of_succ_lt hz3) | (go_at_call 18; refine (alive_any _).mono ?_; rintro e w4 ⟨rfl, hb4⟩; obtain ⟨hc4, hf4⟩ := bcell hb4))
        go_ret
        exact ⟨rfl, hb.out.trans ((Bel.drewN _ _).trans (hb3.trans ((Bel.alloc _ _).trans hb4)))⟩
      · rw [q1] at H3 c6
        clear q1
        go_wp2_with (first | (go_at_call 16; refine (H3.out _).mono ?_; rintro e w3 ⟨rfl, hb3⟩; obtain ⟨hc3, hf3⟩ := bcell ((Bel.drewN W d).trans hb3); have hz3 : w.heap.size + 1 < w3.heap.size := Nat.lt_of_lt_of_le hw2 hb3.size; have hz4 : w.heap.size < w3.heap.size := Nat.lt_of_succ_lt hz3) | (go_at_call 18; refine (alive_any _).mono ?_; rintro e w4 ⟨rfl, hb4⟩; obtain ⟨hc4, hf4⟩ := bcell hb4))
        go_ret
        exact ⟨rfl, hb.out.trans ((Bel.drewN _ _).trans (hb3.trans ((Bel.alloc _ _).trans hb4)))⟩

/-- RetireZero -/
theorem RetireZero_any (l : List Nat) (s : St) (w : World) (hl : l.length = 32) (hx : ∀ x ∈ l, x < 4294967296) (hs : StOk s) :
    Calls Try.prog 4 #[.agg (u32v l).toArray, s.val] w fun e w' => e = .returned (.bool true) ∧ Bel w w' := by
  have hv : s.value < 4294967296 := hs.2.2.2.1
  obtain ⟨l', hl', H1, hz⟩ : ∃ l' : List Nat, l'.length = 32 ∧ Hid (∀ W, Calls Try.prog 19 #[.agg (u32v l).toArray, s.val] W fun e w' => e = .returned (.agg (u32v l').toArray) ∧ Bel W w') ∧
      (∀ k, k < 32 → ZCase l l' s k) := by
    by_cases h : 1 ≤ s.rd ∧ s.rd ≤ 31 ∧ s.halt = 0
    · exact ⟨l.set s.rd.toNat s.value, by simp [hl], Lib.hid fun W => Apply_yes l s W hl h.1 h.2.1 h.2.2, fun k hk => zcase_yes l s k h.1 h.2.2⟩
    · exact ⟨l, hl, Lib.hid fun W => Apply_no l s W hl h, fun k hk => zcase_no l s k hk h⟩
  by_cases h : s.store = true ∧ s.halt = 0 ∧ (s.size = 1 ∨ s.size = 2 ∨ s.size = 4)
  · obtain ⟨h1, h2, h3⟩ := h
    obtain ⟨m, hm⟩ := Int.eq_ofNat_of_zero_le (show 0 ≤ s.size by omega)
    exact zero_walk l l' s _ _ _ w hl hl' hz (.inr ⟨rfl, h1, by simp [h2], by omega⟩) H1 (Lib.hid fun W => Stored_one s W s.size m hm.symm h3 hv h1 h2 rfl)
  · exact zero_walk l l' s _ _ _ w hl hl' hz (.inl rfl) H1 (Lib.hid fun W => Stored_no s W h)

end Go.Proofs.Ytcahadkkjfijfaa
