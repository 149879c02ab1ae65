/- The statements RetireSteps and RetireZero: the walks of the law functions. -/
import Derived.Test.YtcahadkkjfijfaaRetS
import Derived.Test.YtcahadkkjfijfaaQuiet
import Derived.Test.YtcahadkkjfijfaaOpenStep
set_option linter.unusedVariables false
set_option linter.unusedSimpArgs false
namespace Go.Proofs.Ytcahadkkjfijfaa
open Go.RowKit Go.Sort

/-- a row that is known reads so in every world of the class -/
theorem Bk.loadIn {P : Program} {W : World} {g : Nat} {t ty : TypeId} {cs : List Value} (h : Bk W g t cs) (ht : RowTy P ty cs.length) : ∀ w, (∃ p : Regrown, w = grow (redrawn W p.d) p.os) → (Go.loadVar ty ⟨g, 0, none⟩).run P w = .ok (.agg cs.toArray) w := by
  rintro w ⟨p, rfl⟩
  exact (h.bel (bel_grow W p.d p.os)).loadVar ht
theorem regsTy : RowTy Try.prog 23 32 := ⟨_, Try.underlying23, rfl, by kernel_rfl⟩
theorem stepTy : RowTy Try.prog 25 9 := ⟨_, Try.underlying25, rfl, by kernel_rfl⟩

/-- what both make of registers and a step -/
theorem steps_walk (l l' : List Nat) (s : St) (pv : Value) (a : Nat) (d : ByteArray) (is : Bool) (w : World) (hl : l.length = 32) (hl' : l'.length = 32) (hpv : pv = putV a d)
    (H1 : Hid (∀ W, Calls Try.prog 19 #[.agg (u32v l).toArray, s.val] W fun e w' => e = .returned (.agg (u32v l').toArray) ∧ Bel W w'))
    (H2 : Hid (∀ W, Calls Try.prog 20 #[.agg (u32v l).toArray, s.val] W fun e w' => e = .returned (.agg (u32v l').toArray) ∧ Bel W w'))
    (H3 : Hid (∀ W, Calls Try.prog 16 #[s.val] W fun e w' => e = .returned (.tuple #[putV a d, .bool is]) ∧ Bel W w'))
    (H4 : Hid (∀ W, Calls Try.prog 17 #[s.val] W fun e w' => e = .returned (.tuple #[putV a d, .bool is]) ∧ Bel W w')) :
    Calls Try.prog 3 #[.agg (u32v l).toArray, s.val] w fun e w' => e = .returned (.bool true) ∧ Bel w w' := by
  unfold St.val at H1 H2 H3 H4 ⊢
  unfold putV at H3 H4
  go_enter Try.func3, Try.ntmps3
  go_wp2_with (first | (go_at_call 16; refine (H3.out _).mono ?_; rintro e w1 ⟨rfl, hb1⟩; obtain ⟨hc1, hf1⟩ := bcell hb1; have hz1 : w.heap.size + 1 < w1.heap.size := by have := hb1.size; simp at this; omega) | (go_at_call 17; refine (H4.out _).mono ?_; rintro e w2 ⟨rfl, hb2⟩; obtain ⟨hc2, hf2⟩ := bcell hb2; have hz2 : w1.heap.size < w2.heap.size := by have := hb2.size; simp at this; omega))
  have B1 : Bk (w2.alloc (.cells #[.int .u32 (a : Int), .string d] 27)) w.heap.size 23 (u32v l) := ((((((Bk.new' w 23 (u32v l) w.heap.size rfl).alloc _).bel hb1).alloc _).bel hb2).alloc _)
  have B2 : Bk (w2.alloc (.cells #[.int .u32 (a : Int), .string d] 27)) (w.heap.size + 1) 25 s.cells := (((((Bk.new' _ 25 s.cells (w.heap.size + 1) (by simp)).bel hb1).alloc _).bel hb2).alloc _)
  have B3 : Bk (w2.alloc (.cells #[.int .u32 (a : Int), .string d] 27)) w1.heap.size 27 [.int .u32 (a : Int), .string d] := (((Bk.new' w1 27 [.int .u32 (a : Int), .string d] w1.heap.size rfl).bel hb2).alloc _)
  have B4 := Bk.new' w2 27 [.int .u32 (a : Int), .string d] w2.heap.size rfl
  have hb : Bel w (w2.alloc (.cells #[.int .u32 (a : Int), .string d] 27)) := (((((Bel.alloc w _).trans (Bel.alloc _ _)).trans hb1).trans (Bel.alloc _ _)).trans hb2).trans (Bel.alloc _ _)
  revert B1 B2 B3 B4 hb
  generalize w2.alloc (.cells #[.int .u32 (a : Int), .string d] 27) = W
  intro B1 B2 B3 B4 hb
  have L1 := Lib.hid (B1.loadIn (P := Try.prog) (ty := 23) (by rw [u32v_len, hl]; exact regsTy))
  have L2 := Lib.hid (B2.loadIn (P := Try.prog) (ty := 25) stepTy)
  have L3 := Lib.hid (B3.loadIn (P := Try.prog) (ty := 27) putTy)
  have L4 := Lib.hid (B4.loadIn (P := Try.prog) (ty := 27) putTy)
  have EQ := Lib.hid (fun W => eq_regs W l' hl')
  have Hb := Lib.hid hb
  clear B1 B2 B3 B4 hb hc1 hf1 hz1 hc2 hf2 hz2 hb1 hb2
  refine wp_region_quiet_below (by kernel_rfl) (by kernel_rfl) ?_
  repeat (first
    | (go_big_quiet_want; refine quiet_load_row 23 (.tmp 2) (by rfl) w.heap.size (by rfl) _ L1.out ?_; go_frame; go_big_quiet_on)
    | (go_big_quiet_want; refine quiet_load_row 25 (.tmp 3) (by rfl) (w.heap.size + 1) (by rfl) _ L2.out ?_; go_frame; go_big_quiet_on)
    | (go_big_quiet_want; refine quiet_load_row 27 (.tmp 5) (by rfl) w1.heap.size (by rfl) _ L3.out ?_; go_frame; go_big_quiet_on)
    | (go_big_quiet_want; refine quiet_load_row 27 (.tmp 7) (by rfl) w2.heap.size (by rfl) _ L4.out ?_; go_frame; go_big_quiet_on)
    | (go_big_quiet_want; refine quiet_eql_agg 23 23 (.tmp 23) (.tmp 26) (by rfl) _ _ (by rfl) (by rfl) true Try.eqGuardType23 EQ.out ?_; go_frame; go_big_quiet_on)
    | go_big_quiet_step ((first | (go_at_call 18; exact grow1 (alive_any _)) | (go_at_call 19; exact grow1 (H1.out _)) | (go_at_call 20; exact grow1 (H2.out _)))))
  (refine wpQuiet_nil ?_; intro wq hw'; obtain ⟨⟨dq, osq⟩, hw''⟩ := hw'; subst hw'')
  go_wp2
  go_ret
  exact ⟨rfl, Hb.out.trans (bel_grow _ _ _)⟩

/-- RetireSteps -/
theorem RetireSteps_any (l : List Nat) (s : St) (w : World) (hl : l.length = 32) (hx : ∀ x ∈ l, x < 4294967296) (hs : StOk s) :
    Calls Try.prog 3 #[.agg (u32v l).toArray, s.val] w fun e w' => e = .returned (.bool true) ∧ Bel w w' := by
  have hv : s.value < 4294967296 := hs.2.2.2.1
  obtain ⟨l', hl', H1, H2⟩ : ∃ l' : List Nat, l'.length = 32 ∧ Hid (∀ W, Calls Try.prog 19 #[.agg (u32v l).toArray, s.val] W fun e w' => e = .returned (.agg (u32v l').toArray) ∧ Bel W w') ∧
      Hid (∀ W, Calls Try.prog 20 #[.agg (u32v l).toArray, s.val] W fun e w' => e = .returned (.agg (u32v l').toArray) ∧ Bel W w') := by
    by_cases h : 1 ≤ s.rd ∧ s.rd ≤ 31 ∧ s.halt = 0
    · exact ⟨l.set s.rd.toNat s.value, by simp [hl], Lib.hid fun W => Apply_yes l s W hl h.1 h.2.1 h.2.2, Lib.hid fun W => refApply_yes l s W hl h.1 h.2.1 h.2.2⟩
    · exact ⟨l, hl, Lib.hid fun W => Apply_no l s W hl h, Lib.hid fun W => refApply_no l s W hl h⟩
  by_cases h : s.store = true ∧ s.halt = 0 ∧ (s.size = 1 ∨ s.size = 2 ∨ s.size = 4)
  · obtain ⟨h1, h2, h3⟩ := h
    obtain ⟨m, hm⟩ := Int.eq_ofNat_of_zero_le (show 0 ≤ s.size by omega)
    exact steps_walk l l' s _ _ _ _ w hl hl' rfl H1 H2 (Lib.hid fun W => Stored_one s W s.size m hm.symm h3 hv h1 h2 rfl) (Lib.hid fun W => refStored_one s W s.size m hm.symm h3 hv h1 h2 rfl)
  · exact steps_walk l l' s _ _ _ _ w hl hl' rfl H1 H2 (Lib.hid fun W => Stored_no s W h) (Lib.hid fun W => refStored_no s W h)

end Go.Proofs.Ytcahadkkjfijfaa
