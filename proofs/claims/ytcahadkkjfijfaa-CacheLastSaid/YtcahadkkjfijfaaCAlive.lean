/- The statements' alive, of the cache. -/
import Derived.Test.YtcahadkkjfijfaaCNew
import Derived.Test.YtcahadkkjfijfaaCPut3
set_option linter.unusedVariables false
set_option linter.unusedSimpArgs false
set_option maxRecDepth 100000
namespace Go.Proofs.Ytcahadkkjfijfaa
open Go.RowKit Go.Sort

/-- the cache that alive puts its line into, and what it is then -/
theorem right1 : RightP 1 [[]] := ⟨.inl rfl, .inl rfl, fun k s h => by
  cases k with
  | zero => simp at h; subst h; exact ⟨by decide, fun i v hv => by simp at hv⟩
  | succ k => simp at h⟩
theorem right2 : RightP 1 [[⟨16, false, ⟨#[]⟩⟩]] := ⟨.inl rfl, .inl rfl, fun k s h => by
  cases k with
  | zero =>
    simp at h; subst h
    refine ⟨by decide, fun i v hv => ?_⟩
    cases i with
    | zero => simp at hv; subst hv; exact ⟨by decide, by decide, .inl rfl, fun j hj => absurd hj (by omega)⟩
    | succ i => simp at hv
  | succ k => simp at h⟩
set_option maxHeartbeats 4000000 in
theorem alive10_any (w : World) :
    Calls Try.prog 30 #[] w fun e w' => e = .returned (.bool true) ∧ Bel w w' := by
  have hF := St.start w [] (fun d hd => by cases hd)
  go_enter Try.func30, Try.ntmps30
  go_wp2_with (first | (go_at_call 36; refine (new11 _).mono ?_; rintro e wN ⟨_, rfl, A0, n0, c0, S0, rfl, hO, hC0⟩; replace hF := hF.callA hO; clear hO; have hn0 : n0 = 1 := by { have h1 := (hF.rd (sz := 1) (A := A0) (n := n0) (c := c0) (xs := csv S0) (by ((repeat (first | exact List.Mem.head _ | refine List.Mem.tail _ ?_)) <;> exact List.Mem.head _))).len; have h2 := cont_len S0; rw [hC0] at h2; rw [csv_len] at h1; simp at h2; omega }; subst hn0; have hso0 : SOk S0 := (by intro s hs v hv; have : s.ws ∈ cont S0 := List.mem_map_of_mem hs; rw [hC0] at this; simp at this; rw [this] at hv; cases hv)) | (go_at_call 28; refine (Put_room 1 A0 1 c0 16 ⟨#[]⟩ false S0 0 0 [] _ (rds_of (hF.dat _ (by ((repeat (first | exact List.Mem.head _ | refine List.Mem.tail _ ?_)) <;> exact List.Mem.head _))) (hF.dat _ (by ((repeat (first | exact List.Mem.head _ | refine List.Mem.tail _ ?_)) <;> exact List.Mem.head _)))) (by decide) (by decide) (by decide) (by rw [hC0]; rfl) (by decide) (by decide) (Lib.hid fun W hW => Right_any 1 A0 1 c0 S0 W hW hso0 true ⟨fun _ => by rw [hC0]; exact right1, fun _ => rfl⟩) (Lib.hid fun W hW => Find_any 1 A0 1 c0 S0 16 W hW hso0 (by decide) (by rw [hC0]; exact right1) 0 rfl [] (by rw [hC0]; rfl) 0 false (.inr ⟨rfl, rfl, fun v hv => by cases hv⟩))).mono ?_; rintro e wN ⟨_, rfl, A1, n1, c1, S1, rfl, hO, hC1⟩; replace hF := hF.callA hO; clear hO; replace hC1 : cont S1 = [[⟨16, false, ⟨#[]⟩⟩]] := (by rw [hC1, hC0]; rfl); have hn1 : n1 = 1 := by { have h1 := (hF.rd (sz := 1) (A := A1) (n := n1) (c := c1) (xs := csv S1) (by ((repeat (first | exact List.Mem.head _ | refine List.Mem.tail _ ?_)) <;> exact List.Mem.head _))).len; have h2 := cont_len S1; rw [hC1] at h2; rw [csv_len] at h1; simp at h2; omega }; subst hn1; have hso1 : SOk S1 := (by intro s hs v hv; have : s.ws ∈ cont S1 := List.mem_map_of_mem hs; rw [hC1] at this; simp at this; rw [this] at hv; simp at hv; subst hv; exact ⟨by decide, by decide⟩)) | (go_at_call 33; refine (Find_any 1 A1 1 c1 S1 16 _ (rds_of (hF.dat _ (by ((repeat (first | exact List.Mem.head _ | refine List.Mem.tail _ ?_)) <;> exact List.Mem.head _))) (hF.dat _ (by ((repeat (first | exact List.Mem.head _ | refine List.Mem.tail _ ?_)) <;> exact List.Mem.head _)))) hso1 (by decide) (by rw [hC1]; exact right2) 0 rfl [⟨16, false, ⟨#[]⟩⟩] (by rw [hC1]; rfl) 0 true (.inl ⟨rfl, ⟨16, false, ⟨#[]⟩⟩, ⟨rfl, rfl⟩, fun j hj => absurd hj (by omega)⟩)).mono ?_; rintro e wN ⟨rfl, hb⟩; replace hF := hF.grow hb; clear hb) | (go_at_call 35; refine (Right_any 1 A1 1 c1 S1 _ (rds_of (hF.dat _ (by ((repeat (first | exact List.Mem.head _ | refine List.Mem.tail _ ?_)) <;> exact List.Mem.head _))) (hF.dat _ (by ((repeat (first | exact List.Mem.head _ | refine List.Mem.tail _ ?_)) <;> exact List.Mem.head _)))) hso1 true ⟨fun _ => by rw [hC1]; exact right2, fun _ => rfl⟩).mono ?_; rintro e wN ⟨rfl, hb⟩; replace hF := hF.grow hb; clear hb) | ((first | (refine w_box rfl hF rfl ?_; clear hF; intro gN wN hF) | (refine w_alloc rfl hF ?_; clear hF; intro gN wN hF) | (refine w_ld1 rfl hF rfl ?_) | (refine w_ld rfl hF rfl ?_) | (refine w_st1 rfl hF rfl rfl ?_; clear hF; intro wN hF; (try simp only [List.set_cons_zero, List.set_cons_succ, List.eraseIdx_cons_zero, List.eraseIdx_cons_succ] at hF)) | (refine w_st rfl hF rfl rfl ?_; clear hF; intro wN hF; (try simp only [List.set_cons_zero, List.set_cons_succ, List.eraseIdx_cons_zero, List.eraseIdx_cons_succ] at hF)) | (refine w_fldB rfl rfl ?_) | (refine w_fld rfl hF rfl ?_) | (refine w_ix rfl hF rfl rfl ?_) | (refine w_lde1 rfl hF rfl ?_) | (refine w_lde rfl hF rfl ?_) | (refine w_bs1 rfl hF rfl ?_; clear hF; intro gN wN hF) | (refine w_bs0 rfl hF ?_; clear hF; intro gN wN hF) | (refine w_app rfl hF rfl rfl ?_; clear hF; intro vN wN hF; (try simp only [List.set_cons_zero, List.set_cons_succ, List.eraseIdx_cons_zero, List.eraseIdx_cons_succ] at hF)) | (refine w_appD rfl hF rfl rfl ?_; clear hF; intro vN wN hF; (try simp only [List.set_cons_zero, List.set_cons_succ, List.eraseIdx_cons_zero, List.eraseIdx_cons_succ] at hF)) | (refine w_ld1o rfl hF rfl ?_) | (refine w_st1o rfl hF rfl rfl ?_; clear hF; intro wN hF; (try simp only [List.set_cons_zero, List.set_cons_succ, List.eraseIdx_cons_zero, List.eraseIdx_cons_succ] at hF)) | (refine w_make0 rfl hF rfl rfl ?_; clear hF; intro gN wN hF) | (refine w_to rfl hF rfl rfl ?_; clear hF; intro hF) | (refine w_from rfl hF rfl rfl ?_; clear hF; intro hF)); (try simp only [Act.put, List.setIfInBounds_toArray, List.set_cons_zero, List.set_cons_succ, Nat.zero_add, Nat.zero_mul, Nat.reduceAdd])))
  go_ret
  exact ⟨rfl, hF.bel⟩
end Go.Proofs.Ytcahadkkjfijfaa
