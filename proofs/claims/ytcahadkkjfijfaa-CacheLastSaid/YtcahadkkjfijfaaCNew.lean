/- The cache package: a new cache of one set and one way. -/
import Derived.Test.YtcahadkkjfijfaaCPutB
set_option linter.unusedVariables false
set_option linter.unusedSimpArgs false
set_option maxRecDepth 100000
namespace Go.Proofs.Ytcahadkkjfijfaa
open Go.RowKit Go.Sort

def nilS : Cs := ⟨none, 0, 0, []⟩
theorem St.elemNil {w0 w : World} {D0 D : List Da} {M : List Mu} (h : St w0 D0 w M D) (k : Nat) : St w0 D0 w M (elemsD (List.replicate k nilS) :: D) :=
  h.part _ (fun s hs => by
    obtain rfl := List.eq_of_mem_replicate hs
    exact Rd.nil (Nat.zero_le _)) fun g hg => by
    obtain ⟨s, hs, hg⟩ := hg
    obtain rfl := List.eq_of_mem_replicate hs
    exact absurd hg.1 (by decide)
set_option maxHeartbeats 4000000 in
theorem new11 (w : World) :
    Calls Try.prog 36 #[.int .i64 1, .int .i64 1] w fun e w' => ∃ x, e = .returned x ∧ CRes w [] 1 x w' [[]] := by
  have hF := St.start w [] (fun d hd => by cases hd)
  go_enter Try.func36, Try.ntmps36
  go_wp2_with (first | (refine st_make rfl rfl hF (by (first | exact tySl_33 | exact tySl_34 | exact tySl_37 | exact tySl_62 | exact tySl_65 | exact tySl_66 | exact tySl_99)) rfl rfl 1 rfl rfl (by decide) (by decide) rfl ?_; clear hF; intro gN wN hF) | ((first | (refine w_box rfl hF rfl ?_; clear hF; intro gN wN hF) | (refine w_alloc rfl hF ?_; clear hF; intro gN wN hF) | (refine w_ld1 rfl hF rfl ?_) | (refine w_ld rfl hF rfl ?_) | (refine w_st1 rfl hF rfl rfl ?_; clear hF; intro wN hF; (try simp only [List.set_cons_zero, List.set_cons_succ, List.eraseIdx_cons_zero, List.eraseIdx_cons_succ] at hF)) | (refine w_st rfl hF rfl rfl ?_; clear hF; intro wN hF; (try simp only [List.set_cons_zero, List.set_cons_succ, List.eraseIdx_cons_zero, List.eraseIdx_cons_succ] at hF)) | (refine w_fldB rfl rfl ?_) | (refine w_fld rfl hF rfl ?_) | (refine w_ix rfl hF rfl rfl ?_) | (refine w_lde1 rfl hF rfl ?_) | (refine w_lde rfl hF rfl ?_) | (refine w_bs1 rfl hF rfl ?_; clear hF; intro gN wN hF) | (refine w_bs0 rfl hF ?_; clear hF; intro gN wN hF) | (refine w_app rfl hF rfl rfl ?_; clear hF; intro vN wN hF; (try simp only [List.set_cons_zero, List.set_cons_succ, List.eraseIdx_cons_zero, List.eraseIdx_cons_succ] at hF)) | (refine w_appD rfl hF rfl rfl ?_; clear hF; intro vN wN hF; (try simp only [List.set_cons_zero, List.set_cons_succ, List.eraseIdx_cons_zero, List.eraseIdx_cons_succ] at hF)) | (refine w_ld1o rfl hF rfl ?_) | (refine w_st1o rfl hF rfl rfl ?_; clear hF; intro wN hF; (try simp only [List.set_cons_zero, List.set_cons_succ, List.eraseIdx_cons_zero, List.eraseIdx_cons_succ] at hF)) | (refine w_make0 rfl hF rfl rfl ?_; clear hF; intro gN wN hF) | (refine w_to rfl hF rfl rfl ?_; clear hF; intro hF) | (refine w_from rfl hF rfl rfl ?_; clear hF; intro hF)); (try simp only [Act.put, List.setIfInBounds_toArray, List.set_cons_zero, List.set_cons_succ, Nat.zero_add, Nat.zero_mul, Nat.reduceAdd])))
  rw [show (madeCells (Value.slice none 0 0).cells (1 * 1)).toList = csv (List.replicate 1 nilS) from toList_madeCells_one _ 1] at hF
  have hF := (hF.freezeB 0 at0 1 1 1 rfl (Nat.le_refl _) (by decide)).elemNil 1
  (try simp only [List.set_cons_zero, List.set_cons_succ, List.eraseIdx_cons_zero, List.eraseIdx_cons_succ] at hF)
  ((try simp only [Exit.inBlock, Exit.then]); refine bodyPost_ret (w_resc rfl hF) rfl ?_)
  exact ⟨_, rfl, _, _, _, List.replicate 1 nilS, rfl, hF.out (by ((repeat (first | exact subn_nil | refine subn_cons (by ((repeat (first | exact List.Mem.head _ | refine List.Mem.tail _ ?_)) <;> exact List.Mem.head _)) ?_)) <;> exact subn_nil)), rfl⟩
end Go.Proofs.Ytcahadkkjfijfaa
