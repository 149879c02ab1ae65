/- view: the statements' alive; All in the form in which the statements' walks meet it. -/
import Derived.Test.YtcahadkkjfijfaaZ5
import Derived.Test.YtcahadkkjfijfaaZ10
import Derived.Laws.StructEq
set_option linter.unusedVariables false
set_option linter.unusedSimpArgs false
set_option maxRecDepth 100000
namespace Go.Proofs.Ytcahadkkjfijfaa
open Go.RowKit

theorem over_abcX : ovS ⟨#[97, 98, 99, 100]⟩ [⟨3, ⟨#[88, 89]⟩⟩] = ⟨#[97, 98, 99, 88]⟩ := by rfl
set_option maxHeartbeats 8000000 in
theorem alive11_any (w : World) : Calls Try.prog 43 #[] w fun e w' => e = .returned (.bool true) ∧ Bel w w' := by
  have hF := St.start w [] (fun d hd => by cases hd)
  go_enter Try.func43, Try.ntmps43
  go_wp2_with (first | (go_at_call 73; obtain ⟨A9, c9, e9, hF⟩ := hF.freeze 0 at0; injection e9 with e91 _ e92; subst e91 e92; refine (vOver_any ⟨#[97, 98, 99, 100]⟩ _ _ _ [⟨3, ⟨#[88, 89]⟩⟩] _ hF.rdA (by decide) (by simp)).mono ?_; rw [over_abcX]; rintro e wN ⟨rfl, hb⟩; replace hF := hF.grow hb; clear hb) | ((first | (refine w_box rfl hF rfl ?_; clear hF; intro gN wN hF) | (refine w_alloc rfl hF ?_; clear hF; intro gN wN hF) | (refine w_ld1 rfl hF rfl ?_) | (refine w_ld rfl hF rfl ?_) | (refine w_st1 rfl hF rfl rfl ?_; clear hF; intro wN hF; (try simp only [List.set_cons_zero, List.set_cons_succ, List.eraseIdx_cons_zero, List.eraseIdx_cons_succ] at hF)) | (refine w_st rfl hF rfl rfl ?_; clear hF; intro wN hF; (try simp only [List.set_cons_zero, List.set_cons_succ, List.eraseIdx_cons_zero, List.eraseIdx_cons_succ] at hF)) | (refine w_fldB rfl rfl ?_) | (refine w_fld rfl hF rfl ?_) | (refine w_ix rfl hF rfl rfl ?_) | (refine w_lde1 rfl hF rfl ?_) | (refine w_lde rfl hF rfl ?_) | (refine w_bs1 rfl hF rfl ?_; clear hF; intro gN wN hF) | (refine w_bs0 rfl hF ?_; clear hF; intro gN wN hF) | (refine w_app rfl hF rfl rfl ?_; clear hF; intro vN wN hF; (try simp only [List.set_cons_zero, List.set_cons_succ, List.eraseIdx_cons_zero, List.eraseIdx_cons_succ] at hF)) | (refine w_appD rfl hF rfl rfl ?_; clear hF; intro vN wN hF; (try simp only [List.set_cons_zero, List.set_cons_succ, List.eraseIdx_cons_zero, List.eraseIdx_cons_succ] at hF)) | (refine w_ld1o rfl hF rfl ?_) | (refine w_st1o rfl hF rfl rfl ?_; clear hF; intro wN hF; (try simp only [List.set_cons_zero, List.set_cons_succ, List.eraseIdx_cons_zero, List.eraseIdx_cons_succ] at hF)) | (refine w_make0 rfl hF rfl rfl ?_; clear hF; intro gN wN hF) | (refine w_to rfl hF rfl rfl ?_; clear hF; intro hF) | (refine w_from rfl hF rfl rfl ?_; clear hF; intro hF)); (try simp only [Act.put, List.setIfInBounds_toArray, List.set_cons_zero, List.set_cons_succ, Nat.zero_add, Nat.zero_mul, Nat.reduceAdd])))
  go_ret
  exact ⟨rfl, hF.bel⟩
theorem g_vall {ways : Int} {A : Option Addr} {n c : Nat} {S : List Cs} {Aq : Option Addr} {nq cq : Nat} {q : List Rq} {As : Option Addr} {ns cs : Nat} {ss : List Pu} {C : List (List Wy)} {w : World} {m al : ByteArray} (hr : RdS w w.heap.size A n c S) (hrq : Rd w w.heap.size 4 Aq nq cq (rqs q)) (hrs : Rd w w.heap.size 2 As ns cs (pus ss)) (hC : cont S = C)
    (hlen : C.length ≤ 1000 ∧ ∀ ws ∈ C, ws.length ≤ 1000) (hok : COk C) (hal : ovS m (writesL q ++ linesL C ++ ss) = al) (hm : m.size ≤ maxLen) (hqn : nq ≤ 1000000) (hq : ∀ r ∈ q, r.line < 4294967296) (hss : ∀ p ∈ ss, p.addr < 4294967296) :
    Calls Try.prog 42 #[.slice As ns cs, .agg #[.int .i64 ways, .slice A n c], .slice Aq nq cq, .string m] w fun e w' => e = .returned (.string al) ∧ Bel w w' := by
  subst hC hal
  exact vAll_any m ways A n c S Aq nq cq q As ns cs ss w hr hrq hrs hm hok.sok (by have := hlen.1; rw [cont_len, hr.slen] at this; exact this) hlen.2 hqn hq hss
end Go.Proofs.Ytcahadkkjfijfaa
