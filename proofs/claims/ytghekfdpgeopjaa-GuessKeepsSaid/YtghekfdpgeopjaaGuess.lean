/- The guess package: what reads as a guess; Right, New, calls, goesBack, slotOf, Train, Next. -/
import Derived.Test.YtghekfdpgeopjaaKind
import Derived.Test.YtghekfdpgeopjaaSlot
import Derived.Test.YtghekfdpgeopjaaU32s
import Derived.Outline
import Derived.Deep.Cut
set_option linter.unusedVariables false
set_option linter.unusedSimpArgs false
set_option maxRecDepth 100000
namespace Go.Proofs.Ytghekfdpgeopjaa
open Go.RowKit

def gv (As : Option Addr) (ns cs : Nat) (h : Nat) (Ar : Option Addr) (nr cr : Nat) : Value := .agg #[.slice As ns cs, .int .u32 (h : Int), .slice Ar nr cr]
/-- a guess that may be, of eight slots, in blocks not older than lo -/
def GR (w : World) (v : Value) (lo : Nat) (h : Nat) (rets : List Nat) : Prop := ∃ As cs sl Ar nr cr, v = gv As 8 cs h Ar nr cr ∧ Rd w w.heap.size 2 As 8 cs (sls sl) ∧ Rd w w.heap.size 1 Ar nr cr (u32v rets) ∧ (∀ g o, As = some ⟨g, o, none⟩ → lo ≤ g) ∧ (∀ g o, Ar = some ⟨g, o, none⟩ → lo ≤ g)

theorem Right_yes (As Ar : Option Addr) (cs h nr cr : Nat) (w : World) (h1 : h < 8) (h2 : nr ≤ 4) :
    Calls Try.prog 12 #[gv As 8 cs h Ar nr cr] w fun e w' => e = .returned (.bool true) ∧ Bel w w' := by
  have hd : decide ((nr : Int) ≤ 4) = true := by simp; omega
  unfold gv
  go_enter Try.func12, Try.ntmps12
  go_wp2
  go_ret
  exact ⟨rfl, Bel.alloc _ _⟩
theorem refRight_yes (As Ar : Option Addr) (cs h nr cr : Nat) (w : World) (h1 : h < 8) (h2 : nr ≤ 4) :
    Calls Try.prog 7 #[gv As 8 cs h Ar nr cr] w fun e w' => e = .returned (.bool true) ∧ Bel w w' := by
  have hd : decide ((nr : Int) ≤ 4) = true := by simp; omega
  unfold gv
  go_enter Try.func7, Try.ntmps7
  go_wp2
  go_ret
  exact ⟨rfl, Bel.alloc _ _⟩
theorem refRight_no (As Ar : Option Addr) (ns cs h nr cr : Nat) (w : World) (hs : ns ≤ 1000) (hr : nr ≤ 1000) (hno : ¬ (ns = 8 ∧ h < 8 ∧ nr ≤ 4)) :
    Calls Try.prog 7 #[gv As ns cs h Ar nr cr] w fun e w' => e = .returned (.bool false) ∧ Bel w w' := by
  unfold gv
  by_cases h1 : ns = 8
  · by_cases h2 : h < 8
    · have h3 : 4 < nr := by omega
      have hd : decide ((nr : Int) ≤ 4) = false := by simp; omega
      subst h1
      clear hno
      go_enter Try.func7, Try.ntmps7
      go_wp2
      go_ret
      exact ⟨rfl, Bel.alloc _ _⟩
    · have h3 : 7 < h := by omega
      subst h1
      clear hno h2
      go_enter Try.func7, Try.ntmps7
      go_wp2
      go_ret
      exact ⟨rfl, Bel.alloc _ _⟩
  · have b : ((ns : Int) == 8) = false := by rw [beq_eq_false_iff_ne]; omega
    clear hno h1
    go_enter Try.func7, Try.ntmps7
    go_wp2
    go_ret
    exact ⟨rfl, Bel.alloc _ _⟩

theorem slinfo : (Try.prog.info? 41).map (fun i => (i.zero, i.size, i.bytes)) = some (some (.agg #[.int .u32 0, .int .u32 0]), 2, 8) := by kernel_rfl
theorem gTy : RowTy Try.prog 27 3 := ⟨_, Try.underlying27, rfl, by kernel_rfl⟩
theorem made_slots : (madeCells (Value.cells (.agg #[.int .u32 0, .int .u32 0])) (8 * 2)).toList = sls (List.replicate 8 ⟨0, 0⟩) := by kernel_rfl
theorem New_any (w : World) :
    Calls Try.prog 5 #[] w fun e w' => e = .returned (gv (some ⟨w.heap.size + 1, 0, none⟩) 8 8 0 none 0 0) ∧ Rd w' w'.heap.size 2 (some ⟨w.heap.size + 1, 0, none⟩) 8 8 (sls (List.replicate 8 ⟨0, 0⟩)) ∧ Bel w w' := by
  obtain ⟨i0, hi, hz0, hz1, hz2⟩ := info_parts slinfo
  unfold gv
  go_enter Try.func5, Try.ntmps5
  go_wp2_with (first | (at_make; go_must (refine wpList_make_full _ rfl _ _ 25 (by rfl) (w.heap.size + 1) 41 i0 _ 2 Try.underlying25 hi hz0 hz1 _ _ _ _ 8 (by rfl) (by rfl) (by omega) (by omega) (by rw [hz2]; omega) (by unfold maxLen; omega) (by simp) ?_); intro w1 hown hg) | (refine wpList_store_bk (by rfl) 27 (.tmp 0) (.tmp 2) (by rfl) w.heap.size [.slice (some ⟨w.heap.size + 1, 0, none⟩) 8 8, .int .u32 0, .slice none 0 0] (by rfl) (by rfl) 27 [.slice none 0 0, .int .u32 0, .slice none 0 0] ?_ rfl gTy (by simp [Value.oneCell']) ?_; exact (Bk.new w _ _).grown hg (by simp); intro w2 hk2 hs2 ho2 hbe2))
  rw [made_slots] at hown
  have hb := (Bk.of_own hown rfl).keep (ho2 _ (by simp))
  refine bodyPost_ret (res_c rfl (by rfl) hk2 gTy) rfl ⟨rfl, ?_, hbe2 w ((Bel.alloc w _).grown hg (by simp)) (Nat.le_refl _)⟩
  rw [World.size_alloc] at hb
  exact hb.rdAll rfl (by simp [sls_len]) (by unfold maxLen; omega)

end Go.Proofs.Ytghekfdpgeopjaa
