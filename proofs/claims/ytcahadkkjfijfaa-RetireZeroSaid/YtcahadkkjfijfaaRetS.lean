/- The retire package: Stored, the document's own; the statements RetireSteps and RetireZero: the walks. -/
import Derived.Test.YtcahadkkjfijfaaRet
import Derived.Test.YtcahadkkjfijfaaWordBytes
import Derived.Test.YtcahadkkjfijfaaRes
set_option linter.unusedVariables false
set_option linter.unusedSimpArgs false
namespace Go.Proofs.Ytcahadkkjfijfaa
open Go.RowKit

set_option maxHeartbeats 400000 in
set_option maxRecDepth 100000 in
theorem refApply_no (l : List Nat) (s : St) (w : World) (hl : l.length = 32) (h : ¬ (1 ≤ s.rd ∧ s.rd ≤ 31 ∧ s.halt = 0)) :
    Calls Try.prog 20 #[.agg (u32v l).toArray, s.val] w fun e w' => e = .returned (.agg (u32v l).toArray) ∧ Bel w w' := by
  have SZ := u32v_sz hl
  have ONE := u32v_one l
  have SZ2 := SZ
  have ONE2 := ONE
  have key : ∀ k : Nat, 1 ≤ k → k < 32 → ((k : Int) == s.rd) = false ∨ (((k : Int) == s.rd) = true ∧ (s.halt == 0) = false) := by
    intro k h1 h2
    by_cases hk : (k : Int) = s.rd
    · exact .inr ⟨by simp [hk], by simpa using fun h3 => h ⟨by omega, by omega, h3⟩⟩
    · exact .inl (by simpa using hk)
  have Key := Lib.hid key
  clear key h
  have hst := fun A Z => AW.start w A s (u32v l).toArray Z
  have Hst := Lib.hid hst
  clear hst
  unfold St.val
  go_enter Try.func20, Try.ntmps20
  go_upto_region 1 with (fail)
  go_wp2_with (first | (refine wpList_load_row rfl 23 (.tmp 2) (by rfl) w.heap.size (by rfl) 23 (u32v l).toArray (0, 0) _ ?_ Try.underlying23 rfl ?_ ?_; exact heap3 _ _ _ _; exact info32' SZ) | (refine wpList_store_row rfl 23 (.tmp 5) (.tmp 7) (by rfl) (w.heap.size + 1 + 1 + 1) _ (by rfl) (by rfl) 23 zeros32 ?_ ?_ ?_ ?_ ?_; exact heap4' _ _ _ _ _; exact info32' SZ; exact SZ.symm; exact ONE))
  go_loopw [6] (fun i wr => ∃ k : Nat, 1 ≤ k ∧ k ≤ 32 ∧ i = .int .i64 (k : Int) ∧ AW w wr (u32v l).toArray s) (fun i _ => 32 - (intOf i).toNat)
  case atStart => exact ⟨1, by omega, by omega, rfl, Hst.out _ _⟩
  case round =>
    obtain ⟨k, hk1, hk2, rfl, haw⟩ := hrel
    replace haw := Lib.hid haw
    obtain ⟨c2, c3, c7⟩ := haw.out.cells
    by_cases hkn : k < 32
    · rcases Key.out k hk1 hkn with b1 | ⟨b1, b2⟩
      · clear SZ ONE SZ2 ONE2
        go_wp2
        go_roundw
        case rel => exact ⟨k + 1, by omega, by omega, by go_num, haw.out⟩
        case measure => first | (simp [intOf]; done) | (simp [intOf]; omega)
      · clear SZ ONE SZ2 ONE2
        go_wp2
        go_roundw
        case rel => exact ⟨k + 1, by omega, by omega, by go_num, haw.out⟩
        case measure => first | (simp [intOf]; done) | (simp [intOf]; omega)
    · obtain rfl : k = 32 := by omega
      go_upto_region 7 with (fail)
      go_wp2_with (refine wpList_load_row rfl 23 (.tmp 5) (by rfl) (w.heap.size + 1 + 1 + 1) (by rfl) 23 _ (0, 0) _ haw.out.h3 Try.underlying23 rfl (info32' SZ2) ?_; refine wpList_store_row rfl 23 (.tmp 4) (.tmp 25) (by rfl) (w.heap.size + 1 + 1) _ (by rfl) (by rfl) 23 _ haw.out.h2 (info32' SZ2) SZ2.symm ONE2 ?_)
      refine bodyPost_ret (v := .agg _) (results_cell_row rfl _ _ (w.heap.size + 1 + 1) 23 _ (0, 0) _ (by rfl) (setRow_heap _ _ _ _ _ _ haw.out.h2) Try.underlying23 rfl (info32' SZ2)) rfl ⟨rfl, ?_⟩
      exact haw.out.bel.setRow (by omega) _

def putV (a : Nat) (d : ByteArray) : Value := .agg #[.int .u32 (a : Int), .string d]

theorem putTy : RowTy Try.prog 27 2 := ⟨_, Try.underlying27, rfl, by kernel_rfl⟩
theorem Stored_one (s : St) (w : World) (n : Int) (m : Nat) (hm : (m : Int) = n) (hn : n = 1 ∨ n = 2 ∨ n = 4) (hv : s.value < 4294967296) (h1 : s.store = true) (h2 : s.halt = 0) (h3 : s.size = n) :
    Calls Try.prog 16 #[s.val] w fun e w' => e = .returned (.tuple #[putV s.addr ⟨(Wd.bytesL s.value m).toArray⟩, .bool true]) ∧ Bel w w' := by
  have hb : ∀ W, Calls Try.prog 59 #[.int .u32 (s.value : Int), .int .i64 n] W fun e w' => e = .returned (.tuple #[.string ⟨(Wd.bytesL s.value m).toArray⟩, .int .i64 0]) ∧ Bel W w' := by
    intro W; rw [← hm]; exact Wd.Bytes_any s.value m W hv (by omega)
  have HB := Lib.hid hb
  clear hb
  obtain ⟨pc, next, rd, value, addr, size, store, halt, took⟩ := s
  simp only at h1 h2 h3
  subst h1 h2 h3
  unfold St.val putV
  rcases hn with rfl | rfl | rfl
  all_goals
    have Hm := Lib.hid hm
    clear hm
    go_enter Try.func16, Try.ntmps16
    go_wp2_with (go_at_call 59; refine (HB.out _).mono ?_; rintro e w1 ⟨rfl, hb1⟩; obtain ⟨hc1, hf1⟩ := bcell hb1; have hz1 : w.heap.size + 1 < w1.heap.size := by have := hb1.size; simp at this; omega)
    refine bodyPost_ret (res_cs rfl (by rfl) ((((Bk.new' _ 27 [.int .u32 0, .string ⟨#[]⟩] (w.heap.size + 1) (by simp)).bel hb1).set_ 0 _).set_ 1 _) putTy) rfl ⟨rfl, ?_⟩
    exact ((((Bel.alloc w _).trans (Bel.alloc _ _)).trans hb1).setCell (by simp) _).setCell (by simp) _
theorem refStored_one (s : St) (w : World) (n : Int) (m : Nat) (hm : (m : Int) = n) (hn : n = 1 ∨ n = 2 ∨ n = 4) (hv : s.value < 4294967296) (h1 : s.store = true) (h2 : s.halt = 0) (h3 : s.size = n) :
    Calls Try.prog 17 #[s.val] w fun e w' => e = .returned (.tuple #[putV s.addr ⟨(Wd.bytesL s.value m).toArray⟩, .bool true]) ∧ Bel w w' := by
  have hb : ∀ W, Calls Try.prog 60 #[.int .u32 (s.value : Int), .int .i64 n] W fun e w' => e = .returned (.tuple #[.string ⟨(Wd.bytesL s.value m).toArray⟩, .int .i64 0]) ∧ Bel W w' := by
    intro W; rw [← hm]; exact Wd.refBytes_any s.value m W hv (by omega)
  have HR := Lib.hid hb
  clear hb
  obtain ⟨pc, next, rd, value, addr, size, store, halt, took⟩ := s
  simp only at h1 h2 h3
  subst h1 h2 h3
  unfold St.val putV
  rcases hn with rfl | rfl | rfl
  all_goals
    have Hm := Lib.hid hm
    clear hm
    go_enter Try.func17, Try.ntmps17
    go_wp2_with (go_at_call 60; refine (HR.out _).mono ?_; rintro e w1 ⟨rfl, hb1⟩; obtain ⟨hc1, hf1⟩ := bcell hb1; have hz1 : w.heap.size + 1 < w1.heap.size := by have := hb1.size; simp at this; omega)
    refine bodyPost_ret (res_cs rfl (by rfl) ((((Bk.new' _ 27 [.int .u32 0, .string ⟨#[]⟩] (w.heap.size + 1) (by simp)).bel hb1).set_ 0 _).set_ 1 _) putTy) rfl ⟨rfl, ?_⟩
    exact ((((Bel.alloc w _).trans (Bel.alloc _ _)).trans hb1).setCell (by simp) _).setCell (by simp) _

/-- what does not store -/
theorem no_cases (s : St) (h : ¬ (s.store = true ∧ s.halt = 0 ∧ (s.size = 1 ∨ s.size = 2 ∨ s.size = 4))) :
    s.store = false ∨ (s.store = true ∧ (s.halt == 0) = false ∧ (s.halt != 0) = true) ∨ (s.store = true ∧ s.halt = 0 ∧ (s.size == 1) = false ∧ (s.size != 1) = true ∧ (s.size == 2) = false ∧ (s.size != 2) = true ∧ (s.size == 4) = false ∧ (s.size != 4) = true) := by
  cases h1 : s.store with
  | false => exact .inl rfl
  | true =>
    by_cases h2 : s.halt = 0
    · refine .inr (.inr ⟨rfl, h2, ?_⟩)
      have h3 : s.size ≠ 1 := fun e => h ⟨h1, h2, .inl e⟩
      have h4 : s.size ≠ 2 := fun e => h ⟨h1, h2, .inr (.inl e)⟩
      have h5 : s.size ≠ 4 := fun e => h ⟨h1, h2, .inr (.inr e)⟩
      simp [h3, h4, h5]
    · exact .inr (.inl ⟨rfl, by simpa using h2, by simpa using h2⟩)
theorem Stored_no (s : St) (w : World) (h : ¬ (s.store = true ∧ s.halt = 0 ∧ (s.size = 1 ∨ s.size = 2 ∨ s.size = 4))) :
    Calls Try.prog 16 #[s.val] w fun e w' => e = .returned (.tuple #[putV 0 ⟨#[]⟩, .bool false]) ∧ Bel w w' := by
  have key := no_cases s h
  clear h
  obtain ⟨pc, next, rd, value, addr, size, store, halt, took⟩ := s
  simp only at key
  unfold St.val putV
  rcases key with rfl | ⟨rfl, a1, a2⟩ | ⟨rfl, rfl, a1, a2, a3, a4, a5, a6⟩
  all_goals
    go_enter Try.func16, Try.ntmps16
    go_wp2
    go_returns
    exact ⟨rfl, (Bel.alloc w _).trans (Bel.alloc _ _)⟩
theorem refStored_no (s : St) (w : World) (h : ¬ (s.store = true ∧ s.halt = 0 ∧ (s.size = 1 ∨ s.size = 2 ∨ s.size = 4))) :
    Calls Try.prog 17 #[s.val] w fun e w' => e = .returned (.tuple #[putV 0 ⟨#[]⟩, .bool false]) ∧ Bel w w' := by
  have key := no_cases s h
  clear h
  obtain ⟨pc, next, rd, value, addr, size, store, halt, took⟩ := s
  simp only at key
  unfold St.val putV
  rcases key with rfl | ⟨rfl, a1, a2⟩ | ⟨rfl, rfl, a1, a2, a3, a4, a5, a6⟩
  all_goals
    go_enter Try.func17, Try.ntmps17
    go_wp2
    go_returns
    exact ⟨rfl, (Bel.alloc w _).trans (Bel.alloc _ _)⟩

def after5 : List Nat := (List.replicate 32 0).set 1 5
theorem after5_len : after5.length = 32 := by simp [after5]
def one5 : St := ⟨0, 0, 1, 5, 0, 0, false, 0, 0⟩
theorem alive_any (w : World) :
    Calls Try.prog 18 #[] w fun e w' => e = .returned (.bool true) ∧ Bel w w' := by
  have ha : ∀ W, Calls Try.prog 19 #[.agg (u32v (List.replicate 32 0)).toArray, one5.val] W fun e w' => e = .returned (.agg (u32v after5).toArray) ∧ Bel W w' := fun W => Apply_yes (List.replicate 32 0) one5 W (by simp) (by decide) (by decide) rfl
  have HA := Lib.hid ha
  clear ha
  go_enter Try.func18, Try.ntmps18
  go_wp2_with (first | (go_at_call 19; refine (HA.out _).mono ?_; rintro e w1 ⟨rfl, hb1⟩) | (refine wpList_store_row rfl 23 (.tmp 1) (.tmp 4) (by rfl) w1.heap.size _ (by rfl) (by rfl) 23 zeros32 ?_ ?_ ?_ ?_ ?_; exact heap_alloc_new _ _; exact info32' (u32v_sz after5_len); exact (u32v_sz after5_len).symm; exact u32v_one _; have hcell : ((w1.alloc (.cells zeros32 23)).setRow w1.heap.size (u32v after5).toArray).cell? ⟨w1.heap.size, 1, none⟩ = some (.int .u32 5) := cell_setRow_same _ _ _ _ _ _ _ (heap_alloc_new _ _); unfold zeros32 at hcell))
  go_ret
  exact ⟨rfl, (hb1.trans (Bel.alloc _ _)).setRow hb1.size _⟩

end Go.Proofs.Ytcahadkkjfijfaa
