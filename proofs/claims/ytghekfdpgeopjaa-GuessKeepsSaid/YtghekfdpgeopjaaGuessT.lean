/- The guess package: calls, goesBack, slotOf, Train. -/
import Derived.Test.YtghekfdpgeopjaaGuess
set_option linter.unusedVariables false
set_option linter.unusedSimpArgs false
set_option maxRecDepth 100000
namespace Go.Proofs.Ytghekfdpgeopjaa
open Go.RowKit

def callsB (i : Ins) : Bool := decide ((i.op = 3 ∨ i.op = 4) ∧ i.rd = 1)
def backB (i : Ins) : Bool := decide (i.op = 4 ∧ i.rd = 0 ∧ i.rs1 = 1)
theorem calls_any (i : Ins) (w : World) :
    Calls Try.prog 15 #[i.val] w fun e w' => e = .returned (.bool (callsB i)) ∧ Bel w w' := by
  obtain ⟨op, rd, rs1, rs2, imm⟩ := i
  obtain ⟨b, hb⟩ : ∃ b, callsB ⟨op, rd, rs1, rs2, imm⟩ = b := ⟨_, rfl⟩
  rw [hb]
  simp only [callsB] at hb
  unfold Ins.val
  by_cases h3 : op = 3
  · subst h3
    cases h1 : (rd == 1)
    · obtain rfl : b = false := by rw [← hb]; simpa using h1
      clear hb
      go_enter Try.func15, Try.ntmps15
      go_wp2
      go_ret
      exact ⟨rfl, Bel.alloc _ _⟩
    · obtain rfl : b = true := by rw [← hb]; simpa using h1
      clear hb
      go_enter Try.func15, Try.ntmps15
      go_wp2
      go_ret
      exact ⟨rfl, Bel.alloc _ _⟩
  · by_cases h4 : op = 4
    · subst h4
      cases h1 : (rd == 1)
      · obtain rfl : b = false := by rw [← hb]; simpa using h1
        clear hb
        go_enter Try.func15, Try.ntmps15
        go_wp2
        go_ret
        exact ⟨rfl, Bel.alloc _ _⟩
      · obtain rfl : b = true := by rw [← hb]; simpa using h1
        clear hb
        go_enter Try.func15, Try.ntmps15
        go_wp2
        go_ret
        exact ⟨rfl, Bel.alloc _ _⟩
    · obtain rfl : b = false := by rw [← hb]; simp [h3, h4]
      have b3 : (op == 3) = false := by simpa using h3
      have b4 : (op == 4) = false := by simpa using h4
      clear hb h3 h4
      go_enter Try.func15, Try.ntmps15
      go_wp2
      go_ret
      exact ⟨rfl, Bel.alloc _ _⟩
theorem back_any (i : Ins) (w : World) :
    Calls Try.prog 16 #[i.val] w fun e w' => e = .returned (.bool (backB i)) ∧ Bel w w' := by
  obtain ⟨op, rd, rs1, rs2, imm⟩ := i
  obtain ⟨b, hb⟩ : ∃ b, backB ⟨op, rd, rs1, rs2, imm⟩ = b := ⟨_, rfl⟩
  rw [hb]
  simp only [backB] at hb
  unfold Ins.val
  cases h4 : (op == 4)
  · obtain rfl : b = false := by rw [← hb]; simp at h4; simp [h4]
    clear hb
    go_enter Try.func16, Try.ntmps16
    go_wp2
    go_ret
    exact ⟨rfl, Bel.alloc _ _⟩
  · cases h0 : (rd == 0)
    · obtain rfl : b = false := by rw [← hb]; simp at h0; simp [h0]
      clear hb
      go_enter Try.func16, Try.ntmps16
      go_wp2
      go_ret
      exact ⟨rfl, Bel.alloc _ _⟩
    · cases h1 : (rs1 == 1)
      · obtain rfl : b = false := by rw [← hb]; simp at h1; simp [h1]
        clear hb
        go_enter Try.func16, Try.ntmps16
        go_wp2
        go_ret
        exact ⟨rfl, Bel.alloc _ _⟩
      · obtain rfl : b = true := by rw [← hb]; simp at h0 h1 h4; simp [h0, h1, h4]
        clear hb
        go_enter Try.func16, Try.ntmps16
        go_wp2
        go_ret
        exact ⟨rfl, Bel.alloc _ _⟩

theorem xor_nat (a b : Int) : ∃ x : Nat, bits .xor .u32 a b = (x : Int) := by
  have h := bounds_u32 (wf_bits .xor .u32 a b)
  exact Int.eq_ofNat_of_zero_le h.1
theorem slotOf_any (As Ar : Option Addr) (ns cs h nr cr pc : Nat) (w : World) (hp : pc < 4294967296) (hh : h < 4294967296) :
    Calls Try.prog 14 #[gv As ns cs h Ar nr cr, .int .u32 (pc : Int)] w fun e w' => ∃ s : Nat, s < 8 ∧ e = .returned (.int .i64 (s : Int)) ∧ Bel w w' := by
  obtain ⟨x, hx⟩ := xor_nat ((pc : Int) / 4) (h : Int)
  unfold gv
  go_enter Try.func14, Try.ntmps14
  go_wp2
  go_ret
  exact ⟨x % 8, by omega, val_i64 (by omega), Bel.alloc _ _⟩

/-- the last outcomes, one more -/
def histL (h pc next : Nat) : Nat := (2 * h + if next = (pc + 4) % 4294967296 then 0 else 1) % 8
/-- places to return to, behind a jump -/
def retsL (rets : List Nat) (pc : Nat) (i : Ins) : List Nat :=
  if callsB i then (if rets.length = 4 then (rets ++ [(pc + 4) % 4294967296]).drop 1 else rets ++ [(pc + 4) % 4294967296]) else if backB i ∧ 0 < rets.length then rets.take (rets.length - 1) else rets



set_option maxHeartbeats 1000000 in
theorem Train_same (As Ar : Option Addr) (cs h nr cr pc next : Nat) (i : Ins) (w : World) (h1 : h < 8) (h2 : nr ≤ 4) (hi : -9223372036854775808 ≤ i.op ∧ i.op ≤ 9223372036854775807) (hk : kindI i.op ≠ 5) :
    Calls Try.prog 6 #[gv As 8 cs h Ar nr cr, .int .u32 (pc : Int), .int .u32 (next : Int), i.val] w fun e w' => e = .returned (gv As 8 cs h Ar nr cr) ∧ Bel w w' := by
  have HR := Lib.hid (fun W => Right_yes As Ar cs h nr cr W h1 h2)
  have HK := Lib.hid (fun W => Kind_any i W hi)
  have b5 : (kindI i.op != 5) = true := by simpa using hk
  revert HK b5
  generalize kindI i.op = k
  intro HK b5
  clear hk hi
  unfold gv at *
  rw [show i.val = .agg i.cells.toArray from rfl]
  go_enter Try.func6, Try.ntmps6
  go_upto_region 1 with (fail)
  (have hk4 : Bk (((w.alloc (.cells #[.slice As 8 cs, .int .u32 (h : Int), .slice Ar nr cr] 27)).alloc (.cells i.cells.toArray 31)).alloc (.cells #[.slice none 0 0, .int .u32 0, .slice none 0 0] 27)) w.heap.size 27 [.slice As 8 cs, .int .u32 (h : Int), .slice Ar nr cr] := (((Bk.new' w _ _ _ rfl).alloc _).alloc _); have hk7 : Bk (((w.alloc (.cells #[.slice As 8 cs, .int .u32 (h : Int), .slice Ar nr cr] 27)).alloc (.cells i.cells.toArray 31)).alloc (.cells #[.slice none 0 0, .int .u32 0, .slice none 0 0] 27)) (w.heap.size + 1) 31 i.cells := ((Bk.new' _ _ _ _ (by simp)).alloc _); have hk8 : Bk (((w.alloc (.cells #[.slice As 8 cs, .int .u32 (h : Int), .slice Ar nr cr] 27)).alloc (.cells i.cells.toArray 31)).alloc (.cells #[.slice none 0 0, .int .u32 0, .slice none 0 0] 27)) (w.heap.size + 1 + 1) 27 [.slice none 0 0, .int .u32 0, .slice none 0 0] := Bk.new' _ _ _ _ (by simp); have hbel : Bel w (((w.alloc (.cells #[.slice As 8 cs, .int .u32 (h : Int), .slice Ar nr cr] 27)).alloc (.cells i.cells.toArray 31)).alloc (.cells #[.slice none 0 0, .int .u32 0, .slice none 0 0] 27)) := ((Bel.alloc w _).trans (Bel.alloc _ _)).trans (Bel.alloc _ _); revert hk4 hk7 hk8 hbel; generalize ((w.alloc _).alloc _).alloc _ = W0; intro hk4 hk7 hk8 hbel; replace hbel := Lib.hid hbel; have c40 := hk4.cell_of 0 (.slice As 8 cs) rfl; have c41 := hk4.cell_of 1 (.int .u32 (h : Int)) rfl; have c42 := hk4.cell_of 2 (.slice Ar nr cr) rfl)
  go_wp2_with (first | (go_at_call 12; refine (HR.out _).mono ?_; rintro e w1 ⟨rfl, hn⟩; replace hk4 := hk4.bel hn; replace hk7 := hk7.bel hn; replace hk8 := hk8.bel hn; have c40 := hk4.cell_of 0 (.slice As 8 cs) rfl; have c41 := hk4.cell_of 1 (.int .u32 (h : Int)) rfl; have c42 := hk4.cell_of 2 (.slice Ar nr cr) rfl; replace hbel := Lib.hid (hbel.out.trans hn); clear hn) | (go_at_call 13; refine (HK.out _).mono ?_; rintro e w2 ⟨rfl, hn⟩; replace hk4 := hk4.bel hn; replace hk7 := hk7.bel hn; replace hk8 := hk8.bel hn; have c40 := hk4.cell_of 0 (.slice As 8 cs) rfl; have c41 := hk4.cell_of 1 (.int .u32 (h : Int)) rfl; have c42 := hk4.cell_of 2 (.slice Ar nr cr) rfl; replace hbel := Lib.hid (hbel.out.trans hn); clear hn) | (refine wpList_load_bk (by rfl) 27 (.tmp 4) (by rfl) w.heap.size (by rfl) 27 _ _ rfl hk4 gTy ?_) | (refine wpList_load_bk (by rfl) 31 (.tmp 7) (by rfl) (w.heap.size + 1) (by rfl) 31 i.cells i.val rfl hk7 inssTy ?_) | (refine wpList_store_bk (by rfl) 27 (.tmp 8) (.tmp 21) (by rfl) (w.heap.size + 1 + 1) [.slice As 8 cs, .int .u32 (h : Int), .slice Ar nr cr] (by rfl) (by rfl) 27 _ hk8 rfl gTy (by simp [Value.oneCell']) ?_; intro w3 hk9 hs3 ho3 hbe3))
  refine bodyPost_ret (res_c rfl (by rfl) hk9 gTy) rfl ⟨rfl, ?_⟩
  exact hbe3 w hbel.out (by omega)

theorem u32info : (Try.prog.info? 24).map (fun i => (i.zero, i.size, i.bytes)) = some (some (.int .u32 0), 1, 4) := by kernel_rfl
/-- four more, in a word -/
theorem plus4 (pc : Nat) (hp : pc < 4294967296) : ((pc : Int) + 4) % 4294967296 = (((pc + 4) % 4294967296 : Nat) : Int) := by omega
theorem finish {W w' : World} {gS g0 base n c hist lo : Nat} {t : TypeId} {A : Option Addr} {sl : List Sl} {rets : List Nat} {HH : Int} (hS : Bk W gS t (sls sl)) (hl : sl.length = 8) (hr : Rd W W.heap.size 1 A n c (u32v rets))
    (hge : ∀ g o, A = some ⟨g, o, none⟩ → base ≤ g) (h1 : g0 < gS) (h2 : g0 < base) (ho : ∀ k, k ≠ g0 → w'.heap[k]? = W.heap[k]?) (hs : w'.heap.size = W.heap.size) (hh : HH = (hist : Int)) (hlo : lo ≤ g0) :
    GR w' (.agg [Value.slice (some ⟨gS, 0, none⟩) 8 8, .int .u32 HH, .slice A n c].toArray) lo hist rets := by
  subst hh
  refine ⟨_, _, sl, A, n, c, rfl, (hS.keep (ho _ (by omega))).rdAll rfl (by rw [sls_len, hl]) (by unfold maxLen; omega), hr.stay (fun g o e => ho _ ?_) (by omega), ?_, ?_⟩
  · have := hge g o e
    omega
  · intro g o e
    injection e with e
    injection e with e _
    omega
  · intro g o e
    have := hge g o e
    omega
theorem drop_one {W : World} {B n c g o : Nat} {l : List Nat} (h : Rd W B 1 (some ⟨g, o, none⟩) (n + 1) c (u32v l)) (hc : 1 ≤ c) : Rd W B 1 (some ⟨g, o + 1, none⟩) n (c - 1) (u32v (l.drop 1)) := by
  have hl := h.u32len
  refine ⟨by rw [u32v_len, List.length_drop]; omega, by have := h.le; omega, by have := h.mx; omega, fun hn => ?_⟩
  obtain ⟨g', o', e, hb, hx⟩ := h.at_ (by omega)
  injection e with e
  injection e with e1 e2
  subst e1 e2
  refine ⟨_, _, rfl, hb, fun j u hu => ?_⟩
  rw [← u32v_drop, List.getElem?_drop] at hu
  have := hx (1 + j) u hu
  rwa [show o + (1 + j) = o + 1 + j by omega] at this
set_option maxHeartbeats 1000000 in
theorem Train_jump (As Ar : Option Addr) (cs h nr cr pc next : Nat) (sl : List Sl) (rets : List Nat) (i : Ins) (w : World) (h1 : h < 8) (h2 : nr ≤ 4) (hp : pc < 4294967296) (hnx : next < 4294967296) (hi : -9223372036854775808 ≤ i.op ∧ i.op ≤ 9223372036854775807) (hk : kindI i.op = 5)
    (hsl : Rd w w.heap.size 2 As 8 cs (sls sl)) (hrt : Rd w w.heap.size 1 Ar nr cr (u32v rets)) :
    Calls Try.prog 6 #[gv As 8 cs h Ar nr cr, .int .u32 (pc : Int), .int .u32 (next : Int), i.val] w fun e w' => ∃ v, e = .returned v ∧ GR w' v w.heap.size (histL h pc next) (retsL rets pc i) ∧ Bel w w' := by
  have HR := Lib.hid (fun W => Right_yes As Ar cs h nr cr W h1 h2)
  have HK := Lib.hid (fun W => Kind_any i W hi)
  rw [hk] at HK
  have HS := Lib.hid (fun W => slotOf_any As Ar 8 cs h nr cr pc W hp (by omega))
  have HC := Lib.hid (fun W => calls_any i W)
  have HB := Lib.hid (fun W => back_any i W)
  obtain ⟨i0, hi, hz0, hz1, hz2⟩ := info_parts slinfo
  obtain ⟨j0, hj, hy0, hy1, hy2⟩ := info_parts u32info
  clear hk
  unfold gv at *
  rw [show i.val = .agg i.cells.toArray from rfl]
  go_enter Try.func6, Try.ntmps6
  go_upto_region 1 with (fail)
  (have hk4 : Bk (((w.alloc (.cells #[.slice As 8 cs, .int .u32 (h : Int), .slice Ar nr cr] 27)).alloc (.cells i.cells.toArray 31)).alloc (.cells #[.slice none 0 0, .int .u32 0, .slice none 0 0] 27)) w.heap.size 27 [.slice As 8 cs, .int .u32 (h : Int), .slice Ar nr cr] := (((Bk.new' w _ _ _ rfl).alloc _).alloc _); have hk7 : Bk (((w.alloc (.cells #[.slice As 8 cs, .int .u32 (h : Int), .slice Ar nr cr] 27)).alloc (.cells i.cells.toArray 31)).alloc (.cells #[.slice none 0 0, .int .u32 0, .slice none 0 0] 27)) (w.heap.size + 1) 31 i.cells := ((Bk.new' _ _ _ _ (by simp)).alloc _); have hk8 : Bk (((w.alloc (.cells #[.slice As 8 cs, .int .u32 (h : Int), .slice Ar nr cr] 27)).alloc (.cells i.cells.toArray 31)).alloc (.cells #[.slice none 0 0, .int .u32 0, .slice none 0 0] 27)) (w.heap.size + 1 + 1) 27 [.slice none 0 0, .int .u32 0, .slice none 0 0] := Bk.new' _ _ _ _ (by simp); have hbel : Bel w (((w.alloc (.cells #[.slice As 8 cs, .int .u32 (h : Int), .slice Ar nr cr] 27)).alloc (.cells i.cells.toArray 31)).alloc (.cells #[.slice none 0 0, .int .u32 0, .slice none 0 0] 27)) := ((Bel.alloc w _).trans (Bel.alloc _ _)).trans (Bel.alloc _ _); revert hk4 hk7 hk8 hbel; generalize ((w.alloc _).alloc _).alloc _ = W0; intro hk4 hk7 hk8 hbel; replace hbel := Lib.hid hbel; have c40 := hk4.cell_of 0 (.slice As 8 cs) rfl; have c41 := hk4.cell_of 1 (.int .u32 (h : Int)) rfl; have c42 := hk4.cell_of 2 (.slice Ar nr cr) rfl)
  go_upto_region 6 with (first | (go_at_call 12; refine (HR.out _).mono ?_; rintro e w1 ⟨rfl, hn⟩; replace hk4 := hk4.bel hn; replace hk7 := hk7.bel hn; replace hk8 := hk8.bel hn; have c40 := hk4.cell_of 0 (.slice As 8 cs) rfl; have c41 := hk4.cell_of 1 (.int .u32 (h : Int)) rfl; have c42 := hk4.cell_of 2 (.slice Ar nr cr) rfl; replace hbel := Lib.hid (hbel.out.trans hn); clear hn) | (go_at_call 13; refine (HK.out _).mono ?_; rintro e w2 ⟨rfl, hn⟩; replace hk4 := hk4.bel hn; replace hk7 := hk7.bel hn; replace hk8 := hk8.bel hn; have c40 := hk4.cell_of 0 (.slice As 8 cs) rfl; have c41 := hk4.cell_of 1 (.int .u32 (h : Int)) rfl; have c42 := hk4.cell_of 2 (.slice Ar nr cr) rfl; replace hbel := Lib.hid (hbel.out.trans hn); clear hn) | (refine wpList_load_bk (by rfl) 27 (.tmp 4) (by rfl) w.heap.size (by rfl) 27 _ _ rfl hk4 gTy ?_) | (refine wpList_load_bk (by rfl) 31 (.tmp 7) (by rfl) (w.heap.size + 1) (by rfl) 31 i.cells i.val rfl hk7 inssTy ?_) | (at_make; refine wpList_make_full _ rfl _ _ 25 (by rfl) w.heap.size 41 i0 _ 2 Try.underlying25 hi hz0 hz1 _ _ _ _ 8 (by rfl) (by rfl) (by omega) (by omega) (by rw [hz2]; omega) (by unfold maxLen; omega) hbel.out.size ?_; intro w3 hown3 hg3; rw [made_slots] at hown3; have hkS := Bk.of_own hown3 rfl; have hn := (Bel.refl _).grown hg3 (by simp); have hS4 := hk4.lt; have hS8 := hk8.lt; replace hk4 := hk4.bel hn; replace hk7 := hk7.bel hn; replace hk8 := hk8.bel hn; have c40 := hk4.cell_of 0 (.slice As 8 cs) rfl; have c41 := hk4.cell_of 1 (.int .u32 (h : Int)) rfl; have c42 := hk4.cell_of 2 (.slice Ar nr cr) rfl; replace hbel := Lib.hid (hbel.out.trans hn); clear hn hown3 hg3) | (refine wpList_copy_rd rfl (.tmp 23) (.tmp 25) 25 (by rfl) 41 Try.underlying25 2 (by kernel_rfl) w2.heap.size 0 8 8 As cs (by rfl) (by rfl) w.heap.size (sls sl) (hsl.below hbel.out) (sls_one _) 41 _ hkS (by simp [sls_len]) ?_; intro w4 hkS4 hg4; rw [spl_all _ _ (by rw [sls_len, sls_len, hsl.slslen]; rfl)] at hkS4; replace hk4 := hk4.grown hg4 (by simp; omega); replace hk7 := hk7.grown hg4 (by simp; omega); replace hk8 := hk8.grown hg4 (by simp; omega); have c40 := hk4.cell_of 0 (.slice As 8 cs) rfl; have c41 := hk4.cell_of 1 (.int .u32 (h : Int)) rfl; have c42 := hk4.cell_of 2 (.slice Ar nr cr) rfl; replace hbel := Lib.hid (hbel.out.grown hg4 (by intro k hk; injection hk with hk; omega)); clear hg4) | (go_at_call 14; refine (HS.out _).mono ?_; rintro e w5 ⟨s, hs, rfl, hn⟩; replace hk4 := hk4.bel hn; replace hk7 := hk7.bel hn; replace hk8 := hk8.bel hn; have c40 := hk4.cell_of 0 (.slice As 8 cs) rfl; have c41 := hk4.cell_of 1 (.int .u32 (h : Int)) rfl; have c42 := hk4.cell_of 2 (.slice Ar nr cr) rfl; replace hbel := Lib.hid (hbel.out.trans hn); replace hkS4 := hkS4.bel hn; clear hn) | (refine wpList_store_part (by rfl) 41 (.tmp 34) (.tmp 33) (by rfl) w2.heap.size (s * 2) (Sl.cells ⟨pc, next⟩) (by first | rfl | (simp; done)) (by rfl) 41 _ hkS4 (by rw [sls_len, hsl.slslen]; simp [Sl.cells]; omega) slsTy (Sl.one _) ?_; intro w6 hkS6 hs6 ho6 hbe6; rw [sls_spl _ _ _ (by rw [hsl.slslen]; exact hs)] at hkS6; replace hk4 := hk4.keep (ho6 _ (by omega)); replace hk7 := hk7.keep (ho6 _ (by omega)); replace hk8 := hk8.keep (ho6 _ (by omega)); have c40 := hk4.cell_of 0 (.slice As 8 cs) rfl; have c41 := hk4.cell_of 1 (.int .u32 (h : Int)) rfl; have c42 := hk4.cell_of 2 (.slice Ar nr cr) rfl; replace hbel := Lib.hid (hbe6 _ hbel.out (by omega)); have h68 := hk8.lt; clear hbe6 ho6 hs6))
  have hrl := hrt.u32len
  replace hrl := Lib.hid hrl
  by_cases hq : next = (pc + 4) % 4294967296
  · have bq : ((next : Int) != ((pc : Int) + 4) % 4294967296) = false := by simp [hq]
    have HQ : Hid (histL h pc next = (2 * h) % 8) := by
      show histL h pc next = (2 * h) % 8
      unfold histL; rw [if_pos hq]; rfl
    clear hq
    cases hcb : callsB i
    · rw [hcb] at HC
      cases hbb : backB i
      · have HT : Hid (retsL rets pc i = rets) := by
          show retsL rets pc i = _
          unfold retsL; rw [if_neg (by simp [hcb]), if_neg (by simp [hbb])]
        rw [hbb] at HB
        clear hcb hbb
        go_wp2_with (first | (at_make; refine wpList_make_own _ rfl _ _ 22 (by rfl) w6.heap.size 24 j0 _ 1 Try.underlying22 hj hy0 hy1 _ _ _ 5 (by rfl) (by rfl) (by omega) (by rw [hy2]; omega) (by unfold maxLen; omega) (Nat.le_refl _) ?_; intro w7 hown7 hg7; have hn := (Bel.refl _).grown hg7 (by simp); have hS6 := hkS6.lt; have h67 := hn.size; replace hk4 := hk4.bel hn; replace hk7 := hk7.bel hn; replace hk8 := hk8.bel hn; have c40 := hk4.cell_of 0 (.slice As 8 cs) rfl; have c41 := hk4.cell_of 1 (.int .u32 (h : Int)) rfl; have c42 := hk4.cell_of 2 (.slice Ar nr cr) rfl; replace hbel := Lib.hid (hbel.out.trans hn); replace hkS6 := hkS6.bel hn; clear hn hg7) | (at_builtin; refine wpList_app_rd rfl (.tmp 45) (.tmp 47) 22 (by rfl) w6.heap.size 24 _ 1 4 Try.underlying22 u32info rfl (by decide) _ 0 [] (by rfl) hown7 w.heap.size Ar nr cr (u32v rets) (by rfl) (hrt.below hbel.out) (u32v_one _) (by omega) (by omega) h67 ?_; intro v8 w8 hown8 hg8; rw [Nat.zero_add, List.nil_append] at hown8; replace hk4 := hk4.own_grown hown7 hg8 (by omega); replace hk7 := hk7.own_grown hown7 hg8 (by omega); replace hk8 := hk8.own_grown hown7 hg8 (by omega); replace hkS6 := hkS6.own_grown hown7 hg8 (by omega); have c40 := hk4.cell_of 0 (.slice As 8 cs) rfl; have c41 := hk4.cell_of 1 (.int .u32 (h : Int)) rfl; have c42 := hk4.cell_of 2 (.slice Ar nr cr) rfl; replace hbel := Lib.hid (hbel.out.then_grown hown7 hg8 (by omega)); have h78 := hg8.size; obtain ⟨A8, c8, rfl, hr8, hge8⟩ := Rd.of_own' hown8; replace hge8 := Lib.hid hge8; have hc8 := hr8.le; have hm8 := hr8.mx; clear hg8 hown7) | (go_at_call 15; refine (HC.out _).mono ?_; rintro e w9 ⟨rfl, hn⟩; replace hk4 := hk4.bel hn; replace hk7 := hk7.bel hn; replace hk8 := hk8.bel hn; have c40 := hk4.cell_of 0 (.slice As 8 cs) rfl; have c41 := hk4.cell_of 1 (.int .u32 (h : Int)) rfl; have c42 := hk4.cell_of 2 (.slice Ar nr cr) rfl; replace hbel := Lib.hid (hbel.out.trans hn); replace hkS6 := hkS6.bel hn; have hown9 := own_bel hown8 hn; have hr9 := hr8.bel hn; have h89 := hn.size; clear hn hr8 hown8) | (go_at_call 16; refine (HB.out _).mono ?_; rintro e w10 ⟨rfl, hn⟩; replace hk4 := hk4.bel hn; replace hk7 := hk7.bel hn; replace hk8 := hk8.bel hn; have c40 := hk4.cell_of 0 (.slice As 8 cs) rfl; have c41 := hk4.cell_of 1 (.int .u32 (h : Int)) rfl; have c42 := hk4.cell_of 2 (.slice Ar nr cr) rfl; replace hbel := Lib.hid (hbel.out.trans hn); replace hkS6 := hkS6.bel hn; have hr10 := hr9.bel hn; clear hn) | (refine wpList_load_bk (by rfl) 31 (.tmp 7) (by rfl) (w.heap.size + 1) (by rfl) 31 i.cells i.val rfl hk7 inssTy ?_) | (refine wpList_store_bk (by rfl) 27 (.tmp 8) (.tmp 79) (by rfl) (w.heap.size + 1 + 1) [.slice (some ⟨w2.heap.size, 0, none⟩) 8 8, .int .u32 (2 * (h : Int) % 8), .slice A8 nr c8] (by rfl) (by rfl) 27 _ hk8 rfl gTy (by simp [Value.oneCell']) ?_; intro w20 hk20 hs20 ho20 hbe20; replace hs20 := Lib.hid hs20))
        refine bodyPost_ret (res_c rfl (by rfl) hk20 gTy) rfl ⟨_, rfl, ?_, hbe20 w hbel.out (by omega)⟩
        rw [HT.out, HQ.out]
        exact finish hkS6 (by rw [List.length_set, hsl.slslen]) hr10 hge8.out (by omega) (by omega) ho20 hs20.out (by omega) (by omega)
      · by_cases hn0 : 0 < nr
        · have HT : Hid (retsL rets pc i = rets.take (nr - 1)) := by
            show retsL rets pc i = _
            unfold retsL; rw [if_neg (by simp [hcb]), if_pos ⟨hbb, by rw [hrl.out]; exact hn0⟩, hrl.out]
          rw [hbb] at HB
          clear hcb hbb
          go_wp2_with (first | (at_make; refine wpList_make_own _ rfl _ _ 22 (by rfl) w6.heap.size 24 j0 _ 1 Try.underlying22 hj hy0 hy1 _ _ _ 5 (by rfl) (by rfl) (by omega) (by rw [hy2]; omega) (by unfold maxLen; omega) (Nat.le_refl _) ?_; intro w7 hown7 hg7; have hn := (Bel.refl _).grown hg7 (by simp); have hS6 := hkS6.lt; have h67 := hn.size; replace hk4 := hk4.bel hn; replace hk7 := hk7.bel hn; replace hk8 := hk8.bel hn; have c40 := hk4.cell_of 0 (.slice As 8 cs) rfl; have c41 := hk4.cell_of 1 (.int .u32 (h : Int)) rfl; have c42 := hk4.cell_of 2 (.slice Ar nr cr) rfl; replace hbel := Lib.hid (hbel.out.trans hn); replace hkS6 := hkS6.bel hn; clear hn hg7) | (at_builtin; refine wpList_app_rd rfl (.tmp 45) (.tmp 47) 22 (by rfl) w6.heap.size 24 _ 1 4 Try.underlying22 u32info rfl (by decide) _ 0 [] (by rfl) hown7 w.heap.size Ar nr cr (u32v rets) (by rfl) (hrt.below hbel.out) (u32v_one _) (by omega) (by omega) h67 ?_; intro v8 w8 hown8 hg8; rw [Nat.zero_add, List.nil_append] at hown8; replace hk4 := hk4.own_grown hown7 hg8 (by omega); replace hk7 := hk7.own_grown hown7 hg8 (by omega); replace hk8 := hk8.own_grown hown7 hg8 (by omega); replace hkS6 := hkS6.own_grown hown7 hg8 (by omega); have c40 := hk4.cell_of 0 (.slice As 8 cs) rfl; have c41 := hk4.cell_of 1 (.int .u32 (h : Int)) rfl; have c42 := hk4.cell_of 2 (.slice Ar nr cr) rfl; replace hbel := Lib.hid (hbel.out.then_grown hown7 hg8 (by omega)); have h78 := hg8.size; obtain ⟨A8, c8, rfl, hr8, hge8⟩ := Rd.of_own' hown8; replace hge8 := Lib.hid hge8; have hc8 := hr8.le; have hm8 := hr8.mx; clear hg8 hown7) | (go_at_call 15; refine (HC.out _).mono ?_; rintro e w9 ⟨rfl, hn⟩; replace hk4 := hk4.bel hn; replace hk7 := hk7.bel hn; replace hk8 := hk8.bel hn; have c40 := hk4.cell_of 0 (.slice As 8 cs) rfl; have c41 := hk4.cell_of 1 (.int .u32 (h : Int)) rfl; have c42 := hk4.cell_of 2 (.slice Ar nr cr) rfl; replace hbel := Lib.hid (hbel.out.trans hn); replace hkS6 := hkS6.bel hn; have hown9 := own_bel hown8 hn; have hr9 := hr8.bel hn; have h89 := hn.size; clear hn hr8 hown8) | (go_at_call 16; refine (HB.out _).mono ?_; rintro e w10 ⟨rfl, hn⟩; replace hk4 := hk4.bel hn; replace hk7 := hk7.bel hn; replace hk8 := hk8.bel hn; have c40 := hk4.cell_of 0 (.slice As 8 cs) rfl; have c41 := hk4.cell_of 1 (.int .u32 (h : Int)) rfl; have c42 := hk4.cell_of 2 (.slice Ar nr cr) rfl; replace hbel := Lib.hid (hbel.out.trans hn); replace hkS6 := hkS6.bel hn; have hr10 := hr9.bel hn; clear hn) | (refine wpList_load_bk (by rfl) 31 (.tmp 7) (by rfl) (w.heap.size + 1) (by rfl) 31 i.cells i.val rfl hk7 inssTy ?_) | (refine wpList_store_bk (by rfl) 27 (.tmp 8) (.tmp 79) (by rfl) (w.heap.size + 1 + 1) [.slice (some ⟨w2.heap.size, 0, none⟩) 8 8, .int .u32 (2 * (h : Int) % 8), .slice A8 (nr - 1) c8] (by rfl) (by rfl) 27 _ hk8 rfl gTy (by simp [Value.oneCell']) ?_; intro w20 hk20 hs20 ho20 hbe20; replace hs20 := Lib.hid hs20))
          refine bodyPost_ret (res_c rfl (by rfl) hk20 gTy) rfl ⟨_, rfl, ?_, hbe20 w hbel.out (by omega)⟩
          rw [HT.out, HQ.out]
          have ht := hr10.to (N := nr - 1) (by omega)
          rw [Nat.mul_one, u32v_take] at ht
          exact finish hkS6 (by rw [List.length_set, hsl.slslen]) ht hge8.out (by omega) (by omega) ho20 hs20.out (by omega) (by omega)
        · have hn00 : nr ≤ 0 := by omega
          have hd0 : decide ((0 : Int) < (nr : Int)) = false := by simpa using hn00
          have HT : Hid (retsL rets pc i = rets) := by
            show retsL rets pc i = _
            unfold retsL; rw [if_neg (by simp [hcb]), if_neg (by rw [hrl.out]; omega)]
          rw [hbb] at HB
          clear hcb hbb hn0
          go_wp2_with (first | (at_make; refine wpList_make_own _ rfl _ _ 22 (by rfl) w6.heap.size 24 j0 _ 1 Try.underlying22 hj hy0 hy1 _ _ _ 5 (by rfl) (by rfl) (by omega) (by rw [hy2]; omega) (by unfold maxLen; omega) (Nat.le_refl _) ?_; intro w7 hown7 hg7; have hn := (Bel.refl _).grown hg7 (by simp); have hS6 := hkS6.lt; have h67 := hn.size; replace hk4 := hk4.bel hn; replace hk7 := hk7.bel hn; replace hk8 := hk8.bel hn; have c40 := hk4.cell_of 0 (.slice As 8 cs) rfl; have c41 := hk4.cell_of 1 (.int .u32 (h : Int)) rfl; have c42 := hk4.cell_of 2 (.slice Ar nr cr) rfl; replace hbel := Lib.hid (hbel.out.trans hn); replace hkS6 := hkS6.bel hn; clear hn hg7) | (at_builtin; refine wpList_app_rd rfl (.tmp 45) (.tmp 47) 22 (by rfl) w6.heap.size 24 _ 1 4 Try.underlying22 u32info rfl (by decide) _ 0 [] (by rfl) hown7 w.heap.size Ar nr cr (u32v rets) (by rfl) (hrt.below hbel.out) (u32v_one _) (by omega) (by omega) h67 ?_; intro v8 w8 hown8 hg8; rw [Nat.zero_add, List.nil_append] at hown8; replace hk4 := hk4.own_grown hown7 hg8 (by omega); replace hk7 := hk7.own_grown hown7 hg8 (by omega); replace hk8 := hk8.own_grown hown7 hg8 (by omega); replace hkS6 := hkS6.own_grown hown7 hg8 (by omega); have c40 := hk4.cell_of 0 (.slice As 8 cs) rfl; have c41 := hk4.cell_of 1 (.int .u32 (h : Int)) rfl; have c42 := hk4.cell_of 2 (.slice Ar nr cr) rfl; replace hbel := Lib.hid (hbel.out.then_grown hown7 hg8 (by omega)); have h78 := hg8.size; obtain ⟨A8, c8, rfl, hr8, hge8⟩ := Rd.of_own' hown8; replace hge8 := Lib.hid hge8; have hc8 := hr8.le; have hm8 := hr8.mx; clear hg8 hown7) | (go_at_call 15; refine (HC.out _).mono ?_; rintro e w9 ⟨rfl, hn⟩; replace hk4 := hk4.bel hn; replace hk7 := hk7.bel hn; replace hk8 := hk8.bel hn; have c40 := hk4.cell_of 0 (.slice As 8 cs) rfl; have c41 := hk4.cell_of 1 (.int .u32 (h : Int)) rfl; have c42 := hk4.cell_of 2 (.slice Ar nr cr) rfl; replace hbel := Lib.hid (hbel.out.trans hn); replace hkS6 := hkS6.bel hn; have hown9 := own_bel hown8 hn; have hr9 := hr8.bel hn; have h89 := hn.size; clear hn hr8 hown8) | (go_at_call 16; refine (HB.out _).mono ?_; rintro e w10 ⟨rfl, hn⟩; replace hk4 := hk4.bel hn; replace hk7 := hk7.bel hn; replace hk8 := hk8.bel hn; have c40 := hk4.cell_of 0 (.slice As 8 cs) rfl; have c41 := hk4.cell_of 1 (.int .u32 (h : Int)) rfl; have c42 := hk4.cell_of 2 (.slice Ar nr cr) rfl; replace hbel := Lib.hid (hbel.out.trans hn); replace hkS6 := hkS6.bel hn; have hr10 := hr9.bel hn; clear hn) | (refine wpList_load_bk (by rfl) 31 (.tmp 7) (by rfl) (w.heap.size + 1) (by rfl) 31 i.cells i.val rfl hk7 inssTy ?_) | (refine wpList_store_bk (by rfl) 27 (.tmp 8) (.tmp 79) (by rfl) (w.heap.size + 1 + 1) [.slice (some ⟨w2.heap.size, 0, none⟩) 8 8, .int .u32 (2 * (h : Int) % 8), .slice A8 nr c8] (by rfl) (by rfl) 27 _ hk8 rfl gTy (by simp [Value.oneCell']) ?_; intro w20 hk20 hs20 ho20 hbe20; replace hs20 := Lib.hid hs20))
          refine bodyPost_ret (res_c rfl (by rfl) hk20 gTy) rfl ⟨_, rfl, ?_, hbe20 w hbel.out (by omega)⟩
          rw [HT.out, HQ.out]
          exact finish hkS6 (by rw [List.length_set, hsl.slslen]) hr10 hge8.out (by omega) (by omega) ho20 hs20.out (by omega) (by omega)
    · rw [hcb] at HC
      by_cases hn4 : nr = 4
      · have HT : Hid (retsL rets pc i = (rets ++ [(pc + 4) % 4294967296]).drop 1) := by
          show retsL rets pc i = _
          unfold retsL; rw [if_pos hcb, if_pos (by rw [hrl.out]; exact hn4)]
        have hn5 : 4 ≤ nr := by omega
        clear hcb hn4
        go_wp2_with (first | (at_make; refine wpList_make_own _ rfl _ _ 22 (by rfl) w6.heap.size 24 j0 _ 1 Try.underlying22 hj hy0 hy1 _ _ _ 5 (by rfl) (by rfl) (by omega) (by rw [hy2]; omega) (by unfold maxLen; omega) (Nat.le_refl _) ?_; intro w7 hown7 hg7; have hn := (Bel.refl _).grown hg7 (by simp); have hS6 := hkS6.lt; have h67 := hn.size; replace hk4 := hk4.bel hn; replace hk7 := hk7.bel hn; replace hk8 := hk8.bel hn; have c40 := hk4.cell_of 0 (.slice As 8 cs) rfl; have c41 := hk4.cell_of 1 (.int .u32 (h : Int)) rfl; have c42 := hk4.cell_of 2 (.slice Ar nr cr) rfl; replace hbel := Lib.hid (hbel.out.trans hn); replace hkS6 := hkS6.bel hn; clear hn hg7) | (at_builtin; refine wpList_app_rd rfl (.tmp 45) (.tmp 47) 22 (by rfl) w6.heap.size 24 _ 1 4 Try.underlying22 u32info rfl (by decide) _ 0 [] (by rfl) hown7 w.heap.size Ar nr cr (u32v rets) (by rfl) (hrt.below hbel.out) (u32v_one _) (by omega) (by omega) h67 ?_; intro v8 w8 hown8 hg8; rw [Nat.zero_add, List.nil_append] at hown8; replace hk4 := hk4.own_grown hown7 hg8 (by omega); replace hk7 := hk7.own_grown hown7 hg8 (by omega); replace hk8 := hk8.own_grown hown7 hg8 (by omega); replace hkS6 := hkS6.own_grown hown7 hg8 (by omega); have c40 := hk4.cell_of 0 (.slice As 8 cs) rfl; have c41 := hk4.cell_of 1 (.int .u32 (h : Int)) rfl; have c42 := hk4.cell_of 2 (.slice Ar nr cr) rfl; replace hbel := Lib.hid (hbel.out.then_grown hown7 hg8 (by omega)); have h78 := hg8.size; obtain ⟨A8, c8, rfl, hr8, hge8⟩ := Rd.of_own' hown8; replace hge8 := Lib.hid hge8; have hc8 := hr8.le; have hm8 := hr8.mx; clear hg8 hown7) | (go_at_call 15; refine (HC.out _).mono ?_; rintro e w9 ⟨rfl, hn⟩; replace hk4 := hk4.bel hn; replace hk7 := hk7.bel hn; replace hk8 := hk8.bel hn; have c40 := hk4.cell_of 0 (.slice As 8 cs) rfl; have c41 := hk4.cell_of 1 (.int .u32 (h : Int)) rfl; have c42 := hk4.cell_of 2 (.slice Ar nr cr) rfl; replace hbel := Lib.hid (hbel.out.trans hn); replace hkS6 := hkS6.bel hn; have hown9 := own_bel hown8 hn; have hr9 := hr8.bel hn; have h89 := hn.size; clear hn hr8 hown8) | (at_builtin; refine wpList_app w9 [.int .u32 (((pc : Int) + 4) % 4294967296)] 1 rfl (.tmp 54) (.tmp 57) 22 (by rfl) w6.heap.size 24 _ 1 4 Try.underlying22 u32info rfl (by decide) _ nr _ (by rfl) hown9 (by rfl) rfl (by simp [Value.oneCell']) (by omega) (by omega) (by omega) ?_; intro v11 w11 hown11 hg11; rw [plus4 pc hp, show u32v rets ++ [Value.int .u32 (((pc + 4) % 4294967296 : Nat) : Int)] = u32v (rets ++ [(pc + 4) % 4294967296]) by rw [u32v_append]; rfl] at hown11; replace hk8 := hk8.own_grown hown9 hg11 (by omega); replace hkS6 := hkS6.own_grown hown9 hg11 (by omega); replace hbel := Lib.hid (hbel.out.then_grown hown9 hg11 (by omega)); obtain ⟨A11, c11, rfl, hr11, hge11⟩ := Rd.of_own' hown11; replace hge11 := Lib.hid hge11; have hc11 := hr11.le; have hm11 := hr11.mx; obtain ⟨g11, o11, rfl, _⟩ := hr11.at_ (by omega); clear hg11 hown9 hown11) | (refine wpList_load_bk (by rfl) 31 (.tmp 7) (by rfl) (w.heap.size + 1) (by rfl) 31 i.cells i.val rfl hk7 inssTy ?_) | (refine wpList_store_bk (by rfl) 27 (.tmp 8) (.tmp 79) (by rfl) (w.heap.size + 1 + 1) [.slice (some ⟨w2.heap.size, 0, none⟩) 8 8, .int .u32 (2 * (h : Int) % 8), .slice (some ⟨g11, o11 + 1, none⟩) nr (c11 - 1)] (by rfl) (by rfl) 27 _ hk8 rfl gTy (by simp [Value.oneCell']) ?_; intro w20 hk20 hs20 ho20 hbe20; replace hs20 := Lib.hid hs20))
        refine bodyPost_ret (res_c rfl (by rfl) hk20 gTy) rfl ⟨_, rfl, ?_, hbe20 w hbel.out (by omega)⟩
        rw [HT.out, HQ.out]
        exact finish hkS6 (by rw [List.length_set, hsl.slslen]) (drop_one hr11 (by omega)) (base := w6.heap.size) (fun g o e => by injection e with e; injection e with e1 _; subst e1; exact hge11.out _ _ rfl) (by omega) (by omega) ho20 hs20.out (by omega) (by omega)
      · have HT : Hid (retsL rets pc i = rets ++ [(pc + 4) % 4294967296]) := by
          show retsL rets pc i = _
          unfold retsL; rw [if_pos hcb, if_neg (by rw [hrl.out]; exact hn4)]
        have hn3 : nr + 1 ≤ 4 := by omega
        clear hcb hn4
        go_wp2_with (first | (at_make; refine wpList_make_own _ rfl _ _ 22 (by rfl) w6.heap.size 24 j0 _ 1 Try.underlying22 hj hy0 hy1 _ _ _ 5 (by rfl) (by rfl) (by omega) (by rw [hy2]; omega) (by unfold maxLen; omega) (Nat.le_refl _) ?_; intro w7 hown7 hg7; have hn := (Bel.refl _).grown hg7 (by simp); have hS6 := hkS6.lt; have h67 := hn.size; replace hk4 := hk4.bel hn; replace hk7 := hk7.bel hn; replace hk8 := hk8.bel hn; have c40 := hk4.cell_of 0 (.slice As 8 cs) rfl; have c41 := hk4.cell_of 1 (.int .u32 (h : Int)) rfl; have c42 := hk4.cell_of 2 (.slice Ar nr cr) rfl; replace hbel := Lib.hid (hbel.out.trans hn); replace hkS6 := hkS6.bel hn; clear hn hg7) | (at_builtin; refine wpList_app_rd rfl (.tmp 45) (.tmp 47) 22 (by rfl) w6.heap.size 24 _ 1 4 Try.underlying22 u32info rfl (by decide) _ 0 [] (by rfl) hown7 w.heap.size Ar nr cr (u32v rets) (by rfl) (hrt.below hbel.out) (u32v_one _) (by omega) (by omega) h67 ?_; intro v8 w8 hown8 hg8; rw [Nat.zero_add, List.nil_append] at hown8; replace hk4 := hk4.own_grown hown7 hg8 (by omega); replace hk7 := hk7.own_grown hown7 hg8 (by omega); replace hk8 := hk8.own_grown hown7 hg8 (by omega); replace hkS6 := hkS6.own_grown hown7 hg8 (by omega); have c40 := hk4.cell_of 0 (.slice As 8 cs) rfl; have c41 := hk4.cell_of 1 (.int .u32 (h : Int)) rfl; have c42 := hk4.cell_of 2 (.slice Ar nr cr) rfl; replace hbel := Lib.hid (hbel.out.then_grown hown7 hg8 (by omega)); have h78 := hg8.size; obtain ⟨A8, c8, rfl, hr8, hge8⟩ := Rd.of_own' hown8; replace hge8 := Lib.hid hge8; have hc8 := hr8.le; have hm8 := hr8.mx; clear hg8 hown7) | (go_at_call 15; refine (HC.out _).mono ?_; rintro e w9 ⟨rfl, hn⟩; replace hk4 := hk4.bel hn; replace hk7 := hk7.bel hn; replace hk8 := hk8.bel hn; have c40 := hk4.cell_of 0 (.slice As 8 cs) rfl; have c41 := hk4.cell_of 1 (.int .u32 (h : Int)) rfl; have c42 := hk4.cell_of 2 (.slice Ar nr cr) rfl; replace hbel := Lib.hid (hbel.out.trans hn); replace hkS6 := hkS6.bel hn; have hown9 := own_bel hown8 hn; have hr9 := hr8.bel hn; have h89 := hn.size; clear hn hr8 hown8) | (at_builtin; refine wpList_app w9 [.int .u32 (((pc : Int) + 4) % 4294967296)] 1 rfl (.tmp 54) (.tmp 57) 22 (by rfl) w6.heap.size 24 _ 1 4 Try.underlying22 u32info rfl (by decide) _ nr _ (by rfl) hown9 (by rfl) rfl (by simp [Value.oneCell']) (by omega) (by omega) (by omega) ?_; intro v11 w11 hown11 hg11; rw [plus4 pc hp, show u32v rets ++ [Value.int .u32 (((pc + 4) % 4294967296 : Nat) : Int)] = u32v (rets ++ [(pc + 4) % 4294967296]) by rw [u32v_append]; rfl] at hown11; replace hk8 := hk8.own_grown hown9 hg11 (by omega); replace hkS6 := hkS6.own_grown hown9 hg11 (by omega); replace hbel := Lib.hid (hbel.out.then_grown hown9 hg11 (by omega)); obtain ⟨A11, c11, rfl, hr11, hge11⟩ := Rd.of_own' hown11; replace hge11 := Lib.hid hge11; have hc11 := hr11.le; have hm11 := hr11.mx; clear hg11 hown9 hown11) | (refine wpList_load_bk (by rfl) 31 (.tmp 7) (by rfl) (w.heap.size + 1) (by rfl) 31 i.cells i.val rfl hk7 inssTy ?_) | (refine wpList_store_bk (by rfl) 27 (.tmp 8) (.tmp 79) (by rfl) (w.heap.size + 1 + 1) [.slice (some ⟨w2.heap.size, 0, none⟩) 8 8, .int .u32 (2 * (h : Int) % 8), .slice A11 (nr + 1) c11] (by rfl) (by rfl) 27 _ hk8 rfl gTy (by simp [Value.oneCell']) ?_; intro w20 hk20 hs20 ho20 hbe20; replace hs20 := Lib.hid hs20))
        refine bodyPost_ret (res_c rfl (by rfl) hk20 gTy) rfl ⟨_, rfl, ?_, hbe20 w hbel.out (by omega)⟩
        rw [HT.out, HQ.out]
        exact finish hkS6 (by rw [List.length_set, hsl.slslen]) hr11 hge11.out (by omega) (by omega) ho20 hs20.out (by omega) (by omega)
  · have bq : ((next : Int) != ((pc : Int) + 4) % 4294967296) = true := by simp; omega
    have HQ : Hid (histL h pc next = (2 * h + 1) % 8) := by
      show histL h pc next = (2 * h + 1) % 8
      unfold histL; rw [if_neg hq]
    clear hq
    cases hcb : callsB i
    · rw [hcb] at HC
      cases hbb : backB i
      · have HT : Hid (retsL rets pc i = rets) := by
          show retsL rets pc i = _
          unfold retsL; rw [if_neg (by simp [hcb]), if_neg (by simp [hbb])]
        rw [hbb] at HB
        clear hcb hbb
        go_wp2_with (first | (at_make; refine wpList_make_own _ rfl _ _ 22 (by rfl) w6.heap.size 24 j0 _ 1 Try.underlying22 hj hy0 hy1 _ _ _ 5 (by rfl) (by rfl) (by omega) (by rw [hy2]; omega) (by unfold maxLen; omega) (Nat.le_refl _) ?_; intro w7 hown7 hg7; have hn := (Bel.refl _).grown hg7 (by simp); have hS6 := hkS6.lt; have h67 := hn.size; replace hk4 := hk4.bel hn; replace hk7 := hk7.bel hn; replace hk8 := hk8.bel hn; have c40 := hk4.cell_of 0 (.slice As 8 cs) rfl; have c41 := hk4.cell_of 1 (.int .u32 (h : Int)) rfl; have c42 := hk4.cell_of 2 (.slice Ar nr cr) rfl; replace hbel := Lib.hid (hbel.out.trans hn); replace hkS6 := hkS6.bel hn; clear hn hg7) | (at_builtin; refine wpList_app_rd rfl (.tmp 45) (.tmp 47) 22 (by rfl) w6.heap.size 24 _ 1 4 Try.underlying22 u32info rfl (by decide) _ 0 [] (by rfl) hown7 w.heap.size Ar nr cr (u32v rets) (by rfl) (hrt.below hbel.out) (u32v_one _) (by omega) (by omega) h67 ?_; intro v8 w8 hown8 hg8; rw [Nat.zero_add, List.nil_append] at hown8; replace hk4 := hk4.own_grown hown7 hg8 (by omega); replace hk7 := hk7.own_grown hown7 hg8 (by omega); replace hk8 := hk8.own_grown hown7 hg8 (by omega); replace hkS6 := hkS6.own_grown hown7 hg8 (by omega); have c40 := hk4.cell_of 0 (.slice As 8 cs) rfl; have c41 := hk4.cell_of 1 (.int .u32 (h : Int)) rfl; have c42 := hk4.cell_of 2 (.slice Ar nr cr) rfl; replace hbel := Lib.hid (hbel.out.then_grown hown7 hg8 (by omega)); have h78 := hg8.size; obtain ⟨A8, c8, rfl, hr8, hge8⟩ := Rd.of_own' hown8; replace hge8 := Lib.hid hge8; have hc8 := hr8.le; have hm8 := hr8.mx; clear hg8 hown7) | (go_at_call 15; refine (HC.out _).mono ?_; rintro e w9 ⟨rfl, hn⟩; replace hk4 := hk4.bel hn; replace hk7 := hk7.bel hn; replace hk8 := hk8.bel hn; have c40 := hk4.cell_of 0 (.slice As 8 cs) rfl; have c41 := hk4.cell_of 1 (.int .u32 (h : Int)) rfl; have c42 := hk4.cell_of 2 (.slice Ar nr cr) rfl; replace hbel := Lib.hid (hbel.out.trans hn); replace hkS6 := hkS6.bel hn; have hown9 := own_bel hown8 hn; have hr9 := hr8.bel hn; have h89 := hn.size; clear hn hr8 hown8) | (go_at_call 16; refine (HB.out _).mono ?_; rintro e w10 ⟨rfl, hn⟩; replace hk4 := hk4.bel hn; replace hk7 := hk7.bel hn; replace hk8 := hk8.bel hn; have c40 := hk4.cell_of 0 (.slice As 8 cs) rfl; have c41 := hk4.cell_of 1 (.int .u32 (h : Int)) rfl; have c42 := hk4.cell_of 2 (.slice Ar nr cr) rfl; replace hbel := Lib.hid (hbel.out.trans hn); replace hkS6 := hkS6.bel hn; have hr10 := hr9.bel hn; clear hn) | (refine wpList_load_bk (by rfl) 31 (.tmp 7) (by rfl) (w.heap.size + 1) (by rfl) 31 i.cells i.val rfl hk7 inssTy ?_) | (refine wpList_store_bk (by rfl) 27 (.tmp 8) (.tmp 79) (by rfl) (w.heap.size + 1 + 1) [.slice (some ⟨w2.heap.size, 0, none⟩) 8 8, .int .u32 ((2 * (h : Int) + 1) % 8), .slice A8 nr c8] (by rfl) (by rfl) 27 _ hk8 rfl gTy (by simp [Value.oneCell']) ?_; intro w20 hk20 hs20 ho20 hbe20; replace hs20 := Lib.hid hs20))
        refine bodyPost_ret (res_c rfl (by rfl) hk20 gTy) rfl ⟨_, rfl, ?_, hbe20 w hbel.out (by omega)⟩
        rw [HT.out, HQ.out]
        exact finish hkS6 (by rw [List.length_set, hsl.slslen]) hr10 hge8.out (by omega) (by omega) ho20 hs20.out (by omega) (by omega)
      · by_cases hn0 : 0 < nr
        · have HT : Hid (retsL rets pc i = rets.take (nr - 1)) := by
            show retsL rets pc i = _
            unfold retsL; rw [if_neg (by simp [hcb]), if_pos ⟨hbb, by rw [hrl.out]; exact hn0⟩, hrl.out]
          rw [hbb] at HB
          clear hcb hbb
          go_wp2_with (first | (at_make; refine wpList_make_own _ rfl _ _ 22 (by rfl) w6.heap.size 24 j0 _ 1 Try.underlying22 hj hy0 hy1 _ _ _ 5 (by rfl) (by rfl) (by omega) (by rw [hy2]; omega) (by unfold maxLen; omega) (Nat.le_refl _) ?_; intro w7 hown7 hg7; have hn := (Bel.refl _).grown hg7 (by simp); have hS6 := hkS6.lt; have h67 := hn.size; replace hk4 := hk4.bel hn; replace hk7 := hk7.bel hn; replace hk8 := hk8.bel hn; have c40 := hk4.cell_of 0 (.slice As 8 cs) rfl; have c41 := hk4.cell_of 1 (.int .u32 (h : Int)) rfl; have c42 := hk4.cell_of 2 (.slice Ar nr cr) rfl; replace hbel := Lib.hid (hbel.out.trans hn); replace hkS6 := hkS6.bel hn; clear hn hg7) | (at_builtin; refine wpList_app_rd rfl (.tmp 45) (.tmp 47) 22 (by rfl) w6.heap.size 24 _ 1 4 Try.underlying22 u32info rfl (by decide) _ 0 [] (by rfl) hown7 w.heap.size Ar nr cr (u32v rets) (by rfl) (hrt.below hbel.out) (u32v_one _) (by omega) (by omega) h67 ?_; intro v8 w8 hown8 hg8; rw [Nat.zero_add, List.nil_append] at hown8; replace hk4 := hk4.own_grown hown7 hg8 (by omega); replace hk7 := hk7.own_grown hown7 hg8 (by omega); replace hk8 := hk8.own_grown hown7 hg8 (by omega); replace hkS6 := hkS6.own_grown hown7 hg8 (by omega); have c40 := hk4.cell_of 0 (.slice As 8 cs) rfl; have c41 := hk4.cell_of 1 (.int .u32 (h : Int)) rfl; have c42 := hk4.cell_of 2 (.slice Ar nr cr) rfl; replace hbel := Lib.hid (hbel.out.then_grown hown7 hg8 (by omega)); have h78 := hg8.size; obtain ⟨A8, c8, rfl, hr8, hge8⟩ := Rd.of_own' hown8; replace hge8 := Lib.hid hge8; have hc8 := hr8.le; have hm8 := hr8.mx; clear hg8 hown7) | (go_at_call 15; refine (HC.out _).mono ?_; rintro e w9 ⟨rfl, hn⟩; replace hk4 := hk4.bel hn; replace hk7 := hk7.bel hn; replace hk8 := hk8.bel hn; have c40 := hk4.cell_of 0 (.slice As 8 cs) rfl; have c41 := hk4.cell_of 1 (.int .u32 (h : Int)) rfl; have c42 := hk4.cell_of 2 (.slice Ar nr cr) rfl; replace hbel := Lib.hid (hbel.out.trans hn); replace hkS6 := hkS6.bel hn; have hown9 := own_bel hown8 hn; have hr9 := hr8.bel hn; have h89 := hn.size; clear hn hr8 hown8) | (go_at_call 16; refine (HB.out _).mono ?_; rintro e w10 ⟨rfl, hn⟩; replace hk4 := hk4.bel hn; replace hk7 := hk7.bel hn; replace hk8 := hk8.bel hn; have c40 := hk4.cell_of 0 (.slice As 8 cs) rfl; have c41 := hk4.cell_of 1 (.int .u32 (h : Int)) rfl; have c42 := hk4.cell_of 2 (.slice Ar nr cr) rfl; replace hbel := Lib.hid (hbel.out.trans hn); replace hkS6 := hkS6.bel hn; have hr10 := hr9.bel hn; clear hn) | (refine wpList_load_bk (by rfl) 31 (.tmp 7) (by rfl) (w.heap.size + 1) (by rfl) 31 i.cells i.val rfl hk7 inssTy ?_) | (refine wpList_store_bk (by rfl) 27 (.tmp 8) (.tmp 79) (by rfl) (w.heap.size + 1 + 1) [.slice (some ⟨w2.heap.size, 0, none⟩) 8 8, .int .u32 ((2 * (h : Int) + 1) % 8), .slice A8 (nr - 1) c8] (by rfl) (by rfl) 27 _ hk8 rfl gTy (by simp [Value.oneCell']) ?_; intro w20 hk20 hs20 ho20 hbe20; replace hs20 := Lib.hid hs20))
          refine bodyPost_ret (res_c rfl (by rfl) hk20 gTy) rfl ⟨_, rfl, ?_, hbe20 w hbel.out (by omega)⟩
          rw [HT.out, HQ.out]
          have ht := hr10.to (N := nr - 1) (by omega)
          rw [Nat.mul_one, u32v_take] at ht
          exact finish hkS6 (by rw [List.length_set, hsl.slslen]) ht hge8.out (by omega) (by omega) ho20 hs20.out (by omega) (by omega)
        · have hn00 : nr ≤ 0 := by omega
          have hd0 : decide ((0 : Int) < (nr : Int)) = false := by simpa using hn00
          have HT : Hid (retsL rets pc i = rets) := by
            show retsL rets pc i = _
            unfold retsL; rw [if_neg (by simp [hcb]), if_neg (by rw [hrl.out]; omega)]
          rw [hbb] at HB
          clear hcb hbb hn0
          go_wp2_with (first | (at_make; refine wpList_make_own _ rfl _ _ 22 (by rfl) w6.heap.size 24 j0 _ 1 Try.underlying22 hj hy0 hy1 _ _ _ 5 (by rfl) (by rfl) (by omega) (by rw [hy2]; omega) (by unfold maxLen; omega) (Nat.le_refl _) ?_; intro w7 hown7 hg7; have hn := (Bel.refl _).grown hg7 (by simp); have hS6 := hkS6.lt; have h67 := hn.size; replace hk4 := hk4.bel hn; replace hk7 := hk7.bel hn; replace hk8 := hk8.bel hn; have c40 := hk4.cell_of 0 (.slice As 8 cs) rfl; have c41 := hk4.cell_of 1 (.int .u32 (h : Int)) rfl; have c42 := hk4.cell_of 2 (.slice Ar nr cr) rfl; replace hbel := Lib.hid (hbel.out.trans hn); replace hkS6 := hkS6.bel hn; clear hn hg7) | (at_builtin; refine wpList_app_rd rfl (.tmp 45) (.tmp 47) 22 (by rfl) w6.heap.size 24 _ 1 4 Try.underlying22 u32info rfl (by decide) _ 0 [] (by rfl) hown7 w.heap.size Ar nr cr (u32v rets) (by rfl) (hrt.below hbel.out) (u32v_one _) (by omega) (by omega) h67 ?_; intro v8 w8 hown8 hg8; rw [Nat.zero_add, List.nil_append] at hown8; replace hk4 := hk4.own_grown hown7 hg8 (by omega); replace hk7 := hk7.own_grown hown7 hg8 (by omega); replace hk8 := hk8.own_grown hown7 hg8 (by omega); replace hkS6 := hkS6.own_grown hown7 hg8 (by omega); have c40 := hk4.cell_of 0 (.slice As 8 cs) rfl; have c41 := hk4.cell_of 1 (.int .u32 (h : Int)) rfl; have c42 := hk4.cell_of 2 (.slice Ar nr cr) rfl; replace hbel := Lib.hid (hbel.out.then_grown hown7 hg8 (by omega)); have h78 := hg8.size; obtain ⟨A8, c8, rfl, hr8, hge8⟩ := Rd.of_own' hown8; replace hge8 := Lib.hid hge8; have hc8 := hr8.le; have hm8 := hr8.mx; clear hg8 hown7) | (go_at_call 15; refine (HC.out _).mono ?_; rintro e w9 ⟨rfl, hn⟩; replace hk4 := hk4.bel hn; replace hk7 := hk7.bel hn; replace hk8 := hk8.bel hn; have c40 := hk4.cell_of 0 (.slice As 8 cs) rfl; have c41 := hk4.cell_of 1 (.int .u32 (h : Int)) rfl; have c42 := hk4.cell_of 2 (.slice Ar nr cr) rfl; replace hbel := Lib.hid (hbel.out.trans hn); replace hkS6 := hkS6.bel hn; have hown9 := own_bel hown8 hn; have hr9 := hr8.bel hn; have h89 := hn.size; clear hn hr8 hown8) | (go_at_call 16; refine (HB.out _).mono ?_; rintro e w10 ⟨rfl, hn⟩; replace hk4 := hk4.bel hn; replace hk7 := hk7.bel hn; replace hk8 := hk8.bel hn; have c40 := hk4.cell_of 0 (.slice As 8 cs) rfl; have c41 := hk4.cell_of 1 (.int .u32 (h : Int)) rfl; have c42 := hk4.cell_of 2 (.slice Ar nr cr) rfl; replace hbel := Lib.hid (hbel.out.trans hn); replace hkS6 := hkS6.bel hn; have hr10 := hr9.bel hn; clear hn) | (refine wpList_load_bk (by rfl) 31 (.tmp 7) (by rfl) (w.heap.size + 1) (by rfl) 31 i.cells i.val rfl hk7 inssTy ?_) | (refine wpList_store_bk (by rfl) 27 (.tmp 8) (.tmp 79) (by rfl) (w.heap.size + 1 + 1) [.slice (some ⟨w2.heap.size, 0, none⟩) 8 8, .int .u32 ((2 * (h : Int) + 1) % 8), .slice A8 nr c8] (by rfl) (by rfl) 27 _ hk8 rfl gTy (by simp [Value.oneCell']) ?_; intro w20 hk20 hs20 ho20 hbe20; replace hs20 := Lib.hid hs20))
          refine bodyPost_ret (res_c rfl (by rfl) hk20 gTy) rfl ⟨_, rfl, ?_, hbe20 w hbel.out (by omega)⟩
          rw [HT.out, HQ.out]
          exact finish hkS6 (by rw [List.length_set, hsl.slslen]) hr10 hge8.out (by omega) (by omega) ho20 hs20.out (by omega) (by omega)
    · rw [hcb] at HC
      by_cases hn4 : nr = 4
      · have HT : Hid (retsL rets pc i = (rets ++ [(pc + 4) % 4294967296]).drop 1) := by
          show retsL rets pc i = _
          unfold retsL; rw [if_pos hcb, if_pos (by rw [hrl.out]; exact hn4)]
        have hn5 : 4 ≤ nr := by omega
        clear hcb hn4
        go_wp2_with (first | (at_make; refine wpList_make_own _ rfl _ _ 22 (by rfl) w6.heap.size 24 j0 _ 1 Try.underlying22 hj hy0 hy1 _ _ _ 5 (by rfl) (by rfl) (by omega) (by rw [hy2]; omega) (by unfold maxLen; omega) (Nat.le_refl _) ?_; intro w7 hown7 hg7; have hn := (Bel.refl _).grown hg7 (by simp); have hS6 := hkS6.lt; have h67 := hn.size; replace hk4 := hk4.bel hn; replace hk7 := hk7.bel hn; replace hk8 := hk8.bel hn; have c40 := hk4.cell_of 0 (.slice As 8 cs) rfl; have c41 := hk4.cell_of 1 (.int .u32 (h : Int)) rfl; have c42 := hk4.cell_of 2 (.slice Ar nr cr) rfl; replace hbel := Lib.hid (hbel.out.trans hn); replace hkS6 := hkS6.bel hn; clear hn hg7) | (at_builtin; refine wpList_app_rd rfl (.tmp 45) (.tmp 47) 22 (by rfl) w6.heap.size 24 _ 1 4 Try.underlying22 u32info rfl (by decide) _ 0 [] (by rfl) hown7 w.heap.size Ar nr cr (u32v rets) (by rfl) (hrt.below hbel.out) (u32v_one _) (by omega) (by omega) h67 ?_; intro v8 w8 hown8 hg8; rw [Nat.zero_add, List.nil_append] at hown8; replace hk4 := hk4.own_grown hown7 hg8 (by omega); replace hk7 := hk7.own_grown hown7 hg8 (by omega); replace hk8 := hk8.own_grown hown7 hg8 (by omega); replace hkS6 := hkS6.own_grown hown7 hg8 (by omega); have c40 := hk4.cell_of 0 (.slice As 8 cs) rfl; have c41 := hk4.cell_of 1 (.int .u32 (h : Int)) rfl; have c42 := hk4.cell_of 2 (.slice Ar nr cr) rfl; replace hbel := Lib.hid (hbel.out.then_grown hown7 hg8 (by omega)); have h78 := hg8.size; obtain ⟨A8, c8, rfl, hr8, hge8⟩ := Rd.of_own' hown8; replace hge8 := Lib.hid hge8; have hc8 := hr8.le; have hm8 := hr8.mx; clear hg8 hown7) | (go_at_call 15; refine (HC.out _).mono ?_; rintro e w9 ⟨rfl, hn⟩; replace hk4 := hk4.bel hn; replace hk7 := hk7.bel hn; replace hk8 := hk8.bel hn; have c40 := hk4.cell_of 0 (.slice As 8 cs) rfl; have c41 := hk4.cell_of 1 (.int .u32 (h : Int)) rfl; have c42 := hk4.cell_of 2 (.slice Ar nr cr) rfl; replace hbel := Lib.hid (hbel.out.trans hn); replace hkS6 := hkS6.bel hn; have hown9 := own_bel hown8 hn; have hr9 := hr8.bel hn; have h89 := hn.size; clear hn hr8 hown8) | (at_builtin; refine wpList_app w9 [.int .u32 (((pc : Int) + 4) % 4294967296)] 1 rfl (.tmp 54) (.tmp 57) 22 (by rfl) w6.heap.size 24 _ 1 4 Try.underlying22 u32info rfl (by decide) _ nr _ (by rfl) hown9 (by rfl) rfl (by simp [Value.oneCell']) (by omega) (by omega) (by omega) ?_; intro v11 w11 hown11 hg11; rw [plus4 pc hp, show u32v rets ++ [Value.int .u32 (((pc + 4) % 4294967296 : Nat) : Int)] = u32v (rets ++ [(pc + 4) % 4294967296]) by rw [u32v_append]; rfl] at hown11; replace hk8 := hk8.own_grown hown9 hg11 (by omega); replace hkS6 := hkS6.own_grown hown9 hg11 (by omega); replace hbel := Lib.hid (hbel.out.then_grown hown9 hg11 (by omega)); obtain ⟨A11, c11, rfl, hr11, hge11⟩ := Rd.of_own' hown11; replace hge11 := Lib.hid hge11; have hc11 := hr11.le; have hm11 := hr11.mx; obtain ⟨g11, o11, rfl, _⟩ := hr11.at_ (by omega); clear hg11 hown9 hown11) | (refine wpList_load_bk (by rfl) 31 (.tmp 7) (by rfl) (w.heap.size + 1) (by rfl) 31 i.cells i.val rfl hk7 inssTy ?_) | (refine wpList_store_bk (by rfl) 27 (.tmp 8) (.tmp 79) (by rfl) (w.heap.size + 1 + 1) [.slice (some ⟨w2.heap.size, 0, none⟩) 8 8, .int .u32 ((2 * (h : Int) + 1) % 8), .slice (some ⟨g11, o11 + 1, none⟩) nr (c11 - 1)] (by rfl) (by rfl) 27 _ hk8 rfl gTy (by simp [Value.oneCell']) ?_; intro w20 hk20 hs20 ho20 hbe20; replace hs20 := Lib.hid hs20))
        refine bodyPost_ret (res_c rfl (by rfl) hk20 gTy) rfl ⟨_, rfl, ?_, hbe20 w hbel.out (by omega)⟩
        rw [HT.out, HQ.out]
        exact finish hkS6 (by rw [List.length_set, hsl.slslen]) (drop_one hr11 (by omega)) (base := w6.heap.size) (fun g o e => by injection e with e; injection e with e1 _; subst e1; exact hge11.out _ _ rfl) (by omega) (by omega) ho20 hs20.out (by omega) (by omega)
      · have HT : Hid (retsL rets pc i = rets ++ [(pc + 4) % 4294967296]) := by
          show retsL rets pc i = _
          unfold retsL; rw [if_pos hcb, if_neg (by rw [hrl.out]; exact hn4)]
        have hn3 : nr + 1 ≤ 4 := by omega
        clear hcb hn4
        go_wp2_with (first | (at_make; refine wpList_make_own _ rfl _ _ 22 (by rfl) w6.heap.size 24 j0 _ 1 Try.underlying22 hj hy0 hy1 _ _ _ 5 (by rfl) (by rfl) (by omega) (by rw [hy2]; omega) (by unfold maxLen; omega) (Nat.le_refl _) ?_; intro w7 hown7 hg7; have hn := (Bel.refl _).grown hg7 (by simp); have hS6 := hkS6.lt; have h67 := hn.size; replace hk4 := hk4.bel hn; replace hk7 := hk7.bel hn; replace hk8 := hk8.bel hn; have c40 := hk4.cell_of 0 (.slice As 8 cs) rfl; have c41 := hk4.cell_of 1 (.int .u32 (h : Int)) rfl; have c42 := hk4.cell_of 2 (.slice Ar nr cr) rfl; replace hbel := Lib.hid (hbel.out.trans hn); replace hkS6 := hkS6.bel hn; clear hn hg7) | (at_builtin; refine wpList_app_rd rfl (.tmp 45) (.tmp 47) 22 (by rfl) w6.heap.size 24 _ 1 4 Try.underlying22 u32info rfl (by decide) _ 0 [] (by rfl) hown7 w.heap.size Ar nr cr (u32v rets) (by rfl) (hrt.below hbel.out) (u32v_one _) (by omega) (by omega) h67 ?_; intro v8 w8 hown8 hg8; rw [Nat.zero_add, List.nil_append] at hown8; replace hk4 := hk4.own_grown hown7 hg8 (by omega); replace hk7 := hk7.own_grown hown7 hg8 (by omega); replace hk8 := hk8.own_grown hown7 hg8 (by omega); replace hkS6 := hkS6.own_grown hown7 hg8 (by omega); have c40 := hk4.cell_of 0 (.slice As 8 cs) rfl; have c41 := hk4.cell_of 1 (.int .u32 (h : Int)) rfl; have c42 := hk4.cell_of 2 (.slice Ar nr cr) rfl; replace hbel := Lib.hid (hbel.out.then_grown hown7 hg8 (by omega)); have h78 := hg8.size; obtain ⟨A8, c8, rfl, hr8, hge8⟩ := Rd.of_own' hown8; replace hge8 := Lib.hid hge8; have hc8 := hr8.le; have hm8 := hr8.mx; clear hg8 hown7) | (go_at_call 15; refine (HC.out _).mono ?_; rintro e w9 ⟨rfl, hn⟩; replace hk4 := hk4.bel hn; replace hk7 := hk7.bel hn; replace hk8 := hk8.bel hn; have c40 := hk4.cell_of 0 (.slice As 8 cs) rfl; have c41 := hk4.cell_of 1 (.int .u32 (h : Int)) rfl; have c42 := hk4.cell_of 2 (.slice Ar nr cr) rfl; replace hbel := Lib.hid (hbel.out.trans hn); replace hkS6 := hkS6.bel hn; have hown9 := own_bel hown8 hn; have hr9 := hr8.bel hn; have h89 := hn.size; clear hn hr8 hown8) | (at_builtin; refine wpList_app w9 [.int .u32 (((pc : Int) + 4) % 4294967296)] 1 rfl (.tmp 54) (.tmp 57) 22 (by rfl) w6.heap.size 24 _ 1 4 Try.underlying22 u32info rfl (by decide) _ nr _ (by rfl) hown9 (by rfl) rfl (by simp [Value.oneCell']) (by omega) (by omega) (by omega) ?_; intro v11 w11 hown11 hg11; rw [plus4 pc hp, show u32v rets ++ [Value.int .u32 (((pc + 4) % 4294967296 : Nat) : Int)] = u32v (rets ++ [(pc + 4) % 4294967296]) by rw [u32v_append]; rfl] at hown11; replace hk8 := hk8.own_grown hown9 hg11 (by omega); replace hkS6 := hkS6.own_grown hown9 hg11 (by omega); replace hbel := Lib.hid (hbel.out.then_grown hown9 hg11 (by omega)); obtain ⟨A11, c11, rfl, hr11, hge11⟩ := Rd.of_own' hown11; replace hge11 := Lib.hid hge11; have hc11 := hr11.le; have hm11 := hr11.mx; clear hg11 hown9 hown11) | (refine wpList_load_bk (by rfl) 31 (.tmp 7) (by rfl) (w.heap.size + 1) (by rfl) 31 i.cells i.val rfl hk7 inssTy ?_) | (refine wpList_store_bk (by rfl) 27 (.tmp 8) (.tmp 79) (by rfl) (w.heap.size + 1 + 1) [.slice (some ⟨w2.heap.size, 0, none⟩) 8 8, .int .u32 ((2 * (h : Int) + 1) % 8), .slice A11 (nr + 1) c11] (by rfl) (by rfl) 27 _ hk8 rfl gTy (by simp [Value.oneCell']) ?_; intro w20 hk20 hs20 ho20 hbe20; replace hs20 := Lib.hid hs20))
        refine bodyPost_ret (res_c rfl (by rfl) hk20 gTy) rfl ⟨_, rfl, ?_, hbe20 w hbel.out (by omega)⟩
        rw [HT.out, HQ.out]
        exact finish hkS6 (by rw [List.length_set, hsl.slslen]) hr11 hge11.out (by omega) (by omega) ho20 hs20.out (by omega) (by omega)

end Go.Proofs.Ytghekfdpgeopjaa
