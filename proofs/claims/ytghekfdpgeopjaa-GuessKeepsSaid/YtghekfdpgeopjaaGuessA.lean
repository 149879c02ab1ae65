/- The statement GuessOutcomes: the walks. -/
import Derived.Test.YtghekfdpgeopjaaGuessN
import Derived.Test.YtghekfdpgeopjaaGuessO
import Derived.Test.YtghekfdpgeopjaaOpenGuess
set_option linter.unusedVariables false
set_option linter.unusedSimpArgs false
set_option maxRecDepth 100000
namespace Go.Proofs.Ytghekfdpgeopjaa
open Go.RowKit

theorem alive_any (w : World) :
    Calls Try.prog 10 #[] w fun e w' => e = .returned (.bool true) ∧ Bel w w' := by
  have hr : ∀ g W, Calls Try.prog 12 #[gv (some ⟨g, 0, none⟩) 8 8 0 none 0 0] W fun e w' => e = .returned (.bool true) ∧ Bel W w' := fun g W => Right_yes _ none 8 0 0 0 W (by omega) (by omega)
  have HR := Lib.hid hr
  have HN := Lib.hid (fun g W h => Next_new g 0 W h)
  clear hr
  unfold beq5 Ins.val at HN
  simp only at HN
  go_enter Try.func10, Try.ntmps10
  have tok : True := trivial
  go_wp2_with (first | (go_at_call 5; have t := tok; refine (New_any _).mono ?_; clear t tok; rintro e w1 ⟨rfl, hs1, hb1⟩) | (go_at_call 5; refine (New_any _).mono ?_; rintro e w3 ⟨rfl, hs3, hb3⟩) | (go_at_call 12; refine (HR.out _ _).mono ?_; rintro e w2 ⟨rfl, hb2⟩) | (go_at_call 8; refine (HN.out _ _ hs3).mono ?_; rintro e w4 ⟨rfl, hb4⟩))
  go_ret
  exact ⟨rfl, hb1.trans (hb2.trans (hb3.trans hb4))⟩

def bne6 : Ins := ⟨6, 0, 0, 0, 0⟩
/-- a block that holds a guess that may be -/
def GB (w : World) (b : Nat) (h : Nat) : Prop := ∃ As cs sl Ar nr cr rets, Bk w b 27 [.slice As 8 cs, .int .u32 (h : Int), .slice Ar nr cr] ∧ Rd w w.heap.size 2 As 8 cs (sls sl) ∧ Rd w w.heap.size 1 Ar nr cr (u32v rets) ∧ nr ≤ 4

theorem GB.bel {w w' : World} {b h : Nat} (g : GB w b h) (hb : Bel w w') : GB w' b h := by
  obtain ⟨As, cs, sl, Ar, nr, cr, rets, h1, h2, h3, h4⟩ := g
  exact ⟨As, cs, sl, Ar, nr, cr, rets, h1.bel hb, h2.bel hb, h3.bel hb, h4⟩
set_option maxHeartbeats 1000000 in
theorem GuessOutcomes_yes (As : Option Addr) (cs : Nat) (sl : List Sl) (h : Nat) (Ar : Option Addr) (nr cr : Nat) (rets : List Nat) (A1 : Option Addr) (n1 c1 : Nat) (ps : List Nat) (A2 : Option Addr) (n2 c2 : Nat) (qs : List Nat) (w : World)
    (hsl : Rd w w.heap.size 2 As 8 cs (sls sl)) (hrt : Rd w w.heap.size 1 Ar nr cr (u32v rets)) (hh : h < 8) (hnr : nr ≤ 4) (hp : Rd w w.heap.size 1 A1 n1 c1 (u32v ps)) (hpl : ∀ z ∈ ps, z < 4294967296) (hq : Rd w w.heap.size 1 A2 n2 c2 (u32v qs)) (hql : ∀ z ∈ qs, z < 4294967296) :
    Calls Try.prog 4 #[gv As 8 cs h Ar nr cr, .slice A1 n1 c1, .slice A2 n2 c2] w fun e w' => e = .returned (.bool true) ∧ Bel w w' := by
  have hfew : ∀ W, Calls Try.prog 11 #[gv As 8 cs h Ar nr cr] W fun e w' => e = .returned (gv As 8 cs h Ar nr cr) ∧ Bel W w' := by
    intro W
    have := few_any As Ar 8 cs h nr cr W hsl.le hsl.mx hrt.le hrt.mx
    rwa [Nat.min_eq_left (by omega), Nat.min_eq_left (by omega)] at this
  have HF := Lib.hid hfew
  have HRR := Lib.hid (fun W => refRight_yes As Ar cs h nr cr W hh hnr)
  obtain ⟨N, hN, hN1, hN2⟩ : ∃ N : Nat, (N : Int) = min (min (n1 : Int) (n2 : Int)) 20 ∧ N ≤ n1 ∧ N ≤ n2 := ⟨min (min n1 n2) 20, by omega, by omega, by omega⟩
  replace hN := Lib.hid hN
  replace hpl := Lib.hid hpl
  replace hql := Lib.hid hql
  have hm1 := hp.le
  have hm2 := hp.mx
  have hm3 := hq.le
  have hm4 := hq.mx
  unfold maxLen at hm2 hm4
  clear hfew
  unfold gv at *
  go_enter Try.func4, Try.ntmps4
  go_upto_region 1 with (fail)
  have hk3 := Bk.new' w 27 [.slice As 8 cs, .int .u32 (h : Int), .slice Ar nr cr] w.heap.size rfl
  have hbel := Lib.hid (Bel.alloc w (.cells [Value.slice As 8 cs, .int .u32 (h : Int), .slice Ar nr cr].toArray 27))
  revert hk3 hbel
  generalize w.alloc _ = W0
  intro hk3 hbel
  go_upto_region 5 with (first | (refine wpList_load_bk (by rfl) 27 (.tmp 3) (by rfl) w.heap.size (by rfl) 27 _ _ rfl hk3 gTy ?_) | (refine wpList_store_bk (by rfl) 27 (.tmp 3) (.tmp 10) (by rfl) w.heap.size [.slice As 8 cs, .int .u32 (h : Int), .slice Ar nr cr] (by rfl) (by rfl) 27 _ hk3 rfl gTy (by simp [Value.oneCell']) ?_; intro w2 hk2 hs2 ho2 hbe2; clear hs2 ho2; have hk3 := hk2; replace hbel := Lib.hid (hbe2 w hbel.out (Nat.le_refl _))) | (go_at_call 11; refine (HF.out _).mono ?_; rintro e w1 ⟨rfl, hn⟩; replace hk3 := hk3.bel hn; replace hbel := Lib.hid (hbel.out.trans hn); clear hn) | (go_at_call 7; refine (HRR.out _).mono ?_; rintro e w3 ⟨rfl, hn⟩; replace hk3 := hk3.bel hn; have c30 := hk3.cell_of 0 _ rfl; have c31 := hk3.cell_of 1 _ rfl; have c32 := hk3.cell_of 2 _ rfl; replace hbel := Lib.hid (hbel.out.trans hn); clear hn))
  go_wp2_with (refine wpList_min3 rfl _ _ _ _ (by rfl) _ _ _ _ _ _ (N : Int) (by rfl) (by rfl) (by rfl) hN.out ?_)
  have gb0 : GB w3 w.heap.size h := ⟨As, cs, sl, Ar, nr, cr, rets, hk3, (hsl.below hbel.out).more hbel.out.size, (hrt.below hbel.out).more hbel.out.size, hnr⟩
  replace gb0 := Lib.hid gb0
  replace hbel := Lib.hid hbel.out
  clear c30 c31 c32
  go_loopw [7, 8, 22] (fun s7 s8 i wr => ∃ k H : Nat, k ≤ N ∧ i = .int .i64 (k : Int) ∧ s7 = .int .u32 (H : Int) ∧ H < 8 ∧ GB wr w.heap.size H ∧ Bel w wr) (fun _ _ i _ => N - (intOf i).toNat)
  case atStart => exact ⟨0, h, by omega, rfl, rfl, hh, gb0.out, hbel.out⟩
  case round =>
    obtain ⟨k, H, hk, rfl, rfl, hH, gb, hbw⟩ := hrel
    clear hk3
    by_cases hkn : k < N
    · obtain ⟨As1, cs1, sl1, Ar1, nr1, cr1, rets1, hk3, hsl1, hrt1, hnr1⟩ := gb
      obtain ⟨hl1, g1, o1, rfl, hg1, p0⟩ := hp.u32at (k := k) (by omega)
      obtain ⟨hl2, g2, o2, rfl, hg2, p9⟩ := hq.u32at (k := k) (by omega)
      have p1 := hbw.cell_of p0
      have p2 := hbw.cell_of p9
      have hz1 := hpl.out _ (List.getElem_mem hl1)
      have hz2 := hql.out _ (List.getElem_mem hl2)
      obtain ⟨pc, hpc⟩ : ∃ pc, ps[k]'hl1 = pc := ⟨_, rfl⟩
      obtain ⟨nx, hnx⟩ : ∃ nx, qs[k]'hl2 = nx := ⟨_, rfl⟩
      rw [hpc] at p1 p0 hz1
      rw [hnx] at p2 p9 hz2
      replace p0 := Lib.hid p0
      replace p9 := Lib.hid p9
      clear hpc hnx
      have hT := fun W (hw : Bel wr W) => Train_jump As1 Ar1 cs1 H nr1 cr1 pc nx sl1 rets1 bne6 W hH hnr1 hz1 hz2 (by decide) rfl (hsl1.bel hw) (hrt1.bel hw)
      have hrt' : retsL rets1 pc bne6 = rets1 := by unfold retsL; rw [if_neg (by decide), if_neg (by simp [backB, bne6])]
      have c30 := hk3.cell_of 0 _ rfl
      have c31 := hk3.cell_of 1 _ rfl
      have c32 := hk3.cell_of 2 _ rfl
      rw [hrt'] at hT
      replace hT := Lib.hid hT
      have hkN : (k : Int) < (n1 : Int) := by omega
      have hkN2 : (k : Int) < (n2 : Int) := by omega
      have hk0 : (0 : Int) ≤ (k : Int) := by omega
      go_upto_region 8 with (fail)
      go_still_tail 10, (by kernel_rfl)
      change wpList _ _ _ _ _ wr.drew
      have hbd := Bel.drew wr
      have hk3d : Bk wr.drew w.heap.size 27 _ := hk3
      revert hbd hk3d
      generalize wr.drew = wd
      intro hbd hk3d
      clear c30 c31 c32 hk3
      have hlt3 := hk3d.lt
      go_upto_region 9 with (first | (go_at_call 6; refine (hT.out _ hbd).mono ?_; rintro e w5 ⟨v, rfl, gr, hn⟩; obtain ⟨As2, cs2, sl2, Ar2, nr2, cr2, rfl, r1, r2, l1, l2⟩ := gr; have hm9 := r2.u32len; have hk5 := hk3d.bel hn; replace hbd := hbd.trans hn; clear hn) | (refine wpList_store_bk (by rfl) 27 (.tmp 3) (.tmp 35) (by rfl) w.heap.size [.slice As2 8 cs2, .int .u32 (histL H pc nx : Int), .slice Ar2 nr2 cr2] (by rfl) (by rfl) 27 _ hk5 rfl gTy (by simp [Value.oneCell']) ?_; intro w6 hk6 hs6 ho6 hbe6))
      have hlen5 : nr2 ≤ 4 := by have := hrt1.u32len; omega
      have hb6 : Bel w w6 := hbe6 w (hbw.trans hbd) (Nat.le_refl _)
      have hgb6 : GB w6 w.heap.size (histL H pc nx) := ⟨As2, cs2, sl2, Ar2, nr2, cr2, rets1, hk6, r1.stay (fun g o e => ho6 _ (by have := l1 g o e; omega)) (by omega), r2.stay (fun g o e => ho6 _ (by have := l2 g o e; omega)) (by omega), hlen5⟩
      have hHH : histL H pc nx < 8 := Nat.mod_lt _ (by omega)
      have c30 := hk6.cell_of 0 _ rfl
      have c31 := hk6.cell_of 1 _ rfl
      have c32 := hk6.cell_of 2 _ rfl
      have q1 : w6.cell? ⟨g1, o1 + k, none⟩ = some (.int .u32 (pc : Int)) := hb6.cell_of p0.out
      have q2 : w6.cell? ⟨g2, o2 + k, none⟩ = some (.int .u32 (nx : Int)) := hb6.cell_of p9.out
      have HR2 := Lib.hid (fun W => refRight_yes As2 Ar2 cs2 (histL H pc nx) nr2 cr2 W hHH hlen5)
      unfold gv at HR2
      replace hgb6 := Lib.hid hgb6
      replace hb6 := Lib.hid hb6
      by_cases hq : nx = (pc + 4) % 4294967296
      · have bq : ((nx : Int) != ((pc : Int) + 4) % 4294967296) = false := by simp [hq]
        have e31 : ((histL H pc nx : Nat) : Int) = (H : Int) * 2 % 8 := by unfold histL; rw [if_pos hq]; omega
        have E31 := Lib.hid e31
        rw [e31] at c31
        clear e31 hq
        go_wp2
        go_quiet (fail)
        go_wp2_with (first | (refine wpList_load_bk (by rfl) 27 (.tmp 3) (by rfl) w.heap.size (by rfl) 27 _ _ rfl (hk6.drewN _) gTy ?_) | (go_at_call 7; refine (HR2.out _).mono ?_; rintro e w7 ⟨rfl, hn⟩))
        go_roundw
        case rel => exact ⟨k + 1, histL H pc nx, by omega, by go_num, by rw [E31.out], hHH, hgb6.out.bel ((Bel.drewN _ _).trans hn), hb6.out.trans ((Bel.drewN _ _).trans hn)⟩
        case measure => first | (simp [intOf]; done) | (simp [intOf]; omega)
      · have bq : ((nx : Int) != ((pc : Int) + 4) % 4294967296) = true := by simp; omega
        have e31 : ((histL H pc nx : Nat) : Int) = (H : Int) * 2 % 8 + 1 := by unfold histL; rw [if_neg hq]; omega
        have E31 := Lib.hid e31
        rw [e31] at c31
        clear e31 hq
        go_wp2
        go_quiet (fail)
        go_wp2_with (first | (refine wpList_load_bk (by rfl) 27 (.tmp 3) (by rfl) w.heap.size (by rfl) 27 _ _ rfl (hk6.drewN _) gTy ?_) | (go_at_call 7; refine (HR2.out _).mono ?_; rintro e w7 ⟨rfl, hn⟩))
        go_roundw
        case rel => exact ⟨k + 1, histL H pc nx, by omega, by go_num, by rw [E31.out], hHH, hgb6.out.bel ((Bel.drewN _ _).trans hn), hb6.out.trans ((Bel.drewN _ _).trans hn)⟩
        case measure => first | (simp [intOf]; done) | (simp [intOf]; omega)
    · obtain rfl : k = N := by omega
      go_wp2_with (go_at_call 10; refine (alive_any _).mono ?_; rintro e w9 ⟨rfl, hn⟩)
      go_ret
      exact ⟨rfl, hbw.trans hn⟩

set_option maxHeartbeats 1000000 in
theorem GuessOutcomes_no (As : Option Addr) (ns cs : Nat) (h : Nat) (Ar : Option Addr) (nr cr : Nat) (A1 : Option Addr) (n1 c1 : Nat) (A2 : Option Addr) (n2 c2 : Nat) (w : World)
    (h1 : ns ≤ cs) (h2 : cs ≤ maxLen) (h3 : nr ≤ cr) (h4 : cr ≤ maxLen) (hno : ¬ (min ns 20 = 8 ∧ h < 8 ∧ min nr 20 ≤ 4)) :
    Calls Try.prog 4 #[gv As ns cs h Ar nr cr, .slice A1 n1 c1, .slice A2 n2 c2] w fun e w' => e = .returned (.bool true) ∧ Bel w w' := by
  have HF := Lib.hid (fun W => few_any As Ar ns cs h nr cr W h1 h2 h3 h4)
  have HRR := Lib.hid (fun W => refRight_no As Ar (min ns 20) cs h (min nr 20) cr W (by omega) (by omega) hno)
  clear h1 h2 h3 h4 hno
  unfold gv at *
  go_enter Try.func4, Try.ntmps4
  go_upto_region 1 with (fail)
  have hk3 := Bk.new' w 27 [.slice As ns cs, .int .u32 (h : Int), .slice Ar nr cr] w.heap.size rfl
  have hbel := Lib.hid (Bel.alloc w (.cells [Value.slice As ns cs, .int .u32 (h : Int), .slice Ar nr cr].toArray 27))
  revert hk3 hbel
  generalize w.alloc _ = W0
  intro hk3 hbel
  go_wp2_with (first | (refine wpList_load_bk (by rfl) 27 (.tmp 3) (by rfl) w.heap.size (by rfl) 27 _ _ rfl hk3 gTy ?_) | (refine wpList_store_bk (by rfl) 27 (.tmp 3) (.tmp 10) (by rfl) w.heap.size [.slice As (min ns 20) cs, .int .u32 (h : Int), .slice Ar (min nr 20) cr] (by rfl) (by rfl) 27 _ hk3 rfl gTy (by simp [Value.oneCell']) ?_; intro w2 hk2 hs2 ho2 hbe2; clear hs2 ho2; have hk3 := hk2; replace hbel := Lib.hid (hbe2 w hbel.out (Nat.le_refl _))) | (go_at_call 11; refine (HF.out _).mono ?_; rintro e w1 ⟨rfl, hn⟩; replace hk3 := hk3.bel hn; replace hbel := Lib.hid (hbel.out.trans hn); clear hn) | (go_at_call 7; refine (HRR.out _).mono ?_; rintro e w3 ⟨rfl, hn⟩; replace hbel := Lib.hid (hbel.out.trans hn); clear hn) | (go_at_call 10; refine (alive_any _).mono ?_; rintro e w9 ⟨rfl, hn⟩))
  go_ret
  exact ⟨rfl, hbel.out.trans hn⟩

theorem GuessOutcomes_any (As : Option Addr) (ns cs : Nat) (sl : List Sl) (h : Nat) (Ar : Option Addr) (nr cr : Nat) (rets : List Nat) (A1 : Option Addr) (n1 c1 : Nat) (ps : List Nat) (A2 : Option Addr) (n2 c2 : Nat) (qs : List Nat) (w : World)
    (hsl : Rd w w.heap.size 2 As ns cs (sls sl)) (hrt : Rd w w.heap.size 1 Ar nr cr (u32v rets)) (hh : h < 4294967296) (hp : Rd w w.heap.size 1 A1 n1 c1 (u32v ps)) (hpl : ∀ z ∈ ps, z < 4294967296) (hq : Rd w w.heap.size 1 A2 n2 c2 (u32v qs)) (hql : ∀ z ∈ qs, z < 4294967296) :
    Calls Try.prog 4 #[gv As ns cs h Ar nr cr, .slice A1 n1 c1, .slice A2 n2 c2] w fun e w' => e = .returned (.bool true) ∧ Bel w w' := by
  by_cases hno : min ns 20 = 8 ∧ h < 8 ∧ min nr 20 ≤ 4
  · obtain ⟨a, b, c⟩ := hno
    obtain rfl : ns = 8 := by omega
    exact GuessOutcomes_yes As cs sl h Ar nr cr rets A1 n1 c1 ps A2 n2 c2 qs w hsl hrt b (by omega) hp hpl hq hql
  · exact GuessOutcomes_no As ns cs h Ar nr cr A1 n1 c1 A2 n2 c2 w hsl.le hsl.mx hrt.le hrt.mx hno

end Go.Proofs.Ytghekfdpgeopjaa
