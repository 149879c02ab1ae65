/- Joined: CRight, CFind, CRightR, CFindR, CGetR, CWith, CTouch, CD, Put, Req. -/
import Derived.Test.YtcahadkkjfijfaaZ3
import Derived.Deep.RegionHeld3
import Derived.Test.YtcahadkkjfijfaaZ1
/- The cache package: which caches may be. -/
set_option linter.unusedVariables false
set_option linter.unusedSimpArgs false
set_option maxRecDepth 100000
namespace Go.Proofs.Ytcahadkkjfijfaa
open Go.RowKit Go.Sort

/-- ways are words' lines, their data strings -/
def WyOk (v : Wy) : Prop := v.line < 4294967296 ∧ v.data.size ≤ maxLen
def SOk (S : List Cs) : Prop := ∀ s ∈ S, ∀ v ∈ s.ws, v.line < 4294967296 ∧ v.data.size ≤ maxLen

/-- the first test -/
theorem right_tests (n : Nat) (ways : Int) :
    ((n = 1 ∨ n = 2 ∨ n = 4) ∧ (ways = 1 ∨ ways = 2)) ∨
    (((n : Int) != 1) = true ∧ ((n : Int) != 2) = true ∧ ((n : Int) != 4) = true ∧ ¬ (n = 1 ∨ n = 2 ∨ n = 4)) ∨
    ((n = 1 ∨ n = 2 ∨ n = 4) ∧ (ways != 1) = true ∧ (ways != 2) = true ∧ ¬ (ways = 1 ∨ ways = 2)) := by
  by_cases hn : n = 1 ∨ n = 2 ∨ n = 4
  · by_cases hw : ways = 1 ∨ ways = 2
    · exact .inl ⟨hn, hw⟩
    · exact .inr (.inr ⟨hn, by simp; omega, by simp; omega, hw⟩)
  · exact .inr (.inl ⟨by simp; omega, by simp; omega, by simp; omega, hn⟩)

set_option maxHeartbeats 1000000 in
theorem Right_bad (ways : Int) (A : Option Addr) (n c : Nat) (w : World) (hc : n ≤ c) (hm : c ≤ maxLen) (h : ¬ ((n = 1 ∨ n = 2 ∨ n = 4) ∧ (ways = 1 ∨ ways = 2))) :
    Calls Try.prog 35 #[.agg #[.int .i64 ways, .slice A n c]] w fun e w' => e = .returned (.bool false) ∧ Bel w w' := by
  unfold maxLen at hm
  rcases right_tests n ways with h' | ⟨b1, b2, b3, _⟩ | ⟨hn, b1, b2, _⟩
  · exact absurd h' h
  · clear h
    go_enter Try.func35, Try.ntmps35
    go_wp2
    go_ret
    exact ⟨rfl, Bel.alloc _ _⟩
  · clear h
    rcases hn with rfl | rfl | rfl
    all_goals
      go_enter Try.func35, Try.ntmps35
      go_wp2
      go_ret
      exact ⟨rfl, Bel.alloc _ _⟩

theorem way_dup {n k j i : Nat} {ws : List Wy} {v u : Wy} (ha : At (ws.take j) v.line i u) : ¬ WayOk n k ws j v := by
  intro h
  have hi := (List.getElem?_eq_some_iff.1 ha.is).1
  rw [List.length_take] at hi
  have hu := ha.is
  rw [List.getElem?_take, if_pos (by omega)] at hu
  exact h.2.2.2 i (by omega) u hu ha.line
theorem way_step {n k j : Nat} {ws : List Wy} {v : Wy} (hin : ∀ i < j, ∀ v, ws[i]? = some v → WayOk n k ws i v) (hat : ws[j]? = some v) (h16 : v.line % 16 = 0) (hkk : v.line / 16 % n = k) (hsz : v.data.size = 0 ∨ v.data.size = 16) (hni : NotIn (ws.take j) v.line) :
    ∀ i < j + 1, ∀ v, ws[i]? = some v → WayOk n k ws i v := by
  intro i hi v' hv'
  rcases Nat.lt_or_ge i j with h | h
  · exact hin i h v' hv'
  · obtain rfl : i = j := by omega
    rw [hat] at hv'
    injection hv' with hv'
    subst hv'
    refine ⟨h16, hkk, hsz, fun l hl u hu => hni u ?_⟩
    rw [List.mem_iff_getElem?]
    exact ⟨l, by rw [List.getElem?_take, if_pos hl]; exact hu⟩
set_option maxHeartbeats 1000000 in
theorem Right_loop (ways : Int) (A : Option Addr) (n c : Nat) (S : List Cs) (w : World) (hr : RdS w w.heap.size A n c S) (ho : SOk S) (hn : n = 1 ∨ n = 2 ∨ n = 4) (hw : ways = 1 ∨ ways = 2) (b : Bool) (hb : b = true ↔ ∀ k s, (cont S)[k]? = some s → SetOk n ways k s) :
    Calls Try.prog 35 #[.agg #[.int .i64 ways, .slice A n c]] w fun e w' => e = .returned (.bool b) ∧ Bel w w' := by
  have hc1 := hr.rd.le
  have hc2 := hr.rd.mx
  unfold maxLen at hc2
  have Hb := Lib.hid hb
  have Ho := Lib.hid ho
  have Hsl := Lib.hid hr.slen
  clear hb ho
  go_enter Try.func35, Try.ntmps35
  go_upto_region 2 with (fail)
  go_cut [32] (fun s wx => s = .bool false ∧ wx = w.alloc (.cells #[.int .i64 ways, .slice A n c] 36))
  case first =>
    rcases hn with rfl | rfl | rfl <;> rcases hw with rfl | rfl <;> (go_wp2; go_meet; exact ⟨rfl, rfl⟩)
  case rest =>
    obtain ⟨rfl, rfl⟩ := hcut
    have hkC := Bk.new' w 36 [.int .i64 ways, .slice A n c] w.heap.size rfl
    have hbel := Bel.alloc w (.cells [Value.int .i64 ways, .slice A n c].toArray 36)
    revert hkC hbel
    generalize w.alloc _ = W0
    intro hkC hbel
    have cw0 := hkC.cell_of 0 _ rfl
    have cw1 := hkC.cell_of 1 _ rfl
    replace hbel := Lib.hid hbel
    replace hr := hr.bel hbel.out
    go_wp2
    replace hn := Lib.hid hn
    replace hw := Lib.hid hw
    go_loopw [36] (fun i wr => ∃ k : Nat, k ≤ n ∧ i = .int .i64 (k : Int) ∧ (∀ k' < k, ∀ s, (cont S)[k']? = some s → SetOk n ways k' s) ∧ Bel W0 wr) (fun i _ => n - (intOf i).toNat)
    case atStart => exact ⟨0, by omega, rfl, fun k' h => absurd h (by omega), Bel.refl W0⟩
    case round =>
      obtain ⟨k, hk, rfl, hall, hbw⟩ := hrel
      replace hall := Lib.hid hall
      by_cases hkn : k < n
      · obtain ⟨hl, g0, o0, rfl, hg0, hcs, hset⟩ := (hr.bel hbw).at_ hkn
        have hso := Ho.out _ (List.getElem_mem hl)
        have hcont := cont_at hl
        obtain ⟨s, hs⟩ : ∃ s, S[k]'hl = s := ⟨_, rfl⟩
        rw [hs] at hcs hset hso hcont
        clear hs
        obtain ⟨sA, m, sc, ws⟩ := s
        simp only at hcs hset hso hcont
        replace hcont := Lib.hid hcont
        replace hso := Lib.hid hso
        have hm1 := hset.le
        have hm2 := hset.mx
        unfold maxLen at hm2
        have hwl := Lib.hid hset.wyslen
        have cw0' := hbw.cell_of cw0
        have cw1' := hbw.cell_of cw1
        by_cases hlen : (m : Int) ≤ ways
        · have hd : decide (ways < (m : Int)) = false := by simpa using hlen
          obtain ⟨wo, rfl⟩ : ∃ wo : World, wo = wr := ⟨_, rfl⟩
          have hsetW := hset
          replace hset := Lib.hid hset
          replace hlen := Lib.hid hlen
          go_wp2
          go_loopw [48] (fun i wr => ∃ j : Nat, j ≤ m ∧ i = .int .i64 (j : Int) ∧ (∀ i < j, ∀ v, ws[i]? = some v → WayOk n k ws i v) ∧ Bel wo wr) (fun i _ => m - (intOf i).toNat)
          case atStart => exact ⟨0, by omega, rfl, fun i h => absurd h (by omega), Bel.refl wo⟩
          case round =>
            obtain ⟨j, hj, rfl, hin, hbi⟩ := hrel
            replace hin := Lib.hid hin
            by_cases hjm : j < m
            · obtain ⟨hlj, g, o, rfl, hg, hce⟩ := (hset.out.bel hbi).wyselem hjm
              have hat : ws[j]? = some (ws[j]'hlj) := List.getElem?_eq_getElem hlj
              have hvo := hso.out _ (List.getElem_mem hlj)
              obtain ⟨v, hv⟩ : ∃ v, ws[j]'hlj = v := ⟨_, rfl⟩
              rw [hv] at hce hat hvo
              clear hv
              replace hce := Lib.hid hce
              replace hat := Lib.hid hat
              obtain ⟨hv1, hv2⟩ := hvo
              unfold maxLen at hv2
              have hBad : Hid (¬ WayOk n k ws j v → b = false) := by
                show ¬ WayOk n k ws j v → b = false
                intro hno
                cases hbb : b
                · rfl
                · exact absurd ((Hb.out.1 hbb k _ hcont.out).2 j v hat.out) hno
              go_upto_region 12 with (first | (refine wpList_load_elem (by rfl) 49 (.tmp 51) (by rfl) g (o + j * 3) (by rfl) v.cells v.val rfl hce.out wysTy ?_) | (refine wpList_store_bk (by rfl) 49 (.tmp 7) (.tmp 52) (by rfl) wr.heap.size v.cells (by rfl) (by rfl) 49 wysZ ?_ rfl wysTy v.one ?_; exact Bk.new wr _ wysZ; intro w1 hk1 hs1 ho1 hbe1; clear hs1 ho1))
              go_frame
              have hkC1 := ((hkC.bel hbw).bel hbi).bel (hbe1 _ (Bel.alloc _ _) (Nat.le_refl _))
              have hb1 := hbi.trans (hbe1 _ (Bel.alloc _ _) (Nat.le_refl _))
              replace hbe1 := Lib.hid hbe1
              have d0 := hk1.cell_of 0 _ rfl
              have D0 := fun d os => cell_regrown d0 d os
              have LC := Lib.hid (hkC1.inClass (P := Try.prog) (ty := 36) cTy)
              by_cases h16 : v.line % 16 = 0
              · have hLO : ∀ W, Calls Try.prog 67 #[.int .u32 (v.line : Int)] W fun e w' => e = .returned (.int .u32 (v.line : Int)) ∧ Bel W w' := by
                  intro W
                  have := LineOf_any v.line W hv1
                  rw [h16, Nat.sub_zero] at this
                  exact this.mono fun e w' ⟨he, d, hd⟩ => ⟨he, by rw [hd]; exact Bel.drewN _ _⟩
                replace hLO := Lib.hid hLO
                have hSO := Lib.hid (fun W => setOf_any ways (some ⟨g0, o0, none⟩) n c v.line W hn.out hv1)
                by_cases hkk : v.line / 16 % n = k
                · rw [hkk] at hSO
                  refine wp_region_quiet_below (by kernel_rfl) (by kernel_rfl) ?_; (repeat (first | (go_big_quiet_want; refine quiet_load 36 (.tmp 1) (by rfl) w.heap.size (by rfl) _ LC.out _ rfl ?_; go_frame; go_big_quiet_on) | go_big_quiet_step ((first | (go_at_call 67; exact grow1 (hLO.out _)) | (go_at_call 71; exact grow1 (hSO.out _)))))); (refine wpQuiet_nil ?_; intro wq hw'; obtain ⟨⟨dq, osq⟩, hw''⟩ := hw'; subst hw'')
                  have hbq := bel_grow w1 dq osq
                  have hk12 := hk1.bel hbq
                  have hb12 := hb1.trans hbq
                  clear LC D0 d0
                  revert hk12 hb12
                  clear hbq
                  generalize grow (redrawn w1 dq) osq = W2
                  intro hk12 hb12
                  have e0 := hk12.cell_of 0 _ rfl
                  have e2 := hk12.cell_of 2 _ rfl
                  have E0 := fun d os => cell_regrown e0 d os
                  by_cases hsz : v.data.size = 0 ∨ v.data.size = 16
                  · have hsp : (((v.data.size : Int) != 0) = false) ∨ (((v.data.size : Int) != 0) = true ∧ ((v.data.size : Int) != 16) = false) := by
                      rcases hsz with h | h
                      · exact .inl (by rw [h]; rfl)
                      · exact .inr ⟨by rw [h]; rfl, by rw [h]; rfl⟩
                    replace hsz := Lib.hid hsz
                    rcases hsp with z1 | ⟨z1, z2⟩
                    · have hjm1 : (j : Int) ≤ (m : Int) := by omega
                      have hj0 : (0 : Int) ≤ (j : Int) := by omega
                      have hjm2 : (m : Int) ≤ (sc : Int) := by omega
                      go_upto_region 16 with (fail)
                      have htk := ((hset.out.bel hb12).to (Nat.le_of_lt hjm))
                      rw [wys_take] at htk
                      rcases first_at (ws.take j) v.line with hni | ⟨i, u, ha, hf⟩
                      · have hPL := Lib.hid (fun W (hw : Bel W2 W) => place_any _ j sc (ws.take j) v.line W (htk.bel hw) 0 false (.inr ⟨rfl, rfl, hni⟩))
                        replace hni := Lib.hid hni
                        replace htk := Lib.hid htk
                        replace h16 := Lib.hid h16
                        replace hkk := Lib.hid hkk
                        refine wp_region_quiet_below (by kernel_rfl) (by kernel_rfl) ?_; (repeat (go_big_quiet_step ((go_at_call 72; exact grow1 (hPL.out _ (bel_grow _ _ _)))))); (refine wpQuiet_nil ?_; intro wq hw'; obtain ⟨⟨dq, osq⟩, hw''⟩ := hw'; subst hw'')
                        go_wp2
                        go_roundw
                        case rel => exact ⟨j + 1, by omega, by go_num, fun i hi v' hv' => (way_step hin.out hat.out h16.out hkk.out hsz.out hni.out i hi v' hv'), hb12.trans (bel_grow _ _ _)⟩
                        case measure => first | (simp [intOf]; done) | (simp [intOf]; omega)
                      · have hPL := Lib.hid (fun W (hw : Bel W2 W) => place_any _ j sc (ws.take j) v.line W (htk.bel hw) i true (.inl ⟨rfl, u, ha, hf⟩))
                        have Hno := Lib.hid (hBad.out (way_dup ha))
                        replace hf := Lib.hid hf
                        replace htk := Lib.hid htk
                        replace ha := Lib.hid ha
                        replace h16 := Lib.hid h16
                        replace hkk := Lib.hid hkk
                        refine wp_region_quiet_below (by kernel_rfl) (by kernel_rfl) ?_; (repeat (go_big_quiet_step ((go_at_call 72; exact grow1 (hPL.out _ (bel_grow _ _ _)))))); (refine wpQuiet_nil ?_; intro wq hw'; obtain ⟨⟨dq, osq⟩, hw''⟩ := hw'; subst hw'')
                        go_wp2
                        go_ret
                        exact ⟨val_bool (by rw [Hno.out]), hbel.out.trans (hbw.trans (hb12.trans (bel_grow _ _ _)))⟩
                    · have hjm1 : (j : Int) ≤ (m : Int) := by omega
                      have hj0 : (0 : Int) ≤ (j : Int) := by omega
                      have hjm2 : (m : Int) ≤ (sc : Int) := by omega
                      go_upto_region 16 with (fail)
                      have htk := ((hset.out.bel hb12).to (Nat.le_of_lt hjm))
                      rw [wys_take] at htk
                      rcases first_at (ws.take j) v.line with hni | ⟨i, u, ha, hf⟩
                      · have hPL := Lib.hid (fun W (hw : Bel W2 W) => place_any _ j sc (ws.take j) v.line W (htk.bel hw) 0 false (.inr ⟨rfl, rfl, hni⟩))
                        replace hni := Lib.hid hni
                        replace htk := Lib.hid htk
                        replace h16 := Lib.hid h16
                        replace hkk := Lib.hid hkk
                        refine wp_region_quiet_below (by kernel_rfl) (by kernel_rfl) ?_; (repeat (go_big_quiet_step ((go_at_call 72; exact grow1 (hPL.out _ (bel_grow _ _ _)))))); (refine wpQuiet_nil ?_; intro wq hw'; obtain ⟨⟨dq, osq⟩, hw''⟩ := hw'; subst hw'')
                        go_wp2
                        go_roundw
                        case rel => exact ⟨j + 1, by omega, by go_num, fun i hi v' hv' => (way_step hin.out hat.out h16.out hkk.out hsz.out hni.out i hi v' hv'), hb12.trans (bel_grow _ _ _)⟩
                        case measure => first | (simp [intOf]; done) | (simp [intOf]; omega)
                      · have hPL := Lib.hid (fun W (hw : Bel W2 W) => place_any _ j sc (ws.take j) v.line W (htk.bel hw) i true (.inl ⟨rfl, u, ha, hf⟩))
                        have Hno := Lib.hid (hBad.out (way_dup ha))
                        replace hf := Lib.hid hf
                        replace htk := Lib.hid htk
                        replace ha := Lib.hid ha
                        replace h16 := Lib.hid h16
                        replace hkk := Lib.hid hkk
                        refine wp_region_quiet_below (by kernel_rfl) (by kernel_rfl) ?_; (repeat (go_big_quiet_step ((go_at_call 72; exact grow1 (hPL.out _ (bel_grow _ _ _)))))); (refine wpQuiet_nil ?_; intro wq hw'; obtain ⟨⟨dq, osq⟩, hw''⟩ := hw'; subst hw'')
                        go_wp2
                        go_ret
                        exact ⟨val_bool (by rw [Hno.out]), hbel.out.trans (hbw.trans (hb12.trans (bel_grow _ _ _)))⟩
                  · have z1 : ((v.data.size : Int) != 0) = true := by rw [bne_iff_ne]; omega
                    have z2 : ((v.data.size : Int) != 16) = true := by rw [bne_iff_ne]; omega
                    have Hno := Lib.hid (hBad.out fun hw => hsz hw.2.2.1)
                    clear hsz E0
                    go_wp2
                    go_ret
                    exact ⟨val_bool (by rw [Hno.out]), hbel.out.trans (hbw.trans hb12)⟩
                · have Hno := Lib.hid (hBad.out fun hw => hkk hw.2.1)
                  obtain ⟨t, ht⟩ : ∃ t, v.line / 16 % n = t := ⟨_, rfl⟩
                  rw [ht] at hSO hkk
                  have hb12 : ((t : Int) != (k : Int)) = true := by rw [bne_iff_ne]; omega
                  clear hkk ht
                  refine wp_region_quiet_below (by kernel_rfl) (by kernel_rfl) ?_; (repeat (first | (go_big_quiet_want; refine quiet_load 36 (.tmp 1) (by rfl) w.heap.size (by rfl) _ LC.out _ rfl ?_; go_frame; go_big_quiet_on) | go_big_quiet_step ((first | (go_at_call 67; exact grow1 (hLO.out _)) | (go_at_call 71; exact grow1 (hSO.out _)))))); (refine wpQuiet_nil ?_; intro wq hw'; obtain ⟨⟨dq, osq⟩, hw''⟩ := hw'; subst hw'')
                  go_wp2
                  go_ret
                  exact ⟨val_bool (by rw [Hno.out]), hbel.out.trans (hbw.trans (hb1.trans (bel_grow _ _ _)))⟩
              · have hLO : ∀ W, Calls Try.prog 67 #[.int .u32 (v.line : Int)] W fun e w' => e = .returned (.int .u32 ((v.line - v.line % 16 : Nat) : Int)) ∧ Bel W w' := by
                  intro W
                  exact (LineOf_any v.line W hv1).mono fun e w' ⟨he, d, hd⟩ => ⟨he, by rw [hd]; exact Bel.drewN _ _⟩
                have hnl : (((v.line - v.line % 16 : Nat) : Int) != (v.line : Int)) = true := by rw [bne_iff_ne]; omega
                have Hno := Lib.hid (hBad.out fun hw => h16 hw.1)
                have hSO : Hid True := Lib.hid trivial
                revert hLO hnl
                generalize v.line - v.line % 16 = lo
                intro hLO hnl
                replace hLO := Lib.hid hLO
                clear h16
                refine wp_region_quiet_below (by kernel_rfl) (by kernel_rfl) ?_
                repeat (go_big_quiet_step ((go_at_call 67; exact grow1 (hLO.out _))))
                (refine wpQuiet_nil ?_; intro wq hw'; obtain ⟨⟨dq, osq⟩, hw''⟩ := hw'; subst hw'')
                go_wp2
                go_ret
                exact ⟨val_bool (by rw [Hno.out]), hbel.out.trans (hbw.trans (hb1.trans (bel_grow _ _ _)))⟩
            · obtain rfl : j = m := by omega
              go_wp2
              go_roundw
              case rel =>
                refine ⟨k + 1, by omega, by go_num, fun k' hk' s hs' => ?_, hbw.trans hbi⟩
                rcases Nat.lt_or_ge k' k with h | h
                · exact hall.out k' h s hs'
                · obtain rfl : k' = k := by omega
                  have e := hcont.out
                  rw [hs'] at e
                  injection e with e
                  subst e
                  exact ⟨by rw [hwl.out]; exact hlen.out, fun i v hv => hin.out i (by have := (List.getElem?_eq_some_iff.1 hv).1; have := hwl.out; omega) v hv⟩
              case measure => first | (simp [intOf]; done) | (simp [intOf]; omega)
        · have hd : decide (ways < (m : Int)) = true := by simpa using hlen
          have Hno : Hid (b = false) := by
            show b = false
            cases hbb : b
            · rfl
            · exact absurd ((Hb.out.1 hbb k _ hcont.out).1) (by rw [hwl.out]; exact hlen)
          clear hlen
          go_wp2
          go_ret
          exact ⟨val_bool (by rw [Hno.out]), hbel.out.trans hbw⟩
      · obtain rfl : k = n := by omega
        have Hyes : Hid (b = true) := Lib.hid (Hb.out.2 fun k' s hk' => hall.out k' (by have := (List.getElem?_eq_some_iff.1 hk').1; rw [cont_len] at this; have := Hsl.out; omega) s hk')
        go_wp2
        go_ret
        exact ⟨val_bool (by rw [Hyes.out]), hbel.out.trans hbw⟩

theorem Right_any (ways : Int) (A : Option Addr) (n c : Nat) (S : List Cs) (w : World) (hr : RdS w w.heap.size A n c S) (ho : SOk S) (b : Bool) (hb : b = true ↔ RightP ways (cont S)) :
    Calls Try.prog 35 #[.agg #[.int .i64 ways, .slice A n c]] w fun e w' => e = .returned (.bool b) ∧ Bel w w' := by
  have hl : (cont S).length = n := by rw [cont_len, hr.slen]
  by_cases h : (n = 1 ∨ n = 2 ∨ n = 4) ∧ (ways = 1 ∨ ways = 2)
  · refine Right_loop ways A n c S w hr ho h.1 h.2 b ⟨fun e => ?_, fun e => ?_⟩
    · have := (hb.1 e).hs
      rwa [hl] at this
    · exact hb.2 ⟨by rw [hl]; exact h.1, h.2, by rw [hl]; exact e⟩
  · obtain rfl : b = false := by
      cases hbb : b
      · rfl
      · have := hb.1 hbb
        exact absurd ⟨by have := this.hn; rwa [hl] at this, this.hw⟩ h
    exact Right_bad ways A n c w hr.rd.le hr.rd.mx h

end Go.Proofs.Ytcahadkkjfijfaa

/- The cache package: Find, front, with. -/
set_option linter.unusedVariables false
set_option linter.unusedSimpArgs false
set_option maxRecDepth 100000
namespace Go.Proofs.Ytcahadkkjfijfaa
open Go.RowKit Go.Sort

theorem Find_no (ways : Int) (A : Option Addr) (n c : Nat) (S : List Cs) (x : Nat) (w : World) (hr : RdS w w.heap.size A n c S) (ho : SOk S) (hno : ¬ RightP ways (cont S)) :
    Calls Try.prog 33 #[.agg #[.int .i64 ways, .slice A n c], .int .u32 (x : Int)] w fun e w' => e = .returned (.tuple #[.int .i64 0, .int .i64 0, .bool false]) ∧ Bel w w' := by
  have HR := Lib.hid (fun W (hw : Bel w W) => Right_any ways A n c S W (hr.bel hw) ho false ⟨fun h => (by cases h), fun h => absurd h hno⟩)
  go_enter Try.func33, Try.ntmps33
  go_upto_region 1 with (fail)
  have hkC := Bk.new' w 36 [.int .i64 ways, .slice A n c] w.heap.size rfl; have hbel := Bel.alloc w (.cells [Value.int .i64 ways, .slice A n c].toArray 36); revert hkC hbel; generalize w.alloc _ = W0; intro hkC hbel; replace hbel := Lib.hid hbel
  go_wp2_with (first | (refine wpList_load_bk (by rfl) 36 (.tmp 2) (by rfl) w.heap.size (by rfl) 36 _ _ rfl hkC cTy ?_) | (go_at_call 35; refine (HR.out _ hbel.out).mono ?_; rintro e w1 ⟨rfl, hn1⟩))
  go_ret3
  exact ⟨rfl, hbel.out.trans hn1⟩
set_option maxHeartbeats 1000000 in
theorem Find_any (ways : Int) (A : Option Addr) (n c : Nat) (S : List Cs) (x : Nat) (w : World) (hr : RdS w w.heap.size A n c S) (ho : SOk S) (hx : x < 4294967296) (hR : RightP ways (cont S)) (k : Nat) (hk : x / 16 % n = k) (set : List Wy) (hset : (cont S)[k]? = some set) (at' : Nat) (b : Bool)
    (hb : (b = true ∧ ∃ v, At set (x - x % 16) at' v ∧ ∀ j < at', ∀ u, set[j]? = some u → u.line ≠ x - x % 16) ∨ (b = false ∧ at' = 0 ∧ NotIn set (x - x % 16))) :
    Calls Try.prog 33 #[.agg #[.int .i64 ways, .slice A n c], .int .u32 (x : Int)] w fun e w' => e = .returned (.tuple #[.int .i64 (k : Int), .int .i64 (at' : Int), .bool b]) ∧ Bel w w' := by
  have hn : n = 1 ∨ n = 2 ∨ n = 4 := by have := hR.hn; rwa [cont_len, hr.slen] at this
  have HR := Lib.hid (fun W (hw : Bel w W) => Right_any ways A n c S W (hr.bel hw) ho true ⟨fun _ => hR, fun _ => rfl⟩)
  have hkn : k < n := by rw [← hk]; exact Nat.mod_lt _ (by omega)
  obtain ⟨hl, g0, o0, rfl, hg0, hcs, hs⟩ := hr.at_ hkn
  rw [cont_at hl] at hset
  have hset' : (S[k]'hl).ws = set := by injection hset
  obtain ⟨s, hs'⟩ : ∃ s, S[k]'hl = s := ⟨_, rfl⟩
  rw [hs'] at hcs hs hset'
  obtain ⟨sA, m, sc, ws⟩ := s
  simp only at hcs hs hset'
  subst hset'
  have HL := Lib.hid (fun W => LineOf_any x W hx)
  have hxx : (x - x % 16) / 16 % n = k := by rw [← hk]; congr 1; omega
  have HS := Lib.hid (fun W => setOf_any ways (some ⟨g0, o0, none⟩) n c (x - x % 16) W hn (by omega))
  rw [hxx] at HS
  have HP := Lib.hid (fun W (hw : Bel w W) => place_any sA m sc ws (x - x % 16) W (hs.bel hw) at' b hb)
  have Hcs := Lib.hid hcs
  have hki : (k : Int) < (n : Int) := by omega
  have hc1 := hr.rd.le
  have hc2 := hr.rd.mx
  unfold maxLen at hc2
  clear hk hxx hset hs' hcs hb hn
  revert HL HS HP
  generalize x - x % 16 = lo
  intro HL HS HP
  obtain ⟨A, hA⟩ : ∃ A, A = (some ⟨g0, o0, none⟩ : Option Addr) := ⟨_, rfl⟩
  go_enter Try.func33, Try.ntmps33
  go_upto_region 1 with (fail)
  have hkC := Bk.new' w 36 [.int .i64 ways, .slice (some ⟨g0, o0, none⟩) n c] w.heap.size rfl
  have hbel := Bel.alloc w (.cells [Value.int .i64 ways, .slice (some ⟨g0, o0, none⟩) n c].toArray 36)
  clear hA
  revert hkC hbel
  generalize w.alloc _ = W0
  intro hkC hbel
  replace hbel := Lib.hid hbel
  go_wp2_with (first | (refine wpList_load_bk (by rfl) 36 (.tmp 2) (by rfl) w.heap.size (by rfl) 36 _ _ rfl hkC cTy ?_) | (go_at_call 35; refine (HR.out _ hbel.out).mono ?_; rintro e w1 ⟨rfl, hn1⟩; replace hkC := hkC.bel hn1; replace hbel := Lib.hid (hbel.out.trans hn1); clear hn1) | (go_at_call 67; refine (HL.out _).mono ?_; rintro e w2 ⟨rfl, d2, rfl⟩; replace hkC := hkC.drewN d2; replace hbel := Lib.hid (hbel.out.trans (Bel.drewN _ d2))) | (go_at_call 71; refine (HS.out _).mono ?_; rintro e w3 ⟨rfl, hn3⟩; replace hkC := hkC.bel hn3; replace hbel := Lib.hid (hbel.out.trans hn3); have cc := hkC.cell_of 1 _ rfl; have ccs := hbel.out.cell_of Hcs.out; clear hn3) | (go_at_call 72; refine (HP.out _ hbel.out).mono ?_; rintro e w4 ⟨rfl, hn4⟩))
  go_ret3
  exact ⟨rfl, hbel.out.trans hn4⟩

theorem wyinfo : (Try.prog.info? 49).map (fun i => (i.zero, i.size, i.bytes)) = some (some (.agg #[.int .u32 0, .bool false, .string ⟨#[]⟩]), 3, 24) := by kernel_rfl
theorem Rd.from_ {w : World} {B n c k g o : Nat} {q : List Wy} (h : Rd w B 3 (some ⟨g, o, none⟩) n c (wys q)) (hk : k ≤ n) : Rd w B 3 (some ⟨g, o + k * 3, none⟩) (n - k) (c - k) (wys (q.drop k)) := by
  have hl := h.wyslen
  refine ⟨by rw [wys_len, List.length_drop]; omega, by have := h.le; omega, by have := h.mx; omega, fun hn => ?_⟩
  obtain ⟨g', o', e, hb, hx⟩ := h.at_ (by omega)
  injection e with e
  injection e with e1 e2
  subst e1 e2
  refine ⟨_, _, rfl, hb, fun j u hu => ?_⟩
  rw [← wys_drop, List.getElem?_drop] at hu
  have := hx (k * 3 + j) u hu
  rwa [show o + (k * 3 + j) = o + k * 3 + j by omega] at this
set_option maxHeartbeats 1000000 in
theorem front_any (A : Option Addr) (n c : Nat) (q : List Wy) (i : Nat) (v : Wy) (w : World) (hr : Rd w w.heap.size 3 A n c (wys q)) (hn : n ≤ 1000) (hv : q[i]? = some v) :
    Calls Try.prog 65 #[.slice A n c, .int .i64 (i : Int)] w fun e w' => ∃ A' c', e = .returned (.slice A' n c') ∧ Rd w' w'.heap.size 3 A' n c' (wys (frontL q i v)) ∧ (∀ g o, A' = some ⟨g, o, none⟩ → w.heap.size ≤ g) ∧ Bel w w' := by
  obtain ⟨i0, hi, hz0, hz1, hz2⟩ := info_parts wyinfo
  have hin : i < n := by have := (List.getElem?_eq_some_iff.1 hv).1; rw [hr.wyslen] at this; exact this
  obtain ⟨hl, g, o, rfl, hg, hce⟩ := hr.wyselem hin
  have hvi : q[i]'hl = v := by have := (List.getElem?_eq_some_iff.1 hv).2; exact this
  rw [hvi] at hce
  replace hce := Lib.hid hce
  have htake := hr.to (N := i) (Nat.le_of_lt hin)
  rw [wys_take] at htake
  replace htake := Lib.hid htake
  have hfrom := Lib.hid (hr.from_ (k := i + 1) (by omega))
  have hc1 := hr.le
  have hc2 := hr.mx
  unfold maxLen at hc2
  have hii : (i : Int) < (n : Int) := by omega
  clear hvi hv
  go_enter Try.func65, Try.ntmps65
  by_cases hcap : c = i + 1
  · have hn1 : n ≤ i + 1 := by omega
    have hdr : q.drop (i + 1) = [] := List.drop_of_length_le (by rw [hr.wyslen]; omega)
    replace hdr := Lib.hid hdr
    have hcap1 : c ≤ i + 1 := by omega
    clear hcap
    go_wp2_with (first | (at_make; refine wpList_make_own _ rfl _ _ 62 (by rfl) w.heap.size 49 i0 _ 3 Try.underlying62 hi hz0 hz1 _ _ _ n (by rfl) (by rfl) (by omega) (by rw [hz2]; omega) (by unfold maxLen; omega) (Nat.le_refl _) ?_; intro w1 hown1 hg1; have hb1 := (Bel.refl w).grown hg1 (by simp); replace hce := Lib.hid (fun j u hu => hb1.cell_of (hce.out j u hu)); clear hg1) | (refine wpList_load_elem (by rfl) 49 (.tmp 12) (by rfl) g (o + i * 3) (by rfl) v.cells (.agg #[.int .u32 (v.line : Int), .bool v.dirty, .string v.data]) rfl hce.out wysTy ?_) | (at_builtin; refine wpList_app w1 v.cells 1 rfl (.tmp 9) (.tmp 14) 62 (by rfl) w.heap.size 49 _ 3 24 Try.underlying62 wyinfo rfl (by decide) _ 0 _ (by rfl) hown1 (by rfl) rfl v.one (by omega) (by omega) hb1.size ?_; intro v2 w2 hown2 hg2; have hb2 := hb1.then_grown hown1 hg2 (Nat.le_refl _); rw [List.nil_append, Nat.zero_add] at hown2; clear hg2) | (at_builtin; refine wpList_app_rd rfl (.tmp 16) (.tmp 19) 62 (by rfl) w.heap.size 49 _ 3 24 Try.underlying62 wyinfo rfl (by decide) v2 1 _ (by rfl) hown2 w.heap.size (some ⟨g, o, none⟩) i c (wys (q.take i)) (by rfl) (htake.out.below hb2) (wys_one _) (by omega) (by omega) hb2.size ?_; intro v3 w3 hown3 hg3; have hb3 := hb2.then_grown hown2 hg3 (Nat.le_refl _); clear hg3) | (at_builtin; refine wpList_app_rd rfl (.tmp 21) (.tmp 25) 62 (by rfl) w.heap.size 49 _ 3 24 Try.underlying62 wyinfo rfl (by decide) v3 (1 + i) _ (by rfl) hown3 w.heap.size _ 0 0 [] (by rfl) (Rd.nil (Nat.zero_le _)) (by simp) (by omega) (by omega) hb3.size ?_; intro v4 w4 hown4 hg4; have hb4 := hb3.then_grown hown3 hg4 (Nat.le_refl _)))
    rw [show 1 + i + 0 = n by omega, show v.cells ++ wys (q.take i) ++ [] = wys (frontL q i v) by simp [frontL, wys, hdr.out]] at hown4
    obtain ⟨A', c', rfl, hr4, hge⟩ := Rd.of_own' hown4
    go_ret
    exact ⟨A', c', rfl, hr4, hge, hb4⟩
  · have hcap2 : i + 1 < c := by omega
    go_wp2_with (first | (at_make; refine wpList_make_own _ rfl _ _ 62 (by rfl) w.heap.size 49 i0 _ 3 Try.underlying62 hi hz0 hz1 _ _ _ n (by rfl) (by rfl) (by omega) (by rw [hz2]; omega) (by unfold maxLen; omega) (Nat.le_refl _) ?_; intro w1 hown1 hg1; have hb1 := (Bel.refl w).grown hg1 (by simp); replace hce := Lib.hid (fun j u hu => hb1.cell_of (hce.out j u hu)); clear hg1) | (refine wpList_load_elem (by rfl) 49 (.tmp 12) (by rfl) g (o + i * 3) (by rfl) v.cells (.agg #[.int .u32 (v.line : Int), .bool v.dirty, .string v.data]) rfl hce.out wysTy ?_) | (at_builtin; refine wpList_app w1 v.cells 1 rfl (.tmp 9) (.tmp 14) 62 (by rfl) w.heap.size 49 _ 3 24 Try.underlying62 wyinfo rfl (by decide) _ 0 _ (by rfl) hown1 (by rfl) rfl v.one (by omega) (by omega) hb1.size ?_; intro v2 w2 hown2 hg2; have hb2 := hb1.then_grown hown1 hg2 (Nat.le_refl _); rw [List.nil_append, Nat.zero_add] at hown2; clear hg2) | (at_builtin; refine wpList_app_rd rfl (.tmp 16) (.tmp 19) 62 (by rfl) w.heap.size 49 _ 3 24 Try.underlying62 wyinfo rfl (by decide) v2 1 _ (by rfl) hown2 w.heap.size (some ⟨g, o, none⟩) i c (wys (q.take i)) (by rfl) (htake.out.below hb2) (wys_one _) (by omega) (by omega) hb2.size ?_; intro v3 w3 hown3 hg3; have hb3 := hb2.then_grown hown2 hg3 (Nat.le_refl _); clear hg3) | (at_builtin; refine wpList_app_rd rfl (.tmp 21) (.tmp 25) 62 (by rfl) w.heap.size 49 _ 3 24 Try.underlying62 wyinfo rfl (by decide) v3 (1 + i) _ (by rfl) hown3 w.heap.size (some ⟨g, o + (i + 1) * 3, none⟩) (n - (i + 1)) (c - (i + 1)) (wys (q.drop (i + 1))) (by rfl) (hfrom.out.below hb3) (wys_one _) (by omega) (by omega) hb3.size ?_; intro v4 w4 hown4 hg4; have hb4 := hb3.then_grown hown3 hg4 (Nat.le_refl _)))
    (rw [show 1 + i + (n - (i + 1)) = n by omega, show v.cells ++ wys (q.take i) ++ wys (q.drop (i + 1)) = wys (frontL q i v) by simp [frontL, wys]] at hown4; obtain ⟨A', c', rfl, hr4, hge⟩ := Rd.of_own' hown4; go_ret; exact ⟨A', c', rfl, hr4, hge, hb4⟩)

end Go.Proofs.Ytcahadkkjfijfaa

/- The document's own: which caches may be. -/
set_option linter.unusedVariables false
set_option linter.unusedSimpArgs false
set_option maxRecDepth 100000
namespace Go.Proofs.Ytcahadkkjfijfaa
open Go.RowKit Go.Sort

set_option maxHeartbeats 1000000 in
theorem refRight_bad (ways : Int) (A : Option Addr) (n c : Nat) (w : World) (hc : n ≤ c) (hm : c ≤ maxLen) (h : ¬ ((n = 1 ∨ n = 2 ∨ n = 4) ∧ (ways = 1 ∨ ways = 2))) :
    Calls Try.prog 22 #[.agg #[.int .i64 ways, .slice A n c]] w fun e w' => e = .returned (.bool false) ∧ Bel w w' := by
  unfold maxLen at hm
  rcases right_tests n ways with h' | ⟨b1, b2, b3, _⟩ | ⟨hn, b1, b2, _⟩
  · exact absurd h' h
  · clear h
    go_enter Try.func22, Try.ntmps22
    go_wp2
    go_ret
    exact ⟨rfl, Bel.alloc _ _⟩
  · clear h
    rcases hn with rfl | rfl | rfl
    all_goals
      go_enter Try.func22, Try.ntmps22
      go_wp2
      go_ret
      exact ⟨rfl, Bel.alloc _ _⟩

set_option maxHeartbeats 8000000 in
theorem refRight_loop (ways : Int) (A : Option Addr) (n c : Nat) (S : List Cs) (w : World) (hr : RdS w w.heap.size A n c S) (ho : SOk S) (hn : n = 1 ∨ n = 2 ∨ n = 4) (hw : ways = 1 ∨ ways = 2) (b : Bool) (hb : b = true ↔ ∀ k s, (cont S)[k]? = some s → SetOk n ways k s) :
    Calls Try.prog 22 #[.agg #[.int .i64 ways, .slice A n c]] w fun e w' => e = .returned (.bool b) ∧ Bel w w' := by
  have hc1 := hr.rd.le
  have hc2 := hr.rd.mx
  unfold maxLen at hc2
  have Hb := Lib.hid hb
  have Ho := Lib.hid ho
  have Hsl := Lib.hid hr.slen
  clear hb ho
  go_enter Try.func22, Try.ntmps22
  go_upto_region 2 with (fail)
  go_cut [31] (fun s wx => s = .bool false ∧ wx = w.alloc (.cells #[.int .i64 ways, .slice A n c] 36))
  case first =>
    rcases hn with rfl | rfl | rfl <;> rcases hw with rfl | rfl <;> (go_wp2; go_meet; exact ⟨rfl, rfl⟩)
  case rest =>
    obtain ⟨rfl, rfl⟩ := hcut
    have hkC := Bk.new' w 36 [.int .i64 ways, .slice A n c] w.heap.size rfl
    have hbel := Bel.alloc w (.cells [Value.int .i64 ways, .slice A n c].toArray 36)
    revert hkC hbel
    generalize w.alloc _ = W0
    intro hkC hbel
    have cw0 := hkC.cell_of 0 _ rfl
    have cw1 := hkC.cell_of 1 _ rfl
    replace hbel := Lib.hid hbel
    replace hr := hr.bel hbel.out
    go_wp2
    replace hn := Lib.hid hn
    replace hw := Lib.hid hw
    go_loopw [35] (fun i wr => ∃ k : Nat, k ≤ n ∧ i = .int .i64 (k : Int) ∧ (∀ k' < k, ∀ s, (cont S)[k']? = some s → SetOk n ways k' s) ∧ Bel W0 wr) (fun i _ => n - (intOf i).toNat)
    case atStart => exact ⟨0, by omega, rfl, fun k' h => absurd h (by omega), Bel.refl W0⟩
    case round =>
      obtain ⟨k, hk, rfl, hall, hbw⟩ := hrel
      replace hall := Lib.hid hall
      by_cases hkn : k < n
      · obtain ⟨hl, g0, o0, rfl, hg0, hcs, hset⟩ := (hr.bel hbw).at_ hkn
        have hso := Ho.out _ (List.getElem_mem hl)
        have hcont := cont_at hl
        obtain ⟨s, hs⟩ : ∃ s, S[k]'hl = s := ⟨_, rfl⟩
        rw [hs] at hcs hset hso hcont
        clear hs
        obtain ⟨sA, m, sc, ws⟩ := s
        simp only at hcs hset hso hcont
        replace hcont := Lib.hid hcont
        replace hso := Lib.hid hso
        have hm1 := hset.le
        have hm2 := hset.mx
        unfold maxLen at hm2
        have hwl := Lib.hid hset.wyslen
        have cw0' := hbw.cell_of cw0
        have cw1' := hbw.cell_of cw1
        by_cases hlen : (m : Int) ≤ ways
        · have hd : decide (ways < (m : Int)) = false := by simpa using hlen
          obtain ⟨wo, rfl⟩ : ∃ wo : World, wo = wr := ⟨_, rfl⟩
          have hsetW := hset
          replace hset := Lib.hid hset
          replace hlen := Lib.hid hlen
          go_wp2
          go_loopw [47] (fun i wr => ∃ j : Nat, j ≤ m ∧ i = .int .i64 (j : Int) ∧ (∀ i < j, ∀ v, ws[i]? = some v → WayOk n k ws i v) ∧ Bel wo wr) (fun i _ => m - (intOf i).toNat)
          case atStart => exact ⟨0, by omega, rfl, fun i h => absurd h (by omega), Bel.refl wo⟩
          case round =>
            obtain ⟨j, hj, rfl, hin, hbi⟩ := hrel
            replace hin := Lib.hid hin
            by_cases hjm : j < m
            · obtain ⟨hlj, g, o, rfl, hg, hce⟩ := (hset.out.bel hbi).wyselem hjm
              have hat : ws[j]? = some (ws[j]'hlj) := List.getElem?_eq_getElem hlj
              have hvo := hso.out _ (List.getElem_mem hlj)
              obtain ⟨v, hv⟩ : ∃ v, ws[j]'hlj = v := ⟨_, rfl⟩
              rw [hv] at hce hat hvo
              clear hv
              replace hce := Lib.hid hce
              replace hat := Lib.hid hat
              obtain ⟨hv1, hv2⟩ := hvo
              unfold maxLen at hv2
              have hBad : Hid (¬ WayOk n k ws j v → b = false) := by
                show ¬ WayOk n k ws j v → b = false
                intro hno
                cases hbb : b
                · rfl
                · exact absurd ((Hb.out.1 hbb k _ hcont.out).2 j v hat.out) hno
              go_upto_region 12 with (first | (refine wpList_load_elem (by rfl) 49 (.tmp 50) (by rfl) g (o + j * 3) (by rfl) v.cells v.val rfl hce.out wysTy ?_) | (refine wpList_store_bk (by rfl) 49 (.tmp 7) (.tmp 51) (by rfl) wr.heap.size v.cells (by rfl) (by rfl) 49 wysZ ?_ rfl wysTy v.one ?_; exact Bk.new wr _ wysZ; intro w1 hk1 hs1 ho1 hbe1; clear hs1 ho1))
              go_frame
              have hkC1 := ((hkC.bel hbw).bel hbi).bel (hbe1 _ (Bel.alloc _ _) (Nat.le_refl _))
              have hb1 := hbi.trans (hbe1 _ (Bel.alloc _ _) (Nat.le_refl _))
              replace hbe1 := Lib.hid hbe1
              have d0 := hk1.cell_of 0 _ rfl
              have d2 := hk1.cell_of 2 _ rfl
              by_cases h16 : v.line % 16 = 0
              · have h16b : (((v.line : Int) % 16) != 0) = false := by simp; omega
                obtain ⟨t, ht⟩ : ∃ t, v.line / 16 % n = t := ⟨_, rfl⟩
                have hSO := Lib.hid (fun W => refSetOf_any ways (some ⟨g0, o0, none⟩) n c v.line W hn.out hv1)
                rw [ht] at hSO
                by_cases hkk : t = k
                · have hkb : ((t : Int) != (k : Int)) = false := by simp [hkk]
                  replace ht := Lib.hid (ht.trans hkk)
                  clear hkk
                  by_cases hsz : v.data.size = 0 ∨ v.data.size = 16
                  · have hsp : (((v.data.size : Int) != 0) = false) ∨ (((v.data.size : Int) != 0) = true ∧ ((v.data.size : Int) != 16) = false) := by
                      rcases hsz with h | h
                      · exact .inl (by rw [h]; rfl)
                      · exact .inr ⟨by rw [h]; rfl, by rw [h]; rfl⟩
                    replace hsz := Lib.hid hsz
                    replace h16 := Lib.hid h16
                    go_cut [75] (fun s wx => s = .bool false ∧ Bel w1 wx)
                    case first =>
                      rcases hsp with z1 | ⟨z1, z2⟩
                      · go_wp2_with (first | (refine wpList_load_bk (by rfl) 36 (.tmp 1) (by rfl) w.heap.size (by rfl) 36 _ _ rfl hkC1 cTy ?_) | (go_at_call 61; refine (hSO.out _).mono ?_; rintro e w3 ⟨rfl, hn3⟩; have e2' := (hk1.bel hn3).cell_of 2 _ rfl))
                        go_meet
                        exact ⟨rfl, hn3⟩
                      · go_wp2_with (first | (refine wpList_load_bk (by rfl) 36 (.tmp 1) (by rfl) w.heap.size (by rfl) 36 _ _ rfl hkC1 cTy ?_) | (go_at_call 61; refine (hSO.out _).mono ?_; rintro e w3 ⟨rfl, hn3⟩; have e2' := (hk1.bel hn3).cell_of 2 _ rfl))
                        go_meet
                        exact ⟨rfl, hn3⟩
                    case rest =>
                      obtain ⟨rfl, hn3⟩ := hcut
                      obtain ⟨W3, rfl⟩ : ∃ W3 : World, W3 = wc := ⟨_, rfl⟩
                      clear hsp d0 d2
                      have hk3 := hk1.bel hn3
                      have hb3 := hb1.trans hn3
                      have e0 := hk3.cell_of 0 _ rfl
                      replace hn3 := Lib.hid hn3
                      have hset3 := hset.out.bel hb3
                      go_wp2
                      go_loopw [8] (fun i wx => ∃ l : Nat, l ≤ j ∧ i = .int .i64 (l : Int) ∧ (∀ i' < l, ∀ u, ws[i']? = some u → u.line ≠ v.line) ∧ ∃ d, wx = W3.drewN d) (fun i _ => j - (intOf i).toNat)
                      case atStart => exact ⟨0, by omega, rfl, fun i h => absurd h (by omega), 0, rfl⟩
                      case round =>
                        obtain ⟨l, hlj2, rfl, hnd, d, rfl⟩ := hrel
                        replace hnd := Lib.hid hnd
                        by_cases hlt : l < j
                        · obtain ⟨hll, g', o', eA, hg', x0, x1, x2⟩ := hset3.wysat (k := l) (by omega)
                          injection eA with eA
                          injection eA with eA1 eA2
                          subst eA1 eA2
                          have hl1 : (l : Int) < (m : Int) := by omega
                          have hl0 : (0 : Int) ≤ (l : Int) := by omega
                          have hlat := List.getElem?_eq_getElem hll
                          obtain ⟨u, hu⟩ : ∃ u, ws[l]'hll = u := ⟨_, rfl⟩
                          rw [hu] at x0 x1 x2 hlat
                          clear hu
                          replace hlat := Lib.hid hlat
                          by_cases hul : u.line = v.line
                          · have hub : ((u.line : Int) == (v.line : Int)) = true := by simp [hul]
                            have Hno := Lib.hid (hBad.out fun hw => hw.2.2.2 l hlt u hlat.out hul)
                            clear hul
                            go_wp2
                            go_quiet (fail)
                            go_wp2
                            go_ret
                            exact ⟨val_bool (by rw [Hno.out]), hbel.out.trans (hbw.trans (hb3.trans ((Bel.drewN _ _).trans (Bel.drewN _ _))))⟩
                          · have hub : ((u.line : Int) == (v.line : Int)) = false := by rw [beq_eq_false_iff_ne]; omega
                            replace hul := Lib.hid hul
                            go_wp2
                            go_quiet (fail)
                            go_wp2
                            go_roundw
                            case rel =>
                              refine ⟨l + 1, by omega, by go_num, fun i' hi' u' hu' => ?_, d + nq, rfl⟩
                              rcases Nat.lt_or_ge i' l with h | h
                              · exact hnd.out i' h u' hu'
                              · obtain rfl : i' = l := by omega
                                have e := hlat.out
                                rw [hu'] at e
                                injection e with e
                                subst e
                                exact hul.out
                            case measure => first | (simp [intOf]; done) | (simp [intOf]; omega)
                        · obtain rfl : l = j := by omega
                          go_wp2
                          go_roundw
                          case rel =>
                            refine ⟨l + 1, by omega, by go_num, fun i' hi' v' hv' => ?_, hb3.trans (Bel.drewN _ _)⟩
                            rcases Nat.lt_or_ge i' l with h | h
                            · exact hin.out i' h v' hv'
                            · obtain rfl : i' = l := by omega
                              have e := hat.out
                              rw [hv'] at e
                              injection e with e
                              subst e
                              exact ⟨h16.out, ht.out, hsz.out, fun q hq u hu => hnd.out q hq u hu⟩
                          case measure => first | (simp [intOf]; done) | (simp [intOf]; omega)
                  · have z1 : ((v.data.size : Int) != 0) = true := by rw [bne_iff_ne]; omega
                    have z2 : ((v.data.size : Int) != 16) = true := by rw [bne_iff_ne]; omega
                    have Hno := Lib.hid (hBad.out fun hw => hsz hw.2.2.1)
                    clear hsz h16
                    go_wp2_with (first | (refine wpList_load_bk (by rfl) 36 (.tmp 1) (by rfl) w.heap.size (by rfl) 36 _ _ rfl hkC1 cTy ?_) | (go_at_call 61; refine (hSO.out _).mono ?_; rintro e w3 ⟨rfl, hn3⟩; have e2' := (hk1.bel hn3).cell_of 2 _ rfl))
                    go_ret
                    exact ⟨val_bool (by rw [Hno.out]), hbel.out.trans (hbw.trans (hb1.trans hn3))⟩
                · have hkb : ¬ ((t : Int) = (k : Int)) := fun h => hkk (by exact_mod_cast h)
                  have Hno := Lib.hid (hBad.out fun hw => hkk (ht.symm.trans hw.2.1))
                  clear hkk ht h16
                  go_wp2_with (first | (refine wpList_load_bk (by rfl) 36 (.tmp 1) (by rfl) w.heap.size (by rfl) 36 _ _ rfl hkC1 cTy ?_) | (go_at_call 61; refine (hSO.out _).mono ?_; rintro e w3 ⟨rfl, hn3⟩; have e2' := (hk1.bel hn3).cell_of 2 _ rfl))
                  go_ret
                  exact ⟨val_bool (by rw [Hno.out]), hbel.out.trans (hbw.trans (hb1.trans hn3))⟩
              · have h16b : (((v.line : Int) % 16) != 0) = true := by rw [bne_iff_ne]; omega
                have Hno := Lib.hid (hBad.out fun hw => h16 hw.1)
                clear h16
                go_wp2
                go_ret
                exact ⟨val_bool (by rw [Hno.out]), hbel.out.trans (hbw.trans hb1)⟩
            · obtain rfl : j = m := by omega
              go_wp2
              go_roundw
              case rel =>
                refine ⟨k + 1, by omega, by go_num, fun k' hk' s hs' => ?_, hbw.trans hbi⟩
                rcases Nat.lt_or_ge k' k with h | h
                · exact hall.out k' h s hs'
                · obtain rfl : k' = k := by omega
                  have e := hcont.out
                  rw [hs'] at e
                  injection e with e
                  subst e
                  exact ⟨by rw [hwl.out]; exact hlen.out, fun i v hv => hin.out i (by have := (List.getElem?_eq_some_iff.1 hv).1; have := hwl.out; omega) v hv⟩
              case measure => first | (simp [intOf]; done) | (simp [intOf]; omega)
        · have hd : decide (ways < (m : Int)) = true := by simpa using hlen
          have Hno : Hid (b = false) := by
            show b = false
            cases hbb : b
            · rfl
            · exact absurd ((Hb.out.1 hbb k _ hcont.out).1) (by rw [hwl.out]; exact hlen)
          clear hlen
          go_wp2
          go_ret
          exact ⟨val_bool (by rw [Hno.out]), hbel.out.trans hbw⟩
      · obtain rfl : k = n := by omega
        have Hyes : Hid (b = true) := Lib.hid (Hb.out.2 fun k' s hk' => hall.out k' (by have := (List.getElem?_eq_some_iff.1 hk').1; rw [cont_len] at this; have := Hsl.out; omega) s hk')
        go_wp2
        go_ret
        exact ⟨val_bool (by rw [Hyes.out]), hbel.out.trans hbw⟩

theorem refRight_any (ways : Int) (A : Option Addr) (n c : Nat) (S : List Cs) (w : World) (hr : RdS w w.heap.size A n c S) (ho : SOk S) (b : Bool) (hb : b = true ↔ RightP ways (cont S)) :
    Calls Try.prog 22 #[.agg #[.int .i64 ways, .slice A n c]] w fun e w' => e = .returned (.bool b) ∧ Bel w w' := by
  have hl : (cont S).length = n := by rw [cont_len, hr.slen]
  by_cases h : (n = 1 ∨ n = 2 ∨ n = 4) ∧ (ways = 1 ∨ ways = 2)
  · refine refRight_loop ways A n c S w hr ho h.1 h.2 b ⟨fun e => ?_, fun e => ?_⟩
    · have := (hb.1 e).hs
      rwa [hl] at this
    · exact hb.2 ⟨by rw [hl]; exact h.1, h.2, by rw [hl]; exact e⟩
  · obtain rfl : b = false := by
      cases hbb : b
      · rfl
      · have := hb.1 hbb
        exact absurd ⟨by have := this.hn; rwa [hl] at this, this.hw⟩ h
    exact refRight_bad ways A n c w hr.rd.le hr.rd.mx h

end Go.Proofs.Ytcahadkkjfijfaa

/- The document's Find. -/
set_option linter.unusedVariables false
set_option linter.unusedSimpArgs false
set_option maxRecDepth 100000
namespace Go.Proofs.Ytcahadkkjfijfaa
open Go.RowKit Go.Sort

theorem refFind_no (ways : Int) (A : Option Addr) (n c : Nat) (S : List Cs) (x : Nat) (w : World) (hr : RdS w w.heap.size A n c S) (ho : SOk S) (hno : ¬ RightP ways (cont S)) :
    Calls Try.prog 34 #[.agg #[.int .i64 ways, .slice A n c], .int .u32 (x : Int)] w fun e w' => e = .returned (.tuple #[.int .i64 0, .int .i64 0, .bool false]) ∧ Bel w w' := by
  have HR := Lib.hid (fun W (hw : Bel w W) => refRight_any ways A n c S W (hr.bel hw) ho false ⟨fun h => (by cases h), fun h => absurd h hno⟩)
  go_enter Try.func34, Try.ntmps34
  go_upto_region 1 with (fail)
  have hkC := Bk.new' w 36 [.int .i64 ways, .slice A n c] w.heap.size rfl; have hbel := Bel.alloc w (.cells [Value.int .i64 ways, .slice A n c].toArray 36); revert hkC hbel; generalize w.alloc _ = W0; intro hkC hbel; replace hbel := Lib.hid hbel
  go_wp2_with (first | (refine wpList_load_bk (by rfl) 36 (.tmp 2) (by rfl) w.heap.size (by rfl) 36 _ _ rfl hkC cTy ?_) | (go_at_call 22; refine (HR.out _ hbel.out).mono ?_; rintro e w1 ⟨rfl, hn1⟩))
  go_ret3
  exact ⟨rfl, hbel.out.trans hn1⟩

set_option maxHeartbeats 1000000 in
theorem refFind_any (ways : Int) (A : Option Addr) (n c : Nat) (S : List Cs) (x : Nat) (w : World) (hr : RdS w w.heap.size A n c S) (ho : SOk S) (hx : x < 4294967296) (hR : RightP ways (cont S)) (k : Nat) (hk : x / 16 % n = k) (set : List Wy) (hset : (cont S)[k]? = some set) (at' : Nat) (b : Bool)
    (hb : (b = true ∧ ∃ v, At set (x - x % 16) at' v ∧ ∀ j < at', ∀ u, set[j]? = some u → u.line ≠ x - x % 16) ∨ (b = false ∧ at' = 0 ∧ NotIn set (x - x % 16))) :
    Calls Try.prog 34 #[.agg #[.int .i64 ways, .slice A n c], .int .u32 (x : Int)] w fun e w' => e = .returned (.tuple #[.int .i64 (k : Int), .int .i64 (at' : Int), .bool b]) ∧ Bel w w' := by
  have hn : n = 1 ∨ n = 2 ∨ n = 4 := by have := hR.hn; rwa [cont_len, hr.slen] at this
  have HR := Lib.hid (fun W (hw : Bel w W) => refRight_any ways A n c S W (hr.bel hw) ho true ⟨fun _ => hR, fun _ => rfl⟩)
  have hkn : k < n := by rw [← hk]; exact Nat.mod_lt _ (by omega)
  obtain ⟨hl, g0, o0, rfl, hg0, hcs, hs⟩ := hr.at_ hkn
  have hso := ho _ (List.getElem_mem hl)
  rw [cont_at hl] at hset
  have hset' : (S[k]'hl).ws = set := by injection hset
  obtain ⟨s, hs'⟩ : ∃ s, S[k]'hl = s := ⟨_, rfl⟩
  rw [hs'] at hcs hs hset' hso
  obtain ⟨sA, m, sc, ws⟩ := s
  simp only at hcs hs hset' hso
  subst hset'
  have HL := Lib.hid (fun W => refLineOf_any x W hx)
  have hxx : (x - x % 16) / 16 % n = k := by rw [← hk]; congr 1; omega
  have HS := Lib.hid (fun W => refSetOf_any ways (some ⟨g0, o0, none⟩) n c (x - x % 16) W hn (by omega))
  rw [hxx] at HS
  have Hcs := Lib.hid hcs
  have hki : (k : Int) < (n : Int) := by omega
  have hk0 : (0 : Int) ≤ (k : Int) := by omega
  have hc1 := hr.rd.le
  have hc2 := hr.rd.mx
  have hm1 := hs.le
  have hm2 := hs.mx
  unfold maxLen at hc2 hm2
  have hwl := Lib.hid hs.wyslen
  replace hso := Lib.hid hso
  clear hk hxx hset hs' hcs hn
  revert HL HS hb
  generalize x - x % 16 = lo
  intro hb HL HS
  replace hb := Lib.hid hb
  go_enter Try.func34, Try.ntmps34
  go_upto_region 1 with (fail)
  have hkC := Bk.new' w 36 [.int .i64 ways, .slice (some ⟨g0, o0, none⟩) n c] w.heap.size rfl
  have hbel := Bel.alloc w (.cells [Value.int .i64 ways, .slice (some ⟨g0, o0, none⟩) n c].toArray 36)
  revert hkC hbel
  generalize w.alloc _ = W0
  intro hkC hbel
  replace hbel := Lib.hid hbel
  go_wp2_with (first | (refine wpList_load_bk (by rfl) 36 (.tmp 2) (by rfl) w.heap.size (by rfl) 36 _ _ rfl hkC cTy ?_) | (go_at_call 22; refine (HR.out _ hbel.out).mono ?_; rintro e w1 ⟨rfl, hn1⟩; replace hkC := hkC.bel hn1; replace hbel := Lib.hid (hbel.out.trans hn1); clear hn1) | (go_at_call 68; refine (HL.out _).mono ?_; rintro e w2 ⟨rfl, d2, rfl⟩; replace hkC := hkC.drewN d2; replace hbel := Lib.hid (hbel.out.trans (Bel.drewN _ d2))) | (go_at_call 61; refine (HS.out _).mono ?_; rintro e w3 ⟨rfl, hn3⟩; replace hkC := hkC.bel hn3; replace hbel := Lib.hid (hbel.out.trans hn3); have cc := hkC.cell_of 1 _ rfl; have ccs := hbel.out.cell_of Hcs.out; clear hn3))
  clear cc ccs
  have hset := Lib.hid (hs.bel hbel.out)
  have hlast : Hid (at' ≤ m) := by
    show at' ≤ m
    rcases hb.out with ⟨_, v, hv, _⟩ | ⟨_, h, _⟩
    · have := (List.getElem?_eq_some_iff.1 hv.is).1
      have := hwl.out
      omega
    · omega
  go_loopw [25] (fun i wr => ∃ j : Nat, j ≤ m ∧ i = .int .i64 (j : Int) ∧ (∀ i < j, ∀ u, ws[i]? = some u → u.line ≠ lo) ∧ Bel w3 wr) (fun i _ => m - (intOf i).toNat)
  case atStart => exact ⟨0, by omega, rfl, fun i h => absurd h (by omega), Bel.refl w3⟩
  case round =>
    obtain ⟨j, hj, rfl, hnd, hbi⟩ := hrel
    replace hnd := Lib.hid hnd
    by_cases hjm : j < m
    · obtain ⟨hlj, g, o, rfl, hg, hce⟩ := (hset.out.bel hbi).wyselem hjm
      have hat : ws[j]? = some (ws[j]'hlj) := List.getElem?_eq_getElem hlj
      have hvo := hso.out _ (List.getElem_mem hlj)
      obtain ⟨v, hv⟩ : ∃ v, ws[j]'hlj = v := ⟨_, rfl⟩
      rw [hv] at hce hat hvo
      clear hv
      replace hce := Lib.hid hce
      replace hat := Lib.hid hat
      go_upto_region 8 with (first | (refine wpList_load_elem (by rfl) 49 (.tmp 28) (by rfl) g (o + j * 3) (by rfl) v.cells v.val rfl hce.out wysTy ?_) | (refine wpList_store_bk (by rfl) 49 (.tmp 10) (.tmp 29) (by rfl) wr.heap.size v.cells (by rfl) (by rfl) 49 wysZ ?_ rfl wysTy v.one ?_; exact Bk.new wr _ wysZ; intro w1 hk1 hs1 ho1 hbe1; clear hs1 ho1))
      go_frame
      have hb1 := hbi.trans (hbe1 _ (Bel.alloc _ _) (Nat.le_refl _))
      replace hbe1 := Lib.hid hbe1
      have d0 := hk1.cell_of 0 _ rfl
      by_cases hvl : v.line = lo
      · have hvb : ((v.line : Int) == (lo : Int)) = true := by simp [hvl]
        have hres : j = at' ∧ b = true := by
          rcases hb.out with ⟨rfl, u, hu, hf⟩ | ⟨rfl, _, hno⟩
          · refine ⟨?_, rfl⟩
            rcases Nat.lt_trichotomy j at' with h | h | h
            · exact absurd hvl (hf j h v hat.out)
            · exact h
            · exact absurd hu.line (hnd.out at' h u hu.is)
          · exact absurd hvl (hno v (List.mem_of_getElem? hat.out))
        obtain ⟨rfl, rfl⟩ := hres
        clear hvl
        go_wp2
        go_ret3
        exact ⟨rfl, hbel.out.trans hb1⟩
      · have hvb : ¬ ((v.line : Int) = (lo : Int)) := fun h => hvl (by exact_mod_cast h)
        replace hvl := Lib.hid hvl
        go_wp2
        go_roundw
        case rel =>
          refine ⟨j + 1, by omega, by go_num, fun i hi u hu => ?_, hb1⟩
          rcases Nat.lt_or_ge i j with h | h
          · exact hnd.out i h u hu
          · obtain rfl : i = j := by omega
            have e := hat.out
            rw [hu] at e
            injection e with e
            subst e
            exact hvl.out
        case measure => first | (simp [intOf]; done) | (simp [intOf]; omega)
    · obtain rfl : j = m := by omega
      have hres : b = false ∧ at' = 0 := by
        rcases hb.out with ⟨rfl, u, hu, hf⟩ | ⟨rfl, h, hno⟩
        · exact absurd hu.line (hnd.out at' (by have := (List.getElem?_eq_some_iff.1 hu.is).1; have := hwl.out; omega) u hu.is)
        · exact ⟨rfl, h⟩
      obtain ⟨rfl, rfl⟩ := hres
      go_wp2
      go_ret3
      exact ⟨rfl, hbel.out.trans hbi⟩
end Go.Proofs.Ytcahadkkjfijfaa

/- The document's Get. -/
set_option linter.unusedVariables false
set_option linter.unusedSimpArgs false
set_option maxRecDepth 100000
namespace Go.Proofs.Ytcahadkkjfijfaa
open Go.RowKit Go.Sort

theorem refGet_any (ways : Int) (A : Option Addr) (n c : Nat) (S : List Cs) (x k at' : Nat) (set : List Wy) (v : Wy) (w : World) (hr : RdS w w.heap.size A n c S) (hk : k < n) (hset : (cont S)[k]? = some set) (hv : set[at']? = some v)
    (HF : Hid (∀ W, Bel w W → Calls Try.prog 34 #[.agg #[.int .i64 ways, .slice A n c], .int .u32 (x : Int)] W fun e w' => e = .returned (.tuple #[.int .i64 (k : Int), .int .i64 (at' : Int), .bool true]) ∧ Bel W w')) :
    Calls Try.prog 47 #[.agg #[.int .i64 ways, .slice A n c], .int .u32 (x : Int)] w fun e w' => e = .returned v.val ∧ Bel w w' := by
  obtain ⟨hl, g0, o0, hA, hg0, hcs, hs⟩ := hr.at_ hk
  rw [cont_at hl] at hset
  have hset' : (S[k]'hl).ws = set := by injection hset
  obtain ⟨s, hs'⟩ : ∃ s, S[k]'hl = s := ⟨_, rfl⟩
  rw [hs'] at hcs hs hset'
  obtain ⟨sA, m, sc, ws⟩ := s
  simp only at hcs hs hset'
  subst hset'
  have hat : at' < m := by have := (List.getElem?_eq_some_iff.1 hv).1; have := hs.wyslen; omega
  obtain ⟨hlj, g, o, hB, hg, hce⟩ := hs.wyselem hat
  have hvv : ws[at']'hlj = v := (List.getElem?_eq_some_iff.1 hv).2
  rw [hvv] at hce
  have hki : (k : Int) < (n : Int) := by omega
  have hk0 : (0 : Int) ≤ (k : Int) := by omega
  have hai : (at' : Int) < (m : Int) := by omega
  have ha0 : (0 : Int) ≤ (at' : Int) := by omega
  have hc1 := hr.rd.le
  have hc2 := hr.rd.mx
  have hm1 := hs.le
  have hm2 := hs.mx
  unfold maxLen at hc2 hm2
  replace hcs := Lib.hid hcs
  replace hce := Lib.hid hce
  replace hA := Lib.hid hA
  obtain rfl := hB
  clear hset hs' hv hvv hs
  go_enter Try.func47, Try.ntmps47
  go_upto_region 1 with (fail)
  have hkC := (Bk.new' w 36 [.int .i64 ways, .slice A n c] w.heap.size rfl).alloc (.cells wysZ.toArray 49); have hkR := Bk.new' (w.alloc (.cells [Value.int .i64 ways, .slice A n c].toArray 36)) 49 wysZ (w.heap.size + 1) (by simp); have hbel := (Bel.alloc w (.cells [Value.int .i64 ways, .slice A n c].toArray 36)).trans (Bel.alloc _ (.cells wysZ.toArray 49)); unfold wysZ at hkC hkR hbel; revert hkC hkR hbel; generalize (w.alloc _).alloc _ = W0; intro hkC hkR hbel; replace hbel := Lib.hid hbel; have hRl := hkR.lt
  go_upto_region 2 with (first | (refine wpList_load_bk (by rfl) 36 (.tmp 2) (by rfl) w.heap.size (by rfl) 36 _ _ rfl hkC cTy ?_) | (go_at_call 34; refine (HF.out _ hbel.out).mono ?_; rintro e w1 ⟨rfl, hn1⟩; replace hkC := hkC.bel hn1; replace hkR := hkR.bel hn1; replace hbel := Lib.hid (hbel.out.trans hn1); clear hn1))
  obtain rfl := hA.out
  have c1 := hkC.cell_of 1 _ rfl
  have ccs := hbel.out.cell_of hcs.out
  have hce1 := Lib.hid (fun j u hu => hbel.out.cell_of (hce.out j u hu))
  go_wp2_with (first | (refine wpList_load_elem (by rfl) 49 (.tmp 21) (by rfl) g (o + at' * 3) (by rfl) v.cells v.val rfl hce1.out wysTy ?_) | (refine wpList_store_bk (by rfl) 49 (.tmp 4) (.tmp 22) (by rfl) (w.heap.size + 1) v.cells (by rfl) (by rfl) 49 _ hkR rfl wysTy v.one ?_; intro w3 hk3 hs3 ho3 hbe3))
  exact bodyPost_ret (res_c rfl (by rfl) hk3 wysTy) rfl ⟨rfl, hbe3 w hbel.out (by omega)⟩
end Go.Proofs.Ytcahadkkjfijfaa

/- The cache package: with (a cache with another set of a number). -/
set_option linter.unusedVariables false
set_option linter.unusedSimpArgs false
set_option maxRecDepth 100000
namespace Go.Proofs.Ytcahadkkjfijfaa
open Go.RowKit Go.Sort

theorem setinfo : (Try.prog.info? 62).map (fun i => (i.zero, i.size, i.bytes)) = some (some (.slice none 0 0), 1, 24) := by kernel_rfl
set_option maxHeartbeats 1000000 in
theorem with_any (ways : Int) (A : Option Addr) (n c : Nat) (S : List Cs) (k : Nat) (A2 : Option Addr) (n2 c2 : Nat) (q2 : List Wy) (w : World) (hr : RdS w w.heap.size A n c S) (hn : n ≤ 1000) (hk : k < n) (h2 : Rd w w.heap.size 3 A2 n2 c2 (wys q2)) :
    Calls Try.prog 66 #[.agg #[.int .i64 ways, .slice A n c], .int .i64 (k : Int), .slice A2 n2 c2] w fun e w' => ∃ g, e = .returned (.agg #[.int .i64 ways, .slice (some ⟨g, 0, none⟩) n n]) ∧ RdS w' w'.heap.size (some ⟨g, 0, none⟩) n n (S.set k ⟨A2, n2, c2, q2⟩) ∧ w.heap.size ≤ g ∧ Bel w w' := by
  obtain ⟨i0, hi, hz0, hz1, hz2⟩ := info_parts setinfo
  have hc1 := hr.rd.le
  have hc2 := hr.rd.mx
  unfold maxLen at hc2
  have hki : (k : Int) < (n : Int) := by omega
  go_enter Try.func66, Try.ntmps66
  go_upto_region 1 with (fail)
  have hkC := (Bk.new' w 36 [.int .i64 ways, .slice A n c] w.heap.size rfl).alloc (.cells [Value.int .i64 0, .slice none 0 0].toArray 36)
  have hkR := Bk.new' (w.alloc (.cells [Value.int .i64 ways, .slice A n c].toArray 36)) 36 [.int .i64 0, .slice none 0 0] (w.heap.size + 1) (by simp)
  have hbel := (Bel.alloc w (.cells [Value.int .i64 ways, .slice A n c].toArray 36)).trans (Bel.alloc _ (.cells [Value.int .i64 0, .slice none 0 0].toArray 36))
  revert hkC hkR hbel
  generalize (w.alloc _).alloc _ = W0
  intro hkC hkR hbel
  replace hbel := Lib.hid hbel
  have hC := hkC.lt
  have hRl := hkR.lt
  have c0 := hkC.cell_of 0 _ rfl
  have c1 := hkC.cell_of 1 _ rfl
  go_wp2_with (first | (at_make; refine wpList_make_full _ rfl _ _ 34 (by rfl) W0.heap.size 62 i0 _ 1 Try.underlying34 hi hz0 hz1 _ _ _ _ n (by rfl) (by rfl) (by omega) (by omega) (by rw [hz2]; omega) (by unfold maxLen; omega) (Nat.le_refl _) ?_; intro w1 hown1 hg1; have hbS := Bk.of_own hown1 rfl; have hn1 := (Bel.refl W0).grown hg1 (by simp); replace hkC := hkC.bel hn1; replace hkR := hkR.bel hn1; have c0 := hkC.cell_of 0 _ rfl; have c1 := hkC.cell_of 1 _ rfl; replace hbel := Lib.hid (hbel.out.trans hn1); clear hown1 hg1 hn1) | (refine wpList_copy_rd rfl (.tmp 12) (.tmp 14) 34 (by rfl) 62 Try.underlying34 1 (by kernel_rfl) W0.heap.size 0 n n A c (by rfl) (by rfl) w.heap.size (csv S) (hr.rd.below hbel.out) (csv_one S) 62 _ hbS (by simp [madeCells, Value.cells]) ?_; intro w2 hbS2 hg2; rw [spl_all _ _ (by rw [csv_len, hr.slen]; simp [madeCells, Value.cells])] at hbS2; replace hkC := hkC.grown hg2 (by simp; omega); replace hkR := hkR.grown hg2 (by simp; omega); have c0 := hkC.cell_of 0 _ rfl; have c1 := hkC.cell_of 1 _ rfl; have hf := hbS2.frozen (i := k) (by rw [csv_len, hr.slen]; omega); have hck := hbS2.cell_of k _ (csv_at (by rw [hr.slen]; omega)); replace hbel := Lib.hid (hbel.out.grown hg2 (by intro g hg; injection hg; omega)); clear hg2) | (refine wpList_store_bk (by rfl) 36 (.tmp 6) (.tmp 23) (by rfl) (w.heap.size + 1) [.int .i64 ways, .slice (some ⟨W0.heap.size, 0, none⟩) n n] (by rfl) (by rfl) 36 _ (hkR.far (p := ⟨W0.heap.size, k, none⟩) (by simp; omega) _) rfl cTy (by simp [Value.oneCell']) ?_; intro w3 hk3 hs3 ho3 hbe3; replace hs3 := Lib.hid hs3))
  have hb3 := hbe3 w (hbel.out.setCell (p := ⟨W0.heap.size, k, none⟩) (show w.heap.size ≤ W0.heap.size by omega) _) (by omega)
  have hbS3 := (hbS2.set_ k (Cs.val ⟨A2, n2, c2, q2⟩)).keep (ho3 _ (by omega))
  rw [csv_set] at hbS3
  refine bodyPost_ret (res_c rfl (by rfl) hk3 cTy) rfl ⟨W0.heap.size, rfl, ⟨hbS3.rdAll rfl (by rw [csv_len, List.length_set, hr.slen, Nat.mul_one]) (by unfold maxLen; omega), fun s hs => ?_⟩, by omega, hb3⟩
  rcases List.mem_or_eq_of_mem_set hs with h | h
  · exact ((hr.sets s h).below hb3).more hb3.size
  · subst h
    exact (h2.below hb3).more hb3.size

end Go.Proofs.Ytcahadkkjfijfaa

/- The cache package: Touch. -/
set_option linter.unusedVariables false
set_option linter.unusedSimpArgs false
set_option maxRecDepth 100000
namespace Go.Proofs.Ytcahadkkjfijfaa
open Go.RowKit Go.Sort

/-- a cache that came back: it reads as these sets -/
def CB (w : World) (ways : Int) (v : Value) (C : List (List Wy)) : Prop := ∃ A n c S, v = .agg #[.int .i64 ways, .slice A n c] ∧ RdS w w.heap.size A n c S ∧ cont S = C

theorem keep2 {w : World} {R : Nat} (u v x : Value) {p : Addr} (h : w.cell? p = some x) (hp : p.block ≠ R) : ((w.setCell ⟨R, 0, none⟩ u).setCell ⟨R, 1, none⟩ v).cell? p = some x :=
  (World.cell?_of_block ((Below.heap_setCell _ _ _ p.block hp).trans (Below.heap_setCell _ _ _ p.block hp))).trans h
set_option maxHeartbeats 1000000 in
/-- a line that is not there -/
theorem Touch_same (ways : Int) (A : Option Addr) (n c x k : Nat) (at' : Nat) (w : World)
    (HF : Hid (∀ W, Bel w W → Calls Try.prog 33 #[.agg #[.int .i64 ways, .slice A n c], .int .u32 (x : Int)] W fun e w' => e = .returned (.tuple #[.int .i64 (k : Int), .int .i64 (at' : Int), .bool false]) ∧ Bel W w')) :
    Calls Try.prog 31 #[.agg #[.int .i64 ways, .slice A n c], .int .u32 (x : Int)] w fun e w' => e = .returned (.agg #[.int .i64 ways, .slice A n c]) ∧ Bel w w' := by
  go_enter Try.func31, Try.ntmps31
  go_upto_region 1 with (fail)
  have hkC := (Bk.new' w 36 [.int .i64 ways, .slice A n c] w.heap.size rfl).alloc (.cells [Value.int .i64 0, .slice none 0 0].toArray 36); have hkR := Bk.new' (w.alloc (.cells [Value.int .i64 ways, .slice A n c].toArray 36)) 36 [.int .i64 0, .slice none 0 0] (w.heap.size + 1) (by simp); have hbel := (Bel.alloc w (.cells [Value.int .i64 ways, .slice A n c].toArray 36)).trans (Bel.alloc _ (.cells [Value.int .i64 0, .slice none 0 0].toArray 36)); revert hkC hkR hbel; generalize (w.alloc _).alloc _ = W0; intro hkC hkR hbel; replace hbel := Lib.hid hbel; have hRl := hkR.lt
  go_wp2_with (first | (refine wpList_load_bk (by rfl) 36 (.tmp 2) (by rfl) w.heap.size (by rfl) 36 _ _ rfl hkC cTy ?_) | (go_at_call 33; refine (HF.out _ hbel.out).mono ?_; rintro e w1 ⟨rfl, hn1⟩; replace hkC := hkC.bel hn1; replace hkR := hkR.bel hn1; replace hbel := Lib.hid (hbel.out.trans hn1); clear hn1) | (refine wpList_store_bk (by rfl) 36 (.tmp 4) (.tmp 17) (by rfl) (w.heap.size + 1) [.int .i64 ways, .slice A n c] (by rfl) (by rfl) 36 _ hkR rfl cTy (by simp [Value.oneCell']) ?_; intro w3 hk3 hs3 ho3 hbe3))
  exact bodyPost_ret (res_c rfl (by rfl) hk3 cTy) rfl ⟨rfl, hbe3 w hbel.out (by omega)⟩
set_option maxHeartbeats 1000000 in
theorem Touch_yes (ways : Int) (A : Option Addr) (n c : Nat) (S : List Cs) (x k at' : Nat) (set : List Wy) (v : Wy) (w : World) (hr : RdS w w.heap.size A n c S) (hn : n ≤ 1000) (hk : k < n) (hset : (cont S)[k]? = some set) (hsl : set.length ≤ 1000) (hv : set[at']? = some v)
    (HF : Hid (∀ W, Bel w W → Calls Try.prog 33 #[.agg #[.int .i64 ways, .slice A n c], .int .u32 (x : Int)] W fun e w' => e = .returned (.tuple #[.int .i64 (k : Int), .int .i64 (at' : Int), .bool true]) ∧ Bel W w')) :
    Calls Try.prog 31 #[.agg #[.int .i64 ways, .slice A n c], .int .u32 (x : Int)] w fun e w' => ∃ v', e = .returned v' ∧ CB w' ways v' ((cont S).set k (frontL set at' v)) ∧ Bel w w' := by
  obtain ⟨hl, g0, o0, hA, hg0, hcs, hs⟩ := hr.at_ hk
  rw [cont_at hl] at hset
  have hset' : (S[k]'hl).ws = set := by injection hset
  obtain ⟨s, hs'⟩ : ∃ s, S[k]'hl = s := ⟨_, rfl⟩
  rw [hs'] at hcs hs hset'
  obtain ⟨sA, m, sc, ws⟩ := s
  simp only at hcs hs hset'
  subst hset'
  have hml := hs.wyslen
  have HFr := Lib.hid (fun W (hw : Bel w W) => front_any sA m sc ws at' v W (hs.bel hw) (by omega) hv)
  have HW := Lib.hid (fun A2 c2 W (hw : Bel w W) h2 => with_any ways A n c S k A2 m c2 (frontL ws at' v) W (hr.bel hw) hn hk h2)
  have hki : (k : Int) < (n : Int) := by omega
  have hk0 : (0 : Int) ≤ (k : Int) := by omega
  have hc1 := hr.rd.le
  have hc2 := hr.rd.mx
  unfold maxLen at hc2
  replace hcs := Lib.hid hcs
  clear hset hs' hv hml
  replace hA := Lib.hid hA
  go_enter Try.func31, Try.ntmps31
  go_upto_region 1 with (fail)
  have hkC := (Bk.new' w 36 [.int .i64 ways, .slice A n c] w.heap.size rfl).alloc (.cells [Value.int .i64 0, .slice none 0 0].toArray 36); have hkR := Bk.new' (w.alloc (.cells [Value.int .i64 ways, .slice A n c].toArray 36)) 36 [.int .i64 0, .slice none 0 0] (w.heap.size + 1) (by simp); have hbel := (Bel.alloc w (.cells [Value.int .i64 ways, .slice A n c].toArray 36)).trans (Bel.alloc _ (.cells [Value.int .i64 0, .slice none 0 0].toArray 36)); revert hkC hkR hbel; generalize (w.alloc _).alloc _ = W0; intro hkC hkR hbel; replace hbel := Lib.hid hbel; have hRl := hkR.lt
  go_upto_region 4 with (first | (refine wpList_load_bk (by rfl) 36 (.tmp 2) (by rfl) w.heap.size (by rfl) 36 _ _ rfl hkC cTy ?_) | (go_at_call 33; refine (HF.out _ hbel.out).mono ?_; rintro e w1 ⟨rfl, hn1⟩; replace hkC := hkC.bel hn1; replace hkR := hkR.bel hn1; replace hbel := Lib.hid (hbel.out.trans hn1); clear hn1))
  obtain rfl := hA.out
  have c0 := hkC.cell_of 0 _ rfl
  have c1 := hkC.cell_of 1 _ rfl
  have ccs := hbel.out.cell_of hcs.out
  have hkRd : Bk w1.drew (w.heap.size + 1) 36 _ := hkR
  have hlt1 := hkR.lt
  go_region_held3 (fun w' => w'.cell? ⟨w.heap.size, 0, none⟩ = some (.int .i64 ways) ∧ w'.cell? ⟨w.heap.size, 1, none⟩ = some (.slice (some ⟨g0, o0, none⟩) n c) ∧ w'.cell? ⟨g0, o0 + k, none⟩ = some (.slice sA m sc)) (first | (refine (fun (hq : Bel w1 _) => ⟨hq.cell_of c0, hq.cell_of c1, hq.cell_of ccs⟩) ?_; first | exact (Bel.drew w1).trans hn2 | exact ((Bel.drew w1).trans hn2).trans hn3) | exact ⟨keep2 _ _ _ ((((Bel.drew w1).trans hn2).trans hn3).cell_of c0) (by show w.heap.size ≠ _; omega), keep2 _ _ _ ((((Bel.drew w1).trans hn2).trans hn3).cell_of c1) (by show w.heap.size ≠ _; omega), keep2 _ _ _ ((((Bel.drew w1).trans hn2).trans hn3).cell_of ccs) (by show g0 ≠ _; omega)⟩ | go_keep) (first | (go_at_call 65; refine (HFr.out _ (hbel.out.trans (Bel.drew w1))).mono ?_; rintro e w2 ⟨A2, c2, rfl, hr2, hge2, hn2⟩) | (go_at_call 66; refine (HW.out _ _ _ (hbel.out.trans ((Bel.drew w1).trans hn2)) hr2).mono ?_; rintro e w3 ⟨g, rfl, hr3, hg3, hn3⟩; have k3 := (hkRd.bel hn2).bel hn3; have r03 := k3.cell_of 0 _ rfl; have r13 := k3.cell_of 1 _ rfl; have f03 := k3.frozen (i := 0) (by simp); have f13 := k3.frozen (i := 1) (by simp)))
  have hk5 := (k3.set_ 0 (.int .i64 ways)).set_ 1 (.slice (some ⟨g, 0, none⟩) n n)
  have hb3 := hbel.out.trans (((Bel.drew w1).trans hn2).trans hn3)
  have hb5 := (hb3.setCell (p := ⟨w.heap.size + 1, 0, none⟩) (show w.heap.size ≤ w.heap.size + 1 by omega) (.int .i64 ways)).setCell (p := ⟨w.heap.size + 1, 1, none⟩) (show w.heap.size ≤ w.heap.size + 1 by omega) (.slice (some ⟨g, 0, none⟩) n n)
  have ho5 : ∀ b, b ≠ w.heap.size + 1 → ((w3.setCell ⟨w.heap.size + 1, 0, none⟩ (.int .i64 ways)).setCell ⟨w.heap.size + 1, 1, none⟩ (.slice (some ⟨g, 0, none⟩) n n)).heap[b]? = w3.heap[b]? := fun b hb => (Below.heap_setCell _ _ _ b hb).trans (Below.heap_setCell _ _ _ b hb)
  have hs5 : ((w3.setCell ⟨w.heap.size + 1, 0, none⟩ (.int .i64 ways)).setCell ⟨w.heap.size + 1, 1, none⟩ (.slice (some ⟨g, 0, none⟩) n n)).heap.size = w3.heap.size := by simp [World.setCell]
  have hl1 : w1.drew.heap.size = w1.heap.size := rfl
  have hl2 := hn2.size
  clear r03 r13 f03 f13
  revert hk5 hb5 ho5 hs5
  generalize (w3.setCell _ _).setCell _ _ = w5
  intro hk5 hb5 ho5 hs5
  replace ho5 := Lib.hid ho5
  go_wp2_with (fail)
  refine bodyPost_ret (res_c rfl (by rfl) hk5 cTy) rfl ⟨_, rfl, ⟨some ⟨g, 0, none⟩, n, n, S.set k ⟨A2, m, c2, frontL ws at' v⟩, rfl, ⟨hr3.rd.stay (fun g' o e => ho5.out _ (by injection e with e; injection e with e1 _; omega)) (by omega), fun s hs => ?_⟩, by rw [cont_set]⟩, hb5⟩
  rcases List.mem_or_eq_of_mem_set hs with h | h
  · exact ((hr.sets s h).below hb5).more hb5.size
  · subst h
    exact (hr3.sets _ (by rw [List.mem_iff_getElem]; exact ⟨k, by simp; omega, by simp⟩)).stay (fun g' o e => ho5.out _ (by have := hge2 g' o e; omega)) (by omega)

end Go.Proofs.Ytcahadkkjfijfaa

/- Caches as data that is only read; what a call hands back. -/
set_option linter.unusedVariables false
set_option linter.unusedSimpArgs false
namespace Go.Proofs.Ytcahadkkjfijfaa
open Go.RowKit

instance wysRows : Rows wys Wy.cells 3 := ⟨fun _ => rfl, fun _ => rfl, Wy.one, by decide⟩
instance csvRows : Rows csv (fun s => [.slice s.A s.n s.c]) 1 := ⟨fun q => by simp only [csv]; induction q with
  | nil => rfl
  | cons r q ih => rw [List.map_cons, ih]; rfl, fun _ => rfl, fun r u hu => by obtain rfl := List.mem_singleton.1 hu; rfl, by decide⟩
instance wysOne (q : List Wy) : OneC (wys q) := ⟨wys_one q⟩
instance wyOne (r : Wy) : OneC r.cells := ⟨r.one⟩
instance csvOne (S : List Cs) : OneC (csv S) := ⟨csv_one S⟩
/-- the ways of all sets -/
def elemsD (S : List Cs) : Da where
  ok w := ∀ s ∈ S, (rowD 3 s.A s.n s.c (wys s.ws)).ok w
  bl g := ∃ s ∈ S, inA s.A s.n g
  keep {w w'} hk hs h := fun s hm => (rowD 3 s.A s.n s.c (wys s.ws)).keep (fun g hg => hk g ⟨s, hm, hg⟩) hs (h s hm)
  lt {w} h g hg := by obtain ⟨s, hm, hg⟩ := hg; exact (rowD 3 s.A s.n s.c (wys s.ws)).lt (h s hm) g hg
theorem elemsD_ok {w : World} {S : List Cs} (h : (elemsD S).ok w) {s : Cs} (hs : s ∈ S) : Rd w w.heap.size 3 s.A s.n s.c (wys s.ws) := h s hs
/-- a cache's data -/
def cacheD (A : Option Addr) (n c : Nat) (S : List Cs) : List Da := [rowD 1 A n c (csv S), elemsD S]
theorem rds_of {w : World} {A : Option Addr} {n c : Nat} {S : List Cs} (h1 : (rowD 1 A n c (csv S)).ok w) (h2 : (elemsD S).ok w) : RdS w w.heap.size A n c S := ⟨h1, h2⟩
theorem cacheD_ok {w : World} {A : Option Addr} {n c : Nat} {S : List Cs} (h : RdS w w.heap.size A n c S) : ∀ d ∈ cacheD A n c S, d.ok w := by
  intro d hd
  rcases List.mem_cons.1 hd with rfl | hd
  · exact h.rd
  · rcases List.mem_cons.1 hd with rfl | hd
    · exact h.sets
    · cases hd
theorem csv_el {S : List Cs} {k : Nat} {s : Cs} (h : S[k]? = some s) : (csv S)[k * 1]? = some s.val := by
  rw [Nat.mul_one]; simp [csv, h]
theorem csv_el2 {S : List Cs} {k : Nat} {A : Option Addr} {n c : Nat} {q : List Wy} (h : S[k]? = some ⟨A, n, c, q⟩) : (csv S)[k * 1]? = some (.slice A n c) := csv_el h
theorem wys_el {q : List Wy} {k : Nat} {v : Wy} (h : q[k]? = some v) (j : Nat) (hj : j < 3) : (wys q)[k * 3 + j]? = v.cells[j]? := by
  obtain ⟨hl, e⟩ := List.getElem?_eq_some_iff.1 h
  rw [wys_at hl j hj, e]
theorem wy_f0 {q : List Wy} {k : Nat} {v : Wy} (h : q[k]? = some v) : (wys q)[k * 3 + 0]? = some (.int .u32 (v.line : Int)) := wys_el h 0 (by decide)
theorem wy_f1 {q : List Wy} {k : Nat} {v : Wy} (h : q[k]? = some v) : (wys q)[k * 3 + 1]? = some (.bool v.dirty) := wys_el h 1 (by decide)
theorem wy_f2 {q : List Wy} {k : Nat} {v : Wy} (h : q[k]? = some v) : (wys q)[k * 3 + 2]? = some (.string v.data) := wys_el h 2 (by decide)
theorem wys_sub {q : List Wy} {k : Nat} {v : Wy} (h : q[k]? = some v) : ∀ i u, v.cells[i]? = some u → (wys q)[k * 3 + i]? = some u := by
  intro i u hu
  have hi : i < 3 := (List.getElem?_eq_some_iff.1 hu).1
  rw [wys_el h i hi]; exact hu

section
variable {w0 w w' : World} {D0 D D1 ds : List Da} {M : List Mu}
theorem St.elem (h : St w0 D0 w M D) {S : List Cs} (hS : elemsD S ∈ D) {k : Nat} {s : Cs} (hs : S[k]? = some s) : St w0 D0 w M (rowD 3 s.A s.n s.c (wys s.ws) :: D) :=
  h.part _ ((h.dat _ hS : (elemsD S).ok w) s (List.mem_of_getElem? hs)) fun g hg => ⟨_, hS, s, List.mem_of_getElem? hs, hg⟩
theorem St.elemSet (h : St w0 D0 w M D) {S : List Cs} (hS : elemsD S ∈ D) (k : Nat) {A2 : Option Addr} {n2 c2 : Nat} {q2 : List Wy} (h2 : rowD 3 A2 n2 c2 (wys q2) ∈ D) : St w0 D0 w M (elemsD (S.set k ⟨A2, n2, c2, q2⟩) :: D) :=
  h.part _ (fun s hs => by
    rcases List.mem_or_eq_of_mem_set hs with hs | rfl
    · exact (h.dat _ hS : (elemsD S).ok w) s hs
    · exact h.dat _ h2) fun g hg => by
    obtain ⟨s, hs, hg⟩ := hg
    rcases List.mem_or_eq_of_mem_set hs with hs | rfl
    · exact ⟨_, hS, s, hs, hg⟩
    · exact ⟨_, h2, hg⟩
end
theorem St.rds {w0 w : World} {D0 D : List Da} {M : List Mu} (h : St w0 D0 w M D) {A : Option Addr} {n c : Nat} {S : List Cs} (h1 : rowD 1 A n c (csv S) ∈ D := by ((repeat (first | exact List.Mem.head _ | refine List.Mem.tail _ ?_)) <;> exact List.Mem.head _)) (h2 : elemsD S ∈ D := by ((repeat (first | exact List.Mem.head _ | refine List.Mem.tail _ ?_)) <;> exact List.Mem.head _)) : RdS w w.heap.size A n c S := rds_of (h.dat _ h1) (h.dat _ h2)
theorem St.elemA {w0 w : World} {D0 D : List Da} {M : List Mu} (h : St w0 D0 w M D) {S : List Cs} {k : Nat} {s : Cs} (hs : S[k]? = some s) (hS : elemsD S ∈ D := by ((repeat (first | exact List.Mem.head _ | refine List.Mem.tail _ ?_)) <;> exact List.Mem.head _)) : St w0 D0 w M (rowD 3 s.A s.n s.c (wys s.ws) :: D) := h.elem hS hs
/-- a cache that a call hands back -/
def CRes (w : World) (D0 : List Da) (ways : Int) (v : Value) (w' : World) (C : List (List Wy)) : Prop :=
  ∃ A n c S, v = .agg #[.int .i64 ways, .slice A n c] ∧ Out w D0 w' [rowD 1 A n c (csv S), elemsD S] ∧ cont S = C
end Go.Proofs.Ytcahadkkjfijfaa

/- Records of type api.Put: as Lean records; rows of them as lists; what reads as such a row. -/
set_option linter.unusedVariables false
set_option linter.unusedSimpArgs false
namespace Go.Proofs.Ytcahadkkjfijfaa
open Go.RowKit

/-- api.Put -/
structure Pu where
  addr : Nat
  data : ByteArray
def Pu.cells (r : Pu) : List Value := [.int .u32 (r.addr : Int), .string r.data]
def Pu.val (r : Pu) : Value := .agg #[.int .u32 (r.addr : Int), .string r.data]
def pus (q : List Pu) : List Value := q.flatMap Pu.cells
theorem pus_len (q : List Pu) : (pus q).length = q.length * 2 := by
  induction q with
  | nil => rfl
  | cons r q ih =>
    have : pus (r :: q) = r.cells ++ pus q := rfl
    rw [this, List.length_append, ih, List.length_cons]
    simp [Pu.cells]; omega
theorem pus_at {q : List Pu} {k : Nat} (h : k < q.length) (j : Nat) (hj : j < 2) : (pus q)[k * 2 + j]? = (q[k]'h).cells[j]? := by
  induction q generalizing k with
  | nil => simp at h
  | cons r q ih =>
    have e : pus (r :: q) = r.cells ++ pus q := rfl
    have hl : r.cells.length = 2 := rfl
    cases k with
    | zero => rw [e, List.getElem?_append_left (by rw [hl]; omega)]; simp
    | succ k =>
      rw [e, List.getElem?_append_right (by rw [hl]; omega), hl, show (k + 1) * 2 + j - 2 = k * 2 + j by omega, ih (by simpa using h)]
      simp
theorem pus_one (q : List Pu) : ∀ u ∈ pus q, u.oneCell' = true := by
  intro u hu
  simp only [pus, List.mem_flatMap, Pu.cells, List.mem_cons, List.not_mem_nil, or_false] at hu
  obtain ⟨r, _, h⟩ := hu
  rcases h with h | h <;> subst h <;> rfl
theorem pus_append (p q : List Pu) : pus (p ++ q) = pus p ++ pus q := by simp [pus]
theorem pus_take (q : List Pu) (k : Nat) : (pus q).take (k * 2) = pus (q.take k) := by
  induction q generalizing k with
  | nil => simp [pus]
  | cons r q ih =>
    have e : pus (r :: q) = r.cells ++ pus q := rfl
    have hl : r.cells.length = 2 := rfl
    cases k with
    | zero => simp [pus]
    | succ k =>
      rw [e, List.take_append, hl, show (k + 1) * 2 - 2 = k * 2 by omega, ih, List.take_succ_cons, List.take_of_length_le (by rw [hl]; omega)]
      rfl
theorem pus_drop (q : List Pu) (k : Nat) : (pus q).drop (k * 2) = pus (q.drop k) := by
  induction q generalizing k with
  | nil => simp [pus]
  | cons r q ih =>
    have e : pus (r :: q) = r.cells ++ pus q := rfl
    have hl : r.cells.length = 2 := rfl
    cases k with
    | zero => simp [pus]
    | succ k =>
      rw [e, List.drop_append, hl, show (k + 1) * 2 - 2 = k * 2 by omega, ih, List.drop_succ_cons, List.drop_of_length_le (by rw [hl]; omega)]
      rfl
theorem Rd.puslen {w : World} {B n c : Nat} {A : Option Addr} {q : List Pu} (h : Rd w B 2 A n c (pus q)) : q.length = n := by
  have hn := h.len
  rw [pus_len] at hn
  omega

/-- what an element's cells hold -/
theorem Rd.pusat {w : World} {B n c : Nat} {A : Option Addr} {q : List Pu} (h : Rd w B 2 A n c (pus q)) {k : Nat} (hk : k < n) :
    ∃ (hl : k < q.length) (g o : Nat), A = some ⟨g, o, none⟩ ∧ g < B ∧ w.cell? ⟨g, o + k * 2, none⟩ = some (.int .u32 (q[k].addr : Int)) ∧ w.cell? ⟨g, o + k * 2 + 1, none⟩ = some (.string q[k].data) := by
  have hl : k < q.length := by rw [h.puslen]; exact hk
  obtain ⟨g, o, e, hb, hc⟩ := h.at_ (by omega)
  refine ⟨hl, g, o, e, hb, ?_, ?_⟩
  · simpa using hc (k * 2 + 0) _ (pus_at hl 0 (by omega))
  · simpa [Nat.add_assoc] using hc (k * 2 + 1) _ (pus_at hl 1 (by omega))
/-- the zero value's cells -/
def pusZ : List Value := [.int .u32 0, .string ⟨#[]⟩]
theorem pusTy : RowTy Try.prog 27 2 := ⟨_, Try.underlying27, rfl, by kernel_rfl⟩
theorem Pu.one (r : Pu) : ∀ u ∈ r.cells, u.oneCell' = true := fun u hu => pus_one [r] u (by simpa [pus] using hu)
/-- an element, whole -/
theorem Rd.puselem {w : World} {B n c : Nat} {A : Option Addr} {q : List Pu} (h : Rd w B 2 A n c (pus q)) {k : Nat} (hk : k < n) :
    ∃ (hl : k < q.length) (g o : Nat), A = some ⟨g, o, none⟩ ∧ g < B ∧ ∀ j u, (q[k]'hl).cells[j]? = some u → w.cell? ⟨g, o + k * 2 + j, none⟩ = some u := by
  have hl : k < q.length := by rw [h.puslen]; exact hk
  obtain ⟨g, o, e, hb, hc⟩ := h.at_ (by omega)
  refine ⟨hl, g, o, e, hb, fun j u hu => ?_⟩
  have hj : j < 2 := (List.getElem?_eq_some_iff.1 hu).1
  rw [Nat.add_assoc]
  exact hc _ _ ((pus_at hl j hj).trans hu)

theorem pus_spl (q : List Pu) (k : Nat) (r : Pu) (hk : k < q.length) : spl (pus q) (k * 2) r.cells = pus (q.set k r) := by
  have hl : r.cells.length = 2 := rfl
  rw [spl_eq _ _ _ (by rw [pus_len, hl]; omega), hl, show k * 2 + 2 = (k + 1) * 2 by omega, pus_take, pus_drop, List.set_eq_take_append_cons_drop, if_pos hk, pus_append]
  simp [pus]

end Go.Proofs.Ytcahadkkjfijfaa

/- Rows of requests: as lists; the bus package's functions that read them. -/
set_option linter.unusedVariables false
set_option linter.unusedSimpArgs false
namespace Go.Proofs.Ytcahadkkjfijfaa
open Go.RowKit

/-- a request on the bus -/
structure Rq where
  kind : Int
  line : Nat
  left : Int
  data : ByteArray
def Rq.cells (r : Rq) : List Value := [.int .i64 r.kind, .int .u32 (r.line : Int), .int .i64 r.left, .string r.data]
def Rq.val (r : Rq) : Value := .agg #[.int .i64 r.kind, .int .u32 (r.line : Int), .int .i64 r.left, .string r.data]
def rqs (q : List Rq) : List Value := q.flatMap Rq.cells
theorem rqs_len (q : List Rq) : (rqs q).length = q.length * 4 := by
  induction q with
  | nil => rfl
  | cons r q ih =>
    have : rqs (r :: q) = r.cells ++ rqs q := rfl
    rw [this, List.length_append, ih, List.length_cons]
    simp [Rq.cells]; omega
theorem rqs_at {q : List Rq} {k : Nat} (h : k < q.length) (j : Nat) (hj : j < 4) : (rqs q)[k * 4 + j]? = (q[k]'h).cells[j]? := by
  induction q generalizing k with
  | nil => simp at h
  | cons r q ih =>
    have e : rqs (r :: q) = r.cells ++ rqs q := rfl
    have hl : r.cells.length = 4 := rfl
    cases k with
    | zero => rw [e, List.getElem?_append_left (by rw [hl]; omega)]; simp
    | succ k =>
      rw [e, List.getElem?_append_right (by rw [hl]; omega), hl, show (k + 1) * 4 + j - 4 = k * 4 + j by omega, ih (by simpa using h)]
      simp
theorem rqs_one (q : List Rq) : ∀ u ∈ rqs q, u.oneCell' = true := by
  intro u hu
  simp only [rqs, List.mem_flatMap, Rq.cells, List.mem_cons, List.not_mem_nil, or_false] at hu
  obtain ⟨r, _, h⟩ := hu
  rcases h with h | h | h | h <;> subst h <;> rfl
theorem rqs_append (p q : List Rq) : rqs (p ++ q) = rqs p ++ rqs q := by simp [rqs]
theorem rqs_take (q : List Rq) (k : Nat) : (rqs q).take (k * 4) = rqs (q.take k) := by
  induction q generalizing k with
  | nil => simp [rqs]
  | cons r q ih =>
    have e : rqs (r :: q) = r.cells ++ rqs q := rfl
    have hl : r.cells.length = 4 := rfl
    cases k with
    | zero => simp [rqs]
    | succ k =>
      rw [e, List.take_append, hl, show (k + 1) * 4 - 4 = k * 4 by omega, ih, List.take_succ_cons, List.take_of_length_le (by rw [hl]; omega)]
      rfl
theorem rqs_drop (q : List Rq) (k : Nat) : (rqs q).drop (k * 4) = rqs (q.drop k) := by
  induction q generalizing k with
  | nil => simp [rqs]
  | cons r q ih =>
    have e : rqs (r :: q) = r.cells ++ rqs q := rfl
    have hl : r.cells.length = 4 := rfl
    cases k with
    | zero => simp [rqs]
    | succ k =>
      rw [e, List.drop_append, hl, show (k + 1) * 4 - 4 = k * 4 by omega, ih, List.drop_succ_cons, List.drop_of_length_le (by rw [hl]; omega)]
      rfl

/-- what an element's cells hold -/
theorem Rd.rq {w : World} {B n c : Nat} {A : Option Addr} {q : List Rq} (h : Rd w B 4 A n c (rqs q)) {k : Nat} (hk : k < n) :
    ∃ (hl : k < q.length) (g o : Nat), A = some ⟨g, o, none⟩ ∧ g < B ∧ w.cell? ⟨g, o + k * 4, none⟩ = some (.int .i64 q[k].kind) ∧ w.cell? ⟨g, o + k * 4 + 1, none⟩ = some (.int .u32 (q[k].line : Int)) ∧
      w.cell? ⟨g, o + k * 4 + 2, none⟩ = some (.int .i64 q[k].left) ∧ w.cell? ⟨g, o + k * 4 + 3, none⟩ = some (.string q[k].data) := by
  have hn := h.len
  rw [rqs_len] at hn
  have hl : k < q.length := by omega
  obtain ⟨g, o, e, hb, hc⟩ := h.at_ (by omega)
  refine ⟨hl, g, o, e, hb, ?_, ?_, ?_, ?_⟩
  · simpa using hc (k * 4 + 0) _ (rqs_at hl 0 (by omega))
  · simpa [Nat.add_assoc] using hc (k * 4 + 1) _ (rqs_at hl 1 (by omega))
  · simpa [Nat.add_assoc] using hc (k * 4 + 2) _ (rqs_at hl 2 (by omega))
  · simpa [Nat.add_assoc] using hc (k * 4 + 3) _ (rqs_at hl 3 (by omega))

/-- how many requests do not write -/
def readsL : List Rq → Nat
  | [] => 0
  | r :: q => (if r.kind = 4 then 0 else 1) + readsL q
theorem readsL_snoc (q : List Rq) (r : Rq) : readsL (q ++ [r]) = readsL q + if r.kind = 4 then 0 else 1 := by
  induction q with
  | nil => simp [readsL]
  | cons x q ih => simp only [List.cons_append, readsL, ih]; omega
theorem readsL_le (q : List Rq) : readsL q ≤ q.length := by
  induction q with
  | nil => simp [readsL]
  | cons x q ih => simp only [readsL, List.length_cons]; split <;> omega
theorem readsL_append (p q : List Rq) : readsL (p ++ q) = readsL p + readsL q := by
  induction p with
  | nil => simp [readsL]
  | cons x p ih => simp only [List.cons_append, readsL, ih]; omega

/-- does a request of one of these kinds wait for a line? -/
def hasL (q : List Rq) (line : Nat) (ks : List Int) : Bool := q.any fun r => ks.any fun t => decide (r.line = line ∧ r.kind = t)
def i64s (ks : List Int) : List Value := ks.map (Value.int .i64)
theorem i64s_len (ks : List Int) : (i64s ks).length = ks.length := by simp [i64s]
theorem i64s_at {ks : List Int} {k : Nat} (h : k < ks.length) : (i64s ks)[k]? = some (.int .i64 (ks[k]'h)) := by simp [i64s, h]
theorem any_take_succ {α : Type} (l : List α) (p : α → Bool) {k : Nat} (h : k < l.length) : (l.take (k + 1)).any p = ((l.take k).any p || p (l[k]'h)) := by
  rw [List.take_succ_eq_append_getElem h, List.any_append]; simp
theorem any_of_at {α : Type} {l : List α} {p : α → Bool} {k : Nat} (h : k < l.length) (hp : p (l[k]'h) = true) : l.any p = true := by
  rw [List.any_eq_true]; exact ⟨_, List.getElem_mem h, hp⟩

end Go.Proofs.Ytcahadkkjfijfaa
