/- The document's own: which caches may be. -/
import Derived.Test.YtcahadkkjfijfaaCRight
set_option linter.unusedVariables false
set_option linter.unusedSimpArgs false
set_option maxRecDepth 100000
namespace Go.Proofs.Ytcahadkkjfijfaa
open Go.RowKit Go.Sort

set_option maxHeartbeats 1000000 in
theorem refRight_bad (ways : Int) (A : Option Addr) (n c : Nat) (w : World) (hc : n ≤ c) (hm : c ≤ maxLen) (h : ¬ ((n = 1 ∨ n = 2 ∨ n = 4) ∧ (ways = 1 ∨ ways = 2))) :
    Calls Try.prog 22 #[.agg #[.int .i64 ways, .slice A n c]] w fun e w' => e = .returned (.bool false) ∧ Bel w w' := by
  unfold maxLen at hm
  rcases right_tests n ways with h' | ⟨b1, b2, b3, _⟩ | ⟨hn, b1, b2, _⟩
  · exact absurd h' h
  · clear h
    go_enter Try.func22, Try.ntmps22
    go_wp2
    go_ret
    exact ⟨rfl, Bel.alloc _ _⟩
  · clear h
    rcases hn with rfl | rfl | rfl
    all_goals
      go_enter Try.func22, Try.ntmps22
      go_wp2
      go_ret
      exact ⟨rfl, Bel.alloc _ _⟩

set_option maxHeartbeats 8000000 in
theorem refRight_loop (ways : Int) (A : Option Addr) (n c : Nat) (S : List Cs) (w : World) (hr : RdS w w.heap.size A n c S) (ho : SOk S) (hn : n = 1 ∨ n = 2 ∨ n = 4) (hw : ways = 1 ∨ ways = 2) (b : Bool) (hb : b = true ↔ ∀ k s, (cont S)[k]? = some s → SetOk n ways k s) :
    Calls Try.prog 22 #[.agg #[.int .i64 ways, .slice A n c]] w fun e w' => e = .returned (.bool b) ∧ Bel w w' := by
  have hc1 := hr.rd.le
  have hc2 := hr.rd.mx
  unfold maxLen at hc2
  have Hb := Lib.hid hb
  have Ho := Lib.hid ho
  have Hsl := Lib.hid hr.slen
  clear hb ho
  go_enter Try.func22, Try.ntmps22
  go_upto_region 2 with (fail)
  go_cut [31] (fun s wx => s = .bool false ∧ wx = w.alloc (.cells #[.int .i64 ways, .slice A n c] 36))
  case first =>
    rcases hn with rfl | rfl | rfl <;> rcases hw with rfl | rfl <;> (go_wp2; go_meet; exact ⟨rfl, rfl⟩)
  case rest =>
    obtain ⟨rfl, rfl⟩ := hcut
    have hkC := Bk.new' w 36 [.int .i64 ways, .slice A n c] w.heap.size rfl
    have hbel := Bel.alloc w (.cells [Value.int .i64 ways, .slice A n c].toArray 36)
    revert hkC hbel
    generalize w.alloc _ = W0
    intro hkC hbel
    have cw0 := hkC.cell_of 0 _ rfl
    have cw1 := hkC.cell_of 1 _ rfl
    replace hbel := Lib.hid hbel
    replace hr := hr.bel hbel.out
    go_wp2
    replace hn := Lib.hid hn
    replace hw := Lib.hid hw
    go_loopw [35] (fun i wr => ∃ k : Nat, k ≤ n ∧ i = .int .i64 (k : Int) ∧ (∀ k' < k, ∀ s, (cont S)[k']? = some s → SetOk n ways k' s) ∧ Bel W0 wr) (fun i _ => n - (intOf i).toNat)
    case atStart => exact ⟨0, by omega, rfl, fun k' h => absurd h (by omega), Bel.refl W0⟩
    case round =>
      obtain ⟨k, hk, rfl, hall, hbw⟩ := hrel
      replace hall := Lib.hid hall
      by_cases hkn : k < n
      · obtain ⟨hl, g0, o0, rfl, hg0, hcs, hset⟩ := (hr.bel hbw).at_ hkn
        have hso := Ho.out _ (List.getElem_mem hl)
        have hcont := cont_at hl
        obtain ⟨s, hs⟩ : ∃ s, S[k]'hl = s := ⟨_, rfl⟩
        rw [hs] at hcs hset hso hcont
        clear hs
        obtain ⟨sA, m, sc, ws⟩ := s
        simp only at hcs hset hso hcont
        replace hcont := Lib.hid hcont
        replace hso := Lib.hid hso
        have hm1 := hset.le
        have hm2 := hset.mx
        unfold maxLen at hm2
        have hwl := Lib.hid hset.wyslen
        have cw0' := hbw.cell_of cw0
        have cw1' := hbw.cell_of cw1
        by_cases hlen : (m : Int) ≤ ways
        · have hd : decide (ways < (m : Int)) = false := by simpa using hlen
          obtain ⟨wo, rfl⟩ : ∃ wo : World, wo = wr := ⟨_, rfl⟩
          have hsetW := hset
          replace hset := Lib.hid hset
          replace hlen := Lib.hid hlen
          go_wp2
          go_loopw [47] (fun i wr => ∃ j : Nat, j ≤ m ∧ i = .int .i64 (j : Int) ∧ (∀ i < j, ∀ v, ws[i]? = some v → WayOk n k ws i v) ∧ Bel wo wr) (fun i _ => m - (intOf i).toNat)
          case atStart => exact ⟨0, by omega, rfl, fun i h => absurd h (by omega), Bel.refl wo⟩
          case round =>
            obtain ⟨j, hj, rfl, hin, hbi⟩ := hrel
            replace hin := Lib.hid hin
            by_cases hjm : j < m
            · obtain ⟨hlj, g, o, rfl, hg, hce⟩ := (hset.out.bel hbi).wyselem hjm
              have hat : ws[j]? = some (ws[j]'hlj) := List.getElem?_eq_getElem hlj
              have hvo := hso.out _ (List.getElem_mem hlj)
              obtain ⟨v, hv⟩ : ∃ v, ws[j]'hlj = v := ⟨_, rfl⟩
              rw [hv] at hce hat hvo
              clear hv
              replace hce := Lib.hid hce
              replace hat := Lib.hid hat
              obtain ⟨hv1, hv2⟩ := hvo
              unfold maxLen at hv2
              have hBad : Hid (¬ WayOk n k ws j v → b = false) := by
                show ¬ WayOk n k ws j v → b = false
                intro hno
                cases hbb : b
                · rfl
                · exact absurd ((Hb.out.1 hbb k _ hcont.out).2 j v hat.out) hno
              go_upto_region 12 with (first | (refine wpList_load_elem (by rfl) 49 (.tmp 50) (by rfl) g (o + j * 3) (by rfl) v.cells v.val rfl hce.out wysTy ?_) | (refine wpList_store_bk (by rfl) 49 (.tmp 7) (.tmp 51) (by rfl) wr.heap.size v.cells (by rfl) (by rfl) 49 wysZ ?_ rfl wysTy v.one ?_; exact Bk.new wr _ wysZ; intro w1 hk1 hs1 ho1 hbe1; clear hs1 ho1))
              go_frame
              have hkC1 := ((hkC.bel hbw).bel hbi).bel (hbe1 _ (Bel.alloc _ _) (Nat.le_refl _))
              have hb1 := hbi.trans (hbe1 _ (Bel.alloc _ _) (Nat.le_refl _))
              replace hbe1 := Lib.hid hbe1
              have d0 := hk1.cell_of 0 _ rfl
              have d2 := hk1.cell_of 2 _ rfl
              by_cases h16 : v.line % 16 = 0
              · have h16b : (((v.line : Int) % 16) != 0) = false := by simp; omega
                obtain ⟨t, ht⟩ : ∃ t, v.line / 16 % n = t := ⟨_, rfl⟩
                have hSO := Lib.hid (fun W => refSetOf_any ways (some ⟨g0, o0, none⟩) n c v.line W hn.out hv1)
                rw [ht] at hSO
                by_cases hkk : t = k
                · have hkb : ((t : Int) != (k : Int)) = false := by simp [hkk]
                  replace ht := Lib.hid (ht.trans hkk)
                  clear hkk
                  by_cases hsz : v.data.size = 0 ∨ v.data.size = 16
                  · have hsp : (((v.data.size : Int) != 0) = false) ∨ (((v.data.size : Int) != 0) = true ∧ ((v.data.size : Int) != 16) = false) := by
                      rcases hsz with h | h
                      · exact .inl (by rw [h]; rfl)
                      · exact .inr ⟨by rw [h]; rfl, by rw [h]; rfl⟩
                    replace hsz := Lib.hid hsz
                    replace h16 := Lib.hid h16
                    go_cut [75] (fun s wx => s = .bool false ∧ Bel w1 wx)
                    case first =>
                      rcases hsp with z1 | ⟨z1, z2⟩
                      · go_wp2_with (first | (refine wpList_load_bk (by rfl) 36 (.tmp 1) (by rfl) w.heap.size (by rfl) 36 _ _ rfl hkC1 cTy ?_) | (go_at_call 61; refine (hSO.out _).mono ?_; rintro e w3 ⟨rfl, hn3⟩; have e2' := (hk1.bel hn3).cell_of 2 _ rfl))
                        go_meet
                        exact ⟨rfl, hn3⟩
                      · go_wp2_with (first | (refine wpList_load_bk (by rfl) 36 (.tmp 1) (by rfl) w.heap.size (by rfl) 36 _ _ rfl hkC1 cTy ?_) | (go_at_call 61; refine (hSO.out _).mono ?_; rintro e w3 ⟨rfl, hn3⟩; have e2' := (hk1.bel hn3).cell_of 2 _ rfl))
                        go_meet
                        exact ⟨rfl, hn3⟩
                    case rest =>
                      obtain ⟨rfl, hn3⟩ := hcut
                      obtain ⟨W3, rfl⟩ : ∃ W3 : World, W3 = wc := ⟨_, rfl⟩
                      clear hsp d0 d2
                      have hk3 := hk1.bel hn3
                      have hb3 := hb1.trans hn3
                      have e0 := hk3.cell_of 0 _ rfl
                      replace hn3 := Lib.hid hn3
                      have hset3 := hset.out.bel hb3
                      go_wp2
                      go_loopw [8] (fun i wx => ∃ l : Nat, l ≤ j ∧ i = .int .i64 (l : Int) ∧ (∀ i' < l, ∀ u, ws[i']? = some u → u.line ≠ v.line) ∧ ∃ d, wx = W3.drewN d) (fun i _ => j - (intOf i).toNat)
                      case atStart => exact ⟨0, by omega, rfl, fun i h => absurd h (by omega), 0, rfl⟩
                      case round =>
                        obtain ⟨l, hlj2, rfl, hnd, d, rfl⟩ := hrel
                        replace hnd := Lib.hid hnd
                        by_cases hlt : l < j
                        · obtain ⟨hll, g', o', eA, hg', x0, x1, x2⟩ := hset3.wysat (k := l) (by omega)
                          injection eA with eA
                          injection eA with eA1 eA2
                          subst eA1 eA2
                          have hl1 : (l : Int) < (m : Int) := by omega
                          have hl0 : (0 : Int) ≤ (l : Int) := by omega
                          have hlat := List.getElem?_eq_getElem hll
                          obtain ⟨u, hu⟩ : ∃ u, ws[l]'hll = u := ⟨_, rfl⟩
                          rw [hu] at x0 x1 x2 hlat
                          clear hu
                          replace hlat := Lib.hid hlat
                          by_cases hul : u.line = v.line
                          · have hub : ((u.line : Int) == (v.line : Int)) = true := by simp [hul]
                            have Hno := Lib.hid (hBad.out fun hw => hw.2.2.2 l hlt u hlat.out hul)
                            clear hul
                            go_wp2
                            go_quiet (fail)
                            go_wp2
                            go_ret
                            exact ⟨val_bool (by rw [Hno.out]), hbel.out.trans (hbw.trans (hb3.trans ((Bel.drewN _ _).trans (Bel.drewN _ _))))⟩
                          · have hub : ((u.line : Int) == (v.line : Int)) = false := by rw [beq_eq_false_iff_ne]; omega
                            replace hul := Lib.hid hul
                            go_wp2
                            go_quiet (fail)
                            go_wp2
                            go_roundw
                            case rel =>
                              refine ⟨l + 1, by omega, by go_num, fun i' hi' u' hu' => ?_, d + nq, rfl⟩
                              rcases Nat.lt_or_ge i' l with h | h
                              · exact hnd.out i' h u' hu'
                              · obtain rfl : i' = l := by omega
                                have e := hlat.out
                                rw [hu'] at e
                                injection e with e
                                subst e
                                exact hul.out
                            case measure => first | (simp [intOf]; done) | (simp [intOf]; omega)
                        · obtain rfl : l = j := by omega
                          go_wp2
                          go_roundw
                          case rel =>
                            refine ⟨l + 1, by omega, by go_num, fun i' hi' v' hv' => ?_, hb3.trans (Bel.drewN _ _)⟩
                            rcases Nat.lt_or_ge i' l with h | h
                            · exact hin.out i' h v' hv'
                            · obtain rfl : i' = l := by omega
                              have e := hat.out
                              rw [hv'] at e
                              injection e with e
                              subst e
                              exact ⟨h16.out, ht.out, hsz.out, fun q hq u hu => hnd.out q hq u hu⟩
                          case measure => first | (simp [intOf]; done) | (simp [intOf]; omega)
                  · have z1 : ((v.data.size : Int) != 0) = true := by rw [bne_iff_ne]; omega
                    have z2 : ((v.data.size : Int) != 16) = true := by rw [bne_iff_ne]; omega
                    have Hno := Lib.hid (hBad.out fun hw => hsz hw.2.2.1)
                    clear hsz h16
                    go_wp2_with (first | (refine wpList_load_bk (by rfl) 36 (.tmp 1) (by rfl) w.heap.size (by rfl) 36 _ _ rfl hkC1 cTy ?_) | (go_at_call 61; refine (hSO.out _).mono ?_; rintro e w3 ⟨rfl, hn3⟩; have e2' := (hk1.bel hn3).cell_of 2 _ rfl))
                    go_ret
                    exact ⟨val_bool (by rw [Hno.out]), hbel.out.trans (hbw.trans (hb1.trans hn3))⟩
                · have hkb : ¬ ((t : Int) = (k : Int)) := fun h => hkk (by exact_mod_cast h)
                  have Hno := Lib.hid (hBad.out fun hw => hkk (ht.symm.trans hw.2.1))
                  clear hkk ht h16
                  go_wp2_with (first | (refine wpList_load_bk (by rfl) 36 (.tmp 1) (by rfl) w.heap.size (by rfl) 36 _ _ rfl hkC1 cTy ?_) | (go_at_call 61; refine (hSO.out _).mono ?_; rintro e w3 ⟨rfl, hn3⟩; have e2' := (hk1.bel hn3).cell_of 2 _ rfl))
                  go_ret
                  exact ⟨val_bool (by rw [Hno.out]), hbel.out.trans (hbw.trans (hb1.trans hn3))⟩
              · have h16b : (((v.line : Int) % 16) != 0) = true := by rw [bne_iff_ne]; omega
                have Hno := Lib.hid (hBad.out fun hw => h16 hw.1)
                clear h16
                go_wp2
                go_ret
                exact ⟨val_bool (by rw [Hno.out]), hbel.out.trans (hbw.trans hb1)⟩
            · obtain rfl : j = m := by omega
              go_wp2
              go_roundw
              case rel =>
                refine ⟨k + 1, by omega, by go_num, fun k' hk' s hs' => ?_, hbw.trans hbi⟩
                rcases Nat.lt_or_ge k' k with h | h
                · exact hall.out k' h s hs'
                · obtain rfl : k' = k := by omega
                  have e := hcont.out
                  rw [hs'] at e
                  injection e with e
                  subst e
                  exact ⟨by rw [hwl.out]; exact hlen.out, fun i v hv => hin.out i (by have := (List.getElem?_eq_some_iff.1 hv).1; have := hwl.out; omega) v hv⟩
              case measure => first | (simp [intOf]; done) | (simp [intOf]; omega)
        · have hd : decide (ways < (m : Int)) = true := by simpa using hlen
          have Hno : Hid (b = false) := by
            show b = false
            cases hbb : b
            · rfl
            · exact absurd ((Hb.out.1 hbb k _ hcont.out).1) (by rw [hwl.out]; exact hlen)
          clear hlen
          go_wp2
          go_ret
          exact ⟨val_bool (by rw [Hno.out]), hbel.out.trans hbw⟩
      · obtain rfl : k = n := by omega
        have Hyes : Hid (b = true) := Lib.hid (Hb.out.2 fun k' s hk' => hall.out k' (by have := (List.getElem?_eq_some_iff.1 hk').1; rw [cont_len] at this; have := Hsl.out; omega) s hk')
        go_wp2
        go_ret
        exact ⟨val_bool (by rw [Hyes.out]), hbel.out.trans hbw⟩

theorem refRight_any (ways : Int) (A : Option Addr) (n c : Nat) (S : List Cs) (w : World) (hr : RdS w w.heap.size A n c S) (ho : SOk S) (b : Bool) (hb : b = true ↔ RightP ways (cont S)) :
    Calls Try.prog 22 #[.agg #[.int .i64 ways, .slice A n c]] w fun e w' => e = .returned (.bool b) ∧ Bel w w' := by
  have hl : (cont S).length = n := by rw [cont_len, hr.slen]
  by_cases h : (n = 1 ∨ n = 2 ∨ n = 4) ∧ (ways = 1 ∨ ways = 2)
  · refine refRight_loop ways A n c S w hr ho h.1 h.2 b ⟨fun e => ?_, fun e => ?_⟩
    · have := (hb.1 e).hs
      rwa [hl] at this
    · exact hb.2 ⟨by rw [hl]; exact h.1, h.2, by rw [hl]; exact e⟩
  · obtain rfl : b = false := by
      cases hbb : b
      · rfl
      · have := hb.1 hbb
        exact absurd ⟨by have := this.hn; rwa [hl] at this, this.hw⟩ h
    exact refRight_bad ways A n c w hr.rd.le hr.rd.mx h

end Go.Proofs.Ytcahadkkjfijfaa
