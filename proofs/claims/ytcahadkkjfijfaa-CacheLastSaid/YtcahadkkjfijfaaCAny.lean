/- Find, Touch, Put of a cache, of the program and of the document: one statement each, over all cases. -/
import Derived.Test.YtcahadkkjfijfaaCPut
import Derived.Test.YtcahadkkjfijfaaCPut2
import Derived.Test.YtcahadkkjfijfaaCPut3
import Derived.Test.YtcahadkkjfijfaaCPut4
import Derived.Test.YtcahadkkjfijfaaCPutR
import Derived.Test.YtcahadkkjfijfaaCPutR2
import Derived.Test.YtcahadkkjfijfaaCPutR3
import Derived.Test.YtcahadkkjfijfaaCFew
import Derived.Test.YtcahadkkjfijfaaCLike2
import Derived.Test.YtcahadkkjfijfaaCTouchR
set_option linter.unusedVariables false
set_option linter.unusedSimpArgs false
set_option maxRecDepth 100000
namespace Go.Proofs.Ytcahadkkjfijfaa
open Go.RowKit Go.Sort

def COk (C : List (List Wy)) : Prop := ∀ ws ∈ C, ∀ v ∈ ws, v.line < 4294967296 ∧ v.data.size ≤ maxLen
theorem COk.of {S : List Cs} (h : SOk S) : COk (cont S) := fun ws hw v hv => by
  obtain ⟨s, hs, rfl⟩ := List.mem_map.1 hw
  exact h s hs v hv
theorem COk.sok {S : List Cs} (h : COk (cont S)) : SOk S := fun s hs v hv => h s.ws (List.mem_map.2 ⟨s, hs, rfl⟩) v hv
theorem COk.set {C : List (List Wy)} (h : COk C) (k : Nat) {ws : List Wy} (hw : ∀ v ∈ ws, v.line < 4294967296 ∧ v.data.size ≤ maxLen) : COk (C.set k ws) := fun us hu v hv => by
  rcases List.mem_or_eq_of_mem_set hu with hu | rfl
  · exact h us hu v hv
  · exact hw v hv
theorem COk.at_ {C : List (List Wy)} (h : COk C) {k : Nat} {ws : List Wy} (hw : C[k]? = some ws) : ∀ v ∈ ws, v.line < 4294967296 ∧ v.data.size ≤ maxLen := h ws (List.mem_of_getElem? hw)
theorem COk.few {C : List (List Wy)} (h : COk C) : COk (fewC C) := fun us hu v hv => by
  obtain ⟨ws, hw, rfl⟩ := List.mem_map.1 hu
  exact h ws (List.mem_of_mem_take hw) v (List.mem_of_mem_take hv)

/-- where a line stands in a set -/
def Spot (ws : List Wy) (l i : Nat) (b : Bool) : Prop :=
  (b = true ∧ ∃ v, At ws l i v ∧ ∀ j < i, ∀ u, ws[j]? = some u → u.line ≠ l) ∨ (b = false ∧ i = 0 ∧ NotIn ws l)
theorem spot_ex (ws : List Wy) (l : Nat) : ∃ i b, Spot ws l i b := by
  rcases first_at ws l with h | ⟨i, v, h1, h2⟩
  · exact ⟨0, false, .inr ⟨rfl, rfl, h⟩⟩
  · exact ⟨i, true, .inl ⟨rfl, v, h1, h2⟩⟩
/-- what Find says of a cache -/
inductive FindR (ways : Int) (C : List (List Wy)) (x k i : Nat) (b : Bool) : Prop
  | no (h : ¬ RightP ways C) (hk : k = 0) (hi : i = 0) (hb : b = false)
  | yes (h : RightP ways C) (hk : x / 16 % C.length = k) (ws : List Wy) (hw : C[k]? = some ws) (hs : Spot ws (x - x % 16) i b)
theorem RightP.set_at {ways : Int} {C : List (List Wy)} (h : RightP ways C) (x : Nat) : ∃ ws, C[x / 16 % C.length]? = some ws :=
  ⟨_, List.getElem?_eq_getElem (Nat.mod_lt _ (by rcases h.hn with h | h | h <;> omega))⟩
theorem find_ex (ways : Int) (C : List (List Wy)) (x : Nat) : ∃ k i b, FindR ways C x k i b := by
  by_cases h : RightP ways C
  · obtain ⟨ws, hw⟩ := h.set_at x
    obtain ⟨i, b, hs⟩ := spot_ex ws (x - x % 16)
    exact ⟨_, i, b, .yes h rfl ws hw hs⟩
  · exact ⟨0, 0, false, .no h rfl rfl rfl⟩
theorem FindR.line {ways : Int} {C : List (List Wy)} {x k i : Nat} {b : Bool} (h : FindR ways C x k i b) : FindR ways C (x - x % 16) k i b := by
  cases h with
  | no h hk hi hb => exact .no h hk hi hb
  | yes h hk ws hw hs => exact .yes h (by rw [← hk]; congr 1; omega) ws hw (by rwa [show x - x % 16 - (x - x % 16) % 16 = x - x % 16 by omega])
/-- a line that is there: its set and its way -/
theorem FindR.at_ {ways : Int} {C : List (List Wy)} {x k i : Nat} (h : FindR ways C x k i true) : RightP ways C ∧ x / 16 % C.length = k ∧ ∃ ws v, C[k]? = some ws ∧ ws[i]? = some v ∧ v.line = x - x % 16 ∧ (ws.length : Int) ≤ ways := by
  cases h with
  | no h hk hi hb => cases hb
  | yes h hk ws hw hs =>
    rcases hs with ⟨_, v, ha, _⟩ | ⟨hb, _⟩
    · exact ⟨h, hk, ws, v, hw, ha.is, ha.line, (h.hs k ws hw).1⟩
    · cases hb
theorem FindR.lone {ways : Int} {C : List (List Wy)} {x k i : Nat} (h : FindR ways C x k i true) {ws : List Wy} (hw : C[k]? = some ws) : Lone ws := (h.at_.1.hs k ws hw).lone

/-- what Touch makes of a cache -/
inductive TouchR (ways : Int) (C : List (List Wy)) (x : Nat) (C' : List (List Wy)) : Prop
  | no (k i : Nat) (h : FindR ways C x k i false) (he : C' = C)
  | yes (k i : Nat) (h : FindR ways C x k i true) (ws : List Wy) (v : Wy) (hw : C[k]? = some ws) (hv : ws[i]? = some v) (he : C' = C.set k (frontL ws i v))
theorem touch_ex (ways : Int) (C : List (List Wy)) (x : Nat) : ∃ C', TouchR ways C x C' := by
  obtain ⟨k, i, b, h⟩ := find_ex ways C x
  cases b
  · exact ⟨_, .no k i h rfl⟩
  · obtain ⟨_, _, ws, v, hw, hv, _⟩ := h.at_
    exact ⟨_, .yes k i h ws v hw hv rfl⟩
/-- what Put makes of a cache, and what had to go -/
inductive PutR (ways : Int) (C : List (List Wy)) (x : Nat) (data : ByteArray) (dirty : Bool) (C' : List (List Wy)) (gone : Wy) (went : Bool) : Prop
  | no (h : ¬ RightP ways C) (he : C' = C) (hg : gone = ⟨0, false, ⟨#[]⟩⟩) (hb : went = false)
  | hit (k i : Nat) (h : FindR ways C x k i true) (ws : List Wy) (v : Wy) (hw : C[k]? = some ws) (hv : ws[i]? = some v)
      (he : C' = C.set k (frontL ws i ⟨v.line, v.dirty || dirty, if data.size = 16 then data else v.data⟩)) (hg : gone = ⟨0, false, ⟨#[]⟩⟩) (hb : went = false)
  | room (k i : Nat) (hR : RightP ways C) (h : FindR ways C x k i false) (ws : List Wy) (hw : C[k]? = some ws) (hl : (ws.length : Int) < ways)
      (he : C' = C.set k (⟨x - x % 16, dirty, trimD data⟩ :: ws)) (hg : gone = ⟨0, false, ⟨#[]⟩⟩) (hb : went = false)
  | full (k i : Nat) (hR : RightP ways C) (h : FindR ways C x k i false) (ws : List Wy) (hw : C[k]? = some ws) (hl : (ws.length : Int) = ways) (l : Nat) (hl1 : ws.length = l + 1) (hgv : ws[l]? = some gone)
      (he : C' = C.set k (⟨x - x % 16, dirty, trimD data⟩ :: ws.take l)) (hb : went = true)
theorem FindR.set_ {ways : Int} {C : List (List Wy)} {x k i : Nat} {b : Bool} (h : FindR ways C x k i b) (hR : RightP ways C) : x / 16 % C.length = k ∧ ∃ ws, C[k]? = some ws ∧ (ws.length : Int) ≤ ways ∧ Spot ws (x - x % 16) i b := by
  cases h with
  | no h hk hi hb => exact absurd hR h
  | yes h hk ws hw hs => exact ⟨hk, ws, hw, (h.hs k ws hw).1, hs⟩
theorem put_ex (ways : Int) (C : List (List Wy)) (x : Nat) (data : ByteArray) (dirty : Bool) : ∃ C' gone went, PutR ways C x data dirty C' gone went := by
  by_cases hR : RightP ways C
  · obtain ⟨k, i, b, h⟩ := find_ex ways C x
    cases b
    · obtain ⟨hk, ws, hw, hl, _⟩ := h.set_ hR
      by_cases hf : (ws.length : Int) < ways
      · exact ⟨_, _, _, .room k i hR h ws hw hf rfl rfl rfl⟩
      · have hw' := hR.hw
        obtain ⟨l, hl1⟩ : ∃ l, ws.length = l + 1 := ⟨ws.length - 1, by omega⟩
        exact ⟨_, _, _, .full k i hR h ws hw (by omega) l hl1 (List.getElem?_eq_getElem (by omega)) rfl rfl⟩
    · obtain ⟨_, _, ws, v, hw, hv, _⟩ := h.at_
      exact ⟨_, _, _, .hit k i h ws v hw hv rfl rfl rfl⟩
  · exact ⟨_, _, _, .no hR rfl rfl rfl⟩

section
variable {ways : Int} {A : Option Addr} {n c x : Nat} {S : List Cs}
theorem CRes.same {w w' : World} {D0 : List Da} {A : Option Addr} {n c : Nat} {S : List Cs} (hr : RdS w w.heap.size A n c S) (hb : Bel w w') (h1 : rowD 1 A n c (csv S) ∈ D0) (h2 : elemsD S ∈ D0) : CRes w D0 ways (.agg #[.int .i64 ways, .slice A n c]) w' (cont S) :=
  ⟨A, n, c, S, rfl, ⟨hb, cacheD_ok (hr.bel hb), fun d hd => by
    rcases List.mem_cons.1 hd with rfl | hd
    · exact From.self h1
    · obtain rfl := List.mem_singleton.1 hd
      exact From.self h2⟩, rfl⟩
theorem CRes.sameC {w w' : World} {A : Option Addr} {n c : Nat} {S : List Cs} (hr : RdS w w.heap.size A n c S) (hb : Bel w w') : CRes w (cacheD A n c S) ways (.agg #[.int .i64 ways, .slice A n c]) w' (cont S) :=
  CRes.same hr hb (List.Mem.head _) (List.Mem.tail _ (List.Mem.head _))
theorem clen {W : World} (h : RdS W W.heap.size A n c S) : (cont S).length = n := by rw [cont_len]; exact h.slen
theorem Find_all (hx : x < 4294967296) (ho : SOk S) {k i : Nat} {b : Bool} (h : FindR ways (cont S) x k i b) : FindC 33 ways A n c x S k i b := fun W hr => by
  cases h with
  | no h hk hi hb => subst hk hi hb; exact Find_no ways A n c S x W hr ho h
  | yes h hk ws hw hs => rw [clen hr] at hk; exact Find_any ways A n c S x W hr ho hx h k hk ws hw i b hs
theorem refFind_all (hx : x < 4294967296) (ho : SOk S) {k i : Nat} {b : Bool} (h : FindR ways (cont S) x k i b) : FindC 34 ways A n c x S k i b := fun W hr => by
  cases h with
  | no h hk hi hb => subst hk hi hb; exact refFind_no ways A n c S x W hr ho h
  | yes h hk ws hw hs => rw [clen hr] at hk; exact refFind_any ways A n c S x W hr ho hx h k hk ws hw i b hs
theorem Right_all (ho : SOk S) {b : Bool} (hb : b = true ↔ RightP ways (cont S)) : RightC 35 ways A n c S b := fun W hr => Right_any ways A n c S W hr ho b hb
theorem refRight_all (ho : SOk S) {b : Bool} (hb : b = true ↔ RightP ways (cont S)) : RightC 22 ways A n c S b := fun W hr => refRight_any ways A n c S W hr ho b hb
theorem yesR {p : Prop} (h : p) : true = true ↔ p := ⟨fun _ => h, fun _ => rfl⟩
theorem noR {p : Prop} (h : ¬ p) : false = true ↔ p := ⟨fun e => (by cases e), fun e => absurd e h⟩
theorem Get_all (hx : x < 4294967296) (ho : SOk S) {k i : Nat} (h : FindR ways (cont S) x k i true) {ws : List Wy} {v : Wy} (hw : (cont S)[k]? = some ws) (hv : ws[i]? = some v) : GetC ways A n c x S v := fun W hr =>
  refGet_any ways A n c S x k i ws v W hr (by have := (List.getElem?_eq_some_iff.1 hw).1; rwa [clen hr] at this) hw hv (Lib.hid fun W' hb => refFind_all hx ho h W' (hr.bel hb))
theorem First_all (hR : RightP ways (cont S)) {v : Wy} {k : Nat} {ws : List Wy} (hl : v.line < 4294967296) (hk : v.line / 16 % (cont S).length = k) (hw : (cont S)[k]? = some ws) (hws : ws.length ≤ 1000) : FirstC ways A n c S v ((cont S).set k (firstL ws v)) := fun W hr =>
  refFirst_st ways A n c S v k ws W hr (by have := hR.hn; rwa [clen hr] at this) hl (by rwa [clen hr] at hk) hw hws
theorem ways_le {ways : Int} {C : List (List Wy)} (h : RightP ways C) {ws : List Wy} (hl : (ws.length : Int) ≤ ways) : ws.length ≤ 2 := by have := h.hw; omega
theorem n_le {W : World} (hr : RdS W W.heap.size A n c S) (h : RightP ways (cont S)) : n ≤ 1000 := by have := h.hn; rw [clen hr] at this; omega
theorem k_lt {W : World} (hr : RdS W W.heap.size A n c S) {k : Nat} {ws : List Wy} (hw : (cont S)[k]? = some ws) : k < n := by have := (List.getElem?_eq_some_iff.1 hw).1; rwa [clen hr] at this

theorem Touch_all {C' : List (List Wy)} (hx : x < 4294967296) (ho : SOk S) (h : TouchR ways (cont S) x C') (w : World) (hr : RdS w w.heap.size A n c S) :
    Calls Try.prog 31 #[.agg #[.int .i64 ways, .slice A n c], .int .u32 (x : Int)] w fun e w' => ∃ y, e = .returned y ∧ CRes w (cacheD A n c S) ways y w' C' := by
  cases h with
  | no k i h he =>
    subst he
    refine (Touch_no ways A n c x S k i w hr (Lib.hid (Find_all hx ho h))).mono ?_
    rintro e w' ⟨rfl, hb⟩
    exact ⟨_, rfl, CRes.sameC hr hb⟩
  | yes k i h ws v hw hv he =>
    subst he
    obtain ⟨hR, _, ws', v', hw', _, _, hl⟩ := h.at_
    rw [hw] at hw'; injection hw' with hw'; subst hw'
    exact Touch_st ways A n c x S k i ws v w hr (n_le hr hR) (k_lt hr hw) hw (by have := ways_le hR hl; omega) hv (Lib.hid (Find_all hx ho h))
theorem refTouch_all {C' : List (List Wy)} (hx : x < 4294967296) (ho : SOk S) (h : TouchR ways (cont S) x C') (w : World) (hr : RdS w w.heap.size A n c S) :
    Calls Try.prog 32 #[.agg #[.int .i64 ways, .slice A n c], .int .u32 (x : Int)] w fun e w' => ∃ y, e = .returned y ∧ CRes w (cacheD A n c S) ways y w' C' := by
  cases h with
  | no k i h he =>
    subst he
    refine (refTouch_same ways A n c x S k i w hr (Lib.hid (refFind_all hx ho h))).mono ?_
    rintro e w' ⟨rfl, hb⟩
    exact ⟨_, rfl, CRes.sameC hr hb⟩
  | yes k i h ws v hw hv he =>
    subst he
    obtain ⟨hR, hk, ws', v', hw', hv', hvl, hl⟩ := h.at_
    rw [hw] at hw'; injection hw' with hw'; subst hw'
    rw [hv] at hv'; injection hv' with hv'; subst hv'
    rw [← firstL_lone (h.lone hw) ⟨hv, hvl⟩ hvl]
    exact refTouch_yes ways A n c x S k i v _ w hr (Lib.hid (refFind_all hx ho h)) (Lib.hid (Get_all hx ho h hw hv))
      (Lib.hid (First_all hR (by omega) (by rw [hvl, ← hk]; congr 1; omega) hw (by have := ways_le hR hl; omega)))
theorem Put_all {data : ByteArray} {dirty : Bool} {C' : List (List Wy)} {gone : Wy} {went : Bool} (hx : x < 4294967296) (ho : SOk S) (h : PutR ways (cont S) x data dirty C' gone went) (w : World) (hr : RdS w w.heap.size A n c S) :
    Calls Try.prog 28 #[.agg #[.int .i64 ways, .slice A n c], .int .u32 (x : Int), .string data, .bool dirty] w fun e w' => ∃ y, e = .returned (.tuple #[y, gone.val, .bool went]) ∧ CRes w (cacheD A n c S) ways y w' C' := by
  cases h with
  | no h he hg hb =>
    subst he hg hb
    refine (Put_no ways A n c x data dirty S w hr (Lib.hid (Right_all ho (noR h)))).mono ?_
    rintro e w' ⟨rfl, hb⟩
    exact ⟨_, rfl, CRes.sameC hr hb⟩
  | hit k i h ws v hw hv he hg hb =>
    subst he hg hb
    obtain ⟨hR, hk, ws', v', hw', hv', hvl, hl⟩ := h.at_
    rw [hw] at hw'; injection hw' with hw'; subst hw'
    exact Put_hit ways A n c x data dirty S k i ws v w hr (n_le hr hR) (k_lt hr hw) hw (by have := ways_le hR hl; omega) hv (Lib.hid (Right_all ho (yesR hR))) (Lib.hid (Find_all hx ho h))
  | room k i hR h ws hw hl he hg hb =>
    subst he hg hb
    exact Put_room ways A n c x data dirty S k i ws w hr hx (n_le hr hR) (k_lt hr hw) hw (by have := ways_le hR (by omega : (ws.length : Int) ≤ ways); omega) (by omega) (Lib.hid (Right_all ho (yesR hR))) (Lib.hid (Find_all hx ho h))
  | full k i hR h ws hw hl l hl1 hgv he hb =>
    subst he hb
    exact Put_full ways A n c x data dirty S k i ws w hr hx (n_le hr hR) (k_lt hr hw) hw (by have := ways_le hR (by omega : (ws.length : Int) ≤ ways); omega) hl l hl1 gone hgv (Lib.hid (Right_all ho (yesR hR))) (Lib.hid (Find_all hx ho h))
theorem notIn_take {ws : List Wy} {l k : Nat} (h : NotIn ws l) : NotIn (ws.take k) l := fun v hv => h v (List.mem_of_mem_take hv)
theorem refPut_all {data : ByteArray} {dirty : Bool} {C' : List (List Wy)} {gone : Wy} {went : Bool} (hx : x < 4294967296) (ho : SOk S) (h : PutR ways (cont S) x data dirty C' gone went) (w : World) (hr : RdS w w.heap.size A n c S) :
    Calls Try.prog 29 #[.agg #[.int .i64 ways, .slice A n c], .int .u32 (x : Int), .string data, .bool dirty] w fun e w' => ∃ y, e = .returned (.tuple #[y, gone.val, .bool went]) ∧ CRes w (cacheD A n c S) ways y w' C' := by
  have hxl : x - x % 16 < 4294967296 := by omega
  cases h with
  | no h he hg hb =>
    subst he hg hb
    refine (refPut_no ways A n c x data dirty S w hr (Lib.hid (refRight_all ho (noR h)))).mono ?_
    rintro e w' ⟨rfl, hb⟩
    exact ⟨_, rfl, CRes.sameC hr hb⟩
  | hit k i h ws v hw hv he hg hb =>
    subst he hg hb
    obtain ⟨hR, hk, ws', v', hw', hv', hvl, hl⟩ := h.at_
    rw [hw] at hw'; injection hw' with hw'; subst hw'
    rw [hv] at hv'; injection hv' with hv'; subst hv'
    rw [← firstL_lone (v := ⟨v.line, v.dirty || dirty, if data.size = 16 then data else v.data⟩) (h.lone hw) ⟨hv, rfl⟩ rfl]
    exact refPut_hit ways A n c x data dirty S k i v _ w hr hx (Lib.hid (refRight_all ho (yesR hR))) (Lib.hid (refFind_all hxl ho h.line)) (Lib.hid (Get_all hxl ho h.line hw hv))
      (Lib.hid (First_all hR (show v.line < 4294967296 by omega) (by rw [← hk]; show v.line / 16 % _ = _; rw [hvl]; congr 1; omega) hw (by have := ways_le hR hl; omega)))
  | room k i hR h ws hw hl he hg hb =>
    subst he hg hb
    obtain ⟨hk, ws', hw', _, hs⟩ := h.set_ hR
    rw [hw] at hw'; injection hw' with hw'; subst hw'
    have hni : NotIn ws (x - x % 16) := by
      rcases hs with ⟨hb, _⟩ | ⟨_, _, h⟩
      · cases hb
      · exact h
    rw [← firstL_new (v := ⟨x - x % 16, dirty, trimD data⟩) hni]
    exact refPut_room ways A n c x data dirty S k i ws _ w hr hx (k_lt hr hw) hw hl (Lib.hid (refRight_all ho (yesR hR))) (Lib.hid (refFind_all hxl ho h.line))
      (Lib.hid (First_all hR hxl (by rw [← hk]; show (x - x % 16) / 16 % _ = _; congr 1; omega) hw (by have := ways_le hR (by omega : (ws.length : Int) ≤ ways); omega)))
  | full k i hR h ws hw hl l hl1 hgv he hb =>
    subst he hb
    obtain ⟨hk, ws', hw', _, hs⟩ := h.set_ hR
    rw [hw] at hw'; injection hw' with hw'; subst hw'
    have hni : NotIn (ws.take l) (x - x % 16) := by
      rcases hs with ⟨hb, _⟩ | ⟨_, _, h⟩
      · cases hb
      · exact notIn_take h
    have hkl := (List.getElem?_eq_some_iff.1 hw).1
    rw [← firstL_new (v := ⟨x - x % 16, dirty, trimD data⟩) hni]
    refine refPut_full ways A n c x data dirty S k i ws _ w hr hx (n_le hr hR) (k_lt hr hw) hw hl l hl1 gone hgv (Lib.hid (refRight_all ho (yesR hR))) (Lib.hid (refFind_all hxl ho h.line))
      (Lib.hid fun A1 c1 S1 hS1 W hr1 => ?_)
    have hlen : (cont S1).length = (cont S).length := by rw [hS1, List.length_set]
    have e : (cont S).set k (firstL (ws.take l) ⟨x - x % 16, dirty, trimD data⟩) = (cont S1).set k (firstL (ws.take l) ⟨x - x % 16, dirty, trimD data⟩) := by rw [hS1, List.set_set]
    rw [e]
    exact refFirst_st ways A1 n c1 S1 ⟨x - x % 16, dirty, trimD data⟩ k (ws.take l) W hr1 (by have := hR.hn; rwa [clen hr] at this) hxl (by rw [← clen hr, ← hk]; show (x - x % 16) / 16 % _ = _; congr 1; omega)
      (by rw [hS1]; exact List.getElem?_set_self hkl) (by rw [List.length_take]; have := ways_le hR (by omega : (ws.length : Int) ≤ ways); omega)
end
end Go.Proofs.Ytcahadkkjfijfaa
