/- Sets of a cache, as lists of lists; what reads as them. -/
import Derived.Test.YtcahadkkjfijfaaWay
set_option linter.unusedVariables false
set_option linter.unusedSimpArgs false
namespace Go.Proofs.Ytcahadkkjfijfaa
open Go.RowKit

/-- a set: its slice, and the ways that it reads as -/
structure Cs where
  A : Option Addr
  n : Nat
  c : Nat
  ws : List Wy
def Cs.val (s : Cs) : Value := .slice s.A s.n s.c
def csv (S : List Cs) : List Value := S.map Cs.val
theorem csv_len (S : List Cs) : (csv S).length = S.length := by simp [csv]
theorem csv_one (S : List Cs) : ∀ u ∈ csv S, u.oneCell' = true := by
  intro u hu
  simp only [csv, List.mem_map] at hu
  obtain ⟨s, _, rfl⟩ := hu
  rfl
theorem csv_at {S : List Cs} {k : Nat} (h : k < S.length) : (csv S)[k]? = some (S[k]'h).val := by simp [csv, h]
theorem csv_append (S T : List Cs) : csv (S ++ T) = csv S ++ csv T := by simp [csv]
theorem csv_take (S : List Cs) (k : Nat) : (csv S).take k = csv (S.take k) := by simp [csv]
theorem csv_set (S : List Cs) (k : Nat) (s : Cs) : (csv S).set k s.val = csv (S.set k s) := by simp [csv]
/-- the ways alone -/
def cont (S : List Cs) : List (List Wy) := S.map Cs.ws
theorem cont_len (S : List Cs) : (cont S).length = S.length := by simp [cont]
theorem cont_at {S : List Cs} {k : Nat} (h : k < S.length) : (cont S)[k]? = some (S[k]'h).ws := by simp [cont, h]
theorem cont_set (S : List Cs) (k : Nat) (s : Cs) : cont (S.set k s) = (cont S).set k s.ws := by simp [cont]

/-- a slice of sets -/
structure RdS (w : World) (B : Nat) (A : Option Addr) (n c : Nat) (S : List Cs) : Prop where
  rd : Rd w B 1 A n c (csv S)
  sets : ∀ s ∈ S, Rd w B 3 s.A s.n s.c (wys s.ws)

section
variable {w w' : World} {B B' n c : Nat} {A : Option Addr} {S : List Cs}
theorem RdS.slen (h : RdS w B A n c S) : S.length = n := by have := h.rd.len; rw [csv_len] at this; omega
theorem RdS.keep (h : RdS w B A n c S) (hk : ∀ p : Addr, p.block < B → w'.cell? p = w.cell? p) : RdS w' B A n c S := ⟨h.rd.keep hk, fun s hs => (h.sets s hs).keep hk⟩
theorem RdS.more (h : RdS w B A n c S) (hB : B ≤ B') : RdS w B' A n c S := ⟨h.rd.more hB, fun s hs => (h.sets s hs).more hB⟩
theorem RdS.bel (h : RdS w w.heap.size A n c S) (hb : Bel w w') : RdS w' w'.heap.size A n c S := ⟨h.rd.bel hb, fun s hs => (h.sets s hs).bel hb⟩
theorem RdS.below (h : RdS w B A n c S) (hb : Below B w w') : RdS w' B A n c S := ⟨h.rd.below hb, fun s hs => (h.sets s hs).below hb⟩
/-- the set of number k -/
theorem RdS.at_ (h : RdS w B A n c S) {k : Nat} (hk : k < n) : ∃ (hl : k < S.length) (g o : Nat), A = some ⟨g, o, none⟩ ∧ g < B ∧ w.cell? ⟨g, o + k, none⟩ = some (.slice (S[k]'hl).A (S[k]'hl).n (S[k]'hl).c) ∧ Rd w B 3 (S[k]'hl).A (S[k]'hl).n (S[k]'hl).c (wys (S[k]'hl).ws) := by
  have hl : k < S.length := by have := h.slen; omega
  obtain ⟨g, o, u, e, hb, hu, hc⟩ := h.rd.cell1 hk
  rw [csv_at hl] at hu
  obtain rfl : _ = u := by injection hu
  exact ⟨hl, g, o, e, hb, hc, h.sets _ (List.getElem_mem hl)⟩
theorem RdS.nil (hc : c ≤ maxLen) : RdS w B A 0 c [] := ⟨Rd.nil hc, by simp⟩
end

end Go.Proofs.Ytcahadkkjfijfaa
