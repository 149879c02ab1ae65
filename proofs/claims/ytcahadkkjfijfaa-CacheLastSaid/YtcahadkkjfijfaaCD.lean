/- Caches as data that is only read; what a call hands back. -/
import Derived.Test.YtcahadkkjfijfaaStM
import Derived.Test.YtcahadkkjfijfaaCGetR
import Derived.Test.YtcahadkkjfijfaaCTouch
set_option linter.unusedVariables false
set_option linter.unusedSimpArgs false
namespace Go.Proofs.Ytcahadkkjfijfaa
open Go.RowKit

instance wysRows : Rows wys Wy.cells 3 := ⟨fun _ => rfl, fun _ => rfl, Wy.one, by decide⟩
instance csvRows : Rows csv (fun s => [.slice s.A s.n s.c]) 1 := ⟨fun q => by simp only [csv]; induction q with
  | nil => rfl
  | cons r q ih => rw [List.map_cons, ih]; rfl, fun _ => rfl, fun r u hu => by obtain rfl := List.mem_singleton.1 hu; rfl, by decide⟩
instance wysOne (q : List Wy) : OneC (wys q) := ⟨wys_one q⟩
instance wyOne (r : Wy) : OneC r.cells := ⟨r.one⟩
instance csvOne (S : List Cs) : OneC (csv S) := ⟨csv_one S⟩
/-- the ways of all sets -/
def elemsD (S : List Cs) : Da where
  ok w := ∀ s ∈ S, (rowD 3 s.A s.n s.c (wys s.ws)).ok w
  bl g := ∃ s ∈ S, inA s.A s.n g
  keep {w w'} hk hs h := fun s hm => (rowD 3 s.A s.n s.c (wys s.ws)).keep (fun g hg => hk g ⟨s, hm, hg⟩) hs (h s hm)
  lt {w} h g hg := by obtain ⟨s, hm, hg⟩ := hg; exact (rowD 3 s.A s.n s.c (wys s.ws)).lt (h s hm) g hg
theorem elemsD_ok {w : World} {S : List Cs} (h : (elemsD S).ok w) {s : Cs} (hs : s ∈ S) : Rd w w.heap.size 3 s.A s.n s.c (wys s.ws) := h s hs
/-- a cache's data -/
def cacheD (A : Option Addr) (n c : Nat) (S : List Cs) : List Da := [rowD 1 A n c (csv S), elemsD S]
theorem rds_of {w : World} {A : Option Addr} {n c : Nat} {S : List Cs} (h1 : (rowD 1 A n c (csv S)).ok w) (h2 : (elemsD S).ok w) : RdS w w.heap.size A n c S := ⟨h1, h2⟩
theorem cacheD_ok {w : World} {A : Option Addr} {n c : Nat} {S : List Cs} (h : RdS w w.heap.size A n c S) : ∀ d ∈ cacheD A n c S, d.ok w := by
  intro d hd
  rcases List.mem_cons.1 hd with rfl | hd
  · exact h.rd
  · rcases List.mem_cons.1 hd with rfl | hd
    · exact h.sets
    · cases hd
theorem csv_el {S : List Cs} {k : Nat} {s : Cs} (h : S[k]? = some s) : (csv S)[k * 1]? = some s.val := by
  rw [Nat.mul_one]; simp [csv, h]
theorem csv_el2 {S : List Cs} {k : Nat} {A : Option Addr} {n c : Nat} {q : List Wy} (h : S[k]? = some ⟨A, n, c, q⟩) : (csv S)[k * 1]? = some (.slice A n c) := csv_el h
theorem wys_el {q : List Wy} {k : Nat} {v : Wy} (h : q[k]? = some v) (j : Nat) (hj : j < 3) : (wys q)[k * 3 + j]? = v.cells[j]? := by
  obtain ⟨hl, e⟩ := List.getElem?_eq_some_iff.1 h
  rw [wys_at hl j hj, e]
theorem wy_f0 {q : List Wy} {k : Nat} {v : Wy} (h : q[k]? = some v) : (wys q)[k * 3 + 0]? = some (.int .u32 (v.line : Int)) := wys_el h 0 (by decide)
theorem wy_f1 {q : List Wy} {k : Nat} {v : Wy} (h : q[k]? = some v) : (wys q)[k * 3 + 1]? = some (.bool v.dirty) := wys_el h 1 (by decide)
theorem wy_f2 {q : List Wy} {k : Nat} {v : Wy} (h : q[k]? = some v) : (wys q)[k * 3 + 2]? = some (.string v.data) := wys_el h 2 (by decide)
theorem wys_sub {q : List Wy} {k : Nat} {v : Wy} (h : q[k]? = some v) : ∀ i u, v.cells[i]? = some u → (wys q)[k * 3 + i]? = some u := by
  intro i u hu
  have hi : i < 3 := (List.getElem?_eq_some_iff.1 hu).1
  rw [wys_el h i hi]; exact hu

section
variable {w0 w w' : World} {D0 D D1 ds : List Da} {M : List Mu}
theorem St.elem (h : St w0 D0 w M D) {S : List Cs} (hS : elemsD S ∈ D) {k : Nat} {s : Cs} (hs : S[k]? = some s) : St w0 D0 w M (rowD 3 s.A s.n s.c (wys s.ws) :: D) :=
  h.part _ ((h.dat _ hS : (elemsD S).ok w) s (List.mem_of_getElem? hs)) fun g hg => ⟨_, hS, s, List.mem_of_getElem? hs, hg⟩
theorem St.elemSet (h : St w0 D0 w M D) {S : List Cs} (hS : elemsD S ∈ D) (k : Nat) {A2 : Option Addr} {n2 c2 : Nat} {q2 : List Wy} (h2 : rowD 3 A2 n2 c2 (wys q2) ∈ D) : St w0 D0 w M (elemsD (S.set k ⟨A2, n2, c2, q2⟩) :: D) :=
  h.part _ (fun s hs => by
    rcases List.mem_or_eq_of_mem_set hs with hs | rfl
    · exact (h.dat _ hS : (elemsD S).ok w) s hs
    · exact h.dat _ h2) fun g hg => by
    obtain ⟨s, hs, hg⟩ := hg
    rcases List.mem_or_eq_of_mem_set hs with hs | rfl
    · exact ⟨_, hS, s, hs, hg⟩
    · exact ⟨_, h2, hg⟩
end
theorem St.rds {w0 w : World} {D0 D : List Da} {M : List Mu} (h : St w0 D0 w M D) {A : Option Addr} {n c : Nat} {S : List Cs} (h1 : rowD 1 A n c (csv S) ∈ D := by ((repeat (first | exact List.Mem.head _ | refine List.Mem.tail _ ?_)) <;> exact List.Mem.head _)) (h2 : elemsD S ∈ D := by ((repeat (first | exact List.Mem.head _ | refine List.Mem.tail _ ?_)) <;> exact List.Mem.head _)) : RdS w w.heap.size A n c S := rds_of (h.dat _ h1) (h.dat _ h2)
theorem St.elemA {w0 w : World} {D0 D : List Da} {M : List Mu} (h : St w0 D0 w M D) {S : List Cs} {k : Nat} {s : Cs} (hs : S[k]? = some s) (hS : elemsD S ∈ D := by ((repeat (first | exact List.Mem.head _ | refine List.Mem.tail _ ?_)) <;> exact List.Mem.head _)) : St w0 D0 w M (rowD 3 s.A s.n s.c (wys s.ws) :: D) := h.elem hS hs
/-- a cache that a call hands back -/
def CRes (w : World) (D0 : List Da) (ways : Int) (v : Value) (w' : World) (C : List (List Wy)) : Prop :=
  ∃ A n c S, v = .agg #[.int .i64 ways, .slice A n c] ∧ Out w D0 w' [rowD 1 A n c (csv S), elemsD S] ∧ cont S = C
end Go.Proofs.Ytcahadkkjfijfaa
