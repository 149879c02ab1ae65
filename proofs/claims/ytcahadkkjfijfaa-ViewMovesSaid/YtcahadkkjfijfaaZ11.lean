/- Joined: CWrite, VLaw. -/
import Derived.Test.YtcahadkkjfijfaaZ10
import Derived.Test.YtcahadkkjfijfaaZ3
import Derived.Test.YtcahadkkjfijfaaZ5
/- Bytes written into a line of a cache, of the program and of the document. -/
set_option linter.unusedVariables false
set_option linter.unusedSimpArgs false
set_option maxRecDepth 100000
namespace Go.Proofs.Ytcahadkkjfijfaa
open Go.RowKit Go.Sort

/-- bytes put into others, from a place on -/
def putB (d : ByteArray) (f : Nat) (b : ByteArray) : ByteArray := d.extract 0 f ++ b ++ d.extract (f + b.size) d.size
theorem putB_list (d : ByteArray) (f : Nat) (b : ByteArray) : (putB d f b).data.toList = d.data.toList.take f ++ b.data.toList ++ d.data.toList.drop (f + b.size) := by
  simp only [putB, ByteArray.data_append, Array.toList_append, cut_list, List.drop_zero]
  congr 1
  rw [List.take_of_length_le (by simp)]
theorem putB_size {d : ByteArray} {f : Nat} {b : ByteArray} (h : f + b.size ≤ d.size) : (putB d f b).size = d.size := by
  have := congrArg List.length (putB_list d f b)
  simp only [List.length_append, List.length_take, List.length_drop, str_len] at this
  omega
/-- what Write makes of a cache, and whether it is done -/
inductive WriteR (ways : Int) (C : List (List Wy)) (x : Nat) (bytes : ByteArray) (C' : List (List Wy)) (ok : Bool) : Prop
  | no (k i : Nat) (h : FindR ways C x k i false) (he : C' = C) (hb : ok = false)
  | bad (k i : Nat) (h : FindR ways C x k i true) (ws : List Wy) (v : Wy) (hw : C[k]? = some ws) (hv : ws[i]? = some v) (hd : v.data.size = 0 ∨ v.data.size = 16 ∧ 16 < x % 16 + bytes.size) (he : C' = C) (hb : ok = false)
  | yes (k i : Nat) (h : FindR ways C x k i true) (ws : List Wy) (v : Wy) (hw : C[k]? = some ws) (hv : ws[i]? = some v) (hd : v.data.size = 16) (hf : x % 16 + bytes.size ≤ 16)
      (he : C' = C.set k (frontL ws i ⟨v.line, true, putB v.data (x % 16) bytes⟩)) (hb : ok = true)
theorem write_ex (ways : Int) (C : List (List Wy)) (x : Nat) (bytes : ByteArray) : ∃ C' ok, WriteR ways C x bytes C' ok := by
  obtain ⟨k, i, b, h⟩ := find_ex ways C x
  cases b
  · exact ⟨_, _, .no k i h rfl rfl⟩
  · obtain ⟨_, _, ws, v, hw, hv, _⟩ := h.at_
    rcases h.size hw hv with hs | hs
    · exact ⟨_, _, .bad k i h ws v hw hv (.inl hs) rfl rfl⟩
    · by_cases hf : x % 16 + bytes.size ≤ 16
      · exact ⟨_, _, .yes k i h ws v hw hv hs hf rfl rfl⟩
      · exact ⟨_, _, .bad k i h ws v hw hv (.inr ⟨hs, by omega⟩) rfl rfl⟩

set_option maxHeartbeats 8000000 in
theorem Write_no (ways : Int) (A : Option Addr) (n c x : Nat) (bytes : ByteArray) (S : List Cs) (k i : Nat) (w : World) (hr : RdS w w.heap.size A n c S) (HF : Hid (FindC 33 ways A n c x S k i false)) :
    Calls Try.prog 44 #[.agg #[.int .i64 ways, .slice A n c], .int .u32 (x : Int), .string bytes] w fun e w' => e = .returned (.tuple #[.agg #[.int .i64 ways, .slice A n c], .bool false]) ∧ Bel w w' := by
  have hF := St.start w _ (cacheD_ok hr)
  unfold cacheD at hF
  go_enter Try.func44, Try.ntmps44
  go_wp2_with (first | (go_at_call 33; refine (HF.out _ (rds_of (hF.dat _ (by ((repeat (first | exact List.Mem.head _ | refine List.Mem.tail _ ?_)) <;> exact List.Mem.head _))) (hF.dat _ (by ((repeat (first | exact List.Mem.head _ | refine List.Mem.tail _ ?_)) <;> exact List.Mem.head _))))).mono ?_; rintro e wN ⟨rfl, hb⟩; replace hF := hF.grow hb; clear hb) | ((first | (refine w_box rfl hF rfl ?_; clear hF; intro gN wN hF) | (refine w_alloc rfl hF ?_; clear hF; intro gN wN hF) | (refine w_ld1 rfl hF rfl ?_) | (refine w_ld rfl hF rfl ?_) | (refine w_st1 rfl hF rfl rfl ?_; clear hF; intro wN hF; (try simp only [List.set_cons_zero, List.set_cons_succ, List.eraseIdx_cons_zero, List.eraseIdx_cons_succ] at hF)) | (refine w_st rfl hF rfl rfl ?_; clear hF; intro wN hF; (try simp only [List.set_cons_zero, List.set_cons_succ, List.eraseIdx_cons_zero, List.eraseIdx_cons_succ] at hF)) | (refine w_fldB rfl rfl ?_) | (refine w_fld rfl hF rfl ?_) | (refine w_ix rfl hF rfl rfl ?_) | (refine w_lde1 rfl hF rfl ?_) | (refine w_lde rfl hF rfl ?_) | (refine w_bs1 rfl hF rfl ?_; clear hF; intro gN wN hF) | (refine w_bs0 rfl hF ?_; clear hF; intro gN wN hF) | (refine w_app rfl hF rfl rfl ?_; clear hF; intro vN wN hF; (try simp only [List.set_cons_zero, List.set_cons_succ, List.eraseIdx_cons_zero, List.eraseIdx_cons_succ] at hF)) | (refine w_appD rfl hF rfl rfl ?_; clear hF; intro vN wN hF; (try simp only [List.set_cons_zero, List.set_cons_succ, List.eraseIdx_cons_zero, List.eraseIdx_cons_succ] at hF)) | (refine w_ld1o rfl hF rfl ?_) | (refine w_st1o rfl hF rfl rfl ?_; clear hF; intro wN hF; (try simp only [List.set_cons_zero, List.set_cons_succ, List.eraseIdx_cons_zero, List.eraseIdx_cons_succ] at hF)) | (refine w_make0 rfl hF rfl rfl ?_; clear hF; intro gN wN hF) | (refine w_to rfl hF rfl rfl ?_; clear hF; intro hF) | (refine w_from rfl hF rfl rfl ?_; clear hF; intro hF)); (try simp only [Act.put, List.setIfInBounds_toArray, List.set_cons_zero, List.set_cons_succ, Nat.zero_add, Nat.zero_mul, Nat.reduceAdd])))
  ((try simp only [Exit.inBlock, Exit.then]); refine bodyPost_ret (w_rescs rfl hF) rfl ?_)
  exact ⟨rfl, hF.bel⟩
/-- what the two walks through a line that is there have in common -/
theorem WriteFacts {x : Nat} (w : World) (hx : x < 4294967296) : ∃ lo f, x - x % 16 = lo ∧ x % 16 = f ∧ f < 16 ∧ (x : Int) - (lo : Int) = (f : Int) ∧ Hid (∀ W, Calls Try.prog 67 #[.int .u32 (x : Int)] W fun e w' => e = .returned (.int .u32 (lo : Int)) ∧ ∃ d, w' = W.drewN d) :=
  ⟨_, _, rfl, rfl, by omega, by omega, Lib.hid fun W => LineOf_any x W hx⟩
set_option maxHeartbeats 8000000 in
theorem Write_bad (ways : Int) (A : Option Addr) (n c x : Nat) (bytes : ByteArray) (S : List Cs) (k i : Nat) (ws : List Wy) (v : Wy) (w : World) (hr : RdS w w.heap.size A n c S) (hx : x < 4294967296) (hbs : bytes.size ≤ maxLen) (hk : k < n) (hset : (cont S)[k]? = some ws) (hv : ws[i]? = some v)
    (hd : v.data.size = 0 ∨ v.data.size = 16 ∧ 16 < x % 16 + bytes.size) (HF : Hid (FindC 33 ways A n c x S k i true)) :
    Calls Try.prog 44 #[.agg #[.int .i64 ways, .slice A n c], .int .u32 (x : Int), .string bytes] w fun e w' => e = .returned (.tuple #[.agg #[.int .i64 ways, .slice A n c], .bool false]) ∧ Bel w w' := by
  have hF := St.start w _ (cacheD_ok hr)
  unfold cacheD at hF
  obtain ⟨sA, m, sc, hS⟩ := set_of hset
  have hF := hF.elem (List.Mem.tail _ (List.Mem.head _)) hS
  simp only at hF
  have hse := (hF.rd (List.Mem.head _)).wyslen
  have hat := (List.getElem?_eq_some_iff.1 hv).1
  have hc1 := hr.rd.le
  have hc2 := hr.rd.mx
  have hm1 := (hF.rd (List.Mem.head _)).le
  have hm2 := (hF.rd (List.Mem.head _)).mx
  unfold maxLen at hbs hc2 hm2
  clear hset
  obtain ⟨lo, f, hlo, hf, hf16, hxi, HL⟩ := WriteFacts w hx
  rw [hf] at hd
  have him : i < m := by omega
  clear hlo hf
  go_enter Try.func44, Try.ntmps44
  rcases hd with h0 | ⟨h16, hlong⟩
  · have hemp := isEmpty_yes h0
    clear h0
    go_wp2_with (first | (go_at_call 33; refine (HF.out _ (rds_of (hF.dat _ (by ((repeat (first | exact List.Mem.head _ | refine List.Mem.tail _ ?_)) <;> exact List.Mem.head _))) (hF.dat _ (by ((repeat (first | exact List.Mem.head _ | refine List.Mem.tail _ ?_)) <;> exact List.Mem.head _))))).mono ?_; rintro e wN ⟨rfl, hb⟩; replace hF := hF.grow hb; clear hb) | (go_at_call 67; refine (HL.out _).mono ?_; rintro e wN ⟨rfl, d, rfl⟩; replace hF := hF.grow (Bel.drewN _ d)) | ((first | (refine w_box rfl hF rfl ?_; clear hF; intro gN wN hF) | (refine w_alloc rfl hF ?_; clear hF; intro gN wN hF) | (refine w_ld1 rfl hF rfl ?_) | (refine w_ld rfl hF rfl ?_) | (refine w_st1 rfl hF rfl rfl ?_; clear hF; intro wN hF; (try simp only [List.set_cons_zero, List.set_cons_succ, List.eraseIdx_cons_zero, List.eraseIdx_cons_succ] at hF)) | (refine w_st rfl hF rfl rfl ?_; clear hF; intro wN hF; (try simp only [List.set_cons_zero, List.set_cons_succ, List.eraseIdx_cons_zero, List.eraseIdx_cons_succ] at hF)) | (refine w_fldB rfl rfl ?_) | (refine w_fld rfl hF rfl ?_) | (refine w_ix rfl hF rfl rfl ?_) | (refine w_lde1 rfl hF rfl ?_) | (refine w_lde rfl hF rfl ?_) | (refine w_bs1 rfl hF rfl ?_; clear hF; intro gN wN hF) | (refine w_bs0 rfl hF ?_; clear hF; intro gN wN hF) | (refine w_app rfl hF rfl rfl ?_; clear hF; intro vN wN hF; (try simp only [List.set_cons_zero, List.set_cons_succ, List.eraseIdx_cons_zero, List.eraseIdx_cons_succ] at hF)) | (refine w_appD rfl hF rfl rfl ?_; clear hF; intro vN wN hF; (try simp only [List.set_cons_zero, List.set_cons_succ, List.eraseIdx_cons_zero, List.eraseIdx_cons_succ] at hF)) | (refine w_ld1o rfl hF rfl ?_) | (refine w_st1o rfl hF rfl rfl ?_; clear hF; intro wN hF; (try simp only [List.set_cons_zero, List.set_cons_succ, List.eraseIdx_cons_zero, List.eraseIdx_cons_succ] at hF)) | (refine w_make0 rfl hF rfl rfl ?_; clear hF; intro gN wN hF) | (refine w_to rfl hF rfl rfl ?_; clear hF; intro hF) | (refine w_from rfl hF rfl rfl ?_; clear hF; intro hF)); (try simp only [Act.put, List.setIfInBounds_toArray, List.set_cons_zero, List.set_cons_succ, Nat.zero_add, Nat.zero_mul, Nat.reduceAdd])))
    ((try simp only [Exit.inBlock, Exit.then]); refine bodyPost_ret (w_rescs rfl hF) rfl ?_)
    exact ⟨rfl, hF.bel⟩
  · have hemp := isEmpty_no (d := v.data) (by omega)
    have hlg : (16 : Int) - (f : Int) < (bytes.size : Int) := by omega
    clear h16
    go_wp2_with (first | (go_at_call 33; refine (HF.out _ (rds_of (hF.dat _ (by ((repeat (first | exact List.Mem.head _ | refine List.Mem.tail _ ?_)) <;> exact List.Mem.head _))) (hF.dat _ (by ((repeat (first | exact List.Mem.head _ | refine List.Mem.tail _ ?_)) <;> exact List.Mem.head _))))).mono ?_; rintro e wN ⟨rfl, hb⟩; replace hF := hF.grow hb; clear hb) | (go_at_call 67; refine (HL.out _).mono ?_; rintro e wN ⟨rfl, d, rfl⟩; replace hF := hF.grow (Bel.drewN _ d)) | ((first | (refine w_box rfl hF rfl ?_; clear hF; intro gN wN hF) | (refine w_alloc rfl hF ?_; clear hF; intro gN wN hF) | (refine w_ld1 rfl hF rfl ?_) | (refine w_ld rfl hF rfl ?_) | (refine w_st1 rfl hF rfl rfl ?_; clear hF; intro wN hF; (try simp only [List.set_cons_zero, List.set_cons_succ, List.eraseIdx_cons_zero, List.eraseIdx_cons_succ] at hF)) | (refine w_st rfl hF rfl rfl ?_; clear hF; intro wN hF; (try simp only [List.set_cons_zero, List.set_cons_succ, List.eraseIdx_cons_zero, List.eraseIdx_cons_succ] at hF)) | (refine w_fldB rfl rfl ?_) | (refine w_fld rfl hF rfl ?_) | (refine w_ix rfl hF rfl rfl ?_) | (refine w_lde1 rfl hF rfl ?_) | (refine w_lde rfl hF rfl ?_) | (refine w_bs1 rfl hF rfl ?_; clear hF; intro gN wN hF) | (refine w_bs0 rfl hF ?_; clear hF; intro gN wN hF) | (refine w_app rfl hF rfl rfl ?_; clear hF; intro vN wN hF; (try simp only [List.set_cons_zero, List.set_cons_succ, List.eraseIdx_cons_zero, List.eraseIdx_cons_succ] at hF)) | (refine w_appD rfl hF rfl rfl ?_; clear hF; intro vN wN hF; (try simp only [List.set_cons_zero, List.set_cons_succ, List.eraseIdx_cons_zero, List.eraseIdx_cons_succ] at hF)) | (refine w_ld1o rfl hF rfl ?_) | (refine w_st1o rfl hF rfl rfl ?_; clear hF; intro wN hF; (try simp only [List.set_cons_zero, List.set_cons_succ, List.eraseIdx_cons_zero, List.eraseIdx_cons_succ] at hF)) | (refine w_make0 rfl hF rfl rfl ?_; clear hF; intro gN wN hF) | (refine w_to rfl hF rfl rfl ?_; clear hF; intro hF) | (refine w_from rfl hF rfl rfl ?_; clear hF; intro hF)); (try simp only [Act.put, List.setIfInBounds_toArray, List.set_cons_zero, List.set_cons_succ, Nat.zero_add, Nat.zero_mul, Nat.reduceAdd])))
    ((try simp only [Exit.inBlock, Exit.then]); refine bodyPost_ret (w_rescs rfl hF) rfl ?_)
    exact ⟨rfl, hF.bel⟩
set_option maxHeartbeats 8000000 in
theorem Write_yes (ways : Int) (A : Option Addr) (n c x : Nat) (bytes : ByteArray) (S : List Cs) (k i : Nat) (ws : List Wy) (v : Wy) (w : World) (hr : RdS w w.heap.size A n c S) (hx : x < 4294967296) (hbs : bytes.size ≤ maxLen) (hn : n ≤ 1000) (hk : k < n) (hset : (cont S)[k]? = some ws) (hws : ws.length ≤ 1000) (hv : ws[i]? = some v)
    (hd : v.data.size = 16) (hfit : x % 16 + bytes.size ≤ 16) (HF : Hid (FindC 33 ways A n c x S k i true)) :
    Calls Try.prog 44 #[.agg #[.int .i64 ways, .slice A n c], .int .u32 (x : Int), .string bytes] w fun e w' => ∃ y, e = .returned (.tuple #[y, .bool true]) ∧ CRes w (cacheD A n c S) ways y w' ((cont S).set k (frontL ws i ⟨v.line, true, putB v.data (x % 16) bytes⟩)) := by
  have hF := St.start w _ (cacheD_ok hr)
  unfold cacheD at hF
  obtain ⟨sA, m, sc, hS⟩ := set_of hset
  have hF := hF.elem (List.Mem.tail _ (List.Mem.head _)) hS
  simp only at hF
  have hse := (hF.rd (List.Mem.head _)).wyslen
  have hat := (List.getElem?_eq_some_iff.1 hv).1
  have hc1 := hr.rd.le
  have hc2 := hr.rd.mx
  have hm1 := (hF.rd (List.Mem.head _)).le
  have hm2 := (hF.rd (List.Mem.head _)).mx
  unfold maxLen at hbs hc2 hm2
  clear hset
  obtain ⟨lo, f, hlo, hf, hf16, hxi, HL⟩ := WriteFacts w hx
  rw [hf] at hfit ⊢
  have him : i < m := by omega
  clear hlo hf
  obtain ⟨d2, hd2⟩ : ∃ d2, putB v.data f bytes = d2 := ⟨_, rfl⟩
  rw [hd2]
  have hemp := isEmpty_no (d := v.data) (by omega)
  have hlg : ¬ ((16 : Int) - (f : Int) < (bytes.size : Int)) := by omega
  have hf1 : f ≤ v.data.size := by omega
  obtain ⟨e, he⟩ : ∃ e, e = f + bytes.size := ⟨_, rfl⟩
  have hf2 : e ≤ v.data.size := by omega
  have hcast : (f : Int) + (bytes.size : Int) = (e : Int) := by omega
  have hd2 : v.data.extract 0 f ++ bytes ++ v.data.extract e v.data.size = d2 := by rw [← hd2, he]; rfl
  replace he := Lib.hid he
  have hd16 : v.data.size ≤ 16 := by omega
  have hb16 : bytes.size ≤ 16 := by omega
  replace hd := Lib.hid hd
  replace hd2 := Lib.hid hd2
  go_enter Try.func44, Try.ntmps44
  go_wp2_with (first | (go_at_call 33; refine (HF.out _ (rds_of (hF.dat _ (by ((repeat (first | exact List.Mem.head _ | refine List.Mem.tail _ ?_)) <;> exact List.Mem.head _))) (hF.dat _ (by ((repeat (first | exact List.Mem.head _ | refine List.Mem.tail _ ?_)) <;> exact List.Mem.head _))))).mono ?_; rintro e wN ⟨rfl, hb⟩; replace hF := hF.grow hb; clear hb) | (go_at_call 67; refine (HL.out _).mono ?_; rintro e wN ⟨rfl, d, rfl⟩; replace hF := hF.grow (Bel.drewN _ d)) | (go_at_call 65; refine (front_own _ _ _ ws i v _ (hF.rd (by ((repeat (first | exact List.Mem.head _ | refine List.Mem.tail _ ?_)) <;> exact List.Mem.head _))) (by omega) hv).mono ?_; rintro e wN ⟨xF, rfl, hb, ho⟩; replace hF := hF.pushOwn hb ho; clear hb ho; obtain ⟨gS, cS, rfl, hcS, hmS⟩ := hF.ownSome at0 (by omega); rw [show wys (frontL ws i v) = Value.int .u32 (v.line : Int) :: .bool v.dirty :: .string v.data :: wys (ws.take i ++ ws.drop (i + 1)) from rfl] at hF) | ((first | (refine w_box rfl hF rfl ?_; clear hF; intro gN wN hF) | (refine w_alloc rfl hF ?_; clear hF; intro gN wN hF) | (refine w_ld1 rfl hF rfl ?_) | (refine w_ld rfl hF rfl ?_) | (refine w_st1 rfl hF rfl rfl ?_; clear hF; intro wN hF; (try simp only [List.set_cons_zero, List.set_cons_succ, List.eraseIdx_cons_zero, List.eraseIdx_cons_succ] at hF)) | (refine w_st rfl hF rfl rfl ?_; clear hF; intro wN hF; (try simp only [List.set_cons_zero, List.set_cons_succ, List.eraseIdx_cons_zero, List.eraseIdx_cons_succ] at hF)) | (refine w_fldB rfl rfl ?_) | (refine w_fld rfl hF rfl ?_) | (refine w_ix rfl hF rfl rfl ?_) | (refine w_lde1 rfl hF rfl ?_) | (refine w_lde rfl hF rfl ?_) | (refine w_bs1 rfl hF rfl ?_; clear hF; intro gN wN hF) | (refine w_bs0 rfl hF ?_; clear hF; intro gN wN hF) | (refine w_app rfl hF rfl rfl ?_; clear hF; intro vN wN hF; (try simp only [List.set_cons_zero, List.set_cons_succ, List.eraseIdx_cons_zero, List.eraseIdx_cons_succ] at hF)) | (refine w_appD rfl hF rfl rfl ?_; clear hF; intro vN wN hF; (try simp only [List.set_cons_zero, List.set_cons_succ, List.eraseIdx_cons_zero, List.eraseIdx_cons_succ] at hF)) | (refine w_ld1o rfl hF rfl ?_) | (refine w_st1o rfl hF rfl rfl ?_; clear hF; intro wN hF; (try simp only [List.set_cons_zero, List.set_cons_succ, List.eraseIdx_cons_zero, List.eraseIdx_cons_succ] at hF)) | (refine w_make0 rfl hF rfl rfl ?_; clear hF; intro gN wN hF) | (refine w_to rfl hF rfl rfl ?_; clear hF; intro hF) | (refine w_from rfl hF rfl rfl ?_; clear hF; intro hF)); (try simp only [Act.put, List.setIfInBounds_toArray, List.set_cons_zero, List.set_cons_succ, Nat.zero_add, Nat.zero_mul, Nat.reduceAdd])))
  refine wp_region_st (by kernel_rfl) hF [] [] (by ((repeat (first | exact subn_nil | refine subn_cons (by ((repeat (first | exact List.Mem.head _ | refine List.Mem.tail _ ?_)) <;> exact List.Mem.head _)) ?_)) <;> exact subn_nil)) (by ((repeat (first | exact subn_nil | refine subn_cons (by ((repeat (first | exact List.Mem.head _ | refine List.Mem.tail _ ?_)) <;> exact List.Mem.head _)) ?_)) <;> exact subn_nil)) ?_
  clear hF; intro hF hH
  (refine w_take (i := 0) rfl (y_move rfl rfl) hH ?_); (try simp only [Act.put, List.setIfInBounds_toArray, List.set_cons_zero, List.set_cons_succ, Nat.zero_add, Nat.zero_mul, Nat.reduceAdd])
  (refine w_take (i := 1) rfl (y_move rfl rfl) hH ?_); (try simp only [Act.put, List.setIfInBounds_toArray, List.set_cons_zero, List.set_cons_succ, Nat.zero_add, Nat.zero_mul, Nat.reduceAdd])
  (refine w_take (i := 2) rfl (y_move rfl rfl) hH ?_); (try simp only [Act.put, List.setIfInBounds_toArray, List.set_cons_zero, List.set_cons_succ, Nat.zero_add, Nat.zero_mul, Nat.reduceAdd])
  (first | refine w_take (i := 3) rfl (y_to rfl rfl rfl) hH ?_ | refine w_take (i := 3) rfl (y_from rfl rfl rfl) hH ?_ | refine w_take (i := 3) rfl (y_strto rfl rfl rfl) hH ?_ | refine w_take (i := 3) rfl (y_strfrom rfl rfl rfl) hH ?_); (try simp only [Act.put, List.setIfInBounds_toArray, List.set_cons_zero, List.set_cons_succ, Nat.zero_add, Nat.zero_mul, Nat.reduceAdd])
  (refine w_take (i := 4) rfl (y_move rfl rfl) hH ?_); (try simp only [Act.put, List.setIfInBounds_toArray, List.set_cons_zero, List.set_cons_succ, Nat.zero_add, Nat.zero_mul, Nat.reduceAdd])
  first | (refine w_take (i := 5) rfl (y_stradd rfl rfl rfl) hH ?_; (try simp only [Act.put, List.setIfInBounds_toArray, List.set_cons_zero, List.set_cons_succ, Nat.zero_add, Nat.zero_mul, Nat.reduceAdd])) | (refine w_take (i := 5) rfl (y_addi rfl rfl rfl) hH ?_; (try simp only [Act.put, List.setIfInBounds_toArray, List.set_cons_zero, List.set_cons_succ, Nat.zero_add, Nat.zero_mul, Nat.reduceAdd])) | (refine rg_take (i := 5) (v := ?_) rfl rfl (by kernel_rfl) (by kernel_rfl) (by kernel_rfl) (fun _ _ _ h => h) ?_ hH ?_; rotate_left; (first | exact yi_eq y_skip (by rfl) | (refine yi_pure (by rfl) ?_; intro w; go_simp; done) | (refine yi_pure (by rfl) ?_; intro w; go_simp; with_reducible rfl) | (refine yi_pure (by rfl) ?_; intro w; simp only [Wy.cells]; go_simp; with_reducible rfl)); (try simp only [Act.put, List.setIfInBounds_toArray, List.set_cons_zero, List.set_cons_succ, Nat.zero_add, Nat.zero_mul, Nat.reduceAdd]))
  (refine w_take (i := 6) rfl (y_move rfl rfl) hH ?_); (try simp only [Act.put, List.setIfInBounds_toArray, List.set_cons_zero, List.set_cons_succ, Nat.zero_add, Nat.zero_mul, Nat.reduceAdd])
  (refine w_take (i := 7) rfl (y_move rfl rfl) hH ?_); (try simp only [Act.put, List.setIfInBounds_toArray, List.set_cons_zero, List.set_cons_succ, Nat.zero_add, Nat.zero_mul, Nat.reduceAdd])
  (refine w_take (i := 8) rfl (y_move rfl rfl) hH ?_); (try simp only [Act.put, List.setIfInBounds_toArray, List.set_cons_zero, List.set_cons_succ, Nat.zero_add, Nat.zero_mul, Nat.reduceAdd])
  (first | refine w_take (i := 9) rfl (y_len rfl rfl) hH ?_ | refine w_take (i := 9) rfl (y_lens rfl rfl) hH ?_); (try simp only [Act.put, List.setIfInBounds_toArray, List.set_cons_zero, List.set_cons_succ, Nat.zero_add, Nat.zero_mul, Nat.reduceAdd])
  first | (refine w_take (i := 10) rfl (y_stradd rfl rfl rfl) hH ?_; (try simp only [Act.put, List.setIfInBounds_toArray, List.set_cons_zero, List.set_cons_succ, Nat.zero_add, Nat.zero_mul, Nat.reduceAdd])) | (refine w_take (i := 10) rfl (y_addi rfl rfl rfl) hH ?_; (try simp only [Act.put, List.setIfInBounds_toArray, List.set_cons_zero, List.set_cons_succ, Nat.zero_add, Nat.zero_mul, Nat.reduceAdd])) | (refine rg_take (i := 10) (v := ?_) rfl rfl (by kernel_rfl) (by kernel_rfl) (by kernel_rfl) (fun _ _ _ h => h) ?_ hH ?_; rotate_left; (first | exact yi_eq y_skip (by rfl) | (refine yi_pure (by rfl) ?_; intro w; go_simp; done) | (refine yi_pure (by rfl) ?_; intro w; go_simp; with_reducible rfl) | (refine yi_pure (by rfl) ?_; intro w; simp only [Wy.cells]; go_simp; with_reducible rfl)); (try simp only [Act.put, List.setIfInBounds_toArray, List.set_cons_zero, List.set_cons_succ, Nat.zero_add, Nat.zero_mul, Nat.reduceAdd]))
  (first | refine w_take (i := 11) rfl (y_to rfl rfl rfl) hH ?_ | refine w_take (i := 11) rfl (y_from rfl rfl rfl) hH ?_ | refine w_take (i := 11) rfl (y_strto rfl rfl rfl) hH ?_ | refine w_take (i := 11) rfl (y_strfrom rfl rfl rfl) hH ?_); (try simp only [Act.put, List.setIfInBounds_toArray, List.set_cons_zero, List.set_cons_succ, Nat.zero_add, Nat.zero_mul, Nat.reduceAdd])
  first | (refine w_take (i := 12) rfl (y_stradd rfl rfl rfl) hH ?_; (try simp only [Act.put, List.setIfInBounds_toArray, List.set_cons_zero, List.set_cons_succ, Nat.zero_add, Nat.zero_mul, Nat.reduceAdd])) | (refine w_take (i := 12) rfl (y_addi rfl rfl rfl) hH ?_; (try simp only [Act.put, List.setIfInBounds_toArray, List.set_cons_zero, List.set_cons_succ, Nat.zero_add, Nat.zero_mul, Nat.reduceAdd])) | (refine rg_take (i := 12) (v := ?_) rfl rfl (by kernel_rfl) (by kernel_rfl) (by kernel_rfl) (fun _ _ _ h => h) ?_ hH ?_; rotate_left; (first | exact yi_eq y_skip (by rfl) | (refine yi_pure (by rfl) ?_; intro w; go_simp; done) | (refine yi_pure (by rfl) ?_; intro w; go_simp; with_reducible rfl) | (refine yi_pure (by rfl) ?_; intro w; simp only [Wy.cells]; go_simp; with_reducible rfl)); (try simp only [Act.put, List.setIfInBounds_toArray, List.set_cons_zero, List.set_cons_succ, Nat.zero_add, Nat.zero_mul, Nat.reduceAdd]))
  (first | refine w_take (i := 13) rfl (y_ix rfl rfl rfl) hH ?_ | refine w_take (i := 13) rfl (y_ixB rfl rfl rfl) hH ?_); (try simp only [Act.put, List.setIfInBounds_toArray, List.set_cons_zero, List.set_cons_succ, Nat.zero_add, Nat.zero_mul, Nat.reduceAdd])
  (first | refine w_take (i := 14) rfl (y_fldB rfl rfl) hH ?_ | refine w_take (i := 14) rfl (y_fld rfl rfl) hH ?_); (try simp only [Act.put, List.setIfInBounds_toArray, List.set_cons_zero, List.set_cons_succ, Nat.zero_add, Nat.zero_mul, Nat.reduceAdd])
  refine wpAnyH_ready (rs := [15]) (by kernel_rfl) (by simp) (ready_cons rfl (fun K hK => ?_) AllReadyH.nil)
  go_wp2_with ((first | (refine w_st1 rfl hF rfl rfl ?_; clear hF; intro wN hF; (try simp only [List.set_cons_zero, List.set_cons_succ, List.eraseIdx_cons_zero, List.eraseIdx_cons_succ] at hF)) | (refine w_st rfl hF rfl rfl ?_; clear hF; intro wN hF; (try simp only [List.set_cons_zero, List.set_cons_succ, List.eraseIdx_cons_zero, List.eraseIdx_cons_succ] at hF)) | (refine w_st1o rfl hF rfl rfl ?_; clear hF; intro wN hF; (try simp only [List.set_cons_zero, List.set_cons_succ, List.eraseIdx_cons_zero, List.eraseIdx_cons_succ] at hF))); (try simp only [Act.put, List.setIfInBounds_toArray, List.set_cons_zero, List.set_cons_succ, Nat.zero_add, Nat.zero_mul, Nat.reduceAdd]))
  have hH := hH.nextA hF; refine hK.out _ _ hH ?_; clear hK; (try simp only [Act.put, List.setIfInBounds_toArray, List.set_cons_zero, List.set_cons_succ, Nat.zero_add, Nat.zero_mul, Nat.reduceAdd])
  refine wpAnyH_done (by kernel_rfl) ?_ _
  go_wp2_with (first | (go_at_call 66; obtain ⟨A2, c2, hfz, hF⟩ := hF.freeze 0 at0; injection hfz with hfz1 _ hfz2; subst hfz1 hfz2; (try simp only [List.eraseIdx_cons_zero] at hF); refine (with_st ways A n c S k _ m _ (⟨v.line, true, v.data.extract 0 f ++ bytes ++ v.data.extract e v.data.size⟩ :: (ws.take i ++ ws.drop (i + 1))) _ (rds_of (hF.dat _ (by ((repeat (first | exact List.Mem.head _ | refine List.Mem.tail _ ?_)) <;> exact List.Mem.head _))) (hF.dat _ (by ((repeat (first | exact List.Mem.head _ | refine List.Mem.tail _ ?_)) <;> exact List.Mem.head _)))) hn hk (hF.dat _ (by ((repeat (first | exact List.Mem.head _ | refine List.Mem.tail _ ?_)) <;> exact List.Mem.head _)))).mono ?_; rintro e wN ⟨_, rfl, A', n', c', S', rfl, hO, hC⟩; replace hF := hF.callA hO; clear hO) | (refine w_ixB rfl rfl rfl ?_) | ((first | (refine w_box rfl hF rfl ?_; clear hF; intro gN wN hF) | (refine w_alloc rfl hF ?_; clear hF; intro gN wN hF) | (refine w_ld1 rfl hF rfl ?_) | (refine w_ld rfl hF rfl ?_) | (refine w_st1 rfl hF rfl rfl ?_; clear hF; intro wN hF; (try simp only [List.set_cons_zero, List.set_cons_succ, List.eraseIdx_cons_zero, List.eraseIdx_cons_succ] at hF)) | (refine w_st rfl hF rfl rfl ?_; clear hF; intro wN hF; (try simp only [List.set_cons_zero, List.set_cons_succ, List.eraseIdx_cons_zero, List.eraseIdx_cons_succ] at hF)) | (refine w_fldB rfl rfl ?_) | (refine w_fld rfl hF rfl ?_) | (refine w_ix rfl hF rfl rfl ?_) | (refine w_lde1 rfl hF rfl ?_) | (refine w_lde rfl hF rfl ?_) | (refine w_bs1 rfl hF rfl ?_; clear hF; intro gN wN hF) | (refine w_bs0 rfl hF ?_; clear hF; intro gN wN hF) | (refine w_app rfl hF rfl rfl ?_; clear hF; intro vN wN hF; (try simp only [List.set_cons_zero, List.set_cons_succ, List.eraseIdx_cons_zero, List.eraseIdx_cons_succ] at hF)) | (refine w_appD rfl hF rfl rfl ?_; clear hF; intro vN wN hF; (try simp only [List.set_cons_zero, List.set_cons_succ, List.eraseIdx_cons_zero, List.eraseIdx_cons_succ] at hF)) | (refine w_ld1o rfl hF rfl ?_) | (refine w_st1o rfl hF rfl rfl ?_; clear hF; intro wN hF; (try simp only [List.set_cons_zero, List.set_cons_succ, List.eraseIdx_cons_zero, List.eraseIdx_cons_succ] at hF)) | (refine w_make0 rfl hF rfl rfl ?_; clear hF; intro gN wN hF) | (refine w_to rfl hF rfl rfl ?_; clear hF; intro hF) | (refine w_from rfl hF rfl rfl ?_; clear hF; intro hF)); (try simp only [Act.put, List.setIfInBounds_toArray, List.set_cons_zero, List.set_cons_succ, Nat.zero_add, Nat.zero_mul, Nat.reduceAdd])))
  ((try simp only [Exit.inBlock, Exit.then]); refine bodyPost_ret (w_rescs rfl hF) rfl ?_)
  exact ⟨_, rfl, A', n', c', S', rfl, hF.outA, by rw [hC, ← hd2.out]; rfl⟩
end Go.Proofs.Ytcahadkkjfijfaa

/- What memory is stays so: a store that is written to a cache, a line that goes, a line that comes. In plain Lean. -/
set_option linter.unusedVariables false
set_option linter.unusedSimpArgs false
namespace Go.Proofs.Ytcahadkkjfijfaa
open Go.RowKit

section
variable {ways : Int} {C C' : List (List Wy)}
theorem set_number {k j i i' : Nat} {ws ts : List Wy} {u v : Wy} (hR : RightP ways C) (hw : C[k]? = some ws) (hv : ws[i]? = some v) (ht : C[j]? = some ts) (hu : ts[i']? = some u) (e : u.line = v.line) : j = k := by
  have h1 := ((hR.hs k ws hw).2 i v hv).2.1
  have h2 := ((hR.hs j ts ht).2 i' u hu).2.1
  rw [← h1, ← h2, e]
theorem inC_front {k i : Nat} {ws : List Wy} {v nv : Wy} (hR : RightP ways C) (hw : C[k]? = some ws) (hv : ws[i]? = some v) (u : Wy) : InC (C.set k (frontL ws i nv)) u ↔ u = nv ∨ (InC C u ∧ u.line ≠ v.line) := by
  have hil := (List.getElem?_eq_some_iff.1 hv).1
  rw [inC_set hw, inC_same hw]
  have hrest : u ∈ ws.take i ++ ws.drop (i + 1) ↔ u ∈ ws ∧ u.line ≠ v.line := by
    constructor
    · intro h
      obtain ⟨j, hj⟩ := List.mem_iff_getElem?.1 h
      obtain ⟨j', hne, hj'⟩ : ∃ j', j' ≠ i ∧ ws[j']? = some u := by
        rcases Nat.lt_or_ge j i with hji | hji
        · rw [List.getElem?_append_left (by rw [List.length_take]; omega), List.getElem?_take_of_lt hji] at hj
          exact ⟨j, by omega, hj⟩
        · rw [List.getElem?_append_right (by rw [List.length_take]; omega), List.length_take, Nat.min_eq_left (by omega), List.getElem?_drop] at hj
          exact ⟨i + 1 + (j - i), by omega, hj⟩
      exact ⟨List.mem_of_getElem? hj', fun e => hne ((hR.hs k ws hw).lone j' i u v hj' hv e)⟩
    · rintro ⟨h, hne⟩
      rw [split_at hv] at h
      rcases List.mem_append.1 h with h | h
      · exact List.mem_append.2 (.inl h)
      · rcases List.mem_cons.1 h with rfl | h
        · exact absurd rfl hne
        · exact List.mem_append.2 (.inr h)
  have hfr : u ∈ frontL ws i nv ↔ u = nv ∨ (u ∈ ws ∧ u.line ≠ v.line) := by rw [frontL, List.mem_cons, hrest]
  rw [hfr]
  constructor
  · rintro ((h | ⟨h, h'⟩) | ⟨j, ts, i', hj, h1, h2⟩)
    · exact .inl h
    · exact .inr ⟨.inl h, h'⟩
    · exact .inr ⟨.inr ⟨j, ts, i', hj, h1, h2⟩, fun e => hj (set_number hR hw hv h1 h2 e)⟩
  · rintro (h | ⟨h | h, h'⟩)
    · exact .inl (.inl h)
    · exact .inl (.inr ⟨h, h'⟩)
    · exact .inr h
theorem inC_cons {k : Nat} {ws : List Wy} {v : Wy} (hw : C[k]? = some ws) (u : Wy) : InC (C.set k (v :: ws)) u ↔ u = v ∨ InC C u := by
  rw [inC_set hw, inC_same hw, List.mem_cons, or_assoc]
theorem inC_take {k l : Nat} {ws : List Wy} {v : Wy} (hR : RightP ways C) (hw : C[k]? = some ws) (hl : ws.length = l + 1) (hv : ws[l]? = some v) (u : Wy) : InC (C.set k (ws.take l)) u ↔ InC C u ∧ u.line ≠ v.line := by
  rw [inC_set hw, inC_same hw]
  have e : u ∈ ws.take l ↔ u ∈ ws ∧ u.line ≠ v.line := by
    constructor
    · intro h
      obtain ⟨j, hj⟩ := List.mem_iff_getElem?.1 h
      have hjl : j < l := by have := (List.getElem?_eq_some_iff.1 hj).1; rw [List.length_take] at this; omega
      rw [List.getElem?_take_of_lt hjl] at hj
      refine ⟨List.mem_of_getElem? hj, fun e => ?_⟩
      have := (hR.hs k ws hw).lone j l u v hj hv e
      omega
    · rintro ⟨h, hne⟩
      obtain ⟨j, hj⟩ := List.mem_iff_getElem?.1 h
      have hjl := (List.getElem?_eq_some_iff.1 hj).1
      have : j ≠ l := by
        rintro rfl
        rw [hv] at hj; injection hj with hj
        exact hne (by rw [hj])
      exact List.mem_of_getElem? (by rw [List.getElem?_take_of_lt (show j < l by omega)]; exact hj)
  rw [e]
  constructor
  · rintro (⟨h, h'⟩ | ⟨j, ts, i', hj, h1, h2⟩)
    · exact ⟨.inl h, h'⟩
    · exact ⟨.inr ⟨j, ts, i', hj, h1, h2⟩, fun e => hj (set_number hR hw hv h1 h2 e)⟩
  · rintro ⟨h | h, h'⟩
    · exact .inl ⟨h, h'⟩
    · exact .inr h
theorem byte_other {v : Wy} {a : Nat} (h16 : v.line % 16 = 0) (hd : v.data.size = 0 ∨ v.data.size = 16) (h : v.line ≠ a - a % 16) : v.pu.byte a = none := by
  cases e : v.pu.byte a with
  | none => rfl
  | some b => exact absurd (byte_line h16 hd e) h
theorem putB_byte {v : Wy} {x a : Nat} {bytes : ByteArray} (hl : v.line = x - x % 16) (ha : v.line = a - a % 16) (hd : v.data.size = 16) (hf : x % 16 + bytes.size ≤ 16) :
    (Wy.pu ⟨v.line, true, putB v.data (x % 16) bytes⟩).byte a = ((⟨x, bytes⟩ : Pu).byte a).or (v.pu.byte a) := by
  have hb : (bl bytes).length = bytes.size := bl_len _
  have hdl : (bl v.data).length = 16 := by rw [bl_len, hd]
  unfold Pu.byte Wy.pu
  dsimp only
  rw [if_pos (show v.line ≤ a by omega), if_pos (show v.line ≤ a by omega)]
  have e : bl (putB v.data (x % 16) bytes) = (bl v.data).take (x % 16) ++ bl bytes ++ (bl v.data).drop (x % 16 + bytes.size) := putB_list _ _ _
  rw [e]
  by_cases h1 : a - v.line < x % 16
  · rw [List.append_assoc, List.getElem?_append_left (by rw [List.length_take, hdl]; omega), List.getElem?_take_of_lt h1, if_neg (by omega), Option.none_or]
  · rw [if_pos (show x ≤ a by omega)]
    by_cases h2 : a - x < bytes.size
    · rw [List.getElem?_append_left (by rw [List.length_append, List.length_take, hdl, hb]; omega), List.getElem?_append_right (by rw [List.length_take]; omega), List.length_take, hdl,
        show a - v.line - min (x % 16) 16 = a - x by omega, List.getElem?_eq_getElem (by rw [hb]; exact h2), Option.some_or]
    · rw [List.getElem?_append_right (by rw [List.length_append, List.length_take, hdl, hb]; omega), List.length_append, List.length_take, hdl, hb, List.getElem?_drop,
        show x % 16 + bytes.size + (a - v.line - (min (x % 16) 16 + bytes.size)) = a - v.line by omega, List.getElem?_eq_none (show (bl bytes).length ≤ a - x by omega), Option.none_or]
theorem WriteR.right {x : Nat} {bytes : ByteArray} {ok : Bool} (h : WriteR ways C x bytes C' ok) (hR : RightP ways C) : RightP ways C' := by
  cases h with
  | no k i h he hb => subst he; exact hR
  | bad k i h ws v hw hv hd he hb => subst he; exact hR
  | yes k i h ws v hw hv hd hf he hb =>
    subst he
    exact hR.set_ (frontL_ok (hR.hs k ws hw) hv rfl (.inr (by show (putB v.data (x % 16) bytes).size = 16; rw [putB_size (by omega), hd])))
theorem write_lines {x : Nat} {bytes : ByteArray} (h : WriteR ways C x bytes C' true) (hR : RightP ways C) (a : Nat) : lastL (linesL C') a = ((⟨x, bytes⟩ : Pu).byte a).or (lastL (linesL C) a) := by
  have hR' := h.right hR
  cases h with
  | no k i h he hb => cases hb
  | bad k i h ws v hw hv hd he hb => cases hb
  | yes k i h ws v hw hv hd hf he hb =>
    subst he
    obtain ⟨_, _, ws', v', hw', hv', hvl, _⟩ := h.at_
    rw [hw] at hw'; injection hw' with hw'; subst hw'
    rw [hv] at hv'; injection hv' with hv'; subst hv'
    by_cases ha : v.line = a - a % 16
    · rw [lines_has hR' ((inC_front hR hw hv _).2 (.inl rfl)) (show v.line = _ from ha), lines_has hR ⟨k, ws, i, hw, hv⟩ ha]
      exact putB_byte hvl ha hd hf
    · have e : (⟨x, bytes⟩ : Pu).byte a = none := by
        unfold Pu.byte
        split
        · rename_i h1
          dsimp only at h1 ⊢
          refine List.getElem?_eq_none ?_
          rw [bl_len]; omega
        · rfl
      rw [e, Option.none_or]
      refine lines_same hR' hR fun u hu => ?_
      rw [inC_front hR hw hv]
      constructor
      · rintro (h | h)
        · exact absurd (by rw [h] at hu; exact hu) ha
        · exact h.1
      · intro h; exact .inr ⟨h, fun e => ha (by rw [← e]; exact hu)⟩
theorem touch_lines {x : Nat} (h : TouchR ways C x C') (hR : RightP ways C) (a : Nat) : lastL (linesL C') a = lastL (linesL C) a := by
  have hR' := h.right hR
  cases h with
  | no k i h he => subst he; rfl
  | yes k i h ws v hw hv he =>
    subst he
    refine lines_same hR' hR fun u hu => ?_
    rw [inC_front hR hw hv]
    have hv' : InC C v := ⟨k, ws, i, hw, hv⟩
    constructor
    · rintro (h | h)
      · rw [h]; exact hv'
      · exact h.1
    · intro h
      by_cases e : u.line = v.line
      · exact .inl (hR.uniq h hv' e)
      · exact .inr ⟨h, e⟩
theorem take_lines {k l : Nat} {ws : List Wy} {v : Wy} (hR : RightP ways C) (hw : C[k]? = some ws) (hl : ws.length = l + 1) (hv : ws[l]? = some v) (a : Nat) : lastL (linesL C) a = (lastL (linesL (C.set k (ws.take l))) a).or (v.pu.byte a) := by
  have hR' : RightP ways (C.set k (ws.take l)) := hR.set_ (take_ok (hR.hs k ws hw) l)
  have hin : InC C v := ⟨k, ws, l, hw, hv⟩
  by_cases ha : v.line = a - a % 16
  · rw [lines_has hR hin ha, lines_not hR' fun u hu e => ((inC_take hR hw hl hv u).1 hu).2 (e.trans ha.symm), Option.none_or]
  · rw [byte_other (hR.way hin).1 (hR.way hin).2 ha, Option.or_none]
    refine lines_same hR hR' fun u hu => ?_
    rw [inC_take hR hw hl hv]
    exact ⟨fun h => ⟨h, fun e => ha (by rw [← e]; exact hu)⟩, fun h => h.1⟩
theorem cons_lines {k : Nat} {ws : List Wy} {v : Wy} (hR : RightP ways C) (hw : C[k]? = some ws) (hR' : RightP ways (C.set k (v :: ws))) (hn : ∀ u, InC C u → u.line ≠ v.line) (a : Nat) : lastL (linesL (C.set k (v :: ws))) a = (v.pu.byte a).or (lastL (linesL C) a) := by
  have hin : InC (C.set k (v :: ws)) v := (inC_cons hw v).2 (.inl rfl)
  by_cases ha : v.line = a - a % 16
  · rw [lines_has hR' hin ha, lines_not hR fun u hu e => hn u hu (e.trans ha.symm), Option.or_none]
  · rw [byte_other (hR'.way hin).1 (hR'.way hin).2 ha, Option.none_or]
    refine lines_same hR' hR fun u hu => ?_
    rw [inC_cons hw]
    constructor
    · rintro (h | h)
      · exact absurd (by rw [h] at hu; exact hu) ha
      · exact h
    · exact .inr
end

section
variable {ways : Int} {C C' : List (List Wy)} {q : List Rq} {m : List UInt8} {ss : List Pu}
/-- a store that is written to a line that the cache has -/
theorem all_write {s : Pu} (h : WriteR ways C s.addr s.data C' true) (hR : RightP ways C) : allL ss C' q m = allL (s :: ss) C q m := by
  refine overL_congr fun a _ => ?_
  rw [lastL_append, lastL_append, lastL_append, lastL_append, write_lines h hR]
  simp only [lastL, Option.or_assoc]
/-- a line that goes to the bus -/
theorem all_evict {k l : Nat} {ws : List Wy} {v : Wy} (hR : RightP ways C) (hw : C[k]? = some ws) (hl : ws.length = l + 1) (hv : ws[l]? = some v) (left : Int) : allL ss (C.set k (ws.take l)) (q ++ [⟨4, v.line, left, v.data⟩]) m = allL ss C q m := by
  refine overL_congr fun a _ => ?_
  have e : writesL (q ++ [⟨4, v.line, left, v.data⟩]) = writesL q ++ [v.pu] := by rw [writesL_append]; simp [writesL, Wy.pu]
  rw [e, lastL_append, lastL_append, lastL_append, lastL_append, lastL_append, take_lines hR hw hl hv a, Option.or_assoc]
  simp [lastL]
theorem all_touch {x : Nat} (h : TouchR ways C x C') (hR : RightP ways C) : allL ss C' q m = allL ss C q m := by
  refine overL_congr fun a _ => ?_
  rw [lastL_append, lastL_append, lastL_append, lastL_append, touch_lines h hR]
theorem overL_congr2 {m : List UInt8} {a b : List Pu} (h : ∀ k c, m[k]? = some c → (lastL a k).getD c = (lastL b k).getD c) : overL m a = overL m b := by
  apply List.ext_getElem?
  intro k
  rw [overL_at, overL_at]
  cases hk : m[k]? with
  | none => rfl
  | some c => rw [Option.map_some, Option.map_some, h k c hk]
/-- a line's byte, as it was cut out of memory -/
theorem cut_byte {v : Wy} {a : Nat} {c : UInt8} (hc : m[a]? = some c) (h : bl v.data = cutL (belowL q m) v.line) (h16 : v.line % 16 = 0) : v.pu.byte a = none ∨ v.pu.byte a = some ((lastL (writesL q) a).getD c) := by
  unfold Pu.byte
  split
  · rename_i h1
    by_cases h2 : a - v.line < 16
    · right
      show (bl v.data)[a - v.line]? = _
      rw [h, cutL, List.getElem?_take_of_lt h2, List.getElem?_drop, belowL, overL_at]
      simp only [Wy.pu] at h1
      rw [show v.line - v.line % 16 + (a - v.line) = a by omega, hc]
      rfl
    · left
      refine List.getElem?_eq_none ?_
      show (bl v.data).length ≤ _
      rw [h, cutL, List.length_take]
      simp only [Wy.pu] at *
      omega
  · exact .inl rfl
/-- a line that comes, as memory below has it -/
theorem all_cons {k : Nat} {ws : List Wy} {v : Wy} {q0 : List Rq} (hR : RightP ways C) (hw : C[k]? = some ws) (hR' : RightP ways (C.set k (v :: ws))) (hn : ∀ u, InC C u → u.line ≠ v.line) (h : bl v.data = [] ∨ bl v.data = cutL (belowL q0 m) v.line)
    (hq : ∀ a, a - a % 16 = v.line → lastL (writesL q) a = lastL (writesL q0) a) : allL ss (C.set k (v :: ws)) q m = allL ss C q m := by
  refine overL_congr2 fun a c hc => ?_
  have hin : InC (C.set k (v :: ws)) v := (inC_cons hw v).2 (.inl rfl)
  rw [lastL_append, lastL_append, lastL_append, lastL_append, cons_lines hR hw hR' hn]
  cases lastL ss a with
  | some b => rfl
  | none =>
    rw [Option.none_or, Option.none_or]
    by_cases ha : v.line = a - a % 16
    · rw [lines_not hR fun u hu e => hn u hu (e.trans ha.symm), Option.or_none, Option.none_or]
      rcases h with h | h
      · have : v.pu.byte a = none := by
          unfold Pu.byte
          split
          · show (bl v.data)[_]? = none
            rw [h]; rfl
          · rfl
        rw [this, Option.none_or]
      · rcases cut_byte hc h (hR'.way hin).1 with e | e
        · rw [e, Option.none_or]
        · rw [e, hq a ha.symm]; rfl
    · rw [byte_other (hR'.way hin).1 (hR'.way hin).2 ha, Option.none_or]
/-- a line that goes, as memory below has it -/
theorem all_take {k l : Nat} {ws : List Wy} {v : Wy} (hR : RightP ways C) (hw : C[k]? = some ws) (hl : ws.length = l + 1) (hv : ws[l]? = some v) (h : bl v.data = cutL (belowL q m) v.line) : allL ss (C.set k (ws.take l)) q m = allL ss C q m := by
  refine overL_congr2 fun a c hc => ?_
  have hin : InC C v := ⟨k, ws, l, hw, hv⟩
  rw [lastL_append, lastL_append, lastL_append, lastL_append, take_lines hR hw hl hv]
  cases lastL ss a with
  | some b => rfl
  | none =>
    rw [Option.none_or, Option.none_or]
    cases lastL (linesL (C.set k (ws.take l))) a with
    | some b => rfl
    | none =>
      rw [Option.none_or, Option.none_or]
      rcases cut_byte hc h (hR.way hin).1 with e | e
      · rw [e, Option.none_or]
      · rw [e]; rfl
end

/-- what Bring makes of a cache and a row of requests -/
inductive BringR (ways : Int) (C : List (List Wy)) (q : List Rq) (m : List UInt8) (x : Nat) (left : Int) (C' : List (List Wy)) (q' : List Rq) (b : Bool) : Prop
  | no (h : ¬ RightP ways C) (he : C' = C) (hq : q' = q) (hb : b = false)
  | hit (k i : Nat) (h : FindR ways C x k i true) (ht : TouchR ways C x C') (hq : q' = q) (hb : b = false)
  | put (k i : Nat) (hR : RightP ways C) (h : FindR ways C x k i false) (D : ByteArray) (hD : bl D = cutL (belowL q m) x) (gone : Wy) (went : Bool) (hp : PutR ways C x D false C' gone went)
      (hb : b = (went && (gone.dirty && decide (gone.data.size ≠ 0)))) (hq : q' = if b then q ++ [⟨4, gone.line, max left 1, gone.data⟩] else q)
theorem bring_ex (ways : Int) (C : List (List Wy)) (q : List Rq) (m : List UInt8) (x : Nat) (left : Int) : ∃ C' q' b, BringR ways C q m x left C' q' b := by
  by_cases hR : RightP ways C
  · obtain ⟨k, i, b, h⟩ := find_ex ways C x
    cases b
    · obtain ⟨C', gone, went, hp⟩ := put_ex ways C x ⟨(cutL (belowL q m) x).toArray⟩ false
      exact ⟨C', _, _, .put k i hR h _ (bl_mk' _) gone went hp rfl rfl⟩
    · obtain ⟨C', ht⟩ := touch_ex ways C x
      exact ⟨C', q, false, .hit k i h ht rfl rfl⟩
  · exact ⟨C, q, false, .no hR rfl rfl rfl⟩
section
variable {ways : Int} {C C' : List (List Wy)} {q q' : List Rq} {m : List UInt8} {ss : List Pu} {x : Nat} {left : Int} {b : Bool}
theorem BringR.right (h : BringR ways C q m x left C' q' b) (hR : RightP ways C) : RightP ways C' := by
  cases h with
  | no h he hq hb => exact absurd hR h
  | hit k i h ht hq hb => exact ht.right hR
  | put k i hR h D hD gone went hp hb hq => exact hp.right hR
theorem trimD_bl {D : ByteArray} : bl (trimD D) = [] ∨ bl (trimD D) = bl D := by
  unfold trimD
  split
  · exact .inr rfl
  · exact .inl rfl
/-- bringing a line changes nothing of what memory is -/
theorem BringR.all (h : BringR ways C q m x left C' q' b) (hR : RightP ways C) (hc : ∀ v, InC C v → v.data.size ≠ 0 ∧ (v.dirty = false → bl v.data = cutL (belowL q m) v.line)) : allL ss C' q' m = allL ss C q m := by
  cases h with
  | no h he hq hb => exact absurd hR h
  | hit k i h ht hq hb => subst hq; exact all_touch ht hR
  | put k i hR h D hD gone went hp hb hq =>
    have hnew : bl (trimD D) = [] ∨ bl (trimD D) = cutL (belowL q m) (x - x % 16) := by
      rcases trimD_bl (D := D) with e | e
      · exact .inl e
      · right
        rw [e, hD, cutL, cutL, show x - x % 16 - (x - x % 16) % 16 = x - x % 16 by omega]
    have hR' := hp.right hR
    cases hp with
    | no h he hg hb => exact absurd hR h
    | hit k' i' h' ws v hw hv he hg hb => obtain ⟨_, _, e⟩ := h.det h'; cases e
    | room k' i' _ h' ws hw hl he hg hb' =>
      subst he hb'
      rw [Bool.false_and] at hb
      subst hb
      rw [if_neg (by decide)] at hq
      subst hq
      refine all_cons hR hw hR' (fun u hu e => ?_) hnew fun a _ => rfl
      obtain ⟨j, us, j', hus, hu⟩ := hu
      have hk := (h'.set_ hR).1
      have h2 := ((hR.hs j us hus).2 j' u hu).2.1
      obtain rfl : j = k' := by rw [← h2, ← hk, e]; show (x - x % 16) / 16 % _ = _; congr 1; omega
      rw [hw] at hus; injection hus with hus; subst hus
      exact h'.notIn hR hw u (List.mem_of_getElem? hu) e
    | full k' i' _ h' ws hw hl l hl1 hgv he hb' =>
      subst he hb'
      have hkl := (List.getElem?_eq_some_iff.1 hw).1
      have hin : InC C gone := ⟨k', ws, l, hw, hgv⟩
      obtain ⟨hsz, hcl⟩ := hc gone hin
      have hne : ∀ u, InC C u → u.line ≠ x - x % 16 := by
        rintro u ⟨j, us, j', hus, hu⟩ e
        have hk := (h'.set_ hR).1
        have h2 := ((hR.hs j us hus).2 j' u hu).2.1
        obtain rfl : j = k' := by rw [← h2, ← hk, e]; show (x - x % 16) / 16 % _ = _; congr 1; omega
        rw [hw] at hus; injection hus with hus; subst hus
        exact h'.notIn hR hw u (List.mem_of_getElem? hu) e
      have hRm : RightP ways (C.set k' (ws.take l)) := hR.set_ (take_ok (hR.hs k' ws hw) l)
      have hwm : (C.set k' (ws.take l))[k']? = some (ws.take l) := List.getElem?_set_self hkl
      have e2 : C.set k' (⟨x - x % 16, false, trimD D⟩ :: ws.take l) = (C.set k' (ws.take l)).set k' (⟨x - x % 16, false, trimD D⟩ :: ws.take l) := by rw [List.set_set]
      rw [e2] at hR' ⊢
      have hnm : ∀ u, InC (C.set k' (ws.take l)) u → u.line ≠ x - x % 16 := fun u hu => hne u ((inC_take hR hw hl1 hgv u).1 hu).1
      rw [Bool.true_and] at hb
      cases hd : gone.dirty
      · rw [hd, Bool.false_and] at hb
        subst hb
        rw [if_neg (by decide)] at hq
        subst hq
        rw [all_cons hRm hwm hR' hnm hnew fun a _ => rfl]
        exact all_take hR hw hl1 hgv (hcl hd)
      · rw [hd, Bool.true_and, decide_eq_true hsz] at hb
        subst hb
        rw [if_pos rfl] at hq
        subst hq
        rw [all_cons (q0 := q) hRm hwm hR' hnm hnew fun a ha => ?_]
        · exact all_evict hR hw hl1 hgv _
        · have e : writesL (q ++ [⟨4, gone.line, max left 1, gone.data⟩]) = writesL q ++ [gone.pu] := by rw [writesL_append]; simp [writesL, Wy.pu]
          rw [e, lastL_snoc, byte_other (hR.way hin).1 (hR.way hin).2 (by rw [ha]; exact hne gone hin), Option.none_or]
theorem BringR.first (h : BringR ways C q m x left C' q' b) (hR : RightP ways C) : ∃ k, FindR ways C' x k 0 true := by
  cases h with
  | no h he hq hb => exact absurd hR h
  | hit k i h ht hq hb =>
    rcases ht.find hR h with ⟨_, h1⟩ | ⟨h1, _⟩
    · exact ⟨_, h1⟩
    · cases h1
  | put k i hR h D hD gone went hp hb hq => exact hp.first hR
/-- brought twice is brought once -/
theorem BringR.twice (h : BringR ways C q m x left C' q' b) (hR : RightP ways C) : BringR ways C' q' m x left C' q' false := by
  obtain ⟨k, hk⟩ := h.first hR
  obtain ⟨D, hD⟩ := touch_ex ways C' x
  obtain rfl := hD.first hk
  exact .hit k 0 hk hD rfl rfl
theorem BringR.cok (h : BringR ways C q m x left C' q' b) (ho : COk C) (hx : x < 4294967296) (hm : m.length ≤ maxLen) : COk C' := by
  cases h with
  | no h he hq hb => subst he; exact ho
  | hit k i h ht hq hb => exact ht.cok ho
  | put k i hR h D hD gone went hp hb hq =>
    refine hp.cok ho hx ?_
    have : (bl D).length ≤ m.length := by rw [hD, cutL, List.length_take, List.length_drop, belowL_len]; omega
    rw [bl_len] at this
    omega
theorem TouchR.line (h : TouchR ways C x C') : TouchR ways C (x - x % 16) C' := by
  cases h with
  | no k i h he => exact .no k i h.line he
  | yes k i h ws v hw hv he => exact .yes k i h.line ws v hw hv he
theorem PutR.lineB {data : ByteArray} {dirty : Bool} {gone : Wy} {went : Bool} (h : PutR ways C x data dirty C' gone went) : PutR ways C (x - x % 16) data dirty C' gone went := by
  have e : x - x % 16 - (x - x % 16) % 16 = x - x % 16 := by omega
  cases h with
  | no h he hg hb => exact .no h he hg hb
  | hit k i h ws v hw hv he hg hb => exact .hit k i h.line ws v hw hv he hg hb
  | room k i hR h ws hw hl he hg hb => exact .room k i hR h.line ws hw hl (by rw [e]; exact he) hg hb
  | full k i hR h ws hw hl l hl1 hgv he hb => exact .full k i hR h.line ws hw hl l hl1 hgv (by rw [e]; exact he) hb
end
/-- what Drain makes of stores and a cache -/
inductive DrainR (ways : Int) (ss : List Pu) (C : List (List Wy)) (ss' : List Pu) (C' : List (List Wy)) (b : Bool) : Prop
  | none (h : ss = []) (hs : ss' = ss) (he : C' = C) (hb : b = false)
  | no (s : Pu) (r : List Pu) (h : ss = s :: r) (hw : WriteR ways C s.addr s.data C false) (hs : ss' = ss) (he : C' = C) (hb : b = false)
  | yes (s : Pu) (r : List Pu) (h : ss = s :: r) (hw : WriteR ways C s.addr s.data C' true) (hs : ss' = r) (hb : b = true)
theorem WriteR.same {ways : Int} {C C' : List (List Wy)} {x : Nat} {bytes : ByteArray} (h : WriteR ways C x bytes C' false) : C' = C := by
  cases h with
  | no k i h he hb => exact he
  | bad k i h ws v hw hv hd he hb => exact he
  | yes k i h ws v hw hv hd hf he hb => cases hb
theorem drain_ex (ways : Int) (ss : List Pu) (C : List (List Wy)) : ∃ ss' C' b, DrainR ways ss C ss' C' b := by
  cases ss with
  | nil => exact ⟨_, _, _, .none rfl rfl rfl rfl⟩
  | cons s r =>
    obtain ⟨C', ok, h⟩ := write_ex ways C s.addr s.data
    cases ok
    · obtain rfl := h.same
      exact ⟨_, _, _, .no s r rfl h rfl rfl rfl⟩
    · exact ⟨_, _, _, .yes s r rfl h rfl rfl⟩
section
variable {ways : Int} {C C' : List (List Wy)} {q : List Rq} {m : List UInt8} {ss ss' : List Pu} {b : Bool}
theorem DrainR.right (h : DrainR ways ss C ss' C' b) (hR : RightP ways C) : RightP ways C' := by
  cases h with
  | none h hs he hb => subst he; exact hR
  | no s r h hw hs he hb => subst he; exact hR
  | yes s r h hw hs hb => exact hw.right hR
theorem DrainR.all (h : DrainR ways ss C ss' C' b) (hR : RightP ways C) : allL ss' C' q m = allL ss C q m := by
  cases h with
  | none h hs he hb => subst he hs; rfl
  | no s r h hw hs he hb => subst he hs; rfl
  | yes s r h hw hs hb => subst hs h; exact all_write hw hR
theorem WriteR.cok {x : Nat} {bytes : ByteArray} {ok : Bool} (h : WriteR ways C x bytes C' ok) (ho : COk C) : COk C' := by
  cases h with
  | no k i h he hb => subst he; exact ho
  | bad k i h ws v hw hv hd he hb => subst he; exact ho
  | yes k i h ws v hw hv hd hf he hb =>
    subst he
    have := ho.at_ hw
    refine ho.set k fun u hu => ?_
    rcases List.mem_cons.1 hu with rfl | hu
    · exact ⟨(this v (List.mem_of_getElem? hv)).1, by show (putB v.data (x % 16) bytes).size ≤ maxLen; rw [putB_size (by omega), hd]; decide⟩
    · rcases List.mem_append.1 hu with h | h
      · exact this u (List.mem_of_mem_take h)
      · exact this u (List.mem_of_mem_drop h)
theorem DrainR.cok (h : DrainR ways ss C ss' C' b) (ho : COk C) : COk C' := by
  cases h with
  | none h hs he hb => subst he; exact ho
  | no s r h hw hs he hb => subst he; exact ho
  | yes s r h hw hs hb => exact hw.cok ho
end
end Go.Proofs.Ytcahadkkjfijfaa
