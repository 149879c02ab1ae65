/- Bytes written into a line of a cache, of the program and of the document. -/
import Derived.Test.YtcahadkkjfijfaaCPlain2
import Derived.Test.YtcahadkkjfijfaaStM2
set_option linter.unusedVariables false
set_option linter.unusedSimpArgs false
set_option maxRecDepth 100000
namespace Go.Proofs.Ytcahadkkjfijfaa
open Go.RowKit Go.Sort

/-- bytes put into others, from a place on -/
def putB (d : ByteArray) (f : Nat) (b : ByteArray) : ByteArray := d.extract 0 f ++ b ++ d.extract (f + b.size) d.size
theorem putB_list (d : ByteArray) (f : Nat) (b : ByteArray) : (putB d f b).data.toList = d.data.toList.take f ++ b.data.toList ++ d.data.toList.drop (f + b.size) := by
  simp only [putB, ByteArray.data_append, Array.toList_append, cut_list, List.drop_zero]
  congr 1
  rw [List.take_of_length_le (by simp)]
theorem putB_size {d : ByteArray} {f : Nat} {b : ByteArray} (h : f + b.size ≤ d.size) : (putB d f b).size = d.size := by
  have := congrArg List.length (putB_list d f b)
  simp only [List.length_append, List.length_take, List.length_drop, str_len] at this
  omega
/-- what Write makes of a cache, and whether it is done -/
inductive WriteR (ways : Int) (C : List (List Wy)) (x : Nat) (bytes : ByteArray) (C' : List (List Wy)) (ok : Bool) : Prop
  | no (k i : Nat) (h : FindR ways C x k i false) (he : C' = C) (hb : ok = false)
  | bad (k i : Nat) (h : FindR ways C x k i true) (ws : List Wy) (v : Wy) (hw : C[k]? = some ws) (hv : ws[i]? = some v) (hd : v.data.size = 0 ∨ v.data.size = 16 ∧ 16 < x % 16 + bytes.size) (he : C' = C) (hb : ok = false)
  | yes (k i : Nat) (h : FindR ways C x k i true) (ws : List Wy) (v : Wy) (hw : C[k]? = some ws) (hv : ws[i]? = some v) (hd : v.data.size = 16) (hf : x % 16 + bytes.size ≤ 16)
      (he : C' = C.set k (frontL ws i ⟨v.line, true, putB v.data (x % 16) bytes⟩)) (hb : ok = true)
theorem write_ex (ways : Int) (C : List (List Wy)) (x : Nat) (bytes : ByteArray) : ∃ C' ok, WriteR ways C x bytes C' ok := by
  obtain ⟨k, i, b, h⟩ := find_ex ways C x
  cases b
  · exact ⟨_, _, .no k i h rfl rfl⟩
  · obtain ⟨_, _, ws, v, hw, hv, _⟩ := h.at_
    rcases h.size hw hv with hs | hs
    · exact ⟨_, _, .bad k i h ws v hw hv (.inl hs) rfl rfl⟩
    · by_cases hf : x % 16 + bytes.size ≤ 16
      · exact ⟨_, _, .yes k i h ws v hw hv hs hf rfl rfl⟩
      · exact ⟨_, _, .bad k i h ws v hw hv (.inr ⟨hs, by omega⟩) rfl rfl⟩

set_option maxHeartbeats 8000000 in
theorem Write_no (ways : Int) (A : Option Addr) (n c x : Nat) (bytes : ByteArray) (S : List Cs) (k i : Nat) (w : World) (hr : RdS w w.heap.size A n c S) (HF : Hid (FindC 33 ways A n c x S k i false)) :
    Calls Try.prog 44 #[.agg #[.int .i64 ways, .slice A n c], .int .u32 (x : Int), .string bytes] w fun e w' => e = .returned (.tuple #[.agg #[.int .i64 ways, .slice A n c], .bool false]) ∧ Bel w w' := by
  have hF := St.start w _ (cacheD_ok hr)
  unfold cacheD at hF
  go_enter Try.func44, Try.ntmps44
  go_wp2_with (first | (go_at_call 33; refine (HF.out _ (rds_of (hF.dat _ (by ((repeat (first | exact List.Mem.head _ | refine List.Mem.tail _ ?_)) <;> exact List.Mem.head _))) (hF.dat _ (by ((repeat (first | exact List.Mem.head _ | refine List.Mem.tail _ ?_)) <;> exact List.Mem.head _))))).mono ?_; rintro e wN ⟨rfl, hb⟩; replace hF := hF.grow hb; clear hb) | ((first | (refine w_box rfl hF rfl ?_; clear hF; intro gN wN hF) | (refine w_alloc rfl hF ?_; clear hF; intro gN wN hF) | (refine w_ld1 rfl hF rfl ?_) | (refine w_ld rfl hF rfl ?_) | (refine w_st1 rfl hF rfl rfl ?_; clear hF; intro wN hF; (try simp only [List.set_cons_zero, List.set_cons_succ, List.eraseIdx_cons_zero, List.eraseIdx_cons_succ] at hF)) | (refine w_st rfl hF rfl rfl ?_; clear hF; intro wN hF; (try simp only [List.set_cons_zero, List.set_cons_succ, List.eraseIdx_cons_zero, List.eraseIdx_cons_succ] at hF)) | (refine w_fldB rfl rfl ?_) | (refine w_fld rfl hF rfl ?_) | (refine w_ix rfl hF rfl rfl ?_) | (refine w_lde1 rfl hF rfl ?_) | (refine w_lde rfl hF rfl ?_) | (refine w_bs1 rfl hF rfl ?_; clear hF; intro gN wN hF) | (refine w_bs0 rfl hF ?_; clear hF; intro gN wN hF) | (refine w_app rfl hF rfl rfl ?_; clear hF; intro vN wN hF; (try simp only [List.set_cons_zero, List.set_cons_succ, List.eraseIdx_cons_zero, List.eraseIdx_cons_succ] at hF)) | (refine w_appD rfl hF rfl rfl ?_; clear hF; intro vN wN hF; (try simp only [List.set_cons_zero, List.set_cons_succ, List.eraseIdx_cons_zero, List.eraseIdx_cons_succ] at hF)) | (refine w_ld1o rfl hF rfl ?_) | (refine w_st1o rfl hF rfl rfl ?_; clear hF; intro wN hF; (try simp only [List.set_cons_zero, List.set_cons_succ, List.eraseIdx_cons_zero, List.eraseIdx_cons_succ] at hF)) | (refine w_make0 rfl hF rfl rfl ?_; clear hF; intro gN wN hF) | (refine w_to rfl hF rfl rfl ?_; clear hF; intro hF) | (refine w_from rfl hF rfl rfl ?_; clear hF; intro hF)); (try simp only [Act.put, List.setIfInBounds_toArray, List.set_cons_zero, List.set_cons_succ, Nat.zero_add, Nat.zero_mul, Nat.reduceAdd])))
  ((try simp only [Exit.inBlock, Exit.then]); refine bodyPost_ret (w_rescs rfl hF) rfl ?_)
  exact ⟨rfl, hF.bel⟩
/-- what the two walks through a line that is there have in common -/
theorem WriteFacts {x : Nat} (w : World) (hx : x < 4294967296) : ∃ lo f, x - x % 16 = lo ∧ x % 16 = f ∧ f < 16 ∧ (x : Int) - (lo : Int) = (f : Int) ∧ Hid (∀ W, Calls Try.prog 67 #[.int .u32 (x : Int)] W fun e w' => e = .returned (.int .u32 (lo : Int)) ∧ ∃ d, w' = W.drewN d) :=
  ⟨_, _, rfl, rfl, by omega, by omega, Lib.hid fun W => LineOf_any x W hx⟩
set_option maxHeartbeats 8000000 in
theorem Write_bad (ways : Int) (A : Option Addr) (n c x : Nat) (bytes : ByteArray) (S : List Cs) (k i : Nat) (ws : List Wy) (v : Wy) (w : World) (hr : RdS w w.heap.size A n c S) (hx : x < 4294967296) (hbs : bytes.size ≤ maxLen) (hk : k < n) (hset : (cont S)[k]? = some ws) (hv : ws[i]? = some v)
    (hd : v.data.size = 0 ∨ v.data.size = 16 ∧ 16 < x % 16 + bytes.size) (HF : Hid (FindC 33 ways A n c x S k i true)) :
    Calls Try.prog 44 #[.agg #[.int .i64 ways, .slice A n c], .int .u32 (x : Int), .string bytes] w fun e w' => e = .returned (.tuple #[.agg #[.int .i64 ways, .slice A n c], .bool false]) ∧ Bel w w' := by
  have hF := St.start w _ (cacheD_ok hr)
  unfold cacheD at hF
  obtain ⟨sA, m, sc, hS⟩ := set_of hset
  have hF := hF.elem (List.Mem.tail _ (List.Mem.head _)) hS
  simp only at hF
  have hse := (hF.rd (List.Mem.head _)).wyslen
  have hat := (List.getElem?_eq_some_iff.1 hv).1
  have hc1 := hr.rd.le
  have hc2 := hr.rd.mx
  have hm1 := (hF.rd (List.Mem.head _)).le
  have hm2 := (hF.rd (List.Mem.head _)).mx
  unfold maxLen at hbs hc2 hm2
  clear hset
  obtain ⟨lo, f, hlo, hf, hf16, hxi, HL⟩ := WriteFacts w hx
  rw [hf] at hd
  have him : i < m := by omega
  clear hlo hf
  go_enter Try.func44, Try.ntmps44
  rcases hd with h0 | ⟨h16, hlong⟩
  · have hemp := isEmpty_yes h0
    clear h0
    go_wp2_with (first | (go_at_call 33; refine (HF.out _ (rds_of (hF.dat _ (by ((repeat (first | exact List.Mem.head _ | refine List.Mem.tail _ ?_)) <;> exact List.Mem.head _))) (hF.dat _ (by ((repeat (first | exact List.Mem.head _ | refine List.Mem.tail _ ?_)) <;> exact List.Mem.head _))))).mono ?_; rintro e wN ⟨rfl, hb⟩; replace hF := hF.grow hb; clear hb) | (go_at_call 67; refine (HL.out _).mono ?_; rintro e wN ⟨rfl, d, rfl⟩; replace hF := hF.grow (Bel.drewN _ d)) | ((first | (refine w_box rfl hF rfl ?_; clear hF; intro gN wN hF) | (refine w_alloc rfl hF ?_; clear hF; intro gN wN hF) | (refine w_ld1 rfl hF rfl ?_) | (refine w_ld rfl hF rfl ?_) | (refine w_st1 rfl hF rfl rfl ?_; clear hF; intro wN hF; (try simp only [List.set_cons_zero, List.set_cons_succ, List.eraseIdx_cons_zero, List.eraseIdx_cons_succ] at hF)) | (refine w_st rfl hF rfl rfl ?_; clear hF; intro wN hF; (try simp only [List.set_cons_zero, List.set_cons_succ, List.eraseIdx_cons_zero, List.eraseIdx_cons_succ] at hF)) | (refine w_fldB rfl rfl ?_) | (refine w_fld rfl hF rfl ?_) | (refine w_ix rfl hF rfl rfl ?_) | (refine w_lde1 rfl hF rfl ?_) | (refine w_lde rfl hF rfl ?_) | (refine w_bs1 rfl hF rfl ?_; clear hF; intro gN wN hF) | (refine w_bs0 rfl hF ?_; clear hF; intro gN wN hF) | (refine w_app rfl hF rfl rfl ?_; clear hF; intro vN wN hF; (try simp only [List.set_cons_zero, List.set_cons_succ, List.eraseIdx_cons_zero, List.eraseIdx_cons_succ] at hF)) | (refine w_appD rfl hF rfl rfl ?_; clear hF; intro vN wN hF; (try simp only [List.set_cons_zero, List.set_cons_succ, List.eraseIdx_cons_zero, List.eraseIdx_cons_succ] at hF)) | (refine w_ld1o rfl hF rfl ?_) | (refine w_st1o rfl hF rfl rfl ?_; clear hF; intro wN hF; (try simp only [List.set_cons_zero, List.set_cons_succ, List.eraseIdx_cons_zero, List.eraseIdx_cons_succ] at hF)) | (refine w_make0 rfl hF rfl rfl ?_; clear hF; intro gN wN hF) | (refine w_to rfl hF rfl rfl ?_; clear hF; intro hF) | (refine w_from rfl hF rfl rfl ?_; clear hF; intro hF)); (try simp only [Act.put, List.setIfInBounds_toArray, List.set_cons_zero, List.set_cons_succ, Nat.zero_add, Nat.zero_mul, Nat.reduceAdd])))
    ((try simp only [Exit.inBlock, Exit.then]); refine bodyPost_ret (w_rescs rfl hF) rfl ?_)
    exact ⟨rfl, hF.bel⟩
  · have hemp := isEmpty_no (d := v.data) (by omega)
    have hlg : (16 : Int) - (f : Int) < (bytes.size : Int) := by omega
    clear h16
    go_wp2_with (first | (go_at_call 33; refine (HF.out _ (rds_of (hF.dat _ (by ((repeat (first | exact List.Mem.head _ | refine List.Mem.tail _ ?_)) <;> exact List.Mem.head _))) (hF.dat _ (by ((repeat (first | exact List.Mem.head _ | refine List.Mem.tail _ ?_)) <;> exact List.Mem.head _))))).mono ?_; rintro e wN ⟨rfl, hb⟩; replace hF := hF.grow hb; clear hb) | (go_at_call 67; refine (HL.out _).mono ?_; rintro e wN ⟨rfl, d, rfl⟩; replace hF := hF.grow (Bel.drewN _ d)) | ((first | (refine w_box rfl hF rfl ?_; clear hF; intro gN wN hF) | (refine w_alloc rfl hF ?_; clear hF; intro gN wN hF) | (refine w_ld1 rfl hF rfl ?_) | (refine w_ld rfl hF rfl ?_) | (refine w_st1 rfl hF rfl rfl ?_; clear hF; intro wN hF; (try simp only [List.set_cons_zero, List.set_cons_succ, List.eraseIdx_cons_zero, List.eraseIdx_cons_succ] at hF)) | (refine w_st rfl hF rfl rfl ?_; clear hF; intro wN hF; (try simp only [List.set_cons_zero, List.set_cons_succ, List.eraseIdx_cons_zero, List.eraseIdx_cons_succ] at hF)) | (refine w_fldB rfl rfl ?_) | (refine w_fld rfl hF rfl ?_) | (refine w_ix rfl hF rfl rfl ?_) | (refine w_lde1 rfl hF rfl ?_) | (refine w_lde rfl hF rfl ?_) | (refine w_bs1 rfl hF rfl ?_; clear hF; intro gN wN hF) | (refine w_bs0 rfl hF ?_; clear hF; intro gN wN hF) | (refine w_app rfl hF rfl rfl ?_; clear hF; intro vN wN hF; (try simp only [List.set_cons_zero, List.set_cons_succ, List.eraseIdx_cons_zero, List.eraseIdx_cons_succ] at hF)) | (refine w_appD rfl hF rfl rfl ?_; clear hF; intro vN wN hF; (try simp only [List.set_cons_zero, List.set_cons_succ, List.eraseIdx_cons_zero, List.eraseIdx_cons_succ] at hF)) | (refine w_ld1o rfl hF rfl ?_) | (refine w_st1o rfl hF rfl rfl ?_; clear hF; intro wN hF; (try simp only [List.set_cons_zero, List.set_cons_succ, List.eraseIdx_cons_zero, List.eraseIdx_cons_succ] at hF)) | (refine w_make0 rfl hF rfl rfl ?_; clear hF; intro gN wN hF) | (refine w_to rfl hF rfl rfl ?_; clear hF; intro hF) | (refine w_from rfl hF rfl rfl ?_; clear hF; intro hF)); (try simp only [Act.put, List.setIfInBounds_toArray, List.set_cons_zero, List.set_cons_succ, Nat.zero_add, Nat.zero_mul, Nat.reduceAdd])))
    ((try simp only [Exit.inBlock, Exit.then]); refine bodyPost_ret (w_rescs rfl hF) rfl ?_)
    exact ⟨rfl, hF.bel⟩
set_option maxHeartbeats 8000000 in
theorem Write_yes (ways : Int) (A : Option Addr) (n c x : Nat) (bytes : ByteArray) (S : List Cs) (k i : Nat) (ws : List Wy) (v : Wy) (w : World) (hr : RdS w w.heap.size A n c S) (hx : x < 4294967296) (hbs : bytes.size ≤ maxLen) (hn : n ≤ 1000) (hk : k < n) (hset : (cont S)[k]? = some ws) (hws : ws.length ≤ 1000) (hv : ws[i]? = some v)
    (hd : v.data.size = 16) (hfit : x % 16 + bytes.size ≤ 16) (HF : Hid (FindC 33 ways A n c x S k i true)) :
    Calls Try.prog 44 #[.agg #[.int .i64 ways, .slice A n c], .int .u32 (x : Int), .string bytes] w fun e w' => ∃ y, e = .returned (.tuple #[y, .bool true]) ∧ CRes w (cacheD A n c S) ways y w' ((cont S).set k (frontL ws i ⟨v.line, true, putB v.data (x % 16) bytes⟩)) := by
  have hF := St.start w _ (cacheD_ok hr)
  unfold cacheD at hF
  obtain ⟨sA, m, sc, hS⟩ := set_of hset
  have hF := hF.elem (List.Mem.tail _ (List.Mem.head _)) hS
  simp only at hF
  have hse := (hF.rd (List.Mem.head _)).wyslen
  have hat := (List.getElem?_eq_some_iff.1 hv).1
  have hc1 := hr.rd.le
  have hc2 := hr.rd.mx
  have hm1 := (hF.rd (List.Mem.head _)).le
  have hm2 := (hF.rd (List.Mem.head _)).mx
  unfold maxLen at hbs hc2 hm2
  clear hset
  obtain ⟨lo, f, hlo, hf, hf16, hxi, HL⟩ := WriteFacts w hx
  rw [hf] at hfit ⊢
  have him : i < m := by omega
  clear hlo hf
  obtain ⟨d2, hd2⟩ : ∃ d2, putB v.data f bytes = d2 := ⟨_, rfl⟩
  rw [hd2]
  have hemp := isEmpty_no (d := v.data) (by omega)
  have hlg : ¬ ((16 : Int) - (f : Int) < (bytes.size : Int)) := by omega
  have hf1 : f ≤ v.data.size := by omega
  obtain ⟨e, he⟩ : ∃ e, e = f + bytes.size := ⟨_, rfl⟩
  have hf2 : e ≤ v.data.size := by omega
  have hcast : (f : Int) + (bytes.size : Int) = (e : Int) := by omega
  have hd2 : v.data.extract 0 f ++ bytes ++ v.data.extract e v.data.size = d2 := by rw [← hd2, he]; rfl
  replace he := Lib.hid he
  have hd16 : v.data.size ≤ 16 := by omega
  have hb16 : bytes.size ≤ 16 := by omega
  replace hd := Lib.hid hd
  replace hd2 := Lib.hid hd2
  go_enter Try.func44, Try.ntmps44
  go_wp2_with (first | (go_at_call 33; refine (HF.out _ (rds_of (hF.dat _ (by ((repeat (first | exact List.Mem.head _ | refine List.Mem.tail _ ?_)) <;> exact List.Mem.head _))) (hF.dat _ (by ((repeat (first | exact List.Mem.head _ | refine List.Mem.tail _ ?_)) <;> exact List.Mem.head _))))).mono ?_; rintro e wN ⟨rfl, hb⟩; replace hF := hF.grow hb; clear hb) | (go_at_call 67; refine (HL.out _).mono ?_; rintro e wN ⟨rfl, d, rfl⟩; replace hF := hF.grow (Bel.drewN _ d)) | (go_at_call 65; refine (front_own _ _ _ ws i v _ (hF.rd (by ((repeat (first | exact List.Mem.head _ | refine List.Mem.tail _ ?_)) <;> exact List.Mem.head _))) (by omega) hv).mono ?_; rintro e wN ⟨xF, rfl, hb, ho⟩; replace hF := hF.pushOwn hb ho; clear hb ho; obtain ⟨gS, cS, rfl, hcS, hmS⟩ := hF.ownSome at0 (by omega); rw [show wys (frontL ws i v) = Value.int .u32 (v.line : Int) :: .bool v.dirty :: .string v.data :: wys (ws.take i ++ ws.drop (i + 1)) from rfl] at hF) | ((first | (refine w_box rfl hF rfl ?_; clear hF; intro gN wN hF) | (refine w_alloc rfl hF ?_; clear hF; intro gN wN hF) | (refine w_ld1 rfl hF rfl ?_) | (refine w_ld rfl hF rfl ?_) | (refine w_st1 rfl hF rfl rfl ?_; clear hF; intro wN hF; (try simp only [List.set_cons_zero, List.set_cons_succ, List.eraseIdx_cons_zero, List.eraseIdx_cons_succ] at hF)) | (refine w_st rfl hF rfl rfl ?_; clear hF; intro wN hF; (try simp only [List.set_cons_zero, List.set_cons_succ, List.eraseIdx_cons_zero, List.eraseIdx_cons_succ] at hF)) | (refine w_fldB rfl rfl ?_) | (refine w_fld rfl hF rfl ?_) | (refine w_ix rfl hF rfl rfl ?_) | (refine w_lde1 rfl hF rfl ?_) | (refine w_lde rfl hF rfl ?_) | (refine w_bs1 rfl hF rfl ?_; clear hF; intro gN wN hF) | (refine w_bs0 rfl hF ?_; clear hF; intro gN wN hF) | (refine w_app rfl hF rfl rfl ?_; clear hF; intro vN wN hF; (try simp only [List.set_cons_zero, List.set_cons_succ, List.eraseIdx_cons_zero, List.eraseIdx_cons_succ] at hF)) | (refine w_appD rfl hF rfl rfl ?_; clear hF; intro vN wN hF; (try simp only [List.set_cons_zero, List.set_cons_succ, List.eraseIdx_cons_zero, List.eraseIdx_cons_succ] at hF)) | (refine w_ld1o rfl hF rfl ?_) | (refine w_st1o rfl hF rfl rfl ?_; clear hF; intro wN hF; (try simp only [List.set_cons_zero, List.set_cons_succ, List.eraseIdx_cons_zero, List.eraseIdx_cons_succ] at hF)) | (refine w_make0 rfl hF rfl rfl ?_; clear hF; intro gN wN hF) | (refine w_to rfl hF rfl rfl ?_; clear hF; intro hF) | (refine w_from rfl hF rfl rfl ?_; clear hF; intro hF)); (try simp only [Act.put, List.setIfInBounds_toArray, List.set_cons_zero, List.set_cons_succ, Nat.zero_add, Nat.zero_mul, Nat.reduceAdd])))
  refine wp_region_st (by kernel_rfl) hF [] [] (by ((repeat (first | exact subn_nil | refine subn_cons (by ((repeat (first | exact List.Mem.head _ | refine List.Mem.tail _ ?_)) <;> exact List.Mem.head _)) ?_)) <;> exact subn_nil)) (by ((repeat (first | exact subn_nil | refine subn_cons (by ((repeat (first | exact List.Mem.head _ | refine List.Mem.tail _ ?_)) <;> exact List.Mem.head _)) ?_)) <;> exact subn_nil)) ?_
  clear hF; intro hF hH
  (refine w_take (i := 0) rfl (y_move rfl rfl) hH ?_); (try simp only [Act.put, List.setIfInBounds_toArray, List.set_cons_zero, List.set_cons_succ, Nat.zero_add, Nat.zero_mul, Nat.reduceAdd])
  (refine w_take (i := 1) rfl (y_move rfl rfl) hH ?_); (try simp only [Act.put, List.setIfInBounds_toArray, List.set_cons_zero, List.set_cons_succ, Nat.zero_add, Nat.zero_mul, Nat.reduceAdd])
  (refine w_take (i := 2) rfl (y_move rfl rfl) hH ?_); (try simp only [Act.put, List.setIfInBounds_toArray, List.set_cons_zero, List.set_cons_succ, Nat.zero_add, Nat.zero_mul, Nat.reduceAdd])
  (first | refine w_take (i := 3) rfl (y_to rfl rfl rfl) hH ?_ | refine w_take (i := 3) rfl (y_from rfl rfl rfl) hH ?_ | refine w_take (i := 3) rfl (y_strto rfl rfl rfl) hH ?_ | refine w_take (i := 3) rfl (y_strfrom rfl rfl rfl) hH ?_); (try simp only [Act.put, List.setIfInBounds_toArray, List.set_cons_zero, List.set_cons_succ, Nat.zero_add, Nat.zero_mul, Nat.reduceAdd])
  (refine w_take (i := 4) rfl (y_move rfl rfl) hH ?_); (try simp only [Act.put, List.setIfInBounds_toArray, List.set_cons_zero, List.set_cons_succ, Nat.zero_add, Nat.zero_mul, Nat.reduceAdd])
  first | (refine w_take (i := 5) rfl (y_stradd rfl rfl rfl) hH ?_; (try simp only [Act.put, List.setIfInBounds_toArray, List.set_cons_zero, List.set_cons_succ, Nat.zero_add, Nat.zero_mul, Nat.reduceAdd])) | (refine w_take (i := 5) rfl (y_addi rfl rfl rfl) hH ?_; (try simp only [Act.put, List.setIfInBounds_toArray, List.set_cons_zero, List.set_cons_succ, Nat.zero_add, Nat.zero_mul, Nat.reduceAdd])) | (refine rg_take (i := 5) (v := ?_) rfl rfl (by kernel_rfl) (by kernel_rfl) (by kernel_rfl) (fun _ _ _ h => h) ?_ hH ?_; rotate_left; (first | exact yi_eq y_skip (by rfl) | (refine yi_pure (by rfl) ?_; intro w; go_simp; done) | (refine yi_pure (by rfl) ?_; intro w; go_simp; with_reducible rfl) | (refine yi_pure (by rfl) ?_; intro w; simp only [Wy.cells]; go_simp; with_reducible rfl)); (try simp only [Act.put, List.setIfInBounds_toArray, List.set_cons_zero, List.set_cons_succ, Nat.zero_add, Nat.zero_mul, Nat.reduceAdd]))
  (refine w_take (i := 6) rfl (y_move rfl rfl) hH ?_); (try simp only [Act.put, List.setIfInBounds_toArray, List.set_cons_zero, List.set_cons_succ, Nat.zero_add, Nat.zero_mul, Nat.reduceAdd])
  (refine w_take (i := 7) rfl (y_move rfl rfl) hH ?_); (try simp only [Act.put, List.setIfInBounds_toArray, List.set_cons_zero, List.set_cons_succ, Nat.zero_add, Nat.zero_mul, Nat.reduceAdd])
  (refine w_take (i := 8) rfl (y_move rfl rfl) hH ?_); (try simp only [Act.put, List.setIfInBounds_toArray, List.set_cons_zero, List.set_cons_succ, Nat.zero_add, Nat.zero_mul, Nat.reduceAdd])
  (first | refine w_take (i := 9) rfl (y_len rfl rfl) hH ?_ | refine w_take (i := 9) rfl (y_lens rfl rfl) hH ?_); (try simp only [Act.put, List.setIfInBounds_toArray, List.set_cons_zero, List.set_cons_succ, Nat.zero_add, Nat.zero_mul, Nat.reduceAdd])
  first | (refine w_take (i := 10) rfl (y_stradd rfl rfl rfl) hH ?_; (try simp only [Act.put, List.setIfInBounds_toArray, List.set_cons_zero, List.set_cons_succ, Nat.zero_add, Nat.zero_mul, Nat.reduceAdd])) | (refine w_take (i := 10) rfl (y_addi rfl rfl rfl) hH ?_; (try simp only [Act.put, List.setIfInBounds_toArray, List.set_cons_zero, List.set_cons_succ, Nat.zero_add, Nat.zero_mul, Nat.reduceAdd])) | (refine rg_take (i := 10) (v := ?_) rfl rfl (by kernel_rfl) (by kernel_rfl) (by kernel_rfl) (fun _ _ _ h => h) ?_ hH ?_; rotate_left; (first | exact yi_eq y_skip (by rfl) | (refine yi_pure (by rfl) ?_; intro w; go_simp; done) | (refine yi_pure (by rfl) ?_; intro w; go_simp; with_reducible rfl) | (refine yi_pure (by rfl) ?_; intro w; simp only [Wy.cells]; go_simp; with_reducible rfl)); (try simp only [Act.put, List.setIfInBounds_toArray, List.set_cons_zero, List.set_cons_succ, Nat.zero_add, Nat.zero_mul, Nat.reduceAdd]))
  (first | refine w_take (i := 11) rfl (y_to rfl rfl rfl) hH ?_ | refine w_take (i := 11) rfl (y_from rfl rfl rfl) hH ?_ | refine w_take (i := 11) rfl (y_strto rfl rfl rfl) hH ?_ | refine w_take (i := 11) rfl (y_strfrom rfl rfl rfl) hH ?_); (try simp only [Act.put, List.setIfInBounds_toArray, List.set_cons_zero, List.set_cons_succ, Nat.zero_add, Nat.zero_mul, Nat.reduceAdd])
  first | (refine w_take (i := 12) rfl (y_stradd rfl rfl rfl) hH ?_; (try simp only [Act.put, List.setIfInBounds_toArray, List.set_cons_zero, List.set_cons_succ, Nat.zero_add, Nat.zero_mul, Nat.reduceAdd])) | (refine w_take (i := 12) rfl (y_addi rfl rfl rfl) hH ?_; (try simp only [Act.put, List.setIfInBounds_toArray, List.set_cons_zero, List.set_cons_succ, Nat.zero_add, Nat.zero_mul, Nat.reduceAdd])) | (refine rg_take (i := 12) (v := ?_) rfl rfl (by kernel_rfl) (by kernel_rfl) (by kernel_rfl) (fun _ _ _ h => h) ?_ hH ?_; rotate_left; (first | exact yi_eq y_skip (by rfl) | (refine yi_pure (by rfl) ?_; intro w; go_simp; done) | (refine yi_pure (by rfl) ?_; intro w; go_simp; with_reducible rfl) | (refine yi_pure (by rfl) ?_; intro w; simp only [Wy.cells]; go_simp; with_reducible rfl)); (try simp only [Act.put, List.setIfInBounds_toArray, List.set_cons_zero, List.set_cons_succ, Nat.zero_add, Nat.zero_mul, Nat.reduceAdd]))
  (first | refine w_take (i := 13) rfl (y_ix rfl rfl rfl) hH ?_ | refine w_take (i := 13) rfl (y_ixB rfl rfl rfl) hH ?_); (try simp only [Act.put, List.setIfInBounds_toArray, List.set_cons_zero, List.set_cons_succ, Nat.zero_add, Nat.zero_mul, Nat.reduceAdd])
  (first | refine w_take (i := 14) rfl (y_fldB rfl rfl) hH ?_ | refine w_take (i := 14) rfl (y_fld rfl rfl) hH ?_); (try simp only [Act.put, List.setIfInBounds_toArray, List.set_cons_zero, List.set_cons_succ, Nat.zero_add, Nat.zero_mul, Nat.reduceAdd])
  refine wpAnyH_ready (rs := [15]) (by kernel_rfl) (by simp) (ready_cons rfl (fun K hK => ?_) AllReadyH.nil)
  go_wp2_with ((first | (refine w_st1 rfl hF rfl rfl ?_; clear hF; intro wN hF; (try simp only [List.set_cons_zero, List.set_cons_succ, List.eraseIdx_cons_zero, List.eraseIdx_cons_succ] at hF)) | (refine w_st rfl hF rfl rfl ?_; clear hF; intro wN hF; (try simp only [List.set_cons_zero, List.set_cons_succ, List.eraseIdx_cons_zero, List.eraseIdx_cons_succ] at hF)) | (refine w_st1o rfl hF rfl rfl ?_; clear hF; intro wN hF; (try simp only [List.set_cons_zero, List.set_cons_succ, List.eraseIdx_cons_zero, List.eraseIdx_cons_succ] at hF))); (try simp only [Act.put, List.setIfInBounds_toArray, List.set_cons_zero, List.set_cons_succ, Nat.zero_add, Nat.zero_mul, Nat.reduceAdd]))
  have hH := hH.nextA hF; refine hK.out _ _ hH ?_; clear hK; (try simp only [Act.put, List.setIfInBounds_toArray, List.set_cons_zero, List.set_cons_succ, Nat.zero_add, Nat.zero_mul, Nat.reduceAdd])
  refine wpAnyH_done (by kernel_rfl) ?_ _
  go_wp2_with (first | (go_at_call 66; obtain ⟨A2, c2, hfz, hF⟩ := hF.freeze 0 at0; injection hfz with hfz1 _ hfz2; subst hfz1 hfz2; (try simp only [List.eraseIdx_cons_zero] at hF); refine (with_st ways A n c S k _ m _ (⟨v.line, true, v.data.extract 0 f ++ bytes ++ v.data.extract e v.data.size⟩ :: (ws.take i ++ ws.drop (i + 1))) _ (rds_of (hF.dat _ (by ((repeat (first | exact List.Mem.head _ | refine List.Mem.tail _ ?_)) <;> exact List.Mem.head _))) (hF.dat _ (by ((repeat (first | exact List.Mem.head _ | refine List.Mem.tail _ ?_)) <;> exact List.Mem.head _)))) hn hk (hF.dat _ (by ((repeat (first | exact List.Mem.head _ | refine List.Mem.tail _ ?_)) <;> exact List.Mem.head _)))).mono ?_; rintro e wN ⟨_, rfl, A', n', c', S', rfl, hO, hC⟩; replace hF := hF.callA hO; clear hO) | (refine w_ixB rfl rfl rfl ?_) | ((first | (refine w_box rfl hF rfl ?_; clear hF; intro gN wN hF) | (refine w_alloc rfl hF ?_; clear hF; intro gN wN hF) | (refine w_ld1 rfl hF rfl ?_) | (refine w_ld rfl hF rfl ?_) | (refine w_st1 rfl hF rfl rfl ?_; clear hF; intro wN hF; (try simp only [List.set_cons_zero, List.set_cons_succ, List.eraseIdx_cons_zero, List.eraseIdx_cons_succ] at hF)) | (refine w_st rfl hF rfl rfl ?_; clear hF; intro wN hF; (try simp only [List.set_cons_zero, List.set_cons_succ, List.eraseIdx_cons_zero, List.eraseIdx_cons_succ] at hF)) | (refine w_fldB rfl rfl ?_) | (refine w_fld rfl hF rfl ?_) | (refine w_ix rfl hF rfl rfl ?_) | (refine w_lde1 rfl hF rfl ?_) | (refine w_lde rfl hF rfl ?_) | (refine w_bs1 rfl hF rfl ?_; clear hF; intro gN wN hF) | (refine w_bs0 rfl hF ?_; clear hF; intro gN wN hF) | (refine w_app rfl hF rfl rfl ?_; clear hF; intro vN wN hF; (try simp only [List.set_cons_zero, List.set_cons_succ, List.eraseIdx_cons_zero, List.eraseIdx_cons_succ] at hF)) | (refine w_appD rfl hF rfl rfl ?_; clear hF; intro vN wN hF; (try simp only [List.set_cons_zero, List.set_cons_succ, List.eraseIdx_cons_zero, List.eraseIdx_cons_succ] at hF)) | (refine w_ld1o rfl hF rfl ?_) | (refine w_st1o rfl hF rfl rfl ?_; clear hF; intro wN hF; (try simp only [List.set_cons_zero, List.set_cons_succ, List.eraseIdx_cons_zero, List.eraseIdx_cons_succ] at hF)) | (refine w_make0 rfl hF rfl rfl ?_; clear hF; intro gN wN hF) | (refine w_to rfl hF rfl rfl ?_; clear hF; intro hF) | (refine w_from rfl hF rfl rfl ?_; clear hF; intro hF)); (try simp only [Act.put, List.setIfInBounds_toArray, List.set_cons_zero, List.set_cons_succ, Nat.zero_add, Nat.zero_mul, Nat.reduceAdd])))
  ((try simp only [Exit.inBlock, Exit.then]); refine bodyPost_ret (w_rescs rfl hF) rfl ?_)
  exact ⟨_, rfl, A', n', c', S', rfl, hF.outA, by rw [hC, ← hd2.out]; rfl⟩
end Go.Proofs.Ytcahadkkjfijfaa
