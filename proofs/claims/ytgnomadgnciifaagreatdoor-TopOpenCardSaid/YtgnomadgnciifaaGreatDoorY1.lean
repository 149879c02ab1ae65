/- . -/
import Derived.Test.YtgnomadgnciifaaGreatDoorZ30
import Derived.Deep.CutBlock
set_option linter.unusedVariables false
set_option linter.unusedSimpArgs false
set_option linter.unusedSectionVars false
set_option maxRecDepth 100000
set_option maxHeartbeats 16000000
namespace Go.Proofs.YtgnomadgnciifaaGreatDoor
theorem f1b {p : Prop} (h : p := by
 have hH:=zx0 hH hF;refine hK.out _ _ hH ?_;clear hK;(try simp only [zA,Nat.reduceAdd])
 refine zry 9 (fun K hK=>?_)
 go_wp2_with ((first|(refine w_app rfl hF rfl rfl ?_;clear hF;intro vN wN hF;(try simp only [zF] at hF))|(refine w_appD rfl hF rfl rfl ?_;clear hF;intro vN wN hF;(try simp only [zF] at hF)));(try simp only [zA,Nat.reduceAdd]))
 have hH:=zx0 hH hF;refine hK.out _ _ hH ?_;clear hK;(try simp only [zA,Nat.reduceAdd])
 refine zk1 10 hH ?_
 refine zry 11 (fun K hK=>?_)
 go_wp2_with ((first|fail|(refine w_st1 rfl hF rfl rfl ?_;clear hF;intro wN hF;(try simp only [zF] at hF))|(refine w_st rfl hF rfl rfl ?_;clear hF;intro wN hF;(try simp only [zF] at hF))|(refine w_st1o rfl hF rfl rfl ?_;clear hF;intro wN hF;(try simp only [zF] at hF)));(try simp only [zA,Nat.reduceAdd]))
 have hH:=zx0 hH hF;refine hK.out _ _ hH ?_;clear hK;(try simp only [zA,Nat.reduceAdd])
 refine zrz ?_
 (go_wp2_with ((try simp only [zA,Nat.reduceAdd]);(first|go_big_skip|((refine w_box (cs:=mcells k s) rfl hF rfl ?_);clear hF;intro gK wN hF;(try simp only [zA,Nat.reduceAdd]))|(refine w_alloc (ty:=92) (cs:=[.slice none 0 0,.slice none 0 0,.slice none 0 0,.slice none 0 0]) rfl hF ?_;clear hF;intro gR wN hF;(try simp only [zA,Nat.reduceAdd]))));go_roundw;(case rel=>exact ⟨i+1,_,by omega,by rw [← hbi];go_num,by rw [hsu.out] at hF;exact hF⟩);(case measure=>first|(simp [intOf];done)|(simp [intOf];omega)))) : p := h
theorem c6r {p : Prop} (h : p := by
 have hH:=zx0 hH hF;refine hK.out _ _ hH ?_;clear hK;(try simp only [zA,Nat.reduceAdd])
 (refine a9c (i:=10) (v:=?_) rfl rfl (by kernel_rfl) (by kernel_rfl) (by kernel_rfl) (fun _ _ _ h=>h) ?_ hH ?_;rotate_left;(first|exact a6t a4g (by rfl)|(refine a1u (by rfl) ?_;intro w;go_simp;done)|(refine a1u (by rfl) ?_;intro w;go_simp;with_reducible rfl)|(refine a1u (by rfl) ?_;intro w;simp only [Wy.cells];go_simp;with_reducible rfl));(try simp only [zA,Nat.reduceAdd]))
 refine zrz ?_
 go_wp2_with ((try simp only [zA,Nat.reduceAdd]);(first|go_big_skip))
 go_roundw
 case rel=>exact ⟨k+1,by omega,by go_num,hF⟩
 case measure=>first|(simp [intOf];done)|(simp [intOf];omega)) : p := h
theorem f1c {p : Prop} (h : p := by
 have hH:=zx0 hH hF;refine hK.out _ _ hH ?_;clear hK;(try simp only [zA,Nat.reduceAdd])
 refine zry 8 (fun K hK=>?_)
 go_wp2_with (first|(first|refine w_ld1 (hv:=hcell.out) rfl hF rfl ?_|refine w_ld1 (hv:=hcell1.out) rfl hF rfl ?_)|((first|refine zrd ?_|(refine zst ?_;clear hF;(first|intro gN wN hF|intro wN hF|intro hF))|(refine zap ?_;clear hF;intro vN wN hF));(try simp only [zA,Nat.reduceAdd])))
 have hH:=zx0 hH hF;refine hK.out _ _ hH ?_;clear hK;(try simp only [zA,Nat.reduceAdd])
 refine zk2 9 hH ?_
 refine zry 10 (fun K hK=>?_)
 go_wp2_with ((first|(refine w_st1 rfl hF rfl rfl ?_;clear hF;intro wN hF;(try simp only [zF] at hF))|(refine w_st rfl hF rfl rfl ?_;clear hF;intro wN hF;(try simp only [zF] at hF))|(refine w_st1o rfl hF rfl rfl ?_;clear hF;intro wN hF;(try simp only [zF] at hF)));(try simp only [zA,Nat.reduceAdd]))
 have hH:=zx0 hH hF;refine hK.out _ _ hH ?_;clear hK;(try simp only [zA,Nat.reduceAdd])
 refine zrz ?_
 (go_wp2_with (first|((first|refine zrd ?_|(refine zst ?_;clear hF;(first|intro gN wN hF|intro wN hF|intro hF))|(refine zap ?_;clear hF;intro vN wN hF));(try simp only [zA,Nat.reduceAdd])));go_roundw;(case rel=>exact ⟨j+1,_,by omega,by go_num,by (try rw [Nat.mul_one] at hF);rw [List.set_set,hts.out] at hF;exact hF.drop 0⟩);(case measure=>first|(simp [intOf];done)|(simp [intOf];omega)))) : p := h
theorem f1d {p : Prop} (h : p := by
 have hH:=zx0 hH hF;refine hK.out _ _ hH ?_;clear hK;(try simp only [zA,Nat.reduceAdd])
 refine zry 5 (fun K hK=>?_)
 go_wp2_with ((go_at_call 109;refine (HT2.out _ hF.rds).mono ?_;rintro x wN ⟨_,rfl,A2,n2,c2,S2,rfl,hO,hC2⟩;replace hF:=hF.callA hO;clear hO))
 have hH:=zx0 hH hF;refine hK.out _ _ hH ?_;clear hK;(try simp only [zA,Nat.reduceAdd])
 (refine a9c (i:=6) (v:=?_) rfl rfl (by kernel_rfl) (by kernel_rfl) (by kernel_rfl) (fun _ _ _ h=>h) ?_ hH ?_;rotate_left;(first|exact a6t a4g (by rfl)|(refine a1u (by rfl) ?_;intro w;go_simp;done)|(refine a1u (by rfl) ?_;intro w;go_simp;with_reducible rfl)|(refine a1u (by rfl) ?_;intro w;simp only [Wy.cells];go_simp;with_reducible rfl));(try simp only [zA,Nat.reduceAdd]))
 refine zry 8 (fun K hK=>?_)
 go_wp2_with (((refine w_st rfl hF rfl rfl ?_;clear hF;intro wN hF;(try simp only [zF] at hF));(try simp only [zA,Nat.reduceAdd])))
 have hH:=zx0 hH hF;refine hK.out _ _ hH ?_;clear hK;(try simp only [zA,Nat.reduceAdd])
 refine zrz ?_
 (go_wp2;go_meet;exact ⟨_,_,_,_,_,_,_,_,_,rfl,Lib.hid hC1,Lib.hid hC2,hF.lessA _⟩)) : p := h
theorem b7q {p : Prop} (h : p := by
 go_wp2_with ((try simp only [zA,Nat.reduceAdd]);(first|go_big_skip))
 go_ret
 exact ⟨rfl,hF.bel⟩) : p := h
section
open Go.RowKit
theorem h8d (p q:List Wy):wys (p++q)=wys p++wys q:=by simp [wys]
end
section
open Go.RowKit Go.Sort
def b2o (v:Wy):Wy:=⟨v.line,v.dirty,⟨#[]⟩⟩
def a7t (C:List (List Wy)):List (List Wy):=C.map (List.map b2o)
def c6s (w:World) (D0:List Da) (v:Value) (w':World) (C:List (List Wy)):Prop :=
 ∃ A n c S,v = .slice A n c∧Out w D0 w' [a1a 1 A n c (csv S),a1l S]∧a1j S=C
theorem h8e {ws:List Wy} {j:Nat} {v:Wy} (h:ws[j]?=some v):wys ((ws.take j).map b2o)++[.int .u32 (v.line:Int),.bool v.dirty,.string ⟨#[]⟩]=wys ((ws.take (j+1)).map b2o):=by
 obtain ⟨hl,e⟩:=List.getElem?_eq_some_iff.1 h
 rw [List.take_succ_eq_append_getElem hl,List.map_append,h8d,e]
 simp [wys,b2o,Wy.cells]
theorem h8f {C T:List (List Wy)} {k:Nat} {ws:List Wy} (h:T.take k=a7t (C.take k)) (hw:C[k]?=some ws) (hk:k<T.length):(T.set k (ws.map b2o)).take (k+1)=a7t (C.take (k+1)):=by
 obtain ⟨hl,e⟩:=List.getElem?_eq_some_iff.1 hw
 rw [List.take_succ_eq_append_getElem (by rw [List.length_set];exact hk),List.take_succ_eq_append_getElem hl,e,List.take_set_of_le (Nat.le_refl _),h]
 simp [a7t]
theorem h8g (ways:Int) (A:Option Addr) (n c:Nat) (S:List Cs) (w:World) (hr:RdS w w.heap.size A n c S) (hn:n≤1000) (hws:∀ ws∈a1j S,ws.length≤1000) (HR:Hid (b2d 120 ways A n c S true)) :
  Calls Tryz.prog 109 #[.agg #[.int .i64 ways,.slice A n c]] w fun e w'=>∃ y,e = .returned y∧c6s w (a3k A n c S) y w' (a7t (a1j S)):=by
 have hF:=St.start w _ (a6j hr)
 unfold a3k at hF
 have hsl:=hr.slen
 have hc1:=hr.rd.le
 have hc2:=hr.rd.mx
 unfold maxLen at hc2
 replace hws:=Lib.hid hws
 go_enter Tryz.func109,Tryz.ntmps109
 go_wp2_with (first|(go_at_call 120;refine (HR.out _ hF.rds).mono ?_;rintro e wN ⟨rfl,hb⟩;replace hF:=hF.grow hb;clear hb)|(refine w_make n rfl hF rfl rfl ?_;clear hF;intro gN wN hF)|((first|refine zrd ?_|(refine zst ?_;clear hF;(first|intro gN wN hF|intro wN hF|intro hF))|(refine zap ?_;clear hF;intro vN wN hF));(try simp only [zA,Nat.reduceAdd])))
 obtain ⟨gT,gC,rfl,rfl⟩:=hF.names2
 rw [c4n n] at hF
 go_loopw [18] (fun i wr=>∃ (k:Nat) (T:List Cs),k≤n∧i = .int .i64 (k:Int)∧Hid (T.length=n)∧Hid ((a1j T).take k=a7t ((a1j S).take k))∧Hid (∀ j,k≤j→j<n→T[j]?=some b1m)∧St w [a1a 1 A n c (csv S),a1l S] wr [.blk gT 99 (csv T),.blk gC 35 [.int .i64 ways,.slice A n c]] [a1l T,a1a 1 A n c (csv S),a1l S]) (fun i _=>n - (intOf i).toNat)
 case atStart=>exact ⟨0,List.replicate n b1m,by omega,rfl,Lib.hid (by simp),Lib.hid (by simp [a7t]),Lib.hid (fun j _ hj=>by rw [List.getElem?_replicate];simp [hj]),hF.elemNil n⟩
 case round=>
  obtain ⟨k,T,hk,rfl,hTl,hTk,hTn,hF⟩:=hrel
  by_cases hkn:k<n
  ·obtain ⟨s,hs⟩:∃ s,S[k]?=some s:=⟨_,List.getElem?_eq_getElem (by omega)⟩
   obtain ⟨sA,m,sc,ws⟩:=s
   have hF:=hF.elemA hs
   simp only at hF
   have hse:=hF.rdA (sz:=3) (A:=sA) (n:=m) (c:=sc) (xs:=wys ws)
   have hm1:=hse.le
   have hm2:=hse.mx
   have hwl:=Lib.hid hse.wyslen
   have hset:=Lib.hid (b9z hs)
   have hm3:m≤1000:=by rw [← hwl.out];exact hws.out ws (List.mem_of_getElem? hset.out)
   unfold maxLen at hm2
   clear hse
   have hTk0:=Lib.hid (hTn.out k (Nat.le_refl _) hkn)
   have hcv0:Hid ((csv T).set k (.slice none 0 0)=csv T):=Lib.hid (by
    obtain ⟨hl,e⟩:=List.getElem?_eq_some_iff.1 hTk0.out
    have:(csv T)[k]?=some (.slice none 0 0):=by rw [c9j hl,e];rfl
    obtain ⟨hl2,e2⟩:=List.getElem?_eq_some_iff.1 this
    rw [← e2,List.set_getElem_self])
   have hTlen:k<(csv T).length:=by rw [b2z,hTl.out];exact hkn
   go_wp2_with (first|((first|refine zrd ?_|(refine zst ?_;clear hF;(first|intro gN wN hF|intro wN hF|intro hF))|(refine zap ?_;clear hF;intro vN wN hF));(try simp only [zA,Nat.reduceAdd])))
   have hF:=hF.nil 101 3
   try simp only [Nat.mul_one]
   go_loopw [25] (fun i wr=>∃ (j:Nat) (x:Value),j≤m∧i = .int .i64 (j:Int)∧St w [a1a 1 A n c (csv S),a1l S] wr [.own x 101 3 j (wys ((ws.take j).map b2o)),.blk gT 99 ((csv T).set k x),.blk gC 35 [.int .i64 ways,.slice A n c]] [a1a 3 sA m sc (wys ws),a1l T,a1a 1 A n c (csv S),a1l S]) (fun i _=>m - (intOf i).toNat)
   case atStart=>exact ⟨0,_,by omega,rfl,by rw [hcv0.out];exact hF⟩
   case round=>
    obtain ⟨j,x,hj,rfl,hF⟩:=hrel
    by_cases hjm:j<m
    ·obtain ⟨⟨ul,ud,ub⟩,hu⟩:∃ u,ws[j]?=some u:=⟨_,List.getElem?_eq_getElem (by have:=hwl.out;omega)⟩
     have hcell:Hid (((csv T).set k x)[k * 1]?=some x):=Lib.hid (by rw [Nat.mul_one,List.getElem?_set_self hTlen])
     have hcell1:Hid (((csv T).set k x)[k]?=some x):=Lib.hid (List.getElem?_set_self hTlen)
     have hoff1:k<((csv T).set k x).length:=by rw [List.length_set];exact hTlen
     have hoff:k * 1<((csv T).set k x).length:=by rw [List.length_set,Nat.mul_one];exact hTlen
     have hts:=Lib.hid (h8e hu)
     go_upto_region 11 with (first|(refine w_lde (us:=[.int .u32 (ul:Int),.bool ud,.string ub]) (hu:=Rows.sub (f:=wys) hu) rfl hF rfl ?_)|((first|(refine w_box rfl hF rfl ?_;clear hF;intro gN wN hF)|(refine w_alloc rfl hF ?_;clear hF;intro gN wN hF)|(refine w_ld1 rfl hF rfl ?_)|(refine w_ld rfl hF rfl ?_)|(refine w_st1 rfl hF rfl rfl ?_;clear hF;intro wN hF;(try simp only [zF] at hF))|(refine w_st rfl hF rfl rfl ?_;clear hF;intro wN hF;(try simp only [zF] at hF))|(refine w_fldB rfl rfl ?_)|(refine w_fld rfl hF rfl ?_)|(refine w_ix rfl hF rfl rfl ?_)|(refine w_lde1 rfl hF rfl ?_)|(refine w_lde rfl hF rfl ?_)|(refine w_bs1 rfl hF rfl ?_;clear hF;intro gN wN hF)|(refine w_bs0 rfl hF ?_;clear hF;intro gN wN hF)|(refine w_app rfl hF rfl rfl ?_;clear hF;intro vN wN hF;(try simp only [zF] at hF))|(refine w_appD rfl hF rfl rfl ?_;clear hF;intro vN wN hF;(try simp only [zF] at hF))|(refine w_ld1o rfl hF rfl ?_)|(refine w_st1o rfl hF rfl rfl ?_;clear hF;intro wN hF;(try simp only [zF] at hF))|(refine w_make0 rfl hF rfl rfl ?_;clear hF;intro gN wN hF)|(refine w_to rfl hF rfl rfl ?_;clear hF;intro hF)|(refine w_from rfl hF rfl rfl ?_;clear hF;intro hF));(try simp only [zA,Nat.reduceAdd])))
     obtain ⟨gW,rfl⟩:=hF.names1
     refine a1n (by kernel_rfl) hF [.blk gW 101 [.int .u32 (ul:Int),.bool ud,.string ⟨#[]⟩]] [] (by ((repeat (first|exact a1f|refine a1m zdm ?_)) <;> exact a1f)) (by ((repeat (first|exact a1f|refine a1m zdm ?_)) <;> exact a1f)) ?_
     clear hF;intro hF hH
     refine a1c 0 hH ?_
     refine a1c 1 hH ?_
     refine a1c 2 hH ?_
     refine a1c 3 hH ?_
     refine zk2 4 hH ?_
     refine zk0 6 hH ?_
     refine wpAnyH_ready (rs:=[5,7]) (by kernel_rfl) (by simp) (a2d rfl (fun K hK=>?_) (a2d rfl (fun K hK=>?_) AllReadyH.nil))
     ·go_wp2_with ((first|(refine w_ld1 rfl hF rfl ?_)|(refine w_ld rfl hF rfl ?_)|(refine w_lde1 rfl hF rfl ?_)|(refine w_lde rfl hF rfl ?_)|(refine w_ld1o rfl hF rfl ?_));(try simp only [zA,Nat.reduceAdd]))
      have hH:=zx0 hH hF;refine hK.out _ _ hH ?_;clear hK;(try simp only [zA,Nat.reduceAdd])
      refine zry 7 (fun K hK=>?_)
      go_wp2_with ((first|(refine w_bs1 rfl hF rfl ?_;clear hF;intro gN wN hF)|(refine w_bs0 rfl hF ?_;clear hF;intro gN wN hF));(try simp only [zA,Nat.reduceAdd]))
      exact f1c
     ·go_wp2_with ((first|(refine w_bs1 rfl hF rfl ?_;clear hF;intro gN wN hF)|(refine w_bs0 rfl hF ?_;clear hF;intro gN wN hF));(try simp only [zA,Nat.reduceAdd]))
      have hH:=zx0 hH hF;refine hK.out _ _ hH ?_;clear hK;(try simp only [zA,Nat.reduceAdd])
      refine zry 5 (fun K hK=>?_)
      go_wp2_with ((first|(refine w_ld1 rfl hF rfl ?_)|(refine w_ld rfl hF rfl ?_)|(refine w_lde1 rfl hF rfl ?_)|(refine w_lde rfl hF rfl ?_)|(refine w_ld1o rfl hF rfl ?_));(try simp only [zA,Nat.reduceAdd]))
      exact f1c
    ·obtain rfl:j=m:=by omega
     rw [List.take_of_length_le (by have:=hwl.out;omega)] at hF
     obtain ⟨A2,c2,rfl,hF⟩:=hF.freeze 0 at0
     (try simp only [zF] at hF)
     have hF:=hF.elemSet (S:=T) zdm k (A2:=A2) (n2:=j) (c2:=c2) (q2:=ws.map b2o) zdm
     go_wp2_with (first|((first|refine zrd ?_|(refine zst ?_;clear hF;(first|intro gN wN hF|intro wN hF|intro hF))|(refine zap ?_;clear hF;intro vN wN hF));(try simp only [zA,Nat.reduceAdd])))
     go_roundw
     case rel=>exact ⟨k+1,T.set k ⟨A2,j,c2,ws.map b2o⟩,by omega,by go_num,Lib.hid (by rw [List.length_set];exact hTl.out),Lib.hid (by rw [c9l];exact h8f hTk.out hset.out (by rw [a3n,hTl.out];exact hkn)),Lib.hid (fun i hi hin=>by rw [List.getElem?_set_ne (by omega)];exact hTn.out i (by omega) hin),by rw [← c9k];exact hF.lessA _⟩
     case measure=>first|(simp [intOf];done)|(simp [intOf];omega)
  ·obtain rfl:k=n:=by omega
   have hF:=hF.freezeB 0 at0 1 k k (by rw [b2z,hTl.out];omega) (Nat.le_refl _) (by unfold maxLen;omega)
   (try simp only [zF] at hF)
   go_wp2_with (first|((first|refine zrd ?_|(refine zst ?_;clear hF;(first|intro gN wN hF|intro wN hF|intro hF))|(refine zap ?_;clear hF;intro vN wN hF));(try simp only [zA,Nat.reduceAdd])))
   go_ret
   refine ⟨_,rfl,_,_,_,T,rfl,hF.outA,?_⟩
   have:=hTk.out
   rwa [List.take_of_length_le (by rw [a3n,hTl.out];exact Nat.le_refl _),List.take_of_length_le (by rw [a3n];omega)] at this
theorem h8h (ways:Int) (A:Option Addr) (n c:Nat) (S:List Cs) (w:World) (hr:RdS w w.heap.size A n c S) (HR:Hid (b2d 120 ways A n c S false)) :
  Calls Tryz.prog 109 #[.agg #[.int .i64 ways,.slice A n c]] w fun e w'=>∃ y,e = .returned y∧c6s w (a3k A n c S) y w' []:=by
 have hF:=St.start w _ (a6j hr)
 unfold a3k at hF
 go_enter Tryz.func109,Tryz.ntmps109
 go_wp2_with (first|(go_at_call 120;refine (HR.out _ hF.rds).mono ?_;rintro e wN ⟨rfl,hb⟩;replace hF:=hF.grow hb;clear hb)|((first|refine zrd ?_|(refine zst ?_;clear hF;(first|intro gN wN hF|intro wN hF|intro hF))|(refine zap ?_;clear hF;intro vN wN hF));(try simp only [zA,Nat.reduceAdd])))
 go_ret
 have hF:=(hF.nil 99 1).elemNil 0
 obtain ⟨A2,c2,h2,hF⟩:=hF.freeze 0 at0
 exact ⟨_,rfl,_,_,_,[],h2,hF.outA,rfl⟩
section
variable {ways:Int} {A:Option Addr} {n c:Nat} {S:List Cs}
def h8i (ways:Int) (C T:List (List Wy)):Prop:=(RightP ways C∧T=a7t C)∨(¬ RightP ways C∧T=[])
theorem h8j {C:List (List Wy)} (h:RightP ways C):∀ ws∈C,ws.length≤1000:=fun ws hw=>by
 obtain ⟨k,hk⟩:=List.mem_iff_getElem?.1 hw
 have:=(h.hs k ws hk).1
 have:=b2f h this
 omega
theorem f1e {T:List (List Wy)} (ho:SOk S) (h:h8i ways (a1j S) T) (w:World) (hr:RdS w w.heap.size A n c S) :
  Calls Tryz.prog 109 #[.agg #[.int .i64 ways,.slice A n c]] w fun e w'=>∃ y,e = .returned y∧c6s w (a3k A n c S) y w' T:=by
 rcases h with ⟨h,rfl⟩|⟨h,rfl⟩
 ·exact h8g ways A n c S w hr (b3o hr h) (h8j h) (Lib.hid (a8g ho (b2e h)))
 ·exact h8h ways A n c S w hr (Lib.hid (a8g ho (noR h)))
end
end
section
open Go.RowKit
theorem u32v_append (a b:List Nat):u32v (a++b)=u32v a++u32v b:=by simp [u32v]
end
section
open Go.RowKit Wd
section
variable {k:Kern}
def drA (k:Kern) (ok:Bool):Kern:=match ok,k.stores with
 | false,p::_=>if a3r k.bus (a1w p.addr) 3=false∧a4q k true=true then a3y k 3 (a1w p.addr) ⟨#[]⟩ else k
 | _,_=>k
def drB (k:Kern):Kern:=if k.stores≠[]∨k.halt=0 then k else
 if (a2r k.dways k.data).2=true∧(a2r k.dways k.data).1.data.size≠0 then { a3y k 4 (a2r k.dways k.data).1.line (a2r k.dways k.data).1.data with data:=a9g k.dways k.data (a2r k.dways k.data).1.line } else k
theorem f1f (k:Kern):a4x k=drB (drA { k with stores:=(a4f k.dways k.stores k.data).1,data:=(a4f k.dways k.stores k.data).2.1 } (a4f k.dways k.stores k.data).2.2):=rfl
end
end
section
open Go.RowKit Wd
section
variable {prog:List Nat} {k:Kern}
theorem h8k {k:Kern} (hh:k.halt=0):a1y k=match a6y (a6h k.regs (k.rob.map goE)) with
  | none=>{ k with rob:=a6h k.regs (k.rob.map goE) }
  | some i=>match (a6h k.regs (k.rob.map goE))[i]? with
   | none=>{ k with rob:=a6h k.regs (k.rob.map goE) }
   | some e=>{ k with rob:=a7p (a6h k.regs (k.rob.map goE)) i e,fetch:=e.next,fetched:=[],stop:=false }:=by
 unfold a1y
 rw [if_neg (by omega)]
 rfl
theorem h8l (k:Kern):(a1y k).retired=k.retired∧(a1y k).halt=k.halt∧(a1y k).regs=k.regs∧(a1y k).bus=k.bus∧(a1y k).mem=k.mem∧(a1y k).stores=k.stores∧(a1y k).data=k.data∧(a1y k).dways=k.dways:=by
 unfold a1y
 dsimp only
 repeat' split
 all_goals exact ⟨rfl,rfl,rfl,rfl,rfl,rfl,rfl,rfl⟩
end
end
section
open Go.RowKit Wd
def mdK (m:Int) (k:Kern):Kern:={ k with conf:={ k.conf with mode:=m } }
section
variable (m:Int) (k:Kern)
theorem h8m : a2k (mdK m k)=mdK m (a2k k):=by
 unfold a2k
 dsimp only [mdK]
 cases (a3g k.bus).2 with
 | none=>rfl
 | some d=>
  dsimp only
  by_cases h1:d.kind=1
  ·simp only [if_pos h1];rfl
  ·simp only [if_neg h1]
   by_cases h2:d.kind=2
   ·simp only [if_pos h2]
   ·simp only [if_neg h2]
    by_cases h3:d.kind=3
    ·simp only [if_pos h3];rfl
    ·simp only [if_neg h3]
     by_cases h4:d.kind=4
     ·simp only [if_pos h4]
     ·simp only [if_neg h4]
def wkF (k:Kern) (q:List En):Kern:=match a6y q with
 | none=>{ k with rob:=q }
 | some i=>match q[i]? with
  | none=>{ k with rob:=q }
  | some e=>{ k with rob:=a7p q i e,fetch:=e.next,fetched:=[],stop:=false }
theorem f1g {k:Kern} (hh:k.halt=0):a1y k=wkF k (a6h k.regs (k.rob.map goE)):=h8k hh
theorem h8n (q:List En):wkF (mdK m k) q=mdK m (wkF k q):=by
 unfold wkF
 cases a6y q with
 | none=>rfl
 | some i=>
  dsimp only
  cases q[i]? with
  | none=>rfl
  | some e=>rfl
theorem h8o : a1y (mdK m k)=mdK m (a1y k):=by
 by_cases h1:k.halt=0
 ·rw [f1g (k:=mdK m k) h1,f1g h1]
  exact h8n m k _
 ·have e1:a1y (mdK m k)=mdK m k:=by unfold a1y;exact if_pos h1
  have e2:a1y k=k:=by unfold a1y;exact if_pos h1
  rw [e1,e2]
theorem f1h {k:Kern} (hr:k.rob=[]):a2s k=(k,false):=by
 unfold a2s
 split
 ·rfl
 ·rw [hr]
def rtB (k:Kern) (s:Stp):Kern:=if a6n s=true then { k with retired:=k.retired++[s],stores:=k.stores++[⟨s.addr,a6d s.value s.size⟩] } else { k with retired:=k.retired++[s] }
def rtC (k:Kern) (e:En) (s:Stp):Kern:=if a1e e.inst.op=3 then a5u k s.addr else k
def rtD (k:Kern) (e:En) (s:Stp) (r:List En):Kern:={ k with regs:=a6i k.regs s,guess:=a4d k.guess s.pc s.next e.inst,rob:=r }
def rtH (k:Kern) (s:Stp):Kern:={ k with retired:=k.retired++[s],halt:=s.halt,rob:=[],fetched:=[],stop:=true }
theorem f1i {k:Kern} {e:En} {r:List En} (hh:k.halt=0) (hr:k.rob=e::r) (hi:e.is=3):a2s k=if (a2j e).halt≠0 then (rtH k (a2j e),false) else if (a2j e).store=true∧k.conf.stores≤(k.stores.length:Int) then (k,false) else (rtD (rtC (rtB k (a2j e)) e (a2j e)) e (a2j e) r,true):=by
 unfold a2s
 rw [if_neg (by simp [hh]),hr]
 dsimp only
 rw [if_neg (by simp [hi])]
 split
 ·rfl
 ·split
  ·rfl
  ·unfold rtB rtC rtD
   split <;> split <;> rfl
theorem f1j {k:Kern} {e:En} {r:List En} (hr:k.rob=e::r) (hi:e.is≠3):a2s k=(k,false):=by
 unfold a2s
 split
 ·rfl
 ·rw [hr]
  dsimp only
  rw [if_pos hi]
theorem f1k {k:Kern} (hh:k.halt≠0):a2s k=(k,false):=by
 unfold a2s
 exact if_pos hh
theorem h8p (s:Stp):rtB (mdK m k) s=mdK m (rtB k s):=by unfold rtB;split <;> rfl
theorem h8q (e:En) (s:Stp):rtC (mdK m k) e s=mdK m (rtC k e s):=by unfold rtC;split <;> rfl
theorem h8r : a2s (mdK m k)=(mdK m (a2s k).1,(a2s k).2):=by
 by_cases hh:k.halt=0
 ·cases hr:k.rob with
  | nil=>rw [f1h (k:=mdK m k) hr,f1h hr]
  | cons e r=>
   by_cases hi:e.is=3
   ·rw [f1i (k:=mdK m k) hh hr hi,f1i hh hr hi]
    by_cases h3:(a2j e).halt≠0
    ·rw [if_pos h3,if_pos h3];rfl
    ·rw [if_neg h3,if_neg h3]
     by_cases h4:(a2j e).store=true∧k.conf.stores≤(k.stores.length:Int)
     ·have h4':(a2j e).store=true∧(mdK m k).conf.stores≤((mdK m k).stores.length:Int):=h4
      rw [if_pos h4,if_pos h4']
     ·have h4':¬ ((a2j e).store=true∧(mdK m k).conf.stores≤((mdK m k).stores.length:Int)):=h4
      rw [if_neg h4,if_neg h4',h8p,h8q]
      rfl
   ·rw [f1j (k:=mdK m k) hr hi,f1j hr hi]
 ·rw [f1k (k:=mdK m k) hh,f1k hh]
theorem c2d {f:Kern→Kern × Bool} (hf:∀ k,f (mdK m k)=(mdK m (f k).1,(f k).2)):∀ (n:Nat) (k:Kern),a2n f n (mdK m k)=mdK m (a2n f n k)
 | 0,k=>rfl
 | n+1,k=>by
  unfold a2n
  rw [hf]
  dsimp only
  by_cases h:(f k).2=true
  ·rw [if_pos h,if_pos h];exact c2d hf n _
  ·rw [if_neg h,if_neg h]
theorem h8s : a2w (mdK m k)=mdK m (a2w k):=c2d m (fun k=>h8r m k) _ k
theorem h8t : a3u (mdK m k)=(mdK m (a3u k).1,(a3u k).2):=by
 unfold a3u
 have e1:(mdK m k).conf.rob=k.conf.rob:=rfl
 have e2:(mdK m k).rob=k.rob:=rfl
 have e3:(mdK m k).fetched=k.fetched:=rfl
 rw [e1,e2,e3]
 by_cases h1:k.conf.rob≤k.rob.length
 ·rw [if_pos h1,if_pos h1]
 ·rw [if_neg h1,if_neg h1]
  cases k.fetched with
  | nil=>rfl
  | cons f r=>rfl
theorem h8u : a3c (mdK m k)=mdK m (a3c k):=by
 unfold a3c
 have h0:(mdK m k).halt=k.halt:=rfl
 rw [h0]
 by_cases h:k.halt≠0
 ·rw [if_pos h,if_pos h]
 ·rw [if_neg h,if_neg h];exact c2d m (fun k=>h8t m k) _ k
theorem h8v (w:Nat):a2f (mdK m k) w=((a2f k w).1,mdK m (a2f k w).2):=by
 unfold a2f
 have e1:(mdK m k).conf.tables=k.conf.tables:=rfl
 have e2:(mdK m k).fetch=k.fetch:=rfl
 rw [e1,e2]
 cases a4j w with
 | none=>rfl
 | some i=>
  dsimp only
  by_cases h1:a1e i.op≠5
  ·rw [if_pos h1,if_pos h1]
  ·rw [if_neg h1,if_neg h1]
   by_cases h2:k.conf.tables=true
   ·rw [if_pos h2,if_pos h2];rfl
   ·rw [if_neg h2,if_neg h2];rfl
def wdK (k:Kern) (ws:List (List Wy)):Kern:={ k with words:=ws }
def c6t (k1:Kern) (pc w:Nat):Kern:={ (a2f k1 w).2 with fetched:=(a2f k1 w).2.fetched++[⟨pc,(a2f k1 w).1⟩],fetch:=(a2f k1 w).1 }
theorem h8w : a3v (mdK m k)=(mdK m (a3v k).1,(a3v k).2):=by
 unfold a3v
 have e1:(mdK m k).stop=k.stop:=rfl
 have e2:(mdK m k).conf.queue=k.conf.queue:=rfl
 have e3:(mdK m k).fetched=k.fetched:=rfl
 have e4:(mdK m k).fetch=k.fetch:=rfl
 have e5:(mdK m k).prog=k.prog:=rfl
 rw [e1,e2,e3,e4,e5]
 by_cases h1:k.stop=true∨k.conf.queue≤k.fetched.length
 ·rw [if_pos h1,if_pos h1]
 ·rw [if_neg h1,if_neg h1]
  cases a5f k.prog k.fetch with
  | none=>rfl
  | some w=>
   dsimp only
   have e6:(a4m (mdK m k).wways (mdK m k).words (a1w k.fetch)).2.2=(a4m k.wways k.words (a1w k.fetch)).2.2:=rfl
   rw [e6]
   by_cases h2:(a4m k.wways k.words (a1w k.fetch)).2.2=false
   ·rw [if_pos h2,if_pos h2]
    have e7:a3r (mdK m k).bus (a1w k.fetch) 2=a3r k.bus (a1w k.fetch) 2:=rfl
    have e8:a4q (mdK m k) false=a4q k false:=rfl
    rw [e7,e8]
    by_cases h3:a3r k.bus (a1w k.fetch) 2=false∧a4q k false=true
    ·rw [if_pos h3,if_pos h3];rfl
    ·rw [if_neg h3,if_neg h3]
   ·rw [if_neg h2,if_neg h2]
    show (c6t (mdK m (wdK k (a4v k.wways k.words (a1w k.fetch)))) k.fetch w,true)=(mdK m (c6t (wdK k (a4v k.wways k.words (a1w k.fetch))) k.fetch w),true)
    unfold c6t
    rw [h8v]
    rfl
theorem h8x : a2y (mdK m k)=mdK m (a2y k):=by
 unfold a2y
 have h0:(mdK m k).halt=k.halt:=rfl
 rw [h0]
 by_cases h:k.halt≠0
 ·rw [if_pos h,if_pos h]
 ·rw [if_neg h,if_neg h];exact c2d m (fun k=>h8w m k) _ k
theorem b2p {c:Prop} [Decidable c] {a b:Kern}:mdK m (if c then a else b)=if c then mdK m a else mdK m b:=by split <;> rfl
theorem h8y (ok:Bool):drA (mdK m k) ok=mdK m (drA k ok):=by
 unfold drA
 have e1:(mdK m k).stores=k.stores:=rfl
 rw [e1]
 cases ok with
 | true=>rfl
 | false=>
  cases k.stores with
  | nil=>rfl
  | cons p r=>
   dsimp only
   by_cases h:a3r k.bus (a1w p.addr) 3=false∧a4q k true=true
   ·have h':a3r (mdK m k).bus (a1w p.addr) 3=false∧a4q (mdK m k) true=true:=h
    rw [if_pos h,if_pos h'];rfl
   ·have h':¬ (a3r (mdK m k).bus (a1w p.addr) 3=false∧a4q (mdK m k) true=true):=h
    rw [if_neg h,if_neg h']
theorem h8z : drB (mdK m k)=mdK m (drB k):=by
 unfold drB
 by_cases h:k.stores≠[]∨k.halt=0
 ·have h':(mdK m k).stores≠[]∨(mdK m k).halt=0:=h
  rw [if_pos h,if_pos h']
 ·have h':¬ ((mdK m k).stores≠[]∨(mdK m k).halt=0):=h
  rw [if_neg h,if_neg h']
  by_cases h2:(a2r k.dways k.data).2=true∧(a2r k.dways k.data).1.data.size≠0
  ·have h2':(a2r (mdK m k).dways (mdK m k).data).2=true∧(a2r (mdK m k).dways (mdK m k).data).1.data.size≠0:=h2
   rw [if_pos h2,if_pos h2'];rfl
  ·have h2':¬ ((a2r (mdK m k).dways (mdK m k).data).2=true∧(a2r (mdK m k).dways (mdK m k).data).1.data.size≠0):=h2
   rw [if_neg h2,if_neg h2']
theorem h9a : a4x (mdK m k)=mdK m (a4x k):=by
 rw [f1f,f1f]
 have e:({ mdK m k with stores:=(a4f (mdK m k).dways (mdK m k).stores (mdK m k).data).1,data:=(a4f (mdK m k).dways (mdK m k).stores (mdK m k).data).2.1 }:Kern)=mdK m { k with stores:=(a4f k.dways k.stores k.data).1,data:=(a4f k.dways k.stores k.data).2.1 }:=rfl
 rw [e,h8y,h8z]
 rfl
theorem h9b (i:Nat):a3z (mdK m k) i=mdK m (a3z k i):=by
 unfold a3z
 have e1:(mdK m k).rob=k.rob:=rfl
 rw [e1]
 cases k.rob[i]? with
 | none=>rfl
 | some e=>
  dsimp only
  have e2:(mdK m k).stores=k.stores:=rfl
  have e3:b1f (mdK m k) (a1w e.addr)=b1f k (a1w e.addr):=rfl
  have e4:a7b (mdK m k) e=a7b k e:=rfl
  have e5:a3r (mdK m k).bus (a1w e.addr) 1=a3r k.bus (a1w e.addr) 1:=rfl
  have e6:a3r (mdK m k).bus (a1w e.addr) 3=a3r k.bus (a1w e.addr) 3:=rfl
  have e7:a4q (mdK m k) (decide (i≤a3p k.rob))=a4q k (decide (i≤a3p k.rob)):=rfl
  rw [e2,e3,e4,e5,e6,e7]
  rw [b2p,b2p,b2p,b2p,b2p,b2p]
  rfl
theorem h9c (i:Nat):a3h (mdK m k) i=mdK m (a3h k i):=by
 unfold a3h
 have e1:(mdK m k).rob=k.rob:=rfl
 have e2:(mdK m k).regs=k.regs:=rfl
 have e3:(mdK m k).mem=k.mem:=rfl
 rw [e1,e2,e3]
 cases k.rob[i]? with
 | none=>rfl
 | some e=>
  dsimp only
  rw [b2p,b2p]
  have:=h9b m { k with rob:=k.rob.set i (a6m e k.mem.size (a5g k.rob k.regs i).1) } i
  rw [← this]
  rfl
theorem f1l : ∀ (l:List Int) (k:Kern),l.foldl (fun k i=>a3h k i.toNat) (mdK m k)=mdK m (l.foldl (fun k i=>a3h k i.toNat) k)
 | [],k=>rfl
 | i::l,k=>by
  rw [List.foldl_cons,List.foldl_cons,h9c]
  exact f1l l _
def a4e (e:En):Prop:=a1e e.inst.op=0
theorem f1m {q:List En} {i:Nat} {e:En} (h:a4e e) (m:Int):a9l m q i e=true:=by unfold a9l;rw [if_pos (by unfold b3g;rw [h];decide)]
theorem h9d (h:AllE a4e k.rob) (i:Nat):a5v (mdK m k) i=a5v k i:=by
 unfold a5v
 have e1:(mdK m k).rob=k.rob:=rfl
 have e2:(mdK m k).regs=k.regs:=rfl
 rw [e1,e2]
 cases hi:k.rob[i]? with
 | none=>rfl
 | some e=>
  have he:=h e (List.mem_of_getElem? hi)
  dsimp only
  rw [f1m he,f1m he]
theorem h9e (h:AllE a4e k.rob):a2q (mdK m k)=mdK m (a2q k):=by
 unfold a2q
 have h0:(mdK m k).halt=k.halt:=rfl
 have h1:b9o (mdK m k)=b9o k:=rfl
 have h2:b9p (mdK m k)=b9p k:=rfl
 have h3:b7b (mdK m k)=b7b k:=by
  unfold b7b
  have e1:(mdK m k).rob=k.rob:=rfl
  rw [e1]
  exact List.map_congr_left fun i _=>h9d m k h i
 have h4:(mdK m k).conf.width=k.conf.width:=rfl
 rw [h0,h1,h2,h3,h4]
 by_cases hh:k.halt≠0
 ·rw [if_pos hh,if_pos hh]
 ·rw [if_neg hh,if_neg hh];exact f1l m _ k
end
theorem b5o : EnC0 a4e where
 go e h:=by unfold a4e at *;rw [h4k];exact h
 take e b h:=by unfold a4e at *;rw [d7u];exact h
 fill e h:=h
 start e a b h:=by unfold a4e at *;rw [d7v];exact h
 addr e n a h:=by unfold a4e at *;rw [c1y];exact h
 store e b h:=by unfold a4e at *;rw [d7w];exact h
 cut e h:=h
 bus e h:=h
section
variable (k:Kern)
theorem c6u : (a2k k).prog=k.prog:=by
 unfold a2k
 dsimp only
 repeat' split
 all_goals rfl
theorem c6v : (a1y k).prog=k.prog:=by
 unfold a1y
 dsimp only
 repeat' split
 all_goals rfl
theorem h9f : (a2s k).1.prog=k.prog:=by
 unfold a2s
 dsimp only
 repeat' split
 all_goals rfl
theorem c2e {f:Kern→Kern × Bool} (hf:∀ k,(f k).1.prog=k.prog):∀ (n:Nat) (k:Kern),(a2n f n k).prog=k.prog
 | 0,k=>rfl
 | n+1,k=>by
  unfold a2n
  split
  ·exact (c2e hf n _).trans (hf k)
  ·exact hf k
theorem c6w : (a2w k).prog=k.prog:=c2e h9f _ _
theorem h9g (i:Nat):(a3z k i).prog=k.prog:=by
 unfold a3z
 dsimp only
 repeat' split
 all_goals rfl
theorem h9h (i:Nat):(a3h k i).prog=k.prog:=by
 unfold a3h
 dsimp only
 repeat' split
 all_goals first|rfl|exact h9g _ _
theorem f1n : ∀ (l:List Int) (k:Kern),(l.foldl (fun k i=>a3h k i.toNat) k).prog=k.prog
 | [],k=>rfl
 | i::l,k=>by rw [List.foldl_cons];exact (f1n l _).trans (h9h k _)
theorem c6x : (a2q k).prog=k.prog:=by
 unfold a2q
 split
 ·rfl
 ·exact f1n _ _
theorem f1o : (a3c k).prog=k.prog:=by
 unfold a3c
 split
 ·rfl
 ·exact c2e d7r _ _
theorem h9i (w:Nat):(a2f k w).2.prog=k.prog:=by
 unfold a2f
 repeat' split
 all_goals rfl
theorem f1p : (a3v k).1.prog=k.prog:=by
 unfold a3v
 dsimp only
 repeat' split
 all_goals first|rfl|exact h9i _ _
theorem h9j : (a2y k).prog=k.prog:=by
 unfold a2y
 split
 ·rfl
 ·exact c2e f1p _ _
theorem h9k : (a4x k).prog=k.prog:=by
 unfold a4x
 dsimp only
 repeat' split
 all_goals rfl
theorem c6y : (a2z k).prog=k.prog:=by
 unfold a2z
 split
 ·rw [h9k,h9j,f1o,c6x,c6w,c6v,c6u]
 ·rfl
end
def a7e (prog:List Nat):Prop:=∀ w∈prog,∀ i,a4j w=some i→a1e i.op=0
theorem f1q {prog:List Nat} {pc w:Nat} (h:a5f prog pc=some w):w∈prog:=by
 unfold a5f at h
 split at h
 ·exact List.mem_of_getElem? h
 ·cases h
theorem h9l {prog:List Nat} (h:a7e prog) (no:Int) (f:Fe):a4e (a5n no f prog):=by
 unfold a4e a5n
 dsimp only
 split
 ·rfl
 ·rename_i w hw
  split
  ·rfl
  ·rename_i i hi
   have:=h w (f1q hw) i hi
   repeat' split
   all_goals exact this
theorem f1r {k:Kern} (hp:a7e k.prog) (h:AllE a4e k.rob):AllE a4e (a2z k).rob :=
 h.step0 b5o (fun no f=>h9l (by rw [c6x,c6w,c6v,c6u];exact hp) no f)
theorem h9m (m:Int) (hm:0≤m∧m≤2) {k:Kern} (hk:0≤k.conf.mode∧k.conf.mode≤2):a5h (mdK m k)=a5h k:=by
 have h1:a8a (mdK m k).conf=a8a k.conf:=by
  unfold a8a
  dsimp only [mdK]
  have e:a5t 0 2 m=a5t 0 2 k.conf.mode:=by unfold a5t;rw [decide_eq_true hm.1,decide_eq_true hm.2,decide_eq_true hk.1,decide_eq_true hk.2]
  rw [e]
  rfl
 unfold a5h
 rw [h1]
 rfl
theorem h9n (m:Int) (hm:0≤m∧m≤2) {k:Kern} (hk:0≤k.conf.mode∧k.conf.mode≤2) (hq:AllE a4e k.rob):a2z (mdK m k)=mdK m (a2z k):=by
 unfold a2z
 rw [h9m m hm hk]
 by_cases h:a5h k=true
 ·rw [if_pos h,if_pos h]
  have e:({ mdK m k with cycle:=(mdK m k).cycle+1 }:Kern)=mdK m { k with cycle:=k.cycle+1 }:=rfl
  have h0:AllE a4e ({ k with cycle:=k.cycle+1 }:Kern).rob:=hq
  rw [e,h8m,h8o,h8s,h9e _ _ ((h0.ticks b5o).works b5o).retires,h8u,h8x,h9a]
 ·rw [if_neg h,if_neg h]
section
variable (k:Kern)
theorem h9o : (a2k k).conf=k.conf:=by
 unfold a2k
 dsimp only
 repeat' split
 all_goals rfl
theorem h9p : (a1y k).conf=k.conf:=by
 unfold a1y
 dsimp only
 repeat' split
 all_goals rfl
theorem h9q : (a2s k).1.conf=k.conf:=by
 unfold a2s
 dsimp only
 repeat' split
 all_goals rfl
theorem c2f {f:Kern→Kern × Bool} (hf:∀ k,(f k).1.conf=k.conf):∀ (n:Nat) (k:Kern),(a2n f n k).conf=k.conf
 | 0,k=>rfl
 | n+1,k=>by
  unfold a2n
  split
  ·exact (c2f hf n _).trans (hf k)
  ·exact hf k
theorem h9r : (a2w k).conf=k.conf:=c2f h9q _ _
theorem h9s (i:Nat):(a3z k i).conf=k.conf:=by
 unfold a3z
 dsimp only
 repeat' split
 all_goals rfl
theorem h9t (i:Nat):(a3h k i).conf=k.conf:=by
 unfold a3h
 dsimp only
 repeat' split
 all_goals first|rfl|exact h9s _ _
theorem f1s : ∀ (l:List Int) (k:Kern),(l.foldl (fun k i=>a3h k i.toNat) k).conf=k.conf
 | [],k=>rfl
 | i::l,k=>by rw [List.foldl_cons];exact (f1s l _).trans (h9t k _)
theorem h9u : (a2q k).conf=k.conf:=by
 unfold a2q
 split
 ·rfl
 ·exact f1s _ _
theorem h9v : (a3u k).1.conf=k.conf:=by
 unfold a3u
 repeat' split
 all_goals rfl
theorem h9w : (a3c k).conf=k.conf:=by
 unfold a3c
 split
 ·rfl
 ·exact c2f h9v _ _
theorem h9x (w:Nat):(a2f k w).2.conf=k.conf:=by
 unfold a2f
 repeat' split
 all_goals rfl
theorem h9y : (a3v k).1.conf=k.conf:=by
 unfold a3v
 dsimp only
 repeat' split
 all_goals first|rfl|exact h9x _ _
theorem h9z : (a2y k).conf=k.conf:=by
 unfold a2y
 split
 ·rfl
 ·exact c2f h9y _ _
theorem i1a : (a4x k).conf=k.conf:=by
 unfold a4x
 dsimp only
 repeat' split
 all_goals rfl
theorem i1b : (a2z k).conf=k.conf:=by
 unfold a2z
 split
 ·rw [i1a,h9z,h9w,h9u,h9r,h9p,h9o]
 ·rfl
end
structure Sn where
 data:List (List Wy)
 words:List (List Wy)
 bus:List Rq
 pcs:List Nat
def b7r (k:Kern) (before:Nat):Sn:=⟨a7t k.data,a7t k.words,k.bus.map fun r=>⟨r.kind,r.line,0,⟨#[]⟩⟩,(k.retired.drop before).map (·.pc)⟩
def a8h : Nat→Kern→List Sn
 | 0,_=>[]
 | n+1,k=>b7r (a2z k) k.retired.length::a8h n (a2z k)
theorem f1t (m:Int) (hm:0≤m∧m≤2):∀ (n:Nat) {k:Kern},(0≤k.conf.mode∧k.conf.mode≤2)→a7e k.prog→AllE a4e k.rob→a8h n (mdK m k)=a8h n k
 | 0,k,_,_,_=>rfl
 | n+1,k,hk,hp,hq=>by
  unfold a8h
  rw [h9n m hm hk hq,f1t m hm n (by rw [i1b];exact hk) (by rw [c6y];exact hp) (f1r hp hq)]
  rfl
end
section
open Go.RowKit Wd
section
variable {ops:Array Oper} {rest:List Oper} {o:Oper} {a:Act} {Q:Exit→Act→World→Prop} {w:World}
theorem i1c {x y:Operand} {v:Wy} (ho:o.op = .binOp .eql 101 x y 101) (hx:a1b a x=some (.agg v.cells.toArray)) (hy:a1b a y=some (.agg v.cells.toArray)):(execOp a.eval o).run Tryz.prog w = .ok (.value (.bool true)) w:=by
 replace hx:=look_eval hx
 replace hy:=look_eval hy
 unfold execOp
 simp only [ho,hx,hy]
 unfold Wy.cells
 go_simp
theorem i1d {x y:Operand} {v:Rq} (ho:o.op = .binOp .eql 118 x y 118) (hx:a1b a x=some (.agg v.cells.toArray)) (hy:a1b a y=some (.agg v.cells.toArray)):(execOp a.eval o).run Tryz.prog w = .ok (.value (.bool true)) w:=by
 replace hx:=look_eval hx
 replace hy:=look_eval hy
 unfold execOp
 simp only [ho,hx,hy]
 unfold Rq.cells
 go_simp
theorem i1e {x y:Operand} {v:Wy} (ho:o.op = .binOp .eql 101 x y 101) (hx:a1b a x=some (.agg v.cells.toArray)) (hy:a1b a y=some (.agg v.cells.toArray)) (h:wpList Tryz.prog ops Q rest (a.put o.dst (.bool true)) w) (hw:Region.wanted o (yielded ops a.tmps)=true:=by rfl):wpList Tryz.prog ops Q (o::rest) a w:=by
 refine a2c hw fun K hK=>?_
 unfold Oper.wp
 rw [i1c ho hx hy]
 exact hK _ _ h
theorem i1f {x y:Operand} {v:Rq} (ho:o.op = .binOp .eql 118 x y 118) (hx:a1b a x=some (.agg v.cells.toArray)) (hy:a1b a y=some (.agg v.cells.toArray)) (h:wpList Tryz.prog ops Q rest (a.put o.dst (.bool true)) w) (hw:Region.wanted o (yielded ops a.tmps)=true:=by rfl):wpList Tryz.prog ops Q (o::rest) a w:=by
 refine a2c hw fun K hK=>?_
 unfold Oper.wp
 rw [i1d ho hx hy]
 exact hK _ _ h
end
instance u32Rows : Rows u32v (fun x:Nat=>[.int .u32 (x:Int)]) 1:=⟨fun q=>by unfold u32v;induction q with
 | nil=>rfl
 | cons r q ih=>rw [List.map_cons,ih];rfl,fun _=>rfl,fun r u hu=>by obtain rfl:=List.mem_singleton.1 hu;rfl,by decide⟩
theorem i1g (v:Wy) (w:World):Calls Tryz.prog 165 #[.agg v.cells.toArray,.agg v.cells.toArray] w fun e w'=>e = .returned (.bool true)∧Bel w w':=by
 have hF:=St.start w [] (fun d hd=>by cases hd)
 go_enter Tryz.func165,Tryz.ntmps165
 go_wp2_with ((try simp only [zA,Nat.reduceAdd]);(first|go_big_skip|((refine w_box (cs:=v.cells) rfl hF rfl ?_);clear hF;intro gN wN hF;(try simp only [zA,Nat.reduceAdd]))|((refine w_ld (cs:=v.cells) (v:=.agg v.cells.toArray) rfl hF rfl ?_);(try simp only [zA,Nat.reduceAdd]))|((refine i1e rfl rfl rfl ?_);(try simp only [zA,Nat.reduceAdd]))))
 go_ret
 exact ⟨rfl,hF.bel⟩
theorem i1h (v:Rq) (w:World):Calls Tryz.prog 113 #[.agg v.cells.toArray,.agg v.cells.toArray] w fun e w'=>e = .returned (.bool true)∧Bel w w':=by
 have hF:=St.start w [] (fun d hd=>by cases hd)
 go_enter Tryz.func113,Tryz.ntmps113
 go_wp2_with ((try simp only [zA,Nat.reduceAdd]);(first|go_big_skip|((refine w_box (cs:=v.cells) rfl hF rfl ?_);clear hF;intro gN wN hF;(try simp only [zA,Nat.reduceAdd]))|((refine w_ld (cs:=v.cells) (v:=.agg v.cells.toArray) rfl hF rfl ?_);(try simp only [zA,Nat.reduceAdd]))|((refine i1f rfl rfl rfl ?_);(try simp only [zA,Nat.reduceAdd]))))
 go_ret
 exact ⟨rfl,hF.bel⟩
theorem i1i (a:Nat) (w:World):Calls Tryz.prog 115 #[.int .u32 (a:Int),.int .u32 (a:Int)] w fun e w'=>e = .returned (.bool true)∧Bel w w':=by
 have hb:=Lib.hid (show decide ((a:Int)=(a:Int))=true from decide_eq_true rfl)
 go_enter Tryz.func115,Tryz.ntmps115
 go_wp2_with ((try simp only [zA,Nat.reduceAdd]);(first|go_big_skip|((refine w_eqlH rfl rfl rfl ?_ (hb:=by with_reducible assumption));(try simp only [zA,Nat.reduceAdd]))))
 go_ret
 exact ⟨rfl,Bel.refl _⟩
theorem i1j (A B:Option Addr) (n c d:Nat) (q:List Wy) (w:World) (h1:Rd w w.heap.size 3 A n c (wys q)) (h2:Rd w w.heap.size 3 B n d (wys q)) :
  Calls Tryz.prog 164 #[.slice A n c,.slice B n d,.func (.func 165) #[] #[]] w fun e w'=>e = .returned (.bool true)∧Bel w w':=by
 have hF:=St.start w [a1a 3 A n c (wys q),a1a 3 B n d (wys q)] (fun d hd=>by
  rcases List.mem_cons.1 hd with rfl|hd
  ·exact h1
  ·obtain rfl:=List.mem_singleton.1 hd;exact h2)
 have hl:q.length=n:=by have:=h1.len;rw [Rows.length] at this;omega
 have hc1:=h1.le
 have hc2:=h1.mx
 unfold maxLen at hc2
 replace hl:=Lib.hid hl
 have HE:=Lib.hid (fun (v:Wy) (W:World)=>i1g v W)
 clear h1 h2
 go_enter Tryz.func164,Tryz.ntmps164
 go_wp2_with ((try simp only [zA,Nat.reduceAdd]);(first|go_big_skip))
 go_loopw [15] (fun i wr=>∃ k:Nat,k≤n∧i = .int .i64 (k:Int)∧St w [a1a 3 A n c (wys q),a1a 3 B n d (wys q)] wr [] [a1a 3 A n c (wys q),a1a 3 B n d (wys q)]) (fun i _=>n - (intOf i).toNat)
 case atStart=>exact ⟨0,by omega,rfl,hF⟩
 case round=>
  clear hF
  obtain ⟨k,hk,rfl,hF⟩:=hrel
  by_cases hkn:k<n
  ·obtain ⟨v,hv⟩:∃ v,q[k]?=some v:=⟨_,List.getElem?_eq_getElem (by have:=hl.out;omega)⟩
   go_upto_region 6 with ((try simp only [zA,Nat.reduceAdd]);(first|go_big_skip))
   refine a1n (by kernel_rfl) hF [] _ (by ((repeat (first|exact a1f|refine a1m zdm ?_)) <;> exact a1f)) (fun _ h=>h) ?_
   clear hF;intro hF hH
   refine a1c 0 hH ?_
   refine a1c 1 hH ?_
   refine a1c 2 hH ?_
   refine zk2 3 hH ?_
   refine zk0 4 hH ?_
   refine a1c 5 hH ?_
   refine a1c 6 hH ?_
   refine zk2 7 hH ?_
   refine zk0 8 hH ?_
   refine zry 9 (fun K hK=>?_)
   go_wp2_with (first|(go_at_call 165;refine (HE.out v _).mono ?_;rintro x wN ⟨rfl,hb⟩;replace hF:=hF.grow hb;clear hb))
   exact c6r
  ·obtain rfl:k=n:=by omega
   exact b7q
theorem i1k (A B:Option Addr) (n c d:Nat) (q:List Rq) (w:World) (h1:Rd w w.heap.size 4 A n c (rqs q)) (h2:Rd w w.heap.size 4 B n d (rqs q)) :
  Calls Tryz.prog 112 #[.slice A n c,.slice B n d,.func (.func 113) #[] #[]] w fun e w'=>e = .returned (.bool true)∧Bel w w':=by
 have hF:=St.start w [a1a 4 A n c (rqs q),a1a 4 B n d (rqs q)] (fun d hd=>by
  rcases List.mem_cons.1 hd with rfl|hd
  ·exact h1
  ·obtain rfl:=List.mem_singleton.1 hd;exact h2)
 have hl:q.length=n:=by have:=h1.len;rw [Rows.length] at this;omega
 have hc1:=h1.le
 have hc2:=h1.mx
 unfold maxLen at hc2
 replace hl:=Lib.hid hl
 have HE:=Lib.hid (fun (v:Rq) (W:World)=>i1h v W)
 clear h1 h2
 go_enter Tryz.func112,Tryz.ntmps112
 go_wp2_with ((try simp only [zA,Nat.reduceAdd]);(first|go_big_skip))
 go_loopw [15] (fun i wr=>∃ k:Nat,k≤n∧i = .int .i64 (k:Int)∧St w [a1a 4 A n c (rqs q),a1a 4 B n d (rqs q)] wr [] [a1a 4 A n c (rqs q),a1a 4 B n d (rqs q)]) (fun i _=>n - (intOf i).toNat)
 case atStart=>exact ⟨0,by omega,rfl,hF⟩
 case round=>
  clear hF
  obtain ⟨k,hk,rfl,hF⟩:=hrel
  by_cases hkn:k<n
  ·obtain ⟨v,hv⟩:∃ v,q[k]?=some v:=⟨_,List.getElem?_eq_getElem (by have:=hl.out;omega)⟩
   go_upto_region 6 with ((try simp only [zA,Nat.reduceAdd]);(first|go_big_skip))
   refine a1n (by kernel_rfl) hF [] _ (by ((repeat (first|exact a1f|refine a1m zdm ?_)) <;> exact a1f)) (fun _ h=>h) ?_
   clear hF;intro hF hH
   refine a1c 0 hH ?_
   refine a1c 1 hH ?_
   refine a1c 2 hH ?_
   refine zk2 3 hH ?_
   refine zk0 4 hH ?_
   refine a1c 5 hH ?_
   refine a1c 6 hH ?_
   refine zk2 7 hH ?_
   refine zk0 8 hH ?_
   refine zry 9 (fun K hK=>?_)
   go_wp2_with (first|(go_at_call 113;refine (HE.out v _).mono ?_;rintro x wN ⟨rfl,hb⟩;replace hF:=hF.grow hb;clear hb))
   exact c6r
  ·obtain rfl:k=n:=by omega
   exact b7q
theorem i1l (A B:Option Addr) (n c d:Nat) (q:List Nat) (w:World) (h1:Rd w w.heap.size 1 A n c (u32v q)) (h2:Rd w w.heap.size 1 B n d (u32v q)) :
  Calls Tryz.prog 114 #[.slice A n c,.slice B n d,.func (.func 115) #[] #[]] w fun e w'=>e = .returned (.bool true)∧Bel w w':=by
 have hF:=St.start w [a1a 1 A n c (u32v q),a1a 1 B n d (u32v q)] (fun d hd=>by
  rcases List.mem_cons.1 hd with rfl|hd
  ·exact h1
  ·obtain rfl:=List.mem_singleton.1 hd;exact h2)
 have hl:q.length=n:=by have:=h1.len;rw [Rows.length] at this;omega
 have hc1:=h1.le
 have hc2:=h1.mx
 unfold maxLen at hc2
 replace hl:=Lib.hid hl
 have HE:=Lib.hid (fun (v:Nat) (W:World)=>i1i v W)
 clear h1 h2
 go_enter Tryz.func114,Tryz.ntmps114
 go_wp2_with ((try simp only [zA,Nat.reduceAdd]);(first|go_big_skip))
 go_loopw [15] (fun i wr=>∃ k:Nat,k≤n∧i = .int .i64 (k:Int)∧St w [a1a 1 A n c (u32v q),a1a 1 B n d (u32v q)] wr [] [a1a 1 A n c (u32v q),a1a 1 B n d (u32v q)]) (fun i _=>n - (intOf i).toNat)
 case atStart=>exact ⟨0,by omega,rfl,hF⟩
 case round=>
  clear hF
  obtain ⟨k,hk,rfl,hF⟩:=hrel
  by_cases hkn:k<n
  ·obtain ⟨v,hv⟩:∃ v,q[k]?=some v:=⟨_,List.getElem?_eq_getElem (by have:=hl.out;omega)⟩
   go_upto_region 6 with ((try simp only [zA,Nat.reduceAdd]);(first|go_big_skip))
   refine a1n (by kernel_rfl) hF [] _ (by ((repeat (first|exact a1f|refine a1m zdm ?_)) <;> exact a1f)) (fun _ h=>h) ?_
   clear hF;intro hF hH
   refine a1c 0 hH ?_
   refine a1c 1 hH ?_
   refine a1c 2 hH ?_
   refine zk2 3 hH ?_
   refine zk0 4 hH ?_
   refine a1c 5 hH ?_
   refine a1c 6 hH ?_
   refine zk2 7 hH ?_
   refine zk0 8 hH ?_
   refine zry 9 (fun K hK=>?_)
   go_wp2_with (first|(go_at_call 115;refine (HE.out v _).mono ?_;rintro x wN ⟨rfl,hb⟩;replace hF:=hF.grow hb;clear hb))
   exact c6r
  ·obtain rfl:k=n:=by omega
   exact b7q
theorem i1m (A B:Option Addr) (n c d:Nat) (q:List Wy) (w:World) (h1:Rd w w.heap.size 3 A n c (wys q)) (h2:Rd w w.heap.size 3 B n d (wys q)) :
  Calls Tryz.prog 111 #[.slice A n c,.slice B n d] w fun e w'=>e = .returned (.bool true)∧Bel w w':=by
 have HR:=Lib.hid (i1j A B n c d q w h1 h2)
 go_enter Tryz.func111,Tryz.ntmps111
 go_wp2_with (first|(go_at_call 164;refine HR.out.mono ?_;rintro x wN ⟨rfl,hb⟩))
 go_ret
 exact ⟨rfl,hb⟩
theorem f1u (A B:Option Addr) (n c d:Nat) (S S2:List Cs) (w:World) (hr:RdS w w.heap.size A n c S) (hr2:RdS w w.heap.size B n d S2) (hC:a1j S=a1j S2) :
  Calls Tryz.prog 110 #[.slice A n c,.slice B n d,.func (.func 111) #[] #[]] w fun e w'=>e = .returned (.bool true)∧Bel w w':=by
 have hF:=St.start w [a1a 1 A n c (csv S),a1l S,a1a 1 B n d (csv S2),a1l S2] (by
  intro d hd
  rcases List.mem_cons.1 hd with rfl|hd
  ·exact hr.rd
  ·rcases List.mem_cons.1 hd with rfl|hd
   ·exact hr.sets
   ·exact a6j hr2 d hd)
 have hl:=Lib.hid hr.slen
 have hl2:=Lib.hid hr2.slen
 have hc1:=hr.rd.le
 have hc2:=hr.rd.mx
 unfold maxLen at hc2
 replace hC:=Lib.hid hC
 clear hr hr2
 go_enter Tryz.func110,Tryz.ntmps110
 go_wp2_with ((try simp only [zA,Nat.reduceAdd]);(first|go_big_skip))
 go_loopw [15] (fun i wr=>∃ k:Nat,k≤n∧i = .int .i64 (k:Int)∧St w [a1a 1 A n c (csv S),a1l S,a1a 1 B n d (csv S2),a1l S2] wr [] [a1a 1 A n c (csv S),a1l S,a1a 1 B n d (csv S2),a1l S2]) (fun i _=>n - (intOf i).toNat)
 case atStart=>exact ⟨0,by omega,rfl,hF⟩
 case round=>
  clear hF
  obtain ⟨k,hk,rfl,hF⟩:=hrel
  by_cases hkn:k<n
  ·obtain ⟨s,hs⟩:∃ s,S[k]?=some s:=⟨_,List.getElem?_eq_getElem (by have:=hl.out;omega)⟩
   obtain ⟨s2,hs2⟩:∃ s,S2[k]?=some s:=⟨_,List.getElem?_eq_getElem (by have:=hl2.out;omega)⟩
   obtain ⟨sA,m,sc,ws⟩:=s
   obtain ⟨sB,m2,sd,ws2⟩:=s2
   obtain rfl:ws=ws2:=by
    have h1:=b9z hs
    rw [hC.out,b9z hs2] at h1
    injection h1 with h1
    exact h1.symm
   have hF:=(hF.elem zdm hs).elem zdm hs2
   simp only at hF
   obtain rfl:m=m2:=by rw [← (hF.rd (sz:=3) (A:=sA) (n:=m) (c:=sc) (xs:=wys ws) zdm).wyslen,← (hF.rd (sz:=3) (A:=sB) (n:=m2) (c:=sd) (xs:=wys ws) zdm).wyslen]
   go_upto_region 6 with ((try simp only [zA,Nat.reduceAdd]);(first|go_big_skip))
   refine a1n (by kernel_rfl) hF [] _ (by ((repeat (first|exact a1f|refine a1m zdm ?_)) <;> exact a1f)) (fun _ h=>h) ?_
   clear hF;intro hF hH
   refine a1c 0 hH ?_
   refine a1c 1 hH ?_
   refine a1c 2 hH ?_
   refine zk2 3 hH ?_
   refine zk0 4 hH ?_
   refine a1c 5 hH ?_
   refine a1c 6 hH ?_
   refine zk2 7 hH ?_
   refine zk0 8 hH ?_
   refine zry 9 (fun K hK=>?_)
   go_wp2_with (first|(go_at_call 111;refine (i1m sA sB m sc sd ws _ hF.rdA hF.rdA).mono ?_;rintro x wN ⟨rfl,hb⟩;replace hF:=hF.grow hb;clear hb))
   have hH:=zx0 hH hF;refine hK.out _ _ hH ?_;clear hK;(try simp only [zA,Nat.reduceAdd])
   (refine a9c (i:=10) (v:=?_) rfl rfl (by kernel_rfl) (by kernel_rfl) (by kernel_rfl) (fun _ _ _ h=>h) ?_ hH ?_;rotate_left;(first|exact a6t a4g (by rfl)|(refine a1u (by rfl) ?_;intro w;go_simp;done)|(refine a1u (by rfl) ?_;intro w;go_simp;with_reducible rfl)|(refine a1u (by rfl) ?_;intro w;simp only [Wy.cells];go_simp;with_reducible rfl));(try simp only [zA,Nat.reduceAdd]))
   refine zrz ?_
   go_wp2_with ((try simp only [zA,Nat.reduceAdd]);(first|go_big_skip))
   go_roundw
   case rel=>exact ⟨k+1,by omega,by go_num,hF.lessA [a1a 1 A n c (csv S),a1l S,a1a 1 B n d (csv S2),a1l S2]⟩
   case measure=>first|(simp [intOf];done)|(simp [intOf];omega)
  ·obtain rfl:k=n:=by omega
   exact b7q
end
end Go.Proofs.YtgnomadgnciifaaGreatDoor
