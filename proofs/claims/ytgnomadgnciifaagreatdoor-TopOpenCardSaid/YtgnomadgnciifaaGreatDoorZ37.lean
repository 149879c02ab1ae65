/- . -/
import Derived.Test.YtgnomadgnciifaaGreatDoorZ36
set_option linter.unusedVariables false
set_option linter.unusedSimpArgs false
set_option linter.unusedSectionVars false
set_option maxRecDepth 100000
set_option maxHeartbeats 16000000
namespace Go.Proofs.YtgnomadgnciifaaGreatDoor
theorem c6h {p:Prop} (h:p:=by
 clear hb
 go_upto_region 6 with ((try simp only [zA,Nat.reduceAdd]);(first|refine b7w ?_|(refine a1s ?_;clear hF;(first|intro gN wN hF|intro wN hF|intro hF))|(refine a1d ?_;clear hF;intro vN wN hF)))
 refine a1n (by kernel_rfl) hF _ _ (fun _ h=>h) (fun _ h=>h) ?_
 clear hF;intro hF hH
 refine a1c 0 hH ?_
 refine zp 1 hH ?_
 refine a1c 2 hH ?_
 refine zk8 3 hH ?_
 refine zk8 4 hH ?_
 first|(refine a1p (i:=5) rfl (c3v rfl rfl rfl) hH ?_;(try simp only [zA,Nat.reduceAdd]))|refine zp 5 hH ?_
 refine b6v 6 hH ?_
 refine zk9 7 hH ?_
 refine b1a 8 hH ?_
 refine zk9 9 hH ?_
 refine b1a 10 hH ?_
 refine zp 11 hH ?_
 refine zp 12 hH ?_
 refine a1c 13 hH ?_
 refine b1a 14 hH ?_
 refine zry 15 (fun K hK=>?_)
 go_wp2_with ((refine c2v ?_;clear hF;intro wN hF))
 have hH:=hH.nextA hF;refine hK.out _ _ hH ?_;clear hK;(try simp only [zA,Nat.reduceAdd])
 refine zp 16 hH ?_
 refine zp 17 hH ?_
 refine zrz ?_
 (go_wp2;go_ret;exact ⟨by rw [hR.out];rfl,hF.bel⟩)):p:=h
section
open Go.RowKit Wd
def b5k (q:List En) (k:Nat):Prop:=∀ (j:Nat) (e:En),j<k→q[j]?=some e→a3a e=true ∧ ∀ (f:En),0<j→q[j - 1]?=some f→f.no<e.no
theorem d8t (q:List En):b5k q 0:=fun j e h=>absurd h (by omega)
theorem d8u {q:List En} {k:Nat} {e:En} (h:b5k q k) (he:q[k]?=some e) (hs:a3a e=true) (hf:∀ f,0<k→q[k - 1]?=some f→f.no<e.no):b5k q (k+1):=fun j g hj hg=>by
 by_cases hjk:j<k
 ·exact h j g hjk hg
 ·obtain rfl:j=k:=by omega
  rw [he] at hg
  injection hg with hg
  subst hg
  exact ⟨hs,hf⟩
theorem c6i : ∀ (q:List En),b4u q=true↔b5k q q.length
 | []=>⟨fun _=>d8t _,fun _=>rfl⟩
 | [e]=>by
  unfold b4u
  constructor
  ·intro h j g hj hg
   simp only [List.length_singleton] at hj
   obtain rfl:j=0:=by omega
   simp only [List.getElem?_cons_zero,Option.some.injEq] at hg
   subst hg
   exact ⟨h,fun f hf=>absurd hf (by omega)⟩
  ·intro h
   exact (h 0 e (by simp) rfl).1
 | e::f::r=>by
  unfold b4u
  rw [Bool.and_eq_true,Bool.and_eq_true,c6i (f::r),decide_eq_true_eq]
  constructor
  ·rintro ⟨h1,h2,h3⟩ j g hj hg
   cases j with
   | zero=>
    simp only [List.getElem?_cons_zero,Option.some.injEq] at hg
    subst hg
    exact ⟨h1,fun f hf=>absurd hf (by omega)⟩
   | succ j=>
    rw [List.getElem?_cons_succ] at hg
    have h4:=h3 j g (by simp only [List.length_cons] at hj ⊢;omega) hg
    refine ⟨h4.1,fun x _ hx=>?_⟩
    rw [Nat.add_sub_cancel] at hx
    cases j with
    | zero=>
     simp only [List.getElem?_cons_zero,Option.some.injEq] at hx hg
     subst hx hg
     exact h2
    | succ j=>
     rw [List.getElem?_cons_succ] at hx
     exact h4.2 x (by omega) hx
  ·intro h
   refine ⟨(h 0 e (by simp) rfl).1,(h 1 f (by simp) rfl).2 e (by omega) rfl,fun j g hj hg=>?_⟩
   have h4:=h (j+1) g (by simp only [List.length_cons] at hj ⊢;omega) (by rw [List.getElem?_cons_succ];exact hg)
   refine ⟨h4.1,fun x h0 hx=>h4.2 x (by omega) ?_⟩
   rw [Nat.add_sub_cancel]
   cases j with
   | zero=>omega
   | succ j=>rw [List.getElem?_cons_succ];simpa using hx
theorem h6m {q:List En} (h:q.length≤8) (h2:b5k q q.length):a8r q=true:=by
 unfold a8r
 rw [(c6i q).2 h2]
 simpa using h
theorem h6n {q:List En} (h:8<q.length):a8r q=false:=by
 unfold a8r
 have:decide (q.length≤8)=false:=by simp;omega
 rw [this];rfl
theorem c6j {q:List En} {k:Nat} {e:En} (he:q[k]?=some e) (h:a3a e=false ∨ ∃ f,0<k∧q[k - 1]?=some f∧e.no≤f.no):a8r q=false:=by
 unfold a8r
 cases hr:b4u q
 ·simp
 ·exfalso
  have h2:=(c6i q).1 hr k e (List.getElem?_eq_some_iff.1 he).1 he
  rcases h with h|⟨f,h0,hf,hle⟩
  ·rw [h] at h2;cases h2.1
  ·have:=h2.2 f h0 hf;omega
theorem h6o (A:Option Addr) (n c:Nat) (q:List En) (w:World) (hr:Rd w w.heap.size 17 A n c (ens q)) (hq:ensOk q) (hn1:n≤1000) (hc:Rd w w.heap.size 1 (some ⟨0,0,none⟩) 49 49 (u32v codesL)) :
  Calls Tryz.prog 10 #[.slice A n c] w fun e w'=>e = .returned (.bool (a8r q))∧Bel w w':=by
 have hF:=St.start w [a1a 17 A n c (ens q),a2h] (fun d hd=>by
  rcases List.mem_cons.1 hd with rfl|hd
  ·exact hr
  ·obtain rfl:=List.mem_singleton.1 hd;exact hc)
 have hn:=Lib.hid hr.enslen
 replace hq:=Lib.hid hq
 clear hr hc
 by_cases h8:8<n
 ·have hR:=h6n (q:=q) (by have:=hn.out;omega)
  rw [hR]
  clear hR
  have hd8:decide ((8:Int)<(n:Int))=true:=by simp;omega
  go_enter Tryz.func10,Tryz.ntmps10
  go_wp2_with (((first|refine zrg ?_|(refine zst ?_;clear hF;(first|intro gN wN hF|intro wN hF|intro hF))|(refine zap ?_;clear hF;intro vN wN hF));(try simp only [zA,Nat.reduceAdd])))
  go_ret
  exact ⟨rfl,hF.bel⟩
 have hd8:decide ((8:Int)<(n:Int))=false:=by simp;omega
 obtain ⟨R,hR0⟩:∃ R,a8r q=R:=⟨_,rfl⟩
 rw [hR0]
 replace hR0:=Lib.hid hR0
 go_enter Tryz.func10,Tryz.ntmps10
 go_wp2_with (((first|refine zrg ?_|(refine zst ?_;clear hF;(first|intro gN wN hF|intro wN hF|intro hF))|(refine zap ?_;clear hF;intro vN wN hF));(try simp only [zA,Nat.reduceAdd])))
 go_loopw [10] (fun i wr=>∃ k:Nat,k≤n∧i = .int .i64 (k:Int)∧Hid (b5k q k)∧St w [a1a 17 A n c (ens q),a2h] wr [] [a1a 17 A n c (ens q),a2h]) (fun i _=>n - (intOf i).toNat)
 case atStart=>exact ⟨0,by omega,rfl,Lib.hid (d8t q),hF⟩
 case round=>
  clear hF
  obtain ⟨k,hk,rfl,hup,hF⟩:=hrel
  by_cases hkn:k<n
  ·obtain ⟨e,hu⟩:∃ e,q[k]?=some e:=⟨_,List.getElem?_eq_getElem (by have:=hn.out;omega)⟩
   have he:=Lib.hid (hq.out e (List.mem_of_getElem? hu))
   have HS:=Lib.hid (fun W (h:Rd W W.heap.size 1 (some ⟨0,0,none⟩) 49 49 (u32v codesL))=>h6j e W he.out h)
   obtain ⟨b,hb⟩:∃ b,a3a e=b:=⟨_,rfl⟩
   rw [hb] at HS
   rcases Nat.eq_zero_or_pos k with hk0|hk0
   ·subst hk0
    have hd0:decide ((0:Int)<((0:Nat):Int))=false:=rfl
    cases b
    ·skip
     have hR:Hid (R=false):=Lib.hid (by rw [← hR0.out];exact c6j hu (.inl hb))
     obtain ⟨no,pc,⟨op,rd,rs1,rs2,imm⟩,guess,is,left,value,next,addr,halt,took,known,filled⟩:=e
     unfold En.val at HS
     dsimp only at HS
     exact c6h
    ·skip
     have hup2:=Lib.hid (d8u hup.out hu hb (fun f h=>absurd h (by omega)))
     obtain ⟨no,pc,⟨op,rd,rs1,rs2,imm⟩,guess,is,left,value,next,addr,halt,took,known,filled⟩:=e
     unfold En.val at HS
     dsimp only at HS
     clear hb
     go_upto_region 6 with ((try simp only [zA,Nat.reduceAdd]);(first|refine b7w ?_|(refine a1s ?_;clear hF;(first|intro gN wN hF|intro wN hF|intro hF))|(refine a1d ?_;clear hF;intro vN wN hF)))
     refine a1n (by kernel_rfl) hF _ _ (fun _ h=>h) (fun _ h=>h) ?_
     clear hF;intro hF hH
     refine a1c 0 hH ?_
     refine zp 1 hH ?_
     refine a1c 2 hH ?_
     refine zk8 3 hH ?_
     refine zk8 4 hH ?_
     first|(refine a1p (i:=5) rfl (c3v rfl rfl rfl) hH ?_;(try simp only [zA,Nat.reduceAdd]))|refine zp 5 hH ?_
     refine b6v 6 hH ?_
     refine zk9 7 hH ?_
     refine b1a 8 hH ?_
     refine zk9 9 hH ?_
     refine b1a 10 hH ?_
     refine zp 11 hH ?_
     refine zp 12 hH ?_
     refine a1c 13 hH ?_
     refine b1a 14 hH ?_
     refine zry 15 (fun K hK=>?_)
     go_wp2_with ((refine c2v ?_;clear hF;intro wN hF))
     have hH:=hH.nextA hF;refine hK.out _ _ hH ?_;clear hK;(try simp only [zA,Nat.reduceAdd])
     refine zp 16 hH ?_
     refine zp 17 hH ?_
     refine zrz ?_
     (go_wp2;(go_roundw;(case rel=>exact ⟨0+1,(by first|assumption|omega),(by first|rfl|go_num),hup2,hF.drop 0⟩);(case measure=>first|(simp [intOf];done)|(simp [intOf];omega))))
   ·obtain ⟨j,rfl⟩:∃ j,k=j+1:=⟨k - 1,by omega⟩
    obtain ⟨f,hf⟩:∃ f,q[j]?=some f:=⟨_,List.getElem?_eq_getElem (by have:=hn.out;omega)⟩
    have hd0:decide ((0:Int)<(j:Int)+1)=true:=decide_eq_true (by omega)
    have hsub:(((j+1:Nat):Int) - 1)=(j:Int):=by omega
    have hjn:j<n:=by omega
    by_cases hno:f.no<e.no
    ·cases b
     ·skip
      have hR:Hid (R=false):=Lib.hid (by rw [← hR0.out];exact c6j hu (.inl hb))
      obtain ⟨no,pc,⟨op,rd,rs1,rs2,imm⟩,guess,is,left,value,next,addr,halt,took,known,filled⟩:=e
      unfold En.val at HS
      dsimp only at HS
      have hdn:decide (no≤f.no)=false:=by simp;exact hno
      clear hno
      exact c6h
     ·skip
      have hup2:=Lib.hid (d8u hup.out hu hb (fun g _ hg=>by rw [Nat.add_sub_cancel,hf] at hg;injection hg with hg;subst hg;exact hno))
      obtain ⟨no,pc,⟨op,rd,rs1,rs2,imm⟩,guess,is,left,value,next,addr,halt,took,known,filled⟩:=e
      unfold En.val at HS
      dsimp only at HS
      have hdn:decide (no≤f.no)=false:=by simp;exact hno
      clear hno
      clear hb
      go_upto_region 6 with ((try simp only [zA,Nat.reduceAdd]);(first|refine b7w ?_|(refine a1s ?_;clear hF;(first|intro gN wN hF|intro wN hF|intro hF))|(refine a1d ?_;clear hF;intro vN wN hF)))
      refine a1n (by kernel_rfl) hF _ _ (fun _ h=>h) (fun _ h=>h) ?_
      clear hF;intro hF hH
      refine a1c 0 hH ?_
      refine zp 1 hH ?_
      refine a1c 2 hH ?_
      refine zk8 3 hH ?_
      refine zk8 4 hH ?_
      first|(refine a1p (i:=5) rfl (c3v rfl rfl rfl) hH ?_;(try simp only [zA,Nat.reduceAdd]))|refine zp 5 hH ?_
      refine b6v 6 hH ?_
      refine zk9 7 hH ?_
      refine b1a 8 hH ?_
      refine zk9 9 hH ?_
      refine b1a 10 hH ?_
      refine zp 11 hH ?_
      refine zp 12 hH ?_
      refine a1c 13 hH ?_
      refine b1a 14 hH ?_
      refine zry 15 (fun K hK=>?_)
      go_wp2_with ((refine c2v ?_;clear hF;intro wN hF))
      have hH:=hH.nextA hF;refine hK.out _ _ hH ?_;clear hK;(try simp only [zA,Nat.reduceAdd])
      refine zp 16 hH ?_
      refine zp 17 hH ?_
      refine zrz ?_
      (go_wp2;(go_roundw;(case rel=>exact ⟨j+1+1,(by first|assumption|omega),(by first|rfl|go_num),hup2,hF.drop 0⟩);(case measure=>first|(simp [intOf];done)|(simp [intOf];omega))))
    ·skip
     have hR:Hid (R=false):=Lib.hid (by rw [← hR0.out];exact c6j hu (.inr ⟨f,by omega,by rw [Nat.add_sub_cancel];exact hf,by omega⟩))
     obtain ⟨no,pc,⟨op,rd,rs1,rs2,imm⟩,guess,is,left,value,next,addr,halt,took,known,filled⟩:=e
     unfold En.val at HS
     dsimp only at HS
     have hdn:decide (no≤f.no)=true:=by simp;exact Int.not_lt.1 hno
     clear hno
     exact c6h
  ·obtain rfl:k=n:=by omega
   have hR:Hid (R=true):=Lib.hid (by rw [← hR0.out];exact h6m (by have:=hn.out;omega) (by rw [hn.out];exact hup.out))
   go_wp2_with ((try simp only [zA,Nat.reduceAdd]);(first|refine a7u ?_|(refine a1s ?_;clear hF;(first|intro gN wN hF|intro wN hF|intro hF))|(refine a1d ?_;clear hF;intro vN wN hF)))
   go_ret
   exact ⟨by rw [hR.out];rfl,hF.bel⟩
end
end Go.Proofs.YtgnomadgnciifaaGreatDoor
