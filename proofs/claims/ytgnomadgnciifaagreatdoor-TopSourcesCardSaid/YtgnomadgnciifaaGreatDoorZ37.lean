/- Joined: Sq4. -/
import Derived.Test.YtgnomadgnciifaaGreatDoorZH0
import Derived.Test.YtgnomadgnciifaaGreatDoorZ36
import Derived.Test.YtgnomadgnciifaaGreatDoorZ3
import Derived.Test.YtgnomadgnciifaaGreatDoorZ4
set_option linter.unusedVariables false
set_option linter.unusedSimpArgs false
set_option linter.unusedSectionVars false
set_option maxRecDepth 100000
set_option maxHeartbeats 16000000
namespace Go.Proofs.YtgnomadgnciifaaGreatDoor
theorem z37x0 {p:Prop} (h:p:=by
 clear hb
 go_upto_region 6 with ((try simp only [zA,Nat.reduceAdd]);(first|refine zg98 ?_|(refine zg14 ?_;clear hF;(first|intro gN wN hF|intro wN hF|intro hF))|(refine zg15 ?_;clear hF;intro vN wN hF)))
 refine wp_region_st (by kernel_rfl) hF _ _ (fun _ h=>h) (fun _ h=>h) ?_
 clear hF;intro hF hH
 refine zk18 0 hH ?_
 refine zp 1 hH ?_
 refine zk18 2 hH ?_
 refine zk8 3 hH ?_
 refine zk8 4 hH ?_
 first|(refine w_take (i:=5) rfl (y_subi rfl rfl rfl) hH ?_;(try simp only [zA,Nat.reduceAdd]))|refine zp 5 hH ?_
 refine zk15 6 hH ?_
 refine zk9 7 hH ?_
 refine zk16 8 hH ?_
 refine zk9 9 hH ?_
 refine zk16 10 hH ?_
 refine zp 11 hH ?_
 refine zp 12 hH ?_
 refine zk18 13 hH ?_
 refine zk16 14 hH ?_
 refine zry 15 (fun K hK=>?_)
 go_wp2_with ((refine zg140 ?_;clear hF;intro wN hF))
 have hH:=hH.nextA hF;refine hK.out _ _ hH ?_;clear hK;(try simp only [zA,Nat.reduceAdd])
 refine zp 16 hH ?_
 refine zp 17 hH ?_
 refine zrz ?_
 (go_wp2;go_ret;exact ⟨by rw [hR.out];rfl,hF.bel⟩)):p:=h
section
open Go.RowKit Wd
def rowUpto (q:List En) (k:Nat):Prop:=∀ (j:Nat) (e:En),j<k→q[j]?=some e→standsB e=true ∧ ∀ (f:En),0<j→q[j - 1]?=some f→f.no<e.no
theorem rowUpto_zero (q:List En):rowUpto q 0:=fun j e h=>absurd h (by omega)
theorem rowUpto_succ {q:List En} {k:Nat} {e:En} (h:rowUpto q k) (he:q[k]?=some e) (hs:standsB e=true) (hf:∀ f,0<k→q[k - 1]?=some f→f.no<e.no):rowUpto q (k+1):=fun j g hj hg=>by
 by_cases hjk:j<k
 ·exact h j g hjk hg
 ·obtain rfl:j=k:=by omega
  rw [he] at hg
  injection hg with hg
  subst hg
  exact ⟨hs,hf⟩
theorem rowB_iff : ∀ (q:List En),rowB q=true↔rowUpto q q.length
 | []=>⟨fun _=>rowUpto_zero _,fun _=>rfl⟩
 | [e]=>by
  unfold rowB
  constructor
  ·intro h j g hj hg
   simp only [List.length_singleton] at hj
   obtain rfl:j=0:=by omega
   simp only [List.getElem?_cons_zero,Option.some.injEq] at hg
   subst hg
   exact ⟨h,fun f hf=>absurd hf (by omega)⟩
  ·intro h
   exact (h 0 e (by simp) rfl).1
 | e::f::r=>by
  unfold rowB
  rw [Bool.and_eq_true,Bool.and_eq_true,rowB_iff (f::r),decide_eq_true_eq]
  constructor
  ·rintro ⟨h1,h2,h3⟩ j g hj hg
   cases j with
   | zero=>
    simp only [List.getElem?_cons_zero,Option.some.injEq] at hg
    subst hg
    exact ⟨h1,fun f hf=>absurd hf (by omega)⟩
   | succ j=>
    rw [List.getElem?_cons_succ] at hg
    have h4:=h3 j g (by simp only [List.length_cons] at hj ⊢;omega) hg
    refine ⟨h4.1,fun x _ hx=>?_⟩
    rw [Nat.add_sub_cancel] at hx
    cases j with
    | zero=>
     simp only [List.getElem?_cons_zero,Option.some.injEq] at hx hg
     subst hx hg
     exact h2
    | succ j=>
     rw [List.getElem?_cons_succ] at hx
     exact h4.2 x (by omega) hx
  ·intro h
   refine ⟨(h 0 e (by simp) rfl).1,(h 1 f (by simp) rfl).2 e (by omega) rfl,fun j g hj hg=>?_⟩
   have h4:=h (j+1) g (by simp only [List.length_cons] at hj ⊢;omega) (by rw [List.getElem?_cons_succ];exact hg)
   refine ⟨h4.1,fun x h0 hx=>h4.2 x (by omega) ?_⟩
   rw [Nat.add_sub_cancel]
   cases j with
   | zero=>omega
   | succ j=>rw [List.getElem?_cons_succ];simpa using hx
theorem rightQ_yes {q:List En} (h:q.length≤8) (h2:rowUpto q q.length):rightQ q=true:=by
 unfold rightQ
 rw [(rowB_iff q).2 h2]
 simpa using h
theorem rightQ_long {q:List En} (h:8<q.length):rightQ q=false:=by
 unfold rightQ
 have:decide (q.length≤8)=false:=by simp;omega
 rw [this];rfl
theorem rightQ_no {q:List En} {k:Nat} {e:En} (he:q[k]?=some e) (h:standsB e=false ∨ ∃ f,0<k∧q[k - 1]?=some f∧e.no≤f.no):rightQ q=false:=by
 unfold rightQ
 cases hr:rowB q
 ·simp
 ·exfalso
  have h2:=(rowB_iff q).1 hr k e (List.getElem?_eq_some_iff.1 he).1 he
  rcases h with h|⟨f,h0,hf,hle⟩
  ·rw [h] at h2;cases h2.1
  ·have:=h2.2 f h0 hf;omega
theorem sqRight_any (A:Option Addr) (n c:Nat) (q:List En) (w:World) (hr:Rd w w.heap.size 17 A n c (ens q)) (hq:ensOk q) (hn1:n≤1000) (hc:Rd w w.heap.size 1 (some ⟨0,0,none⟩) 49 49 (u32v codesL)) :
  Calls Tryz.prog 10 #[.slice A n c] w fun e w'=>e = .returned (.bool (rightQ q))∧Bel w w':=by
 have hF:=St.start w [rowD 17 A n c (ens q),codesD] (fun d hd=>by
  rcases List.mem_cons.1 hd with rfl|hd
  ·exact hr
  ·obtain rfl:=List.mem_singleton.1 hd;exact hc)
 have hn:=Lib.hid hr.enslen
 replace hq:=Lib.hid hq
 clear hr hc
 by_cases h8:8<n
 ·have hR:=rightQ_long (q:=q) (by have:=hn.out;omega)
  rw [hR]
  clear hR
  have hd8:decide ((8:Int)<(n:Int))=true:=by simp;omega
  go_enter Tryz.func10,Tryz.ntmps10
  go_wp2_with (((first|refine zrg ?_|(refine zst ?_;clear hF;(first|intro gN wN hF|intro wN hF|intro hF))|(refine zap ?_;clear hF;intro vN wN hF));(try simp only [zA,Nat.reduceAdd])))
  go_ret
  exact ⟨rfl,hF.bel⟩
 have hd8:decide ((8:Int)<(n:Int))=false:=by simp;omega
 obtain ⟨R,hR0⟩:∃ R,rightQ q=R:=⟨_,rfl⟩
 rw [hR0]
 replace hR0:=Lib.hid hR0
 go_enter Tryz.func10,Tryz.ntmps10
 go_wp2_with (((first|refine zrg ?_|(refine zst ?_;clear hF;(first|intro gN wN hF|intro wN hF|intro hF))|(refine zap ?_;clear hF;intro vN wN hF));(try simp only [zA,Nat.reduceAdd])))
 go_loopw [10] (fun i wr=>∃ k:Nat,k≤n∧i = .int .i64 (k:Int)∧Hid (rowUpto q k)∧St w [rowD 17 A n c (ens q),codesD] wr [] [rowD 17 A n c (ens q),codesD]) (fun i _=>n - (intOf i).toNat)
 case atStart=>exact ⟨0,by omega,rfl,Lib.hid (rowUpto_zero q),hF⟩
 case round=>
  clear hF
  obtain ⟨k,hk,rfl,hup,hF⟩:=hrel
  by_cases hkn:k<n
  ·obtain ⟨e,hu⟩:∃ e,q[k]?=some e:=⟨_,List.getElem?_eq_getElem (by have:=hn.out;omega)⟩
   have he:=Lib.hid (hq.out e (List.mem_of_getElem? hu))
   have HS:=Lib.hid (fun W (h:Rd W W.heap.size 1 (some ⟨0,0,none⟩) 49 49 (u32v codesL))=>stands_any e W he.out h)
   obtain ⟨b,hb⟩:∃ b,standsB e=b:=⟨_,rfl⟩
   rw [hb] at HS
   rcases Nat.eq_zero_or_pos k with hk0|hk0
   ·subst hk0
    have hd0:decide ((0:Int)<((0:Nat):Int))=false:=rfl
    cases b
    ·skip
     have hR:Hid (R=false):=Lib.hid (by rw [← hR0.out];exact rightQ_no hu (.inl hb))
     obtain ⟨no,pc,⟨op,rd,rs1,rs2,imm⟩,guess,is,left,value,next,addr,halt,took,known,filled⟩:=e
     unfold En.val at HS
     dsimp only at HS
     exact z37x0
    ·skip
     have hup2:=Lib.hid (rowUpto_succ hup.out hu hb (fun f h=>absurd h (by omega)))
     obtain ⟨no,pc,⟨op,rd,rs1,rs2,imm⟩,guess,is,left,value,next,addr,halt,took,known,filled⟩:=e
     unfold En.val at HS
     dsimp only at HS
     clear hb
     go_upto_region 6 with ((try simp only [zA,Nat.reduceAdd]);(first|refine zg98 ?_|(refine zg14 ?_;clear hF;(first|intro gN wN hF|intro wN hF|intro hF))|(refine zg15 ?_;clear hF;intro vN wN hF)))
     refine wp_region_st (by kernel_rfl) hF _ _ (fun _ h=>h) (fun _ h=>h) ?_
     clear hF;intro hF hH
     refine zk18 0 hH ?_
     refine zp 1 hH ?_
     refine zk18 2 hH ?_
     refine zk8 3 hH ?_
     refine zk8 4 hH ?_
     first|(refine w_take (i:=5) rfl (y_subi rfl rfl rfl) hH ?_;(try simp only [zA,Nat.reduceAdd]))|refine zp 5 hH ?_
     refine zk15 6 hH ?_
     refine zk9 7 hH ?_
     refine zk16 8 hH ?_
     refine zk9 9 hH ?_
     refine zk16 10 hH ?_
     refine zp 11 hH ?_
     refine zp 12 hH ?_
     refine zk18 13 hH ?_
     refine zk16 14 hH ?_
     refine zry 15 (fun K hK=>?_)
     go_wp2_with ((refine zg140 ?_;clear hF;intro wN hF))
     have hH:=hH.nextA hF;refine hK.out _ _ hH ?_;clear hK;(try simp only [zA,Nat.reduceAdd])
     refine zp 16 hH ?_
     refine zp 17 hH ?_
     refine zrz ?_
     (go_wp2;(go_roundw;(case rel=>exact ⟨0+1,(by first|assumption|omega),(by first|rfl|go_num),hup2,hF.drop 0⟩);(case measure=>first|(simp [intOf];done)|(simp [intOf];omega))))
   ·obtain ⟨j,rfl⟩:∃ j,k=j+1:=⟨k - 1,by omega⟩
    obtain ⟨f,hf⟩:∃ f,q[j]?=some f:=⟨_,List.getElem?_eq_getElem (by have:=hn.out;omega)⟩
    have hd0:decide ((0:Int)<(j:Int)+1)=true:=decide_eq_true (by omega)
    have hsub:(((j+1:Nat):Int) - 1)=(j:Int):=by omega
    have hjn:j<n:=by omega
    by_cases hno:f.no<e.no
    ·cases b
     ·skip
      have hR:Hid (R=false):=Lib.hid (by rw [← hR0.out];exact rightQ_no hu (.inl hb))
      obtain ⟨no,pc,⟨op,rd,rs1,rs2,imm⟩,guess,is,left,value,next,addr,halt,took,known,filled⟩:=e
      unfold En.val at HS
      dsimp only at HS
      have hdn:decide (no≤f.no)=false:=by simp;exact hno
      clear hno
      exact z37x0
     ·skip
      have hup2:=Lib.hid (rowUpto_succ hup.out hu hb (fun g _ hg=>by rw [Nat.add_sub_cancel,hf] at hg;injection hg with hg;subst hg;exact hno))
      obtain ⟨no,pc,⟨op,rd,rs1,rs2,imm⟩,guess,is,left,value,next,addr,halt,took,known,filled⟩:=e
      unfold En.val at HS
      dsimp only at HS
      have hdn:decide (no≤f.no)=false:=by simp;exact hno
      clear hno
      clear hb
      go_upto_region 6 with ((try simp only [zA,Nat.reduceAdd]);(first|refine zg98 ?_|(refine zg14 ?_;clear hF;(first|intro gN wN hF|intro wN hF|intro hF))|(refine zg15 ?_;clear hF;intro vN wN hF)))
      refine wp_region_st (by kernel_rfl) hF _ _ (fun _ h=>h) (fun _ h=>h) ?_
      clear hF;intro hF hH
      refine zk18 0 hH ?_
      refine zp 1 hH ?_
      refine zk18 2 hH ?_
      refine zk8 3 hH ?_
      refine zk8 4 hH ?_
      first|(refine w_take (i:=5) rfl (y_subi rfl rfl rfl) hH ?_;(try simp only [zA,Nat.reduceAdd]))|refine zp 5 hH ?_
      refine zk15 6 hH ?_
      refine zk9 7 hH ?_
      refine zk16 8 hH ?_
      refine zk9 9 hH ?_
      refine zk16 10 hH ?_
      refine zp 11 hH ?_
      refine zp 12 hH ?_
      refine zk18 13 hH ?_
      refine zk16 14 hH ?_
      refine zry 15 (fun K hK=>?_)
      go_wp2_with ((refine zg140 ?_;clear hF;intro wN hF))
      have hH:=hH.nextA hF;refine hK.out _ _ hH ?_;clear hK;(try simp only [zA,Nat.reduceAdd])
      refine zp 16 hH ?_
      refine zp 17 hH ?_
      refine zrz ?_
      (go_wp2;(go_roundw;(case rel=>exact ⟨j+1+1,(by first|assumption|omega),(by first|rfl|go_num),hup2,hF.drop 0⟩);(case measure=>first|(simp [intOf];done)|(simp [intOf];omega))))
    ·skip
     have hR:Hid (R=false):=Lib.hid (by rw [← hR0.out];exact rightQ_no hu (.inr ⟨f,by omega,by rw [Nat.add_sub_cancel];exact hf,by omega⟩))
     obtain ⟨no,pc,⟨op,rd,rs1,rs2,imm⟩,guess,is,left,value,next,addr,halt,took,known,filled⟩:=e
     unfold En.val at HS
     dsimp only at HS
     have hdn:decide (no≤f.no)=true:=by simp;exact Int.not_lt.1 hno
     clear hno
     exact z37x0
  ·obtain rfl:k=n:=by omega
   have hR:Hid (R=true):=Lib.hid (by rw [← hR0.out];exact rightQ_yes (by have:=hn.out;omega) (by rw [hn.out];exact hup.out))
   go_wp2_with ((try simp only [zA,Nat.reduceAdd]);(first|refine zg54 ?_|(refine zg14 ?_;clear hF;(first|intro gN wN hF|intro wN hF|intro hF))|(refine zg15 ?_;clear hF;intro vN wN hF)))
   go_ret
   exact ⟨by rw [hR.out];rfl,hF.bel⟩
end
end Go.Proofs.YtgnomadgnciifaaGreatDoor
