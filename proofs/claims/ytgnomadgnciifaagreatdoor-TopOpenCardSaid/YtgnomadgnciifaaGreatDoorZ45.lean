/- . -/
import Derived.Test.YtgnomadgnciifaaGreatDoorZ36
import Derived.Test.YtgnomadgnciifaaGreatDoorZ38
set_option linter.unusedVariables false
set_option linter.unusedSimpArgs false
set_option linter.unusedSectionVars false
set_option maxRecDepth 100000
set_option maxHeartbeats 16000000
namespace Go.Proofs.YtgnomadgnciifaaGreatDoor
theorem d9q {p:Prop} (h:p:=by
 go_wp2_with ((try simp only [zA,Nat.reduceAdd]);(first|go_big_skip|(go_at_call 63;refine (HLi.out _).mono ?_;rintro x wN ⟨rfl,d,rfl⟩;replace hF:=hF.grow (Bel.drewN _ d))|refine c2r ?_|(refine a9w ?_;clear hF;(first|intro gN wN hF|intro wN hF|intro hF))|(go_at_call 81;obtain ⟨Ah,ch,hfz,hF2⟩:=hF.freeze 0 at0;injection hfz with hfz1 _ hfz2;subst hfz1 hfz2;clear hF;have hF:=hF2;clear hF2;(try simp only [zF] at hF);refine (a6q _ _ _ _ _ _ _ _ _ hF.rdA hF.rdA).mono ?_;rintro x wN ⟨hx,hb⟩;rw [hhv.out] at hx;subst hx;replace hF:=hF.grow hb;clear hb)|(go_at_call 82;refine (a6r (s:=s1) hk1 false ((hF.front _ (m:=.blk g 81 (mcells k1 s1)) (by exact zat)).lessD (D':=kD k1 s1++D) (by simp only [kD,hfit.stO,hfit.reO,a1h,zL];exact zsn))).mono ?_;rintro x wN ⟨hx,⟨hF5⟩⟩;rw [hrm.out] at hx;subst hx;clear hF;have hF:=hF5;clear hF5;(try simp only [zF] at hF);(simp only [kD,hfit.stO,hfit.reO,a1h,zL] at hF))|(go_at_call 83;refine (a5q (s:=s1) hk1 _ _ _ ((hF.front _ (m:=.blk g 81 (mcells k1 s1)) (by exact zat)).lessD (D':=kD k1 s1++D) (by simp only [kD,hfit.stO,hfit.reO,a1h,zL];exact zsn))).mono ?_;rintro x wN ⟨⟨y,rfl⟩,A5,c5,hF5⟩;clear hF;have hF:=hF5;clear hF5;(try simp only [zF] at hF))|(go_at_call 84;refine (HTo.out _ hF.rds).mono ?_;rintro x wN ⟨_,rfl,A6,n6,c6,S6,rfl,hO,hC6⟩;replace hF:=hF.callA hO;clear hO)|(refine w_stp rfl hF rfl rfl ?_ (hfit:=by (try simp only [List.length_set]);rw [mcells_len];exact Nat.le_of_ble_eq_true rfl);clear hF;intro wN hF;(try simp only [List.set_cons_zero,List.set_cons_succ] at hF))|(refine a1d ?_;clear hF;intro vN wN hF)))
 (refine bodyPost_ret (results_none rfl _ _ _) rfl ⟨⟨_,rfl⟩,?_⟩;rw [hR.out];exact MF.toX ⟨s1,hfit,hF.lessD (by simp only [kD,hfit.stO,hfit.reO,a1h,zL];exact zsn)⟩)):p:=h
theorem d9r {p:Prop} (h:p:=by
 rw [a9s (by rw [hE]),hE] at hR
 replace hR:=Lib.hid (show a2y k=k1 from hR.out)
 clear hE hs hF0
 go_upto_region 3 with ((try simp only [zA,Nat.reduceAdd]);(first|go_big_skip|refine a8z ?_|(refine a1s ?_;clear hF;(first|intro gN wN hF|intro wN hF|intro hF))|(refine a1d ?_;clear hF;intro vN wN hF)))
 refine a1n (by kernel_rfl) hF _ _ (fun _ h=>h) (fun _ h=>h) ?_
 clear hF;intro hF hH
 refine a1c 0 hH ?_
 refine zp 1 hH ?_
 refine zk1 2 hH ?_
 refine zk1 3 hH ?_
 refine a2i 4 hH ?_
 refine a1c 5 hH ?_
 refine zk8 6 hH ?_
 refine zp 7 hH ?_
 refine zk9 8 hH ?_
 refine zk9 9 hH ?_
 refine a4n 10 hH ?_
 refine a8o 11 hH ?_
 refine zk8 12 hH ?_
 refine zp 13 hH ?_
 refine zk9 14 hH ?_
 refine zk9 15 hH ?_
 refine zk9 16 hH ?_
 refine a4n 17 hH ?_
 first|(refine a1p (i:=18) rfl (a9n rfl rfl rfl) hH ?_;(try simp only [zA,Nat.reduceAdd]))|refine zp 18 hH ?_
 refine zp 19 hH ?_
 refine zrz ?_
 (go_wp2_with ((try simp only [zA,Nat.reduceAdd]);(first|go_big_skip|refine a8z ?_|(refine a1s ?_;clear hF;(first|intro gN wN hF|intro wN hF|intro hF))|(refine a1d ?_;clear hF;intro vN wN hF)));(refine bodyPost_ret (results_none rfl _ _ _) rfl ⟨⟨_,rfl⟩,?_⟩;rw [hR.out];exact MF.toX ⟨s1,hfit,hF.lessD (by simp only [kD,hfit.stO,hfit.reO,a1h,zL];exact zsn)⟩))):p:=h
theorem d9s {p:Prop} (h:p:=by
 have hl1:(k1.fetched++[(⟨k1.fetch,N⟩:Fe)]).length=k1.fetched.length+1:=by simp
 dsimp only
 rw [hl1]
 refine hF.lessD ?_
 simp only [kD,hfit.stO,hfit.reO,a1h,c3w,zL]
 exact zsn):p:=h
section
open Go.RowKit Wd
structure FitF (k:Kern) (s:Sls):Prop where
 data:a1j s.dS=k.data
 words:a1j s.wS=k.words
 robC:k.rob.length≤s.robC
 robM:s.robC≤maxLen
 stO:s.stO=false
 reO:s.reO=false
 full:s.feO=false→s.feC=k.fetched.length
inductive MF (w0:World) (D0 D:List Da) (M:List Mu) (g:Nat) (k:Kern) (w:World):Prop
 | mk (s:Sls) (hfit:FitF k s) (hF:St w0 D0 w (.blk g 81 (mcells k s) :: .row s.robA 54 (ens k.rob)::apM s.feO 114 2 s.feA k.fetched.length s.feC (fes k.fetched)::M) (kD k s++D))
theorem MF.ofX {w0 w:World} {D0 D:List Da} {M:List Mu} {g:Nat} {k:Kern} {b:Bool} (h:MX w0 D0 D M g k true b w):MF w0 D0 D M g k w:=by
 obtain ⟨s,hfit,ha,-,⟨hF⟩⟩:=h
 refine ⟨s,⟨hfit.data,hfit.words,hfit.robC,hfit.robM,hfit.stO,hfit.reO,fun _=>ha rfl⟩,?_⟩
 rw [hfit.feO,b9s]
 exact ((hF.rowNil none 114).front 2 at2).front 2 at2
theorem MF.toX {w0 w:World} {D0 D:List Da} {M:List Mu} {g:Nat} {k:Kern} (h:MF w0 D0 D M g k w):MX w0 D0 D M g k false false w:=by
 obtain ⟨s,hfit,hF⟩:=h
 refine ⟨{ s with feO:=false },⟨hfit.data,hfit.words,hfit.robC,hfit.robM,rfl,hfit.stO,hfit.reO⟩,fun h=>(by cases h),fun h=>(by cases h),⟨?_⟩⟩
 have hF2:=hF.apEnd at2 (by simp only [kD,zL];exact zdm)
 refine hF2.lessD ?_
 simp only [kD,a1h,zL]
 exact zsn
theorem d9t (q:List Fe) (a b:Nat):fes (q++[⟨a,b⟩])=fes q++[.int .u32 (a:Int),.int .u32 (b:Int)]:=f6r q [⟨a,b⟩]
theorem KOk.touch {B:Int} {k:Kern} (h:KOk B k) (x:Nat):KOk B { k with words:=a4v k.wways k.words x } :=
 have ht:=c1k k.wways k.words x
 { h with words:=ht.right h.words,wok:=ht.cok h.wok }
theorem h7j (k:Kern) (x:Nat):∃ y,(a2f k x).2={ k with guessed:=y }:=by
 unfold a2f
 split
 ·exact ⟨k.guessed,rfl⟩
 ·split
  ·exact ⟨k.guessed,rfl⟩
  ·split
   ·exact ⟨k.guessed,rfl⟩
   ·exact ⟨k.guessed+1,rfl⟩
theorem h7k {w0 w:World} {D0 D:List Da} {M:List Mu} {g:Nat} {k:Kern} {b:Bool} (hX:MX w0 D0 D M g k true b w) (hh:¬ k.halt=0) :
  Calls Tryz.prog 36 #[.pointer (some ⟨g,0,none⟩)] w fun x w'=>(∃ y,x = .returned y)∧MX w0 D0 D M g (a2y k) false false w':=by
 have hX2:=(MF.ofX hX).toX
 obtain ⟨s,hfit,ha,-,⟨hF⟩⟩:=hX
 have hR:Hid (a2y k=k):=Lib.hid (by unfold a2y;rw [if_pos hh])
 simp only [kD,hfit.feO,hfit.stO,hfit.reO,a1h,zL] at hF
 go_enter Tryz.func36,Tryz.ntmps36
 go_wp2_with ((try simp only [zA,Nat.reduceAdd]);(first|go_big_skip|refine f3q ?_|(refine a1s ?_;clear hF;(first|intro gN wN hF|intro wN hF|intro hF))|(refine a1d ?_;clear hF;intro vN wN hF)))
 refine bodyPost_ret (results_none rfl _ _ _) rfl ⟨⟨_,rfl⟩,?_⟩
 rw [hR.out]
 exact hX2
theorem h7l {w0 w:World} {D0 D:List Da} {M:List Mu} {g:Nat} {k:Kern} {b:Bool} {B:Int} (hk:KOk B k) (hB:B+4≤1000000) (hX:MX w0 D0 D M g k true b w) :
  Calls Tryz.prog 36 #[.pointer (some ⟨g,0,none⟩)] w fun x w'=>(∃ y,x = .returned y)∧MX w0 D0 D M g (a2y k) false false w':=by
 by_cases hh:¬ k.halt=0
 ·exact h7k hX hh
 have hR:Hid (a2y k=a2n a3v k.conf.width.toNat k):=Lib.hid (by unfold a2y;rw [if_neg hh])
 have hh2:=Lib.hid (show decide (¬ k.halt=0)=false by simpa using hh)
 have hwd:=hk.cf.width
 have hMF:=MF.ofX hX
 obtain ⟨s,hfit,hF⟩:=hMF
 have hMF:=MF.ofX hX
 (simp only [kD,hfit.stO,hfit.reO,a1h,zL] at hF)
 clear hh hX
 go_enter Tryz.func36,Tryz.ntmps36
 go_wp2_with ((try simp only [zA,Nat.reduceAdd]);(first|go_big_skip|refine a8z ?_|(refine a1s ?_;clear hF;(first|intro gN wN hF|intro wN hF|intro hF))|(refine a1d ?_;clear hF;intro vN wN hF)))
 go_loopw [21] (fun i wr=>∃ (j:Nat) (k1:Kern),i = .int .i64 (j:Int)∧j≤k.conf.width.toNat∧Hid (a2y k=a2n a3v (k.conf.width.toNat - j) k1)∧KOk (B+j) k1∧MF w0 D0 D M g k1 wr) (fun i _=>k.conf.width.toNat - (intOf i).toNat)
 case atStart=>exact ⟨0,k,rfl,Nat.zero_le _,hR,by simpa using hk,hMF⟩
 case round=>
  clear hF hMF hR hk hfit
  obtain ⟨j,k1,rfl,hj,hR,hk1,⟨s1,hfit,hF⟩⟩:=hrel
  by_cases hjw:j<k.conf.width.toNat
  ·obtain ⟨m,hm⟩:∃ m,k.conf.width.toNat - j=m+1:=⟨k.conf.width.toNat - j - 1,by omega⟩
   rw [hm] at hR
   have hlt:=Lib.hid (show decide ((j:Int)<k.conf.width)=true by simp;omega)
   obtain ⟨b3,hb3⟩:∃ b3,decide (k1.conf.queue≤(k1.fetched.length:Int))=b3:=⟨_,rfl⟩
   have hE:a3v k1=if k1.stop=true∨b3=true then (k1,false) else match a5f k1.prog k1.fetch with
    | none=>({ k1 with fetched:=k1.fetched++[⟨k1.fetch,a1k k1.fetch 4⟩],stop:=true },false)
    | some w=>
     if (a4m k1.wways k1.words (a1w k1.fetch)).2.2=false then
      (if a3r k1.bus (a1w k1.fetch) 2=false∧a4q k1 false=true then a3y k1 2 (a1w k1.fetch) ⟨#[]⟩ else k1,false)
     else
      ({ (a2f { k1 with words:=a4v k1.wways k1.words (a1w k1.fetch) } w).2 with fetched:=(a2f { k1 with words:=a4v k1.wways k1.words (a1w k1.fetch) } w).2.fetched++[⟨k1.fetch,(a2f { k1 with words:=a4v k1.wways k1.words (a1w k1.fetch) } w).1⟩],fetch:=(a2f { k1 with words:=a4v k1.wways k1.words (a1w k1.fetch) } w).1 },true):=by
    unfold a3v
    have e:(k1.stop=true∨k1.conf.queue≤(k1.fetched.length:Int))↔(k1.stop=true∨b3=true):=by rw [← hb3,decide_eq_true_iff]
    by_cases h:k1.stop=true∨b3=true
    ·rw [if_pos h,if_pos (e.2 h)]
    ·rw [if_neg h,if_neg (fun h'=>h (e.1 h'))]
     rfl
   have hfl16:=hk1.felen
   have hft:=hk1.fetch
   replace hb3:=Lib.hid hb3
   have hF0:=hF
   (simp only [kD,hfit.stO,hfit.reO,a1h,zL] at hF)
   cases hs:k1.stop with
   | true=>
    have hT46:(mcells k1 s1)[46]?=some (.bool true):=(show (mcells k1 s1)[46]?=some (.bool k1.stop) from rfl).trans (congrArg (fun b=>some (Value.bool b)) hs)
    rw [if_pos (.inl hs)] at hE
    exact d9r
   | false=>
    have hT46:(mcells k1 s1)[46]?=some (.bool false):=(show (mcells k1 s1)[46]?=some (.bool k1.stop) from rfl).trans (congrArg (fun b=>some (Value.bool b)) hs)
    cases b3
    ·rw [if_neg (fun h=>h.elim (fun h=>by rw [hs] at h;cases h) (fun h=>by cases h))] at hE
     have HFw:=fun W h=>d2l s1.progA k1.prog.length s1.progC k1.prog k1.fetch W h hft
     cases hfl:a5f k1.prog k1.fetch with
     | none=>
      rw [hfl] at hE HFw
      replace HFw:=Lib.hid (show ∀ (W:World) (h:Rd W W.heap.size 1 s1.progA k1.prog.length s1.progC (u32v k1.prog)),Calls Tryz.prog 79 #[.slice s1.progA k1.prog.length s1.progC,.int .u32 (k1.fetch:Int)] W fun e w'=>e = .returned (.tuple #[.int .u32 0,.bool false])∧Bel W w' from HFw)
      rw [a9s (by rw [hE]),hE] at hR
      replace hR:=Lib.hid (show a2y k={ k1 with fetched:=k1.fetched++[⟨k1.fetch,a1k k1.fetch 4⟩],stop:=true } from hR.out)
      have hw:IntKind.u32.wrap ((k1.fetch:Int)+4)=((a1k k1.fetch 4:Nat):Int):=by
       simp only [IntKind.wrap,IntKind.bits,IntKind.signed]
       unfold a1k
       simp
      obtain ⟨N,hN⟩:∃ N,a1k k1.fetch 4=N:=⟨_,rfl⟩
      rw [hN] at hR hw
      replace hw:=Lib.hid hw
      clear hE hs hfl hN hF0
      go_upto_region 3 with ((try simp only [zA,Nat.reduceAdd]);(first|go_big_skip|refine a8z ?_|(refine a1s ?_;clear hF;(first|intro gN wN hF|intro wN hF|intro hF))|(refine a1d ?_;clear hF;intro vN wN hF)))
      refine a1n (by kernel_rfl) hF _ _ (fun _ h=>h) (fun _ h=>h) ?_
      clear hF;intro hF hH
      refine a1c 0 hH ?_
      refine zp 1 hH ?_
      refine zk1 2 hH ?_
      refine zk1 3 hH ?_
      refine a2i 4 hH ?_
      refine a1c 5 hH ?_
      refine zk8 6 hH ?_
      refine zp 7 hH ?_
      refine zk9 8 hH ?_
      refine zk9 9 hH ?_
      refine a4n 10 hH ?_
      refine a8o 11 hH ?_
      refine zk8 12 hH ?_
      refine zp 13 hH ?_
      refine zk9 14 hH ?_
      refine zk9 15 hH ?_
      refine zk9 16 hH ?_
      refine a4n 17 hH ?_
      first|(refine a1p (i:=18) rfl (a9n rfl rfl rfl) hH ?_;(try simp only [zA,Nat.reduceAdd]))|refine zp 18 hH ?_
      refine zp 19 hH ?_
      refine zrz ?_
      (go_upto_region 4 with ((try simp only [zA,Nat.reduceAdd]);(first|go_big_skip|refine a8z ?_|(refine a1s ?_;clear hF;(first|intro gN wN hF|intro wN hF|intro hF))|(refine a1d ?_;clear hF;intro vN wN hF))))
      refine a1n (by kernel_rfl) hF _ _ (fun _ h=>h) (fun _ h=>h) ?_
      clear hF;intro hF hH
      refine a1c 0 hH ?_
      refine zp 1 hH ?_
      refine zk1 2 hH ?_
      refine zk1 3 hH ?_
      refine a2i 4 hH ?_
      refine a1c 5 hH ?_
      refine zp 6 hH ?_
      refine zk1 7 hH ?_
      refine zk1 8 hH ?_
      refine a2i 9 hH ?_
      refine zry 10 (fun K hK=>?_)
      go_wp2_with ((refine c2q ?_;clear hF;intro wN hF))
      have hH:=zx0 hH hF;refine hK.out _ _ hH ?_;clear hK;(try simp only [zA,Nat.reduceAdd])
      refine a1c 11 hH ?_
      refine zp 12 hH ?_
      refine zp 13 hH ?_
      refine a2a 14 hH ?_
      refine a2a 15 hH ?_
      refine zrz ?_
      (go_upto_region 6 with ((try simp only [zA,Nat.reduceAdd]);(first|go_big_skip|refine a8z ?_|(refine a1s ?_;clear hF;(first|intro gN wN hF|intro wN hF|intro hF))|(refine a1d ?_;clear hF;intro vN wN hF))))
      refine a7k [23] (by kernel_rfl) hF [.blk g 81 (mcells k1 s1)] _ (by first|exact fun _ h=>h|((repeat (first|exact a1f|refine a1m zdm ?_)) <;> exact a1f)) (by first|exact fun _ h=>h|((repeat (first|exact a1f|refine a1m zdm ?_)) <;> exact a1f)) ?_
      clear hF;intro hF hH
      refine zt4 0 hH ?_
      refine zt4 1 hH ?_
      refine zq 2 hH ?_
      refine zt0 3 hH ?_
      refine zt0 4 hH ?_
      refine zt3 5 hH ?_
      refine zt4 6 hH ?_
      refine zq 7 hH ?_
      refine zt0 8 hH ?_
      refine zt0 9 hH ?_
      refine zt3 10 hH ?_
      refine zt4 11 hH ?_
      refine zq 12 hH ?_
      refine zt0 13 hH ?_
      refine zt0 14 hH ?_
      refine zt3 15 hH ?_
      first|(refine b9i (i:=16) rfl (b4o rfl rfl rfl) hH ?_;(try simp only [zA,Nat.reduceAdd]))|(refine b9i (i:=16) rfl (b4p rfl rfl rfl) hH ?_;(try simp only [zA,Nat.reduceAdd]))|refine zq 16 hH ?_
      refine zq 17 hH ?_
      refine a2u (rs:=[18]) (by kernel_rfl) (by simp) (a2v rfl (fun K hK=>?_) AllReadyT.nil)
      go_wp2_with ((first|(refine a6o (i:=3) (j:=0) (b:=s1.feO) rfl hF rfl rfl ?_ at3 at0 (by decide) hfit.full;clear hF;intro A2 c2 wN hF;(try simp only [zA,Nat.reduceAdd]))|(refine w_st1 rfl hF rfl rfl ?_ (hoff:=by (try simp only [a4a]);rw [mcells_len];decide);clear hF;intro wN hF;(try simp only [zF] at hF);(try simp only [zA,Nat.reduceAdd]))|((first|refine zrg ?_|(refine zst ?_;clear hF;(first|intro gN wN hF|intro wN hF|intro hF))|(refine zap ?_;clear hF;intro vN wN hF));(try simp only [zA,Nat.reduceAdd]))))
      have hH:=zx0 hH hF;refine hK.out _ _ (fun _=>hH) ?_;clear hK;(try simp only [zA,Nat.reduceAdd])
      refine a2u (rs:=[19]) (by kernel_rfl) (by simp) (a2v rfl (fun K hK=>?_) AllReadyT.nil)
      go_wp2_with ((first|(refine a6o (i:=3) (j:=0) (b:=s1.feO) rfl hF rfl rfl ?_ at3 at0 (by decide) hfit.full;clear hF;intro A2 c2 wN hF;(try simp only [zA,Nat.reduceAdd]))|(refine w_st1 rfl hF rfl rfl ?_ (hoff:=by (try simp only [a4a]);rw [mcells_len];decide);clear hF;intro wN hF;(try simp only [zF] at hF);(try simp only [zA,Nat.reduceAdd]))|((first|refine zrg ?_|(refine zst ?_;clear hF;(first|intro gN wN hF|intro wN hF|intro hF))|(refine zap ?_;clear hF;intro vN wN hF));(try simp only [zA,Nat.reduceAdd]))))
      have hH:=zx0 hH hF;refine hK.out _ _ (fun _=>hH) ?_;clear hK;(try simp only [zA,Nat.reduceAdd])
      refine zq 20 hH ?_
      refine zt0 21 hH ?_
      refine zt0 22 hH ?_
      refine a2u (rs:=[23]) (by kernel_rfl) (by simp) (a2v rfl (fun K hK=>?_) AllReadyT.nil)
      go_wp2_with ((first|(refine a6o (i:=3) (j:=0) (b:=s1.feO) rfl hF rfl rfl ?_ at3 at0 (by decide) hfit.full;clear hF;intro A2 c2 wN hF;(try simp only [zA,Nat.reduceAdd]))|(refine w_st1 rfl hF rfl rfl ?_ (hoff:=by (try simp only [a4a]);rw [mcells_len];decide);clear hF;intro wN hF;(try simp only [zF] at hF);(try simp only [zA,Nat.reduceAdd]))|((first|refine zrg ?_|(refine zst ?_;clear hF;(first|intro gN wN hF|intro wN hF|intro hF))|(refine zap ?_;clear hF;intro vN wN hF));(try simp only [zA,Nat.reduceAdd]))))
      (try clear hH);refine hK.out _ _ (a4w 23 rfl (by kernel_rfl)) ?_;clear hK;(try simp only [zA,Nat.reduceAdd])
      refine a7j (by kernel_rfl) ?_ _
      (skip)
      go_wp2_with ((try simp only [zA,Nat.reduceAdd]);(first|go_big_skip|(refine b5y ?_;clear hF;(first|intro gN wN hF|intro wN hF|intro hF))|refine a7u ?_|(refine a1d ?_;clear hF;intro vN wN hF)))
      refine bodyPost_ret (results_none rfl _ _ _) rfl ⟨⟨_,rfl⟩,?_⟩
      rw [hR.out]
      rw [hw.out] at hF
      rw [b5f (k:=k1) (s:=s1) (k1.fetched++[⟨k1.fetch,N⟩]) (by simp),c5r,← d9t] at hF
      refine MF.toX ⟨{ s1 with feO:=true,feA:=A2,feC:=c2 },⟨hfit.data,hfit.words,hfit.robC,hfit.robM,hfit.stO,hfit.reO,fun h=>(by cases h)⟩,?_⟩
      exact d9s
     | some x=>
      rw [hfl] at hE HFw
      have hx32:x<4294967296:=hk1.prog x (by
       unfold a5f at hfl
       split at hfl
       ·exact List.mem_of_getElem? hfl
       ·cases hfl)
      replace HFw:=Lib.hid (show ∀ (W:World) (h:Rd W W.heap.size 1 s1.progA k1.prog.length s1.progC (u32v k1.prog)),Calls Tryz.prog 79 #[.slice s1.progA k1.prog.length s1.progC,.int .u32 (k1.fetch:Int)] W fun e w'=>e = .returned (.tuple #[.int .u32 (x:Int),.bool true])∧Bel W w' from HFw)
      have HLi:=fun W=>a6u k1.fetch W hft
      have hL32:=b5h hft
      obtain ⟨L,hL⟩:∃ L,a1w k1.fetch=L:=⟨_,rfl⟩
      rw [show k1.fetch - k1.fetch % 16=L from hL] at HLi
      dsimp only at hE
      rw [hL] at hE hL32
      have hfr:=b3q k1.wways k1.words L
      obtain ⟨i1,i2,fb,hfk⟩:∃ i1 i2 fb,a4m k1.wways k1.words L=(i1,i2,fb):=⟨_,_,_,rfl⟩
      rw [hfk] at hE hfr
      dsimp only at hE hfr
      rw [← hfit.words] at hfr
      have hso:=hk1.wok
      rw [← hfit.words] at hso
      have HFi:=Lib.hid (fun (W:World) (h1:RdS W W.heap.size s1.wA k1.words.length s1.wC s1.wS)=>a7d hL32 hso.sok hfr W h1)
      replace HLi:=Lib.hid HLi
      clear hfk hfr hL hfl hs hF0
      cases fb
      ·rw [if_pos rfl] at hE
       obtain ⟨hv,hhv⟩:∃ hv,a3r k1.bus L 2=hv:=⟨_,rfl⟩
       obtain ⟨rm,hrm⟩:∃ rm,a4q k1 false=rm:=⟨_,rfl⟩
       rw [hhv,hrm] at hE
       rw [a9s (by rw [hE]),hE] at hR
       replace hhv:=Lib.hid hhv
       replace hrm:=Lib.hid hrm
       clear hE
       go_upto_region 3 with ((try simp only [zA,Nat.reduceAdd]);(first|go_big_skip|refine a8z ?_|(refine a1s ?_;clear hF;(first|intro gN wN hF|intro wN hF|intro hF))|(refine a1d ?_;clear hF;intro vN wN hF)))
       refine a1n (by kernel_rfl) hF _ _ (fun _ h=>h) (fun _ h=>h) ?_
       clear hF;intro hF hH
       refine a1c 0 hH ?_
       refine zp 1 hH ?_
       refine zk1 2 hH ?_
       refine zk1 3 hH ?_
       refine a2i 4 hH ?_
       refine a1c 5 hH ?_
       refine zk8 6 hH ?_
       refine zp 7 hH ?_
       refine zk9 8 hH ?_
       refine zk9 9 hH ?_
       refine a4n 10 hH ?_
       refine a8o 11 hH ?_
       refine zk8 12 hH ?_
       refine zp 13 hH ?_
       refine zk9 14 hH ?_
       refine zk9 15 hH ?_
       refine zk9 16 hH ?_
       refine a4n 17 hH ?_
       first|(refine a1p (i:=18) rfl (a9n rfl rfl rfl) hH ?_;(try simp only [zA,Nat.reduceAdd]))|refine zp 18 hH ?_
       refine zp 19 hH ?_
       refine zrz ?_
       (go_upto_region 4 with ((try simp only [zA,Nat.reduceAdd]);(first|go_big_skip|refine a8z ?_|(refine a1s ?_;clear hF;(first|intro gN wN hF|intro wN hF|intro hF))|(refine a1d ?_;clear hF;intro vN wN hF))))
       refine a1n (by kernel_rfl) hF _ _ (fun _ h=>h) (fun _ h=>h) ?_
       clear hF;intro hF hH
       refine a1c 0 hH ?_
       refine zp 1 hH ?_
       refine zk1 2 hH ?_
       refine zk1 3 hH ?_
       refine a2i 4 hH ?_
       refine a1c 5 hH ?_
       refine zp 6 hH ?_
       refine zk1 7 hH ?_
       refine zk1 8 hH ?_
       refine a2i 9 hH ?_
       refine zry 10 (fun K hK=>?_)
       go_wp2_with ((refine c2q ?_;clear hF;intro wN hF))
       have hH:=zx0 hH hF;refine hK.out _ _ hH ?_;clear hK;(try simp only [zA,Nat.reduceAdd])
       refine a1c 11 hH ?_
       refine zp 12 hH ?_
       refine zp 13 hH ?_
       refine a2a 14 hH ?_
       refine a2a 15 hH ?_
       refine zrz ?_
       (skip)
       cases hv
       ·cases rm
        ·replace hR:=Lib.hid (show a2y k=k1 by rw [hR.out];rfl)
         exact d9q
        ·replace hR:=Lib.hid (show a2y k=a3y k1 2 L ⟨#[]⟩ by rw [hR.out];rfl)
         go_wp2_with ((try simp only [zA,Nat.reduceAdd]);(first|go_big_skip|(go_at_call 63;refine (HLi.out _).mono ?_;rintro x wN ⟨rfl,d,rfl⟩;replace hF:=hF.grow (Bel.drewN _ d))|refine c2r ?_|(refine a9w ?_;clear hF;(first|intro gN wN hF|intro wN hF|intro hF))|(go_at_call 81;obtain ⟨Ah,ch,hfz,hF2⟩:=hF.freeze 0 at0;injection hfz with hfz1 _ hfz2;subst hfz1 hfz2;clear hF;have hF:=hF2;clear hF2;(try simp only [zF] at hF);refine (a6q _ _ _ _ _ _ _ _ _ hF.rdA hF.rdA).mono ?_;rintro x wN ⟨hx,hb⟩;rw [hhv.out] at hx;subst hx;replace hF:=hF.grow hb;clear hb)|(go_at_call 82;refine (a6r (s:=s1) hk1 false ((hF.front _ (m:=.blk g 81 (mcells k1 s1)) (by exact zat)).lessD (D':=kD k1 s1++D) (by simp only [kD,hfit.stO,hfit.reO,a1h,zL];exact zsn))).mono ?_;rintro x wN ⟨hx,⟨hF5⟩⟩;rw [hrm.out] at hx;subst hx;clear hF;have hF:=hF5;clear hF5;(try simp only [zF] at hF);(simp only [kD,hfit.stO,hfit.reO,a1h,zL] at hF))|(go_at_call 83;refine (a5q (s:=s1) hk1 _ _ _ ((hF.front _ (m:=.blk g 81 (mcells k1 s1)) (by exact zat)).lessD (D':=kD k1 s1++D) (by simp only [kD,hfit.stO,hfit.reO,a1h,zL];exact zsn))).mono ?_;rintro x wN ⟨⟨y,rfl⟩,A5,c5,hF5⟩;clear hF;have hF:=hF5;clear hF5;(try simp only [zF] at hF))|(go_at_call 84;refine (HTo.out _ hF.rds).mono ?_;rintro x wN ⟨_,rfl,A6,n6,c6,S6,rfl,hO,hC6⟩;replace hF:=hF.callA hO;clear hO)|(refine w_stp rfl hF rfl rfl ?_ (hfit:=by (try simp only [List.length_set]);rw [mcells_len];exact Nat.le_of_ble_eq_true rfl);clear hF;intro wN hF;(try simp only [List.set_cons_zero,List.set_cons_succ] at hF))|(refine a1d ?_;clear hF;intro vN wN hF)))
         refine bodyPost_ret (results_none rfl _ _ _) rfl ⟨⟨_,rfl⟩,?_⟩
         rw [hR.out]
         exact MF.toX ⟨{ s1 with busA:=A5,busC:=c5 },⟨hfit.data,hfit.words,hfit.robC,hfit.robM,hfit.stO,hfit.reO,hfit.full⟩,hF⟩
       ·replace hR:=Lib.hid (show a2y k=k1 by rw [hR.out];rfl)
        exact d9q
      ·rw [if_neg (by decide)] at hE
       have hTo:=c1k k1.wways k1.words L
       have hk2:=hk1.touch L
       obtain ⟨C',hC'⟩:∃ C',a4v k1.wways k1.words L=C':=⟨_,rfl⟩
       rw [hC'] at hTo hE hk2
       rw [← hfit.words] at hTo
       have HTo:=Lib.hid (fun (W:World) (h1:RdS W W.heap.size s1.wA k1.words.length s1.wC s1.wS)=>d5a hL32 hso.sok hTo W h1)
       obtain ⟨gs,hgs⟩:=h7j { k1 with words:=C' } x
       obtain ⟨N,hN⟩:∃ N,(a2f { k1 with words:=C' } x).1=N:=⟨_,rfl⟩
       have hbh:a2f { k1 with words:=C' } x=(N,{ k1 with words:=C',guessed:=gs }):=Prod.ext hN hgs
       rw [hbh] at hE
       have hke:=hk1.fetch1 (by omega)
       rw [hE] at hke
       rw [c6g (by rw [hE]),hE] at hR
       dsimp only at hR hke
       have hb:=hk2.behind (by omega) x
       rw [hbh] at hb
       have hN32:=hb.1
       replace hbh:=Lib.hid hbh
       clear hE hgs hN hb hTo hC'
       go_upto_region 3 with ((try simp only [zA,Nat.reduceAdd]);(first|go_big_skip|refine a8z ?_|(refine a1s ?_;clear hF;(first|intro gN wN hF|intro wN hF|intro hF))|(refine a1d ?_;clear hF;intro vN wN hF)))
       refine a1n (by kernel_rfl) hF _ _ (fun _ h=>h) (fun _ h=>h) ?_
       clear hF;intro hF hH
       refine a1c 0 hH ?_
       refine zp 1 hH ?_
       refine zk1 2 hH ?_
       refine zk1 3 hH ?_
       refine a2i 4 hH ?_
       refine a1c 5 hH ?_
       refine zk8 6 hH ?_
       refine zp 7 hH ?_
       refine zk9 8 hH ?_
       refine zk9 9 hH ?_
       refine a4n 10 hH ?_
       refine a8o 11 hH ?_
       refine zk8 12 hH ?_
       refine zp 13 hH ?_
       refine zk9 14 hH ?_
       refine zk9 15 hH ?_
       refine zk9 16 hH ?_
       refine a4n 17 hH ?_
       first|(refine a1p (i:=18) rfl (a9n rfl rfl rfl) hH ?_;(try simp only [zA,Nat.reduceAdd]))|refine zp 18 hH ?_
       refine zp 19 hH ?_
       refine zrz ?_
       (go_upto_region 4 with ((try simp only [zA,Nat.reduceAdd]);(first|go_big_skip|refine a8z ?_|(refine a1s ?_;clear hF;(first|intro gN wN hF|intro wN hF|intro hF))|(refine a1d ?_;clear hF;intro vN wN hF))))
       refine a1n (by kernel_rfl) hF _ _ (fun _ h=>h) (fun _ h=>h) ?_
       clear hF;intro hF hH
       refine a1c 0 hH ?_
       refine zp 1 hH ?_
       refine zk1 2 hH ?_
       refine zk1 3 hH ?_
       refine a2i 4 hH ?_
       refine a1c 5 hH ?_
       refine zp 6 hH ?_
       refine zk1 7 hH ?_
       refine zk1 8 hH ?_
       refine a2i 9 hH ?_
       refine zry 10 (fun K hK=>?_)
       go_wp2_with ((refine c2q ?_;clear hF;intro wN hF))
       have hH:=zx0 hH hF;refine hK.out _ _ hH ?_;clear hK;(try simp only [zA,Nat.reduceAdd])
       refine a1c 11 hH ?_
       refine zp 12 hH ?_
       refine zp 13 hH ?_
       refine a2a 14 hH ?_
       refine a2a 15 hH ?_
       refine zrz ?_
       (skip)
       go_upto_region 14 with ((try simp only [zA,Nat.reduceAdd]);(first|go_big_skip|(go_at_call 63;refine (HLi.out _).mono ?_;rintro x wN ⟨rfl,d,rfl⟩;replace hF:=hF.grow (Bel.drewN _ d))|refine c2r ?_|(refine a9w ?_;clear hF;(first|intro gN wN hF|intro wN hF|intro hF))|(go_at_call 81;obtain ⟨Ah,ch,hfz,hF2⟩:=hF.freeze 0 at0;injection hfz with hfz1 _ hfz2;subst hfz1 hfz2;clear hF;have hF:=hF2;clear hF2;(try simp only [zF] at hF);refine (a6q _ _ _ _ _ _ _ _ _ hF.rdA hF.rdA).mono ?_;rintro x wN ⟨hx,hb⟩;rw [hhv.out] at hx;subst hx;replace hF:=hF.grow hb;clear hb)|(go_at_call 82;refine (a6r (s:=s1) hk1 false ((hF.front _ (m:=.blk g 81 (mcells k1 s1)) (by exact zat)).lessD (D':=kD k1 s1++D) (by simp only [kD,hfit.stO,hfit.reO,a1h,zL];exact zsn))).mono ?_;rintro x wN ⟨hx,⟨hF5⟩⟩;rw [hrm.out] at hx;subst hx;clear hF;have hF:=hF5;clear hF5;(try simp only [zF] at hF);(simp only [kD,hfit.stO,hfit.reO,a1h,zL] at hF))|(go_at_call 83;refine (a5q (s:=s1) hk1 _ _ _ ((hF.front _ (m:=.blk g 81 (mcells k1 s1)) (by exact zat)).lessD (D':=kD k1 s1++D) (by simp only [kD,hfit.stO,hfit.reO,a1h,zL];exact zsn))).mono ?_;rintro x wN ⟨⟨y,rfl⟩,A5,c5,hF5⟩;clear hF;have hF:=hF5;clear hF5;(try simp only [zF] at hF))|(go_at_call 84;refine (HTo.out _ hF.rds).mono ?_;rintro x wN ⟨_,rfl,A6,n6,c6,S6,rfl,hO,hC6⟩;replace hF:=hF.callA hO;clear hO)|(refine w_stp rfl hF rfl rfl ?_ (hfit:=by (try simp only [List.length_set]);rw [mcells_len];exact Nat.le_of_ble_eq_true rfl);clear hF;intro wN hF;(try simp only [List.set_cons_zero,List.set_cons_succ] at hF))|(refine a1d ?_;clear hF;intro vN wN hF)))
       have hn6:n6=C'.length:=(by rw [← hC6,a3n];exact ((hF.rds (A:=A6) (n:=n6) (c:=c6) (S:=S6)).slen).symm)
       subst hn6
       rw [d7e (k:=k1) (s:=s1) S6 C' k1.wways rfl] at hF
       go_upto_region 15 with ((try simp only [zA,Nat.reduceAdd]);(first|(go_at_call 85;refine (h6p (s:={ s1 with wA:=A6,wC:=c6,wS:=S6 }) hk2 x hx32 ((hF.front _ (m:=.blk g 81 (mcells { k1 with words:=C' } { s1 with wA:=A6,wC:=c6,wS:=S6 })) (by exact zat)).lessD (D':=kD { k1 with words:=C' } { s1 with wA:=A6,wC:=c6,wS:=S6 }++D) (by simp only [kD,hfit.stO,hfit.reO,a1h,zL];exact zsn))).mono ?_;rintro y wN ⟨hy,hK2⟩;rw [hbh.out] at hy hK2;subst hy;obtain ⟨hF5⟩:=hK2;clear hF;have hF:=hF5;clear hF5;(try simp only [zF] at hF);(simp only [kD,hfit.stO,hfit.reO,a1h,zL] at hF))|refine a7u ?_|(refine a1s ?_;clear hF;(first|intro gN wN hF|intro wN hF|intro hF))|(refine a1d ?_;clear hF;intro vN wN hF)))
       refine a7k [18] (by kernel_rfl) hF [.blk g 81 (mcells _ _)] _ (by first|exact fun _ h=>h|((repeat (first|exact a1f|refine a1m zdm ?_)) <;> exact a1f)) (by first|exact fun _ h=>h|((repeat (first|exact a1f|refine a1m zdm ?_)) <;> exact a1f)) ?_
       clear hF;intro hF hH
       refine zt4 0 hH ?_
       refine zt4 1 hH ?_
       refine zq 2 hH ?_
       refine zt0 3 hH ?_
       refine zt0 4 hH ?_
       refine zt3 5 hH ?_
       refine zt4 6 hH ?_
       refine zq 7 hH ?_
       refine zt0 8 hH ?_
       refine zt0 9 hH ?_
       refine zt3 10 hH ?_
       refine zt4 11 hH ?_
       refine zq 12 hH ?_
       refine a2u (rs:=[13]) (by kernel_rfl) (by simp) (a2v rfl (fun K hK=>?_) AllReadyT.nil)
       go_wp2_with ((first|(refine a6o (i:=3) (j:=0) (b:=s1.feO) rfl hF rfl rfl ?_ at3 at0 (by decide) hfit.full;clear hF;intro A2 c2 wN hF;(try simp only [zA,Nat.reduceAdd]))|(refine w_st1 rfl hF rfl rfl ?_ (hoff:=by (try simp only [a4a]);rw [mcells_len];decide);clear hF;intro wN hF;(try simp only [zF] at hF);(try simp only [zA,Nat.reduceAdd]))|((first|refine zrg ?_|(refine zst ?_;clear hF;(first|intro gN wN hF|intro wN hF|intro hF))|(refine zap ?_;clear hF;intro vN wN hF));(try simp only [zA,Nat.reduceAdd]))))
       have hH:=zx0 hH hF;refine hK.out _ _ (fun _=>hH) ?_;clear hK;(try simp only [zA,Nat.reduceAdd])
       refine a2u (rs:=[14]) (by kernel_rfl) (by simp) (a2v rfl (fun K hK=>?_) AllReadyT.nil)
       go_wp2_with ((first|(refine a6o (i:=3) (j:=0) (b:=s1.feO) rfl hF rfl rfl ?_ at3 at0 (by decide) hfit.full;clear hF;intro A2 c2 wN hF;(try simp only [zA,Nat.reduceAdd]))|(refine w_st1 rfl hF rfl rfl ?_ (hoff:=by (try simp only [a4a]);rw [mcells_len];decide);clear hF;intro wN hF;(try simp only [zF] at hF);(try simp only [zA,Nat.reduceAdd]))|((first|refine zrg ?_|(refine zst ?_;clear hF;(first|intro gN wN hF|intro wN hF|intro hF))|(refine zap ?_;clear hF;intro vN wN hF));(try simp only [zA,Nat.reduceAdd]))))
       have hH:=zx0 hH hF;refine hK.out _ _ (fun _=>hH) ?_;clear hK;(try simp only [zA,Nat.reduceAdd])
       refine zq 15 hH ?_
       refine zt0 16 hH ?_
       refine zt0 17 hH ?_
       refine a2u (rs:=[18]) (by kernel_rfl) (by simp) (a2v rfl (fun K hK=>?_) AllReadyT.nil)
       go_wp2_with ((first|(refine a6o (i:=3) (j:=0) (b:=s1.feO) rfl hF rfl rfl ?_ at3 at0 (by decide) hfit.full;clear hF;intro A2 c2 wN hF;(try simp only [zA,Nat.reduceAdd]))|(refine w_st1 rfl hF rfl rfl ?_ (hoff:=by (try simp only [a4a]);rw [mcells_len];decide);clear hF;intro wN hF;(try simp only [zF] at hF);(try simp only [zA,Nat.reduceAdd]))|((first|refine zrg ?_|(refine zst ?_;clear hF;(first|intro gN wN hF|intro wN hF|intro hF))|(refine zap ?_;clear hF;intro vN wN hF));(try simp only [zA,Nat.reduceAdd]))))
       (try clear hH);refine hK.out _ _ (a4w 18 rfl (by kernel_rfl)) ?_;clear hK;(try simp only [zA,Nat.reduceAdd])
       refine a7j (by kernel_rfl) ?_ _
       (skip)
       rw [b5f (n:=k1.fetched.length+1) (k1.fetched++[⟨k1.fetch,N⟩]) (by simp),← d9t] at hF
       go_wp2_with ((try simp only [zA,Nat.reduceAdd]);(first|go_big_skip|(refine b5y ?_;clear hF;(first|intro gN wN hF|intro wN hF|intro hF))|refine a7u ?_|(refine a1d ?_;clear hF;intro vN wN hF)))
       go_roundw
       case rel=>
        rw [d7c] at hF
        refine ⟨j+1,{ k1 with words:=C',guessed:=gs,fetched:=k1.fetched++[⟨k1.fetch,N⟩],fetch:=N },by go_num,by omega,Lib.hid (by rw [hR.out,show k.conf.width.toNat - (j+1)=m by omega]),by rw [show B+((j+1:Nat):Int)=B+(j:Int)+1 by omega];exact hke,⟨{ s1 with wA:=A6,wC:=c6,wS:=S6,feO:=true,feA:=A2,feC:=c2,stO:=false,reO:=false },⟨hfit.data,hC6,hfit.robC,hfit.robM,rfl,rfl,fun h=>(by cases h)⟩,?_⟩⟩
        exact d9s
       case measure=>first|(simp [intOf];done)|(simp [intOf];omega)
    ·rw [if_pos (.inr rfl)] at hE
     exact d9r
  ·have hz:k.conf.width.toNat - j=0:=by omega
   rw [hz] at hR
   replace hR:=Lib.hid (show a2y k=k1 from hR.out)
   have hlt:=Lib.hid (show decide ((j:Int)<k.conf.width)=false by simp;omega)
   have hF0:=hF
   (simp only [kD,hfit.stO,hfit.reO,a1h,zL] at hF)
   go_wp2_with ((try simp only [zA,Nat.reduceAdd]);(first|go_big_skip|refine f3r ?_|(refine a1s ?_;clear hF;(first|intro gN wN hF|intro wN hF|intro hF))|(refine a1d ?_;clear hF;intro vN wN hF)))
   go_end0
   refine ⟨⟨_,rfl⟩,?_⟩
   rw [hR.out]
   exact MF.toX ⟨s1,hfit,hF0⟩
end
end Go.Proofs.YtgnomadgnciifaaGreatDoor
