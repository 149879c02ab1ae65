/- Joined: Mi. -/
import Derived.Test.YtgnomadgnciifaaGreatDoorZH0
import Derived.Test.YtgnomadgnciifaaGreatDoorZ32
import Derived.Test.YtgnomadgnciifaaGreatDoorZ30
import Derived.Test.YtgnomadgnciifaaGreatDoorZ4
import Derived.Test.YtgnomadgnciifaaGreatDoorZ3
import Derived.Test.YtgnomadgnciifaaGreatDoorZ9
import Derived.Test.YtgnomadgnciifaaGreatDoorZ1
import Derived.Deep.DeepCutAuto
set_option linter.unusedVariables false
set_option linter.unusedSimpArgs false
set_option linter.unusedSectionVars false
set_option maxRecDepth 100000
set_option maxHeartbeats 16000000
namespace Go.Proofs.YtgnomadgnciifaaGreatDoor
theorem z35x0 {p:Prop} (h:p:=by
 go_wp2_with ((try simp only [zA,Nat.reduceAdd]);(first|refine zg60 ?_|(refine zg61 ?_;clear hF;(first|intro gN wN hF|intro wN hF|intro hF))|(go_at_call 83;refine (mAsk_any (s:=s2) hk2 _ _ _ ((hF.front _ (m:=.blk g 81 (mcells k2 s2)) (by exact zat)).lessD (D':=kD k2 s2++D) (by simp only [kD,hfit2.feO,hfit2.stO,hfit2.reO,apD_no,List.cons_append,List.nil_append];((repeat (refine subn_cons ?_ ?_;focus (exact zdm)));exact fun d h=>by (repeat (first|exact h|refine List.Mem.tail _ ?_)))))).mono ?_;rintro x wN ⟨⟨y,rfl⟩,A5,c5,hF5⟩;clear hF;have hF:=hF5;clear hF5;(try simp only [zF] at hF))|(refine zg15 ?_;clear hF;intro vN wN hF)))
 go_end0
 (try refine ⟨⟨_,rfl⟩,?_⟩)
 rw [hE.out]
 exact ⟨s2,hfit2,fun h=>(by cases h),fun h=>(by cases h),⟨(hF.drop 0).lessD (by simp only [kD,hfit2.feO,hfit2.stO,hfit2.reO,apD_no,List.cons_append,List.nil_append];((repeat (refine subn_cons ?_ ?_;focus (exact zdm)));exact fun d h=>by (repeat (first|exact h|refine List.Mem.tail _ ?_))))⟩⟩):p:=h
theorem z35x1 {p:Prop} (h:p:=by
 refine zk19 16 hH ?_
 refine zry 17 (fun K hK=>?_)
 go_wp2_with ((first|(go_at_call 86;refine (HD.out _ hF.rds hF.rdA).mono ?_;rintro x wN ⟨_,_,rfl,As4,cs4,A4,n4,c4,S4,rfl,rfl,hO,hC4⟩;replace hF:=hF.call3A hO;clear hO)|(refine w_st1 rfl hF rfl rfl ?_;clear hF;intro wN hF)|(refine w_st rfl hF rfl rfl ?_;clear hF;intro wN hF)|(refine w_st1o rfl hF rfl rfl ?_;clear hF;intro wN hF));(try simp only [zA,Nat.reduceAdd]))
 have hH:=zx0 hH hF;refine hK.out _ _ hH ?_;clear hK;(try simp only [zA,Nat.reduceAdd])
 refine zk19 18 hH ?_
 refine zrz ?_
 (go_wp2;go_meet;have hn4:n4=C'.length:=(by rw [← hC4,cont_len];exact ((hF.rds (A:=A4) (n:=n4) (c:=c4) (S:=S4)).slen).symm);subst hn4;exact ⟨_,_,_,_,_,_,rfl,rfl,rfl,Lib.hid hC4,hF.lessD (by simp only [kD,hfit.feO,hfit.stO,hfit.reO,apD_no,List.cons_append,List.nil_append];((repeat (refine subn_cons ?_ ?_;focus (exact zdm)));exact fun d h=>by (repeat (first|exact h|refine List.Mem.tail _ ?_))))⟩)):p:=h
theorem z35x2 {p:Prop} (h:p:=by
 go_wp2_with ((try simp only [zA,Nat.reduceAdd]);(first|refine zg60 ?_|(refine zg61 ?_;clear hF;(first|intro gN wN hF|intro wN hF|intro hF))|(go_at_call 83;refine (mAsk_any (s:=s2) hk2 _ _ _ ((hF.front _ (m:=.blk g 81 (mcells k2 s2)) (by exact zat)).lessD (D':=kD k2 s2++D) (by simp only [kD,hfit2.feO,hfit2.stO,hfit2.reO,apD_no,List.cons_append,List.nil_append];((repeat (refine subn_cons ?_ ?_;focus (exact zdm)));exact fun d h=>by (repeat (first|exact h|refine List.Mem.tail _ ?_)))))).mono ?_;rintro x wN ⟨⟨y,rfl⟩,A5,c5,hF5⟩;clear hF;have hF:=hF5;clear hF5;(try simp only [zF] at hF))|(refine zg15 ?_;clear hF;intro vN wN hF)))
 refine bodyPost_ret (results_none rfl _ _ _) rfl ⟨⟨_,rfl⟩,?_⟩
 rw [hE.out]
 exact ⟨s2,hfit2,fun h=>(by cases h),fun h=>(by cases h),⟨hS2⟩⟩):p:=h
theorem z35x3 {p:Prop} (h:p:=by
 go_meet
 exact ⟨k1,s1,Lib.hid (by rw [hA.out];simp),hfit1,⟨hF.lessD (by simp only [kD,hfit1.feO,hfit1.stO,hfit1.reO,apD_no,List.cons_append,List.nil_append];((repeat (refine subn_cons ?_ ?_;focus (exact zdm)));exact fun d h=>by (repeat (first|exact h|refine List.Mem.tail _ ?_))))⟩⟩):p:=h
section
open Go.RowKit Wd
inductive MX (w0:World) (D0 D:List Da) (M:List Mu) (g:Nat) (k:Kern) (a b:Bool) (w:World):Prop
 | mk (s:Sls) (hfit:Fit k s) (ha:a=true→s.feC=k.fetched.length) (hb:b=true→s.stC=k.stores.length∧s.reC=k.retired.length) (hS:MS w0 D0 D M g k s w)
def drainsA (k:Kern) (ok:Bool):Kern:=match ok,k.stores with
 | false,p::_=>if hasB k.bus (lineN p.addr) 3=false∧roomK k true=true then askK k 3 (lineN p.addr) ⟨#[]⟩ else k
 | _,_=>k
def drainsB (k:Kern):Kern:=if k.stores≠[]∨k.halt=0 then k else
 if (dirtyF k.dways k.data).2=true∧(dirtyF k.dways k.data).1.data.size≠0 then { askK k 4 (dirtyF k.dways k.data).1.line (dirtyF k.dways k.data).1.data with data:=cleanF k.dways k.data (dirtyF k.dways k.data).1.line } else k
theorem drainsK_eq (k:Kern):drainsK k=drainsB (drainsA { k with stores:=(drainF k.dways k.stores k.data).1,data:=(drainF k.dways k.stores k.data).2.1 } (drainF k.dways k.stores k.data).2.2):=rfl
theorem drainsA_ok {B:Int} {k:Kern} (h:KOk B k) (h2:B+1≤1000000) (ok:Bool):KOk (B+1) (drainsA k ok):=by
 unfold drainsA
 split
 ·rename_i p r hp
  have hpo:=h.st p (by rw [hp];exact List.mem_cons_self ..)
  split
  ·exact h.ask (by omega) 3 (lineN_lt hpo.1) (by decide)
  ·exact h.up (by omega) (by omega)
 ·exact h.up (by omega) (by omega)
theorem Fit.ask {k:Kern} {s:Sls} (h:Fit k s) (kind:Int) (line:Nat) (data:ByteArray) (A:Option Addr) (c:Nat):Fit (askK k kind line data) { s with busA:=A,busC:=c } :=
 ⟨h.data,h.words,h.robC,h.robM,h.feO,h.stO,h.reO⟩
theorem mDrains_any {w0 w:World} {D0 D:List Da} {M:List Mu} {g:Nat} {k:Kern} {a b:Bool} {B:Int} (hk:KOk B k) (hB:B+2≤1000000) (hX:MX w0 D0 D M g k a b w) :
  Calls Tryz.prog 37 #[.pointer (some ⟨g,0,none⟩)] w fun x w'=>(∃ y,x = .returned y)∧MX w0 D0 D M g (drainsK k) false false w':=by
 obtain ⟨s,hfit,-,-,⟨hF⟩⟩:=hX
 have hd:=drainR_F k.dways k.stores k.data
 have hs:=drainF_ok k.dways k.stores k.data
 have hst:=hk.stlen
 have hk1:KOk B { k with stores:=(drainF k.dways k.stores k.data).1,data:=(drainF k.dways k.stores k.data).2.1 } :=
  { hk with stlen:=Nat.le_trans hs.2 hst,st:=fun p hp=>hk.st p (hs.1 p hp),data:=hd.right hk.data,dok:=hd.cok hk.dok }
 have hE:=drainsK_eq k
 obtain ⟨ss',C',ok,hde⟩:∃ ss' C' ok,drainF k.dways k.stores k.data=(ss',C',ok):=⟨_,_,_,rfl⟩
 rw [hde] at hd hs hk1 hE
 dsimp only at hd hs hk1 hE
 have HD:=Lib.hid (fun (W:World) (h1:RdS W W.heap.size s.dA k.data.length s.dC s.dS) (h2:Rd W W.heap.size 2 s.stA k.stores.length s.stC (pus k.stores))=>g_drain h1 h2 hfit.data hd hk.dok (fun p hp=>⟨(hk.st p hp).1,by have:=(hk.st p hp).2;unfold maxLen;omega⟩))
 clear hde hd hs
 replace hE:=Lib.hid hE
 simp only [kD,hfit.feO,hfit.stO,hfit.reO,apD_no,List.cons_append,List.nil_append] at hF
 go_enter Tryz.func37,Tryz.ntmps37
 go_upto_region 0 with fail
 rename_i K hK
 go_cut [2,3,4] (fun s2 s3 s4 wx=>∃ As4 cs4 g3 A4 c4 S4,s2 = .slice As4 ss'.length cs4∧s3 = .pointer (some ⟨g3,0,none⟩)∧s4 = .bool ok∧Hid (cont S4=C') ∧
  St w0 D0 wx (.blk g3 35 [.int .i64 k.dways,.slice A4 C'.length c4] :: .blk g 81 (mcells k s) :: .row s.robA 54 (ens k.rob)::M) (kD { k with stores:=ss',data:=C' } { s with stA:=As4,stC:=cs4,dA:=A4,dC:=c4,dS:=S4 }++D))
 case first=>
  refine wp_region_st (by kernel_rfl) hF _ _ (fun _ h=>h) (fun _ h=>h) ?_
  clear hF;intro hF hH
  refine zk18 0 hH ?_
  refine zp 1 hH ?_
  refine zk1 2 hH ?_
  refine zk1 3 hH ?_
  refine zk6 4 hH ?_
  refine zk18 5 hH ?_
  refine zp 6 hH ?_
  refine zk1 7 hH ?_
  refine zk1 8 hH ?_
  refine zk6 9 hH ?_
  refine wpAnyH_ready (rs:=[10,15]) (by kernel_rfl) (by simp) (ready_cons rfl (fun K hK=>?_) (ready_cons rfl (fun K hK=>?_) AllReadyH.nil))
  ·go_wp2_with ((go_at_call 86;refine (HD.out _ hF.rds hF.rdA).mono ?_;rintro x wN ⟨_,_,rfl,As4,cs4,A4,n4,c4,S4,rfl,rfl,hO,hC4⟩;replace hF:=hF.call3A hO;clear hO))
   have hH:=zx0 hH hF;refine hK.out _ _ hH ?_;clear hK;(try simp only [zA,Nat.reduceAdd])
   refine zk18 11 hH ?_
   refine zp 12 hH ?_
   refine zp 13 hH ?_
   refine zp 14 hH ?_
   refine zry 15 (fun K hK=>?_)
   go_wp2_with ((refine w_alloc rfl hF ?_;clear hF;intro gN wN hF);(try simp only [zA,Nat.reduceAdd]))
   have hH:=zx0 hH hF;refine hK.out _ _ hH ?_;clear hK;(try simp only [zA,Nat.reduceAdd])
   exact z35x1
  ·go_wp2_with ((refine w_alloc rfl hF ?_;clear hF;intro gN wN hF);(try simp only [zA,Nat.reduceAdd]))
   have hH:=zx0 hH hF;refine hK.out _ _ hH ?_;clear hK;(try simp only [zA,Nat.reduceAdd])
   refine zry 10 (fun K hK=>?_)
   go_wp2_with ((go_at_call 86;refine (HD.out _ hF.rds hF.rdA).mono ?_;rintro x wN ⟨_,_,rfl,As4,cs4,A4,n4,c4,S4,rfl,rfl,hO,hC4⟩;replace hF:=hF.call3A hO;clear hO))
   have hH:=zx0 hH hF;refine hK.out _ _ hH ?_;clear hK;(try simp only [zA,Nat.reduceAdd])
   refine zk18 11 hH ?_
   refine zp 12 hH ?_
   refine zp 13 hH ?_
   refine zp 14 hH ?_
   exact z35x1
 case rest=>
  obtain ⟨As4,cs4,g3,A4,c4,S4,rfl,rfl,rfl,hC4,hF⟩:=hcut
  refine hK _ _ ?_
  clear hK
  go_upto_region 1 with fail
  rename_i K1 hK1
  go_cut [] (fun wx=>∃ s1,Fit { k with stores:=ss',data:=C' } s1∧MS w0 D0 D M g { k with stores:=ss',data:=C' } s1 wx)
  case first=>
   refine wp_region_st (by kernel_rfl) hF [.blk g3 35 [.int .i64 k.dways,.slice A4 C'.length c4]] _ (by ((repeat (first|exact subn_nil|refine subn_cons zdm ?_)) <;> exact subn_nil)) (fun _ h=>h) ?_
   clear hF;intro hF hH
   refine zk18 0 hH ?_
   refine zk18 1 hH ?_
   refine zk18 2 hH ?_
   refine zk6 3 hH ?_
   refine zp 4 hH ?_
   refine zk1 5 hH ?_
   refine zk1 6 hH ?_
   refine zry 7 (fun K hK=>?_)
   go_wp2_with ((first|(refine w_st1 rfl hF rfl rfl ?_ (hoff:=by (try simp only [spl_len]);rw [mcells_len];decide);clear hF;intro wN hF;(try simp only [zF] at hF);(try simp only [zA,Nat.reduceAdd]))|(refine w_stp rfl hF rfl rfl ?_ (hfit:=by (try simp only [List.length_set]);rw [mcells_len];exact Nat.le_of_ble_eq_true rfl);clear hF;intro wN hF;(try simp only [List.set_cons_zero,List.set_cons_succ] at hF);(try simp only [zA,Nat.reduceAdd]))|(refine w_st1 rfl hF rfl rfl ?_;clear hF;intro wN hF)|(refine w_st rfl hF rfl rfl ?_;clear hF;intro wN hF)|(refine w_st1o rfl hF rfl rfl ?_;clear hF;intro wN hF));(try simp only [zA,Nat.reduceAdd]))
   have hH:=zx0 hH hF;refine hK.out _ _ hH ?_;clear hK;(try simp only [zA,Nat.reduceAdd])
   refine zp 8 hH ?_
   refine zk1 9 hH ?_
   refine zk1 10 hH ?_
   refine zry 11 (fun K hK=>?_)
   go_wp2_with ((first|(refine w_st1 rfl hF rfl rfl ?_ (hoff:=by (try simp only [spl_len]);rw [mcells_len];decide);clear hF;intro wN hF;(try simp only [zF] at hF);(try simp only [zA,Nat.reduceAdd]))|(refine w_stp rfl hF rfl rfl ?_ (hfit:=by (try simp only [List.length_set]);rw [mcells_len];exact Nat.le_of_ble_eq_true rfl);clear hF;intro wN hF;(try simp only [List.set_cons_zero,List.set_cons_succ] at hF);(try simp only [zA,Nat.reduceAdd]))|(refine w_st1 rfl hF rfl rfl ?_;clear hF;intro wN hF)|(refine w_st rfl hF rfl rfl ?_;clear hF;intro wN hF)|(refine w_st1o rfl hF rfl rfl ?_;clear hF;intro wN hF));(try simp only [zA,Nat.reduceAdd]))
   have hH:=zx0 hH hF;refine hK.out _ _ hH ?_;clear hK;(try simp only [zA,Nat.reduceAdd])
   refine zrz ?_
   (go_wp2;go_meet;(first|rw [mset_stores (k:=k) (s:=s) ss' rfl,mset_data S4 C' k.dways rfl] at hF|rw [mset_data (k:=k) (s:=s) S4 C' k.dways rfl,mset_stores ss' rfl] at hF);exact ⟨{ s with stA:=As4,stC:=cs4,dA:=A4,dC:=c4,dS:=S4 },⟨hC4.out,hfit.words,hfit.robC,hfit.robM,hfit.feO,hfit.stO,hfit.reO⟩,⟨hF.drop 0⟩⟩)
  case rest=>
   obtain ⟨s1,hfit1,⟨hF⟩⟩:=hcut
   refine hK1 _ _ ?_
   clear hK1
   obtain ⟨k1,hk1e⟩:∃ k1,{ k with stores:=ss',data:=C' }=k1:=⟨_,rfl⟩
   rw [hk1e] at hF hfit1 hk1 hE
   clear hk1e hC4 hst hk hfit HD
   have hS1:MS w0 D0 D M g k1 s1 wc:=⟨hF⟩
   (simp only [kD,hfit1.feO,hfit1.stO,hfit1.reO,apD_no,List.cons_append,List.nil_append] at hF)
   go_upto_region 2 with fail
   rename_i K6 hK6 K2 hK2
   obtain ⟨b1,hb1⟩:∃ b1,decide ((0:Int)<(k1.stores.length:Int))=b1:=⟨_,rfl⟩
   replace hb1:=Lib.hid hb1
   go_cut [43] (fun c wx=>c = .bool (!ok && b1)∧wx=wc)
   case first=>
    cases ok
    ·go_wp2_with ((try simp only [zA,Nat.reduceAdd]);(first|refine zg59 ?_|(go_at_call 81;obtain ⟨Ah,ch,hfz,hF2⟩:=hF.freeze 0 at0;injection hfz with hfz1 _ hfz2;subst hfz1 hfz2;clear hF;have hF:=hF2;clear hF2;(try simp only [zF] at hF);refine (Has1_any _ _ _ _ _ _ _ _ _ hF.rdA hF.rdA).mono ?_;rintro x wN ⟨hx,hb⟩;rw [hhv.out] at hx;subst hx;replace hF:=hF.grow hb;clear hb)|(go_at_call 82;refine (mRoom_any (s:=s1) hk1 true ((hF.front _ (m:=.blk g 81 (mcells k1 s1)) (by exact zat)).lessD (D':=kD k1 s1++D) (by simp only [kD,hfit1.feO,hfit1.stO,hfit1.reO,apD_no,List.cons_append,List.nil_append];((repeat (refine subn_cons ?_ ?_;focus (exact zdm)));exact fun d h=>by (repeat (first|exact h|refine List.Mem.tail _ ?_)))))).mono ?_;rintro x wN ⟨hx,⟨hF5⟩⟩;rw [hrv.out] at hx;subst hx;clear hF;have hF:=hF5;clear hF5;(try simp only [zF] at hF);(simp only [kD,hfit1.feO,hfit1.stO,hfit1.reO,apD_no,List.cons_append,List.nil_append] at hF))|(go_at_call 83;refine (mAsk_any (s:=s1) hk1 _ _ _ ((hF.front _ (m:=.blk g 81 (mcells k1 s1)) (by exact zat)).lessD (D':=kD k1 s1++D) (by simp only [kD,hfit1.feO,hfit1.stO,hfit1.reO,apD_no,List.cons_append,List.nil_append];((repeat (refine subn_cons ?_ ?_;focus (exact zdm)));exact fun d h=>by (repeat (first|exact h|refine List.Mem.tail _ ?_)))))).mono ?_;rintro x wN ⟨⟨y,rfl⟩,A5,c5,hF5⟩;clear hF;have hF:=hF5;clear hF5;(try simp only [zF] at hF))|(go_at_call 63;refine (HLi.out _).mono ?_;rintro x wN ⟨rfl,d,rfl⟩;replace hF:=hF.grow (Bel.drewN _ d))|(refine zg14 ?_;clear hF;(first|intro gN wN hF|intro wN hF|intro hF))|(refine zg15 ?_;clear hF;intro vN wN hF)))
     go_meet
     exact ⟨rfl,rfl⟩
    ·go_wp2_with ((try simp only [zA,Nat.reduceAdd]);(first|refine zg59 ?_|(go_at_call 81;obtain ⟨Ah,ch,hfz,hF2⟩:=hF.freeze 0 at0;injection hfz with hfz1 _ hfz2;subst hfz1 hfz2;clear hF;have hF:=hF2;clear hF2;(try simp only [zF] at hF);refine (Has1_any _ _ _ _ _ _ _ _ _ hF.rdA hF.rdA).mono ?_;rintro x wN ⟨hx,hb⟩;rw [hhv.out] at hx;subst hx;replace hF:=hF.grow hb;clear hb)|(go_at_call 82;refine (mRoom_any (s:=s1) hk1 true ((hF.front _ (m:=.blk g 81 (mcells k1 s1)) (by exact zat)).lessD (D':=kD k1 s1++D) (by simp only [kD,hfit1.feO,hfit1.stO,hfit1.reO,apD_no,List.cons_append,List.nil_append];((repeat (refine subn_cons ?_ ?_;focus (exact zdm)));exact fun d h=>by (repeat (first|exact h|refine List.Mem.tail _ ?_)))))).mono ?_;rintro x wN ⟨hx,⟨hF5⟩⟩;rw [hrv.out] at hx;subst hx;clear hF;have hF:=hF5;clear hF5;(try simp only [zF] at hF);(simp only [kD,hfit1.feO,hfit1.stO,hfit1.reO,apD_no,List.cons_append,List.nil_append] at hF))|(go_at_call 83;refine (mAsk_any (s:=s1) hk1 _ _ _ ((hF.front _ (m:=.blk g 81 (mcells k1 s1)) (by exact zat)).lessD (D':=kD k1 s1++D) (by simp only [kD,hfit1.feO,hfit1.stO,hfit1.reO,apD_no,List.cons_append,List.nil_append];((repeat (refine subn_cons ?_ ?_;focus (exact zdm)));exact fun d h=>by (repeat (first|exact h|refine List.Mem.tail _ ?_)))))).mono ?_;rintro x wN ⟨⟨y,rfl⟩,A5,c5,hF5⟩;clear hF;have hF:=hF5;clear hF5;(try simp only [zF] at hF))|(go_at_call 63;refine (HLi.out _).mono ?_;rintro x wN ⟨rfl,d,rfl⟩;replace hF:=hF.grow (Bel.drewN _ d))|(refine zg14 ?_;clear hF;(first|intro gN wN hF|intro wN hF|intro hF))|(refine zg15 ?_;clear hF;intro vN wN hF)))
     go_meet
     exact ⟨rfl,rfl⟩
   case rest=>
    obtain ⟨rfl,rfl⟩:=hcut
    refine hK2 _ _ ?_
    clear hK2
    go_cut [] (fun wx=>∃ k2 s2,Hid (k2=drainsA k1 ok)∧Fit k2 s2∧MS w0 D0 D M g k2 s2 wx)
    case first=>
     cases ok
     ·rcases hst:k1.stores with _|⟨p,r⟩
      ·obtain rfl:b1=false:=by rw [← hb1.out,hst];rfl
       simp only [Bool.not_false,Bool.true_and]
       go_wp2
       go_meet
       exact ⟨k1,s1,Lib.hid (by unfold drainsA;rw [hst]),hfit1,hS1⟩
      ·obtain rfl:b1=true:=by rw [← hb1.out,hst];simp
       have hpos:0<k1.stores.length:=by rw [hst];simp
       have hu:k1.stores[0]?=some p:=by rw [hst];rfl
       have hpa:(pus k1.stores)[0]?=some (.int .u32 (p.addr:Int)):=by rw [hst];rfl
       have hpo:=hk1.st p (by rw [hst];exact List.mem_cons_self ..)
       have HLi:=Lib.hid (fun W=>LineOf_any p.addr W hpo.1)
       have hA:Hid (drainsA k1 false=if hasB k1.bus (lineN p.addr) 3=false∧roomK k1 true=true then askK k1 3 (lineN p.addr) ⟨#[]⟩ else k1):=Lib.hid (by unfold drainsA;rw [hst])
       obtain ⟨L,hL⟩:∃ L,p.addr - p.addr % 16=L:=⟨_,rfl⟩
       rw [hL] at HLi
       rw [show lineN p.addr=L from hL] at hA
       have hL32:L<4294967296:=by omega
       obtain ⟨hv,hhv⟩:∃ hv,hasB k1.bus L 3=hv:=⟨_,rfl⟩
       obtain ⟨rv,hrv⟩:∃ rv,roomK k1 true=rv:=⟨_,rfl⟩
       rw [hhv,hrv] at hA
       replace hhv:=Lib.hid hhv
       replace hrv:=Lib.hid hrv
       clear hL hst hpo hu
       simp only [Bool.not_false,Bool.true_and]
       cases hv
       ·cases rv
        ·go_wp2_with ((try simp only [zA,Nat.reduceAdd]);(first|refine zg59 ?_|(go_at_call 81;obtain ⟨Ah,ch,hfz,hF2⟩:=hF.freeze 0 at0;injection hfz with hfz1 _ hfz2;subst hfz1 hfz2;clear hF;have hF:=hF2;clear hF2;(try simp only [zF] at hF);refine (Has1_any _ _ _ _ _ _ _ _ _ hF.rdA hF.rdA).mono ?_;rintro x wN ⟨hx,hb⟩;rw [hhv.out] at hx;subst hx;replace hF:=hF.grow hb;clear hb)|(go_at_call 82;refine (mRoom_any (s:=s1) hk1 true ((hF.front _ (m:=.blk g 81 (mcells k1 s1)) (by exact zat)).lessD (D':=kD k1 s1++D) (by simp only [kD,hfit1.feO,hfit1.stO,hfit1.reO,apD_no,List.cons_append,List.nil_append];((repeat (refine subn_cons ?_ ?_;focus (exact zdm)));exact fun d h=>by (repeat (first|exact h|refine List.Mem.tail _ ?_)))))).mono ?_;rintro x wN ⟨hx,⟨hF5⟩⟩;rw [hrv.out] at hx;subst hx;clear hF;have hF:=hF5;clear hF5;(try simp only [zF] at hF);(simp only [kD,hfit1.feO,hfit1.stO,hfit1.reO,apD_no,List.cons_append,List.nil_append] at hF))|(go_at_call 83;refine (mAsk_any (s:=s1) hk1 _ _ _ ((hF.front _ (m:=.blk g 81 (mcells k1 s1)) (by exact zat)).lessD (D':=kD k1 s1++D) (by simp only [kD,hfit1.feO,hfit1.stO,hfit1.reO,apD_no,List.cons_append,List.nil_append];((repeat (refine subn_cons ?_ ?_;focus (exact zdm)));exact fun d h=>by (repeat (first|exact h|refine List.Mem.tail _ ?_)))))).mono ?_;rintro x wN ⟨⟨y,rfl⟩,A5,c5,hF5⟩;clear hF;have hF:=hF5;clear hF5;(try simp only [zF] at hF))|(go_at_call 63;refine (HLi.out _).mono ?_;rintro x wN ⟨rfl,d,rfl⟩;replace hF:=hF.grow (Bel.drewN _ d))|(refine zg14 ?_;clear hF;(first|intro gN wN hF|intro wN hF|intro hF))|(refine zg15 ?_;clear hF;intro vN wN hF)))
         exact z35x3
        ·go_wp2_with ((try simp only [zA,Nat.reduceAdd]);(first|refine zg59 ?_|(go_at_call 81;obtain ⟨Ah,ch,hfz,hF2⟩:=hF.freeze 0 at0;injection hfz with hfz1 _ hfz2;subst hfz1 hfz2;clear hF;have hF:=hF2;clear hF2;(try simp only [zF] at hF);refine (Has1_any _ _ _ _ _ _ _ _ _ hF.rdA hF.rdA).mono ?_;rintro x wN ⟨hx,hb⟩;rw [hhv.out] at hx;subst hx;replace hF:=hF.grow hb;clear hb)|(go_at_call 82;refine (mRoom_any (s:=s1) hk1 true ((hF.front _ (m:=.blk g 81 (mcells k1 s1)) (by exact zat)).lessD (D':=kD k1 s1++D) (by simp only [kD,hfit1.feO,hfit1.stO,hfit1.reO,apD_no,List.cons_append,List.nil_append];((repeat (refine subn_cons ?_ ?_;focus (exact zdm)));exact fun d h=>by (repeat (first|exact h|refine List.Mem.tail _ ?_)))))).mono ?_;rintro x wN ⟨hx,⟨hF5⟩⟩;rw [hrv.out] at hx;subst hx;clear hF;have hF:=hF5;clear hF5;(try simp only [zF] at hF);(simp only [kD,hfit1.feO,hfit1.stO,hfit1.reO,apD_no,List.cons_append,List.nil_append] at hF))|(go_at_call 83;refine (mAsk_any (s:=s1) hk1 _ _ _ ((hF.front _ (m:=.blk g 81 (mcells k1 s1)) (by exact zat)).lessD (D':=kD k1 s1++D) (by simp only [kD,hfit1.feO,hfit1.stO,hfit1.reO,apD_no,List.cons_append,List.nil_append];((repeat (refine subn_cons ?_ ?_;focus (exact zdm)));exact fun d h=>by (repeat (first|exact h|refine List.Mem.tail _ ?_)))))).mono ?_;rintro x wN ⟨⟨y,rfl⟩,A5,c5,hF5⟩;clear hF;have hF:=hF5;clear hF5;(try simp only [zF] at hF))|(go_at_call 63;refine (HLi.out _).mono ?_;rintro x wN ⟨rfl,d,rfl⟩;replace hF:=hF.grow (Bel.drewN _ d))|(refine zg14 ?_;clear hF;(first|intro gN wN hF|intro wN hF|intro hF))|(refine zg15 ?_;clear hF;intro vN wN hF)))
         go_meet
         exact ⟨_,_,Lib.hid (by rw [hA.out];simp),hfit1.ask 3 L ⟨#[]⟩ A5 c5,⟨hF⟩⟩
       ·go_wp2_with ((try simp only [zA,Nat.reduceAdd]);(first|refine zg59 ?_|(go_at_call 81;obtain ⟨Ah,ch,hfz,hF2⟩:=hF.freeze 0 at0;injection hfz with hfz1 _ hfz2;subst hfz1 hfz2;clear hF;have hF:=hF2;clear hF2;(try simp only [zF] at hF);refine (Has1_any _ _ _ _ _ _ _ _ _ hF.rdA hF.rdA).mono ?_;rintro x wN ⟨hx,hb⟩;rw [hhv.out] at hx;subst hx;replace hF:=hF.grow hb;clear hb)|(go_at_call 82;refine (mRoom_any (s:=s1) hk1 true ((hF.front _ (m:=.blk g 81 (mcells k1 s1)) (by exact zat)).lessD (D':=kD k1 s1++D) (by simp only [kD,hfit1.feO,hfit1.stO,hfit1.reO,apD_no,List.cons_append,List.nil_append];((repeat (refine subn_cons ?_ ?_;focus (exact zdm)));exact fun d h=>by (repeat (first|exact h|refine List.Mem.tail _ ?_)))))).mono ?_;rintro x wN ⟨hx,⟨hF5⟩⟩;rw [hrv.out] at hx;subst hx;clear hF;have hF:=hF5;clear hF5;(try simp only [zF] at hF);(simp only [kD,hfit1.feO,hfit1.stO,hfit1.reO,apD_no,List.cons_append,List.nil_append] at hF))|(go_at_call 83;refine (mAsk_any (s:=s1) hk1 _ _ _ ((hF.front _ (m:=.blk g 81 (mcells k1 s1)) (by exact zat)).lessD (D':=kD k1 s1++D) (by simp only [kD,hfit1.feO,hfit1.stO,hfit1.reO,apD_no,List.cons_append,List.nil_append];((repeat (refine subn_cons ?_ ?_;focus (exact zdm)));exact fun d h=>by (repeat (first|exact h|refine List.Mem.tail _ ?_)))))).mono ?_;rintro x wN ⟨⟨y,rfl⟩,A5,c5,hF5⟩;clear hF;have hF:=hF5;clear hF5;(try simp only [zF] at hF))|(go_at_call 63;refine (HLi.out _).mono ?_;rintro x wN ⟨rfl,d,rfl⟩;replace hF:=hF.grow (Bel.drewN _ d))|(refine zg14 ?_;clear hF;(first|intro gN wN hF|intro wN hF|intro hF))|(refine zg15 ?_;clear hF;intro vN wN hF)))
        exact z35x3
     ·simp only [Bool.not_true,Bool.false_and]
      go_wp2
      go_meet
      exact ⟨k1,s1,Lib.hid (by unfold drainsA;rfl),hfit1,hS1⟩
    case rest=>
     clear hF hS1 hb1
     obtain ⟨k2,s2,hk2e,hfit2,⟨hF⟩⟩:=hcut
     refine hK6 _ _ ?_
     clear hK6
     have hk2:=drainsA_ok hk1 (by omega) ok
     rw [← hk2e.out] at hk2 hE
     have hS2:=hF
     clear hk2e hk1 hfit1
     have hB2:Hid (drainsB k2=if k2.stores≠[]∨k2.halt=0 then k2 else if (dirtyF k2.dways k2.data).2=true∧(dirtyF k2.dways k2.data).1.data.size≠0 then { askK k2 4 (dirtyF k2.dways k2.data).1.line (dirtyF k2.dways k2.data).1.data with data:=cleanF k2.dways k2.data (dirtyF k2.dways k2.data).1.line } else k2):=Lib.hid rfl
     have hDi:=dirtyR_F k2.dways k2.data
     have hDk:=dirtyF_ok (ways:=k2.dways) hk2.dok
     obtain ⟨v,db,hdv⟩:∃ v db,dirtyF k2.dways k2.data=(v,db):=⟨_,_,rfl⟩
     rw [hdv] at hB2 hDi hDk
     obtain ⟨vl,vd,vb⟩:=v
     dsimp only at hB2 hDi hDk
     rw [← hfit2.data] at hDi
     have hso:=hk2.dok
     rw [← hfit2.data] at hso
     have HDi:=Lib.hid (fun (W:World) (h1:RdS W W.heap.size s2.dA k2.data.length s2.dC s2.dS)=>Dirty_all hso.sok hDi W h1)
     replace hE:=Lib.hid (hE.out.trans hB2.out)
     clear hdv hB2 hDi
     unfold Wy.val at HDi
     simp only [kD,hfit2.feO,hfit2.stO,hfit2.reO,apD_no,List.cons_append,List.nil_append] at hF
     by_cases hst:k2.stores=[]
     ·have hb2:Hid (decide ((0:Int)<(k2.stores.length:Int))=false):=Lib.hid (by rw [hst];rfl)
      by_cases hh:k2.halt=0
      ·have hh2:=Lib.hid hh
       rw [if_pos (.inr hh)] at hE
       clear hh hst
       exact z35x2
      ·rw [if_neg (fun h=>h.elim (fun h=>h hst) hh)] at hE
       clear hst
       cases db
       ·rw [if_neg (fun h=>by cases h.1)] at hE
        exact z35x0
       ·by_cases hz:vb.size=0
        ·have hemp:=isEmpty_yes hz
         rw [if_neg (fun h=>h.2 hz)] at hE
         clear hz
         exact z35x0
        ·have hemp:=isEmpty_no hz
         rw [if_pos ⟨rfl,hz⟩] at hE
         have hDk2:vl<4294967296∧vb.size≤maxLen:=hDk (by simp)
         clear hz
         have hk3:=hk2.ask (by omega) 4 hDk2.1 hDk2.2
         go_upto_region 10 with ((try simp only [zA,Nat.reduceAdd]);(first|refine zg60 ?_|(refine zg61 ?_;clear hF;(first|intro gN wN hF|intro wN hF|intro hF))|(go_at_call 83;refine (mAsk_any (s:=s2) hk2 _ _ _ ((hF.front _ (m:=.blk g 81 (mcells k2 s2)) (by exact zat)).lessD (D':=kD k2 s2++D) (by simp only [kD,hfit2.feO,hfit2.stO,hfit2.reO,apD_no,List.cons_append,List.nil_append];((repeat (refine subn_cons ?_ ?_;focus (exact zdm)));exact fun d h=>by (repeat (first|exact h|refine List.Mem.tail _ ?_)))))).mono ?_;rintro x wN ⟨⟨y,rfl⟩,A5,c5,hF5⟩;clear hF;have hF:=hF5;clear hF5;(try simp only [zF] at hF))|(refine zg15 ?_;clear hF;intro vN wN hF)))
         have hfit3:=hfit2.ask 4 vl vb A5 c5
         obtain ⟨k3,hk3e⟩:∃ k3,askK k2 4 vl vb=k3:=⟨_,rfl⟩
         rw [hk3e] at hF hfit3 hk3 hE
         obtain ⟨s3,hs3e⟩:∃ s3,{ s2 with busA:=A5,busC:=c5 }=s3:=⟨_,rfl⟩
         rw [hs3e] at hF hfit3
         have e1:cleanF k2.dways k2.data vl=cleanF k3.dways k3.data vl:=by rw [← hk3e];rfl
         rw [e1] at hE
         have er:s2.robA=s3.robA:=by rw [← hs3e]
         have ek:k2.rob=k3.rob:=by rw [← hk3e];rfl
         rw [er,ek] at hF
         clear hk3e hs3e e1 er ek
         have hCl:=cleanR_F k3.dways k3.data vl
         obtain ⟨C4,hC4e⟩:∃ C4,cleanF k3.dways k3.data vl=C4:=⟨_,rfl⟩
         rw [hC4e] at hCl hE
         rw [← hfit3.data] at hCl
         have hso3:=hk3.dok
         rw [← hfit3.data] at hso3
         have HCl:=Lib.hid (fun (W:World) (h1:RdS W W.heap.size s3.dA k3.data.length s3.dC s3.dS)=>Clean_all hDk2.1 hso3.sok hCl W h1)
         clear hC4e hCl
         simp only [kD,hfit3.feO,hfit3.stO,hfit3.reO,apD_no,List.cons_append,List.nil_append] at hF
         refine wp_region_stT [12] (by kernel_rfl) hF _ _ (fun _ h=>h) (fun _ h=>h) ?_
         clear hF;intro hF hH
         refine zt4 0 hH ?_
         refine zt4 1 hH ?_
         refine zq 2 hH ?_
         refine zt0 3 hH ?_
         refine zt0 4 hH ?_
         refine zt1 5 hH ?_
         refine zt0 6 hH ?_
         refine zt1 7 hH ?_
         refine wpAnyT_ready (rs:=[8]) (by kernel_rfl) (by simp) (readyT_cons rfl (fun K hK=>?_) AllReadyT.nil)
         go_wp2_with ((first|(go_at_call 88;refine (HCl.out _ hF.rds).mono ?_;rintro x wN ⟨_,rfl,A6,n6,c6,S6,rfl,hO,hC6⟩;replace hF:=hF.callA hO;clear hO)|(refine w_stp rfl hF rfl rfl ?_ (hfit:=by (try simp only [List.length_set]);rw [mcells_len];exact Nat.le_of_ble_eq_true rfl);clear hF;intro wN hF;(try simp only [List.set_cons_zero,List.set_cons_succ] at hF);(try simp only [zA,Nat.reduceAdd]))|((first|refine zrg ?_|(refine zst ?_;clear hF;(first|intro gN wN hF|intro wN hF|intro hF))|(refine zap ?_;clear hF;intro vN wN hF));(try simp only [zA,Nat.reduceAdd]))))
         have hH:=zx0 hH hF;refine hK.out _ _ (fun _=>hH) ?_;clear hK;(try simp only [zA,Nat.reduceAdd])
         refine zq 9 hH ?_
         refine zt0 10 hH ?_
         refine zt0 11 hH ?_
         refine wpAnyT_ready (rs:=[12]) (by kernel_rfl) (by simp) (readyT_cons rfl (fun K hK=>?_) AllReadyT.nil)
         go_wp2_with ((first|(go_at_call 88;refine (HCl.out _ hF.rds).mono ?_;rintro x wN ⟨_,rfl,A6,n6,c6,S6,rfl,hO,hC6⟩;replace hF:=hF.callA hO;clear hO)|(refine w_stp rfl hF rfl rfl ?_ (hfit:=by (try simp only [List.length_set]);rw [mcells_len];exact Nat.le_of_ble_eq_true rfl);clear hF;intro wN hF;(try simp only [List.set_cons_zero,List.set_cons_succ] at hF);(try simp only [zA,Nat.reduceAdd]))|((first|refine zrg ?_|(refine zst ?_;clear hF;(first|intro gN wN hF|intro wN hF|intro hF))|(refine zap ?_;clear hF;intro vN wN hF));(try simp only [zA,Nat.reduceAdd]))))
         (try clear hH);refine hK.out _ _ (notFree 12 rfl (by kernel_rfl)) ?_;clear hK;(try simp only [zA,Nat.reduceAdd])
         refine wpAnyT_done (by kernel_rfl) ?_ _
         (have hn6:n6=C4.length:=(by rw [← hC6,cont_len];exact ((hF.rds (A:=A6) (n:=n6) (c:=c6) (S:=S6)).slen).symm);subst hn6;rw [mset_data (k:=k3) (s:=s3) S6 C4 k3.dways rfl] at hF;go_wp2;go_end0;(try refine ⟨⟨_,rfl⟩,?_⟩);rw [hE.out];exact ⟨{ s3 with dA:=A6,dC:=c6,dS:=S6 },⟨hC6,hfit3.words,hfit3.robC,hfit3.robM,hfit3.feO,hfit3.stO,hfit3.reO⟩,fun h=>(by cases h),fun h=>(by cases h),⟨(hF.drop 1).lessD (by simp only [kD,hfit3.feO,hfit3.stO,hfit3.reO,apD_no,List.cons_append,List.nil_append];((repeat (refine subn_cons ?_ ?_;focus (exact zdm)));exact fun d h=>by (repeat (first|exact h|refine List.Mem.tail _ ?_))))⟩⟩)
     ·have hb2:Hid (decide ((0:Int)<(k2.stores.length:Int))=true):=Lib.hid (by
       have:k2.stores.length≠0:=fun h=>hst (List.eq_nil_of_length_eq_zero h)
       simp;omega)
      rw [if_pos (.inl hst)] at hE
      clear hst
      exact z35x2
end
end Go.Proofs.YtgnomadgnciifaaGreatDoor
