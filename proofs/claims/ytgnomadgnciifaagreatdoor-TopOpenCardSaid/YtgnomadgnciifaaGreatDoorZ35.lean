/- . -/
import Derived.Test.YtgnomadgnciifaaGreatDoorZ32
set_option linter.unusedVariables false
set_option linter.unusedSimpArgs false
set_option linter.unusedSectionVars false
set_option maxRecDepth 100000
set_option maxHeartbeats 16000000
namespace Go.Proofs.YtgnomadgnciifaaGreatDoor
theorem d8n {p:Prop} (h:p:=by
 go_wp2_with ((try simp only [zA,Nat.reduceAdd]);(first|refine c2n ?_|(refine c2o ?_;clear hF;(first|intro gN wN hF|intro wN hF|intro hF))|(go_at_call 83;refine (a5q (s:=s2) hk2 _ _ _ ((hF.front _ (m:=.blk g 81 (mcells k2 s2)) (by exact zat)).lessD (D':=kD k2 s2++D) (by simp only [kD,hfit2.feO,hfit2.stO,hfit2.reO,a1h,zL];exact zsn))).mono ?_;rintro x wN ⟨⟨y,rfl⟩,A5,c5,hF5⟩;clear hF;have hF:=hF5;clear hF5;(try simp only [zF] at hF))|(refine a1d ?_;clear hF;intro vN wN hF)))
 go_end0
 (try refine ⟨⟨_,rfl⟩,?_⟩)
 rw [hE.out]
 exact ⟨s2,hfit2,fun h=>(by cases h),fun h=>(by cases h),⟨(hF.drop 0).lessD (by simp only [kD,hfit2.feO,hfit2.stO,hfit2.reO,a1h,zL];exact zsn)⟩⟩):p:=h
theorem d8o {p:Prop} (h:p:=by
 refine a2a 16 hH ?_
 refine zry 17 (fun K hK=>?_)
 go_wp2_with ((first|(go_at_call 86;refine (HD.out _ hF.rds hF.rdA).mono ?_;rintro x wN ⟨_,_,rfl,As4,cs4,A4,n4,c4,S4,rfl,rfl,hO,hC4⟩;replace hF:=hF.call3A hO;clear hO)|(refine w_st1 rfl hF rfl rfl ?_;clear hF;intro wN hF)|(refine w_st rfl hF rfl rfl ?_;clear hF;intro wN hF)|(refine w_st1o rfl hF rfl rfl ?_;clear hF;intro wN hF));(try simp only [zA,Nat.reduceAdd]))
 have hH:=zx0 hH hF;refine hK.out _ _ hH ?_;clear hK;(try simp only [zA,Nat.reduceAdd])
 refine a2a 18 hH ?_
 refine zrz ?_
 (go_wp2;go_meet;have hn4:n4=C'.length:=(by rw [← hC4,a3n];exact ((hF.rds (A:=A4) (n:=n4) (c:=c4) (S:=S4)).slen).symm);subst hn4;exact ⟨_,_,_,_,_,_,rfl,rfl,rfl,Lib.hid hC4,hF.lessD (by simp only [kD,hfit.feO,hfit.stO,hfit.reO,a1h,zL];exact zsn)⟩)):p:=h
theorem d8p {p:Prop} (h:p:=by
 go_wp2_with ((try simp only [zA,Nat.reduceAdd]);(first|refine c2n ?_|(refine c2o ?_;clear hF;(first|intro gN wN hF|intro wN hF|intro hF))|(go_at_call 83;refine (a5q (s:=s2) hk2 _ _ _ ((hF.front _ (m:=.blk g 81 (mcells k2 s2)) (by exact zat)).lessD (D':=kD k2 s2++D) (by simp only [kD,hfit2.feO,hfit2.stO,hfit2.reO,a1h,zL];exact zsn))).mono ?_;rintro x wN ⟨⟨y,rfl⟩,A5,c5,hF5⟩;clear hF;have hF:=hF5;clear hF5;(try simp only [zF] at hF))|(refine a1d ?_;clear hF;intro vN wN hF)))
 refine bodyPost_ret (results_none rfl _ _ _) rfl ⟨⟨_,rfl⟩,?_⟩
 rw [hE.out]
 exact ⟨s2,hfit2,fun h=>(by cases h),fun h=>(by cases h),⟨hS2⟩⟩):p:=h
theorem d8q {p:Prop} (h:p:=by
 go_meet
 exact ⟨k1,s1,Lib.hid (by rw [hA.out];simp),hfit1,⟨hF.lessD (by simp only [kD,hfit1.feO,hfit1.stO,hfit1.reO,a1h,zL];exact zsn)⟩⟩):p:=h
section
open Go.RowKit Wd
inductive MX (w0:World) (D0 D:List Da) (M:List Mu) (g:Nat) (k:Kern) (a b:Bool) (w:World):Prop
 | mk (s:Sls) (hfit:Fit k s) (ha:a=true→s.feC=k.fetched.length) (hb:b=true→s.stC=k.stores.length∧s.reC=k.retired.length) (hS:MS w0 D0 D M g k s w)
def b2n (k:Kern) (ok:Bool):Kern:=match ok,k.stores with
 | false,p::_=>if a3r k.bus (a1w p.addr) 3=false∧a4q k true=true then a3y k 3 (a1w p.addr) ⟨#[]⟩ else k
 | _,_=>k
def d8r (k:Kern):Kern:=if k.stores≠[]∨k.halt=0 then k else
 if (a2r k.dways k.data).2=true∧(a2r k.dways k.data).1.data.size≠0 then { a3y k 4 (a2r k.dways k.data).1.line (a2r k.dways k.data).1.data with data:=a9g k.dways k.data (a2r k.dways k.data).1.line } else k
theorem h6g (k:Kern):a4x k=d8r (b2n { k with stores:=(a4f k.dways k.stores k.data).1,data:=(a4f k.dways k.stores k.data).2.1 } (a4f k.dways k.stores k.data).2.2):=rfl
theorem h6h {B:Int} {k:Kern} (h:KOk B k) (h2:B+1≤1000000) (ok:Bool):KOk (B+1) (b2n k ok):=by
 unfold b2n
 split
 ·rename_i p r hp
  have hpo:=h.st p (by rw [hp];exact List.mem_cons_self ..)
  split
  ·exact h.ask (by omega) 3 (b5h hpo.1) (by decide)
  ·exact h.up (by omega) (by omega)
 ·exact h.up (by omega) (by omega)
theorem Fit.ask {k:Kern} {s:Sls} (h:Fit k s) (kind:Int) (line:Nat) (data:ByteArray) (A:Option Addr) (c:Nat):Fit (a3y k kind line data) { s with busA:=A,busC:=c } :=
 ⟨h.data,h.words,h.robC,h.robM,h.feO,h.stO,h.reO⟩
theorem h6i {w0 w:World} {D0 D:List Da} {M:List Mu} {g:Nat} {k:Kern} {a b:Bool} {B:Int} (hk:KOk B k) (hB:B+2≤1000000) (hX:MX w0 D0 D M g k a b w) :
  Calls Tryz.prog 37 #[.pointer (some ⟨g,0,none⟩)] w fun x w'=>(∃ y,x = .returned y)∧MX w0 D0 D M g (a4x k) false false w':=by
 obtain ⟨s,hfit,-,-,⟨hF⟩⟩:=hX
 have hd:=d5v k.dways k.stores k.data
 have hs:=d7n k.dways k.stores k.data
 have hst:=hk.stlen
 have hk1:KOk B { k with stores:=(a4f k.dways k.stores k.data).1,data:=(a4f k.dways k.stores k.data).2.1 } :=
  { hk with stlen:=Nat.le_trans hs.2 hst,st:=fun p hp=>hk.st p (hs.1 p hp),data:=hd.right hk.data,dok:=hd.cok hk.dok }
 have hE:=h6g k
 obtain ⟨ss',C',ok,hde⟩:∃ ss' C' ok,a4f k.dways k.stores k.data=(ss',C',ok):=⟨_,_,_,rfl⟩
 rw [hde] at hd hs hk1 hE
 dsimp only at hd hs hk1 hE
 have HD:=Lib.hid (fun (W:World) (h1:RdS W W.heap.size s.dA k.data.length s.dC s.dS) (h2:Rd W W.heap.size 2 s.stA k.stores.length s.stC (pus k.stores))=>g9t h1 h2 hfit.data hd hk.dok (fun p hp=>⟨(hk.st p hp).1,by have:=(hk.st p hp).2;unfold maxLen;omega⟩))
 clear hde hd hs
 replace hE:=Lib.hid hE
 simp only [kD,hfit.feO,hfit.stO,hfit.reO,a1h,zL] at hF
 go_enter Tryz.func37,Tryz.ntmps37
 go_upto_region 0 with fail
 rename_i K hK
 go_cut [2,3,4] (fun s2 s3 s4 wx=>∃ As4 cs4 g3 A4 c4 S4,s2 = .slice As4 ss'.length cs4∧s3 = .pointer (some ⟨g3,0,none⟩)∧s4 = .bool ok∧Hid (a1j S4=C') ∧
  St w0 D0 wx (.blk g3 35 [.int .i64 k.dways,.slice A4 C'.length c4] :: .blk g 81 (mcells k s) :: .row s.robA 54 (ens k.rob)::M) (kD { k with stores:=ss',data:=C' } { s with stA:=As4,stC:=cs4,dA:=A4,dC:=c4,dS:=S4 }++D))
 case first=>
  refine a1n (by kernel_rfl) hF _ _ (fun _ h=>h) (fun _ h=>h) ?_
  clear hF;intro hF hH
  refine a1c 0 hH ?_
  refine zp 1 hH ?_
  refine zk1 2 hH ?_
  refine zk1 3 hH ?_
  refine zk6 4 hH ?_
  refine a1c 5 hH ?_
  refine zp 6 hH ?_
  refine zk1 7 hH ?_
  refine zk1 8 hH ?_
  refine zk6 9 hH ?_
  refine wpAnyH_ready (rs:=[10,15]) (by kernel_rfl) (by simp) (a2d rfl (fun K hK=>?_) (a2d rfl (fun K hK=>?_) AllReadyH.nil))
  ·go_wp2_with ((go_at_call 86;refine (HD.out _ hF.rds hF.rdA).mono ?_;rintro x wN ⟨_,_,rfl,As4,cs4,A4,n4,c4,S4,rfl,rfl,hO,hC4⟩;replace hF:=hF.call3A hO;clear hO))
   have hH:=zx0 hH hF;refine hK.out _ _ hH ?_;clear hK;(try simp only [zA,Nat.reduceAdd])
   refine a1c 11 hH ?_
   refine zp 12 hH ?_
   refine zp 13 hH ?_
   refine zp 14 hH ?_
   refine zry 15 (fun K hK=>?_)
   go_wp2_with ((refine w_alloc rfl hF ?_;clear hF;intro gN wN hF);(try simp only [zA,Nat.reduceAdd]))
   have hH:=zx0 hH hF;refine hK.out _ _ hH ?_;clear hK;(try simp only [zA,Nat.reduceAdd])
   exact d8o
  ·go_wp2_with ((refine w_alloc rfl hF ?_;clear hF;intro gN wN hF);(try simp only [zA,Nat.reduceAdd]))
   have hH:=zx0 hH hF;refine hK.out _ _ hH ?_;clear hK;(try simp only [zA,Nat.reduceAdd])
   refine zry 10 (fun K hK=>?_)
   go_wp2_with ((go_at_call 86;refine (HD.out _ hF.rds hF.rdA).mono ?_;rintro x wN ⟨_,_,rfl,As4,cs4,A4,n4,c4,S4,rfl,rfl,hO,hC4⟩;replace hF:=hF.call3A hO;clear hO))
   have hH:=zx0 hH hF;refine hK.out _ _ hH ?_;clear hK;(try simp only [zA,Nat.reduceAdd])
   refine a1c 11 hH ?_
   refine zp 12 hH ?_
   refine zp 13 hH ?_
   refine zp 14 hH ?_
   exact d8o
 case rest=>
  obtain ⟨As4,cs4,g3,A4,c4,S4,rfl,rfl,rfl,hC4,hF⟩:=hcut
  refine hK _ _ ?_
  clear hK
  go_upto_region 1 with fail
  rename_i K1 hK1
  go_cut [] (fun wx=>∃ s1,Fit { k with stores:=ss',data:=C' } s1∧MS w0 D0 D M g { k with stores:=ss',data:=C' } s1 wx)
  case first=>
   refine a1n (by kernel_rfl) hF [.blk g3 35 [.int .i64 k.dways,.slice A4 C'.length c4]] _ (by ((repeat (first|exact a1f|refine a1m zdm ?_)) <;> exact a1f)) (fun _ h=>h) ?_
   clear hF;intro hF hH
   refine a1c 0 hH ?_
   refine a1c 1 hH ?_
   refine a1c 2 hH ?_
   refine zk6 3 hH ?_
   refine zp 4 hH ?_
   refine zk1 5 hH ?_
   refine zk1 6 hH ?_
   refine zry 7 (fun K hK=>?_)
   go_wp2_with ((first|(refine w_st1 rfl hF rfl rfl ?_ (hoff:=by (try simp only [a4a]);rw [mcells_len];decide);clear hF;intro wN hF;(try simp only [zF] at hF);(try simp only [zA,Nat.reduceAdd]))|(refine w_stp rfl hF rfl rfl ?_ (hfit:=by (try simp only [List.length_set]);rw [mcells_len];exact Nat.le_of_ble_eq_true rfl);clear hF;intro wN hF;(try simp only [List.set_cons_zero,List.set_cons_succ] at hF);(try simp only [zA,Nat.reduceAdd]))|(refine w_st1 rfl hF rfl rfl ?_;clear hF;intro wN hF)|(refine w_st rfl hF rfl rfl ?_;clear hF;intro wN hF)|(refine w_st1o rfl hF rfl rfl ?_;clear hF;intro wN hF));(try simp only [zA,Nat.reduceAdd]))
   have hH:=zx0 hH hF;refine hK.out _ _ hH ?_;clear hK;(try simp only [zA,Nat.reduceAdd])
   refine zp 8 hH ?_
   refine zk1 9 hH ?_
   refine zk1 10 hH ?_
   refine zry 11 (fun K hK=>?_)
   go_wp2_with ((first|(refine w_st1 rfl hF rfl rfl ?_ (hoff:=by (try simp only [a4a]);rw [mcells_len];decide);clear hF;intro wN hF;(try simp only [zF] at hF);(try simp only [zA,Nat.reduceAdd]))|(refine w_stp rfl hF rfl rfl ?_ (hfit:=by (try simp only [List.length_set]);rw [mcells_len];exact Nat.le_of_ble_eq_true rfl);clear hF;intro wN hF;(try simp only [List.set_cons_zero,List.set_cons_succ] at hF);(try simp only [zA,Nat.reduceAdd]))|(refine w_st1 rfl hF rfl rfl ?_;clear hF;intro wN hF)|(refine w_st rfl hF rfl rfl ?_;clear hF;intro wN hF)|(refine w_st1o rfl hF rfl rfl ?_;clear hF;intro wN hF));(try simp only [zA,Nat.reduceAdd]))
   have hH:=zx0 hH hF;refine hK.out _ _ hH ?_;clear hK;(try simp only [zA,Nat.reduceAdd])
   refine zrz ?_
   (go_wp2;go_meet;(first|rw [c1w (k:=k) (s:=s) ss' rfl,mset_data S4 C' k.dways rfl] at hF|rw [mset_data (k:=k) (s:=s) S4 C' k.dways rfl,c1w ss' rfl] at hF);exact ⟨{ s with stA:=As4,stC:=cs4,dA:=A4,dC:=c4,dS:=S4 },⟨hC4.out,hfit.words,hfit.robC,hfit.robM,hfit.feO,hfit.stO,hfit.reO⟩,⟨hF.drop 0⟩⟩)
  case rest=>
   obtain ⟨s1,hfit1,⟨hF⟩⟩:=hcut
   refine hK1 _ _ ?_
   clear hK1
   obtain ⟨k1,hk1e⟩:∃ k1,{ k with stores:=ss',data:=C' }=k1:=⟨_,rfl⟩
   rw [hk1e] at hF hfit1 hk1 hE
   clear hk1e hC4 hst hk hfit HD
   have hS1:MS w0 D0 D M g k1 s1 wc:=⟨hF⟩
   (simp only [kD,hfit1.feO,hfit1.stO,hfit1.reO,a1h,zL] at hF)
   go_upto_region 2 with fail
   rename_i K6 hK6 K2 hK2
   obtain ⟨b1,hb1⟩:∃ b1,decide ((0:Int)<(k1.stores.length:Int))=b1:=⟨_,rfl⟩
   replace hb1:=Lib.hid hb1
   go_cut [43] (fun c wx=>c = .bool (!ok && b1)∧wx=wc)
   case first=>
    cases ok
    ·go_wp2_with ((try simp only [zA,Nat.reduceAdd]);(first|refine b5s ?_|(go_at_call 81;obtain ⟨Ah,ch,hfz,hF2⟩:=hF.freeze 0 at0;injection hfz with hfz1 _ hfz2;subst hfz1 hfz2;clear hF;have hF:=hF2;clear hF2;(try simp only [zF] at hF);refine (a6q _ _ _ _ _ _ _ _ _ hF.rdA hF.rdA).mono ?_;rintro x wN ⟨hx,hb⟩;rw [hhv.out] at hx;subst hx;replace hF:=hF.grow hb;clear hb)|(go_at_call 82;refine (a6r (s:=s1) hk1 true ((hF.front _ (m:=.blk g 81 (mcells k1 s1)) (by exact zat)).lessD (D':=kD k1 s1++D) (by simp only [kD,hfit1.feO,hfit1.stO,hfit1.reO,a1h,zL];exact zsn))).mono ?_;rintro x wN ⟨hx,⟨hF5⟩⟩;rw [hrv.out] at hx;subst hx;clear hF;have hF:=hF5;clear hF5;(try simp only [zF] at hF);(simp only [kD,hfit1.feO,hfit1.stO,hfit1.reO,a1h,zL] at hF))|(go_at_call 83;refine (a5q (s:=s1) hk1 _ _ _ ((hF.front _ (m:=.blk g 81 (mcells k1 s1)) (by exact zat)).lessD (D':=kD k1 s1++D) (by simp only [kD,hfit1.feO,hfit1.stO,hfit1.reO,a1h,zL];exact zsn))).mono ?_;rintro x wN ⟨⟨y,rfl⟩,A5,c5,hF5⟩;clear hF;have hF:=hF5;clear hF5;(try simp only [zF] at hF))|(go_at_call 63;refine (HLi.out _).mono ?_;rintro x wN ⟨rfl,d,rfl⟩;replace hF:=hF.grow (Bel.drewN _ d))|(refine a1s ?_;clear hF;(first|intro gN wN hF|intro wN hF|intro hF))|(refine a1d ?_;clear hF;intro vN wN hF)))
     go_meet
     exact ⟨rfl,rfl⟩
    ·go_wp2_with ((try simp only [zA,Nat.reduceAdd]);(first|refine b5s ?_|(go_at_call 81;obtain ⟨Ah,ch,hfz,hF2⟩:=hF.freeze 0 at0;injection hfz with hfz1 _ hfz2;subst hfz1 hfz2;clear hF;have hF:=hF2;clear hF2;(try simp only [zF] at hF);refine (a6q _ _ _ _ _ _ _ _ _ hF.rdA hF.rdA).mono ?_;rintro x wN ⟨hx,hb⟩;rw [hhv.out] at hx;subst hx;replace hF:=hF.grow hb;clear hb)|(go_at_call 82;refine (a6r (s:=s1) hk1 true ((hF.front _ (m:=.blk g 81 (mcells k1 s1)) (by exact zat)).lessD (D':=kD k1 s1++D) (by simp only [kD,hfit1.feO,hfit1.stO,hfit1.reO,a1h,zL];exact zsn))).mono ?_;rintro x wN ⟨hx,⟨hF5⟩⟩;rw [hrv.out] at hx;subst hx;clear hF;have hF:=hF5;clear hF5;(try simp only [zF] at hF);(simp only [kD,hfit1.feO,hfit1.stO,hfit1.reO,a1h,zL] at hF))|(go_at_call 83;refine (a5q (s:=s1) hk1 _ _ _ ((hF.front _ (m:=.blk g 81 (mcells k1 s1)) (by exact zat)).lessD (D':=kD k1 s1++D) (by simp only [kD,hfit1.feO,hfit1.stO,hfit1.reO,a1h,zL];exact zsn))).mono ?_;rintro x wN ⟨⟨y,rfl⟩,A5,c5,hF5⟩;clear hF;have hF:=hF5;clear hF5;(try simp only [zF] at hF))|(go_at_call 63;refine (HLi.out _).mono ?_;rintro x wN ⟨rfl,d,rfl⟩;replace hF:=hF.grow (Bel.drewN _ d))|(refine a1s ?_;clear hF;(first|intro gN wN hF|intro wN hF|intro hF))|(refine a1d ?_;clear hF;intro vN wN hF)))
     go_meet
     exact ⟨rfl,rfl⟩
   case rest=>
    obtain ⟨rfl,rfl⟩:=hcut
    refine hK2 _ _ ?_
    clear hK2
    go_cut [] (fun wx=>∃ k2 s2,Hid (k2=b2n k1 ok)∧Fit k2 s2∧MS w0 D0 D M g k2 s2 wx)
    case first=>
     cases ok
     ·rcases hst:k1.stores with _|⟨p,r⟩
      ·obtain rfl:b1=false:=by rw [← hb1.out,hst];rfl
       simp only [Bool.not_false,Bool.true_and]
       go_wp2
       go_meet
       exact ⟨k1,s1,Lib.hid (by unfold b2n;rw [hst]),hfit1,hS1⟩
      ·obtain rfl:b1=true:=by rw [← hb1.out,hst];simp
       have hpos:0<k1.stores.length:=by rw [hst];simp
       have hu:k1.stores[0]?=some p:=by rw [hst];rfl
       have hpa:(pus k1.stores)[0]?=some (.int .u32 (p.addr:Int)):=by rw [hst];rfl
       have hpo:=hk1.st p (by rw [hst];exact List.mem_cons_self ..)
       have HLi:=Lib.hid (fun W=>a6u p.addr W hpo.1)
       have hA:Hid (b2n k1 false=if a3r k1.bus (a1w p.addr) 3=false∧a4q k1 true=true then a3y k1 3 (a1w p.addr) ⟨#[]⟩ else k1):=Lib.hid (by unfold b2n;rw [hst])
       obtain ⟨L,hL⟩:∃ L,p.addr - p.addr % 16=L:=⟨_,rfl⟩
       rw [hL] at HLi
       rw [show a1w p.addr=L from hL] at hA
       have hL32:L<4294967296:=by omega
       obtain ⟨hv,hhv⟩:∃ hv,a3r k1.bus L 3=hv:=⟨_,rfl⟩
       obtain ⟨rv,hrv⟩:∃ rv,a4q k1 true=rv:=⟨_,rfl⟩
       rw [hhv,hrv] at hA
       replace hhv:=Lib.hid hhv
       replace hrv:=Lib.hid hrv
       clear hL hst hpo hu
       simp only [Bool.not_false,Bool.true_and]
       cases hv
       ·cases rv
        ·go_wp2_with ((try simp only [zA,Nat.reduceAdd]);(first|refine b5s ?_|(go_at_call 81;obtain ⟨Ah,ch,hfz,hF2⟩:=hF.freeze 0 at0;injection hfz with hfz1 _ hfz2;subst hfz1 hfz2;clear hF;have hF:=hF2;clear hF2;(try simp only [zF] at hF);refine (a6q _ _ _ _ _ _ _ _ _ hF.rdA hF.rdA).mono ?_;rintro x wN ⟨hx,hb⟩;rw [hhv.out] at hx;subst hx;replace hF:=hF.grow hb;clear hb)|(go_at_call 82;refine (a6r (s:=s1) hk1 true ((hF.front _ (m:=.blk g 81 (mcells k1 s1)) (by exact zat)).lessD (D':=kD k1 s1++D) (by simp only [kD,hfit1.feO,hfit1.stO,hfit1.reO,a1h,zL];exact zsn))).mono ?_;rintro x wN ⟨hx,⟨hF5⟩⟩;rw [hrv.out] at hx;subst hx;clear hF;have hF:=hF5;clear hF5;(try simp only [zF] at hF);(simp only [kD,hfit1.feO,hfit1.stO,hfit1.reO,a1h,zL] at hF))|(go_at_call 83;refine (a5q (s:=s1) hk1 _ _ _ ((hF.front _ (m:=.blk g 81 (mcells k1 s1)) (by exact zat)).lessD (D':=kD k1 s1++D) (by simp only [kD,hfit1.feO,hfit1.stO,hfit1.reO,a1h,zL];exact zsn))).mono ?_;rintro x wN ⟨⟨y,rfl⟩,A5,c5,hF5⟩;clear hF;have hF:=hF5;clear hF5;(try simp only [zF] at hF))|(go_at_call 63;refine (HLi.out _).mono ?_;rintro x wN ⟨rfl,d,rfl⟩;replace hF:=hF.grow (Bel.drewN _ d))|(refine a1s ?_;clear hF;(first|intro gN wN hF|intro wN hF|intro hF))|(refine a1d ?_;clear hF;intro vN wN hF)))
         exact d8q
        ·go_wp2_with ((try simp only [zA,Nat.reduceAdd]);(first|refine b5s ?_|(go_at_call 81;obtain ⟨Ah,ch,hfz,hF2⟩:=hF.freeze 0 at0;injection hfz with hfz1 _ hfz2;subst hfz1 hfz2;clear hF;have hF:=hF2;clear hF2;(try simp only [zF] at hF);refine (a6q _ _ _ _ _ _ _ _ _ hF.rdA hF.rdA).mono ?_;rintro x wN ⟨hx,hb⟩;rw [hhv.out] at hx;subst hx;replace hF:=hF.grow hb;clear hb)|(go_at_call 82;refine (a6r (s:=s1) hk1 true ((hF.front _ (m:=.blk g 81 (mcells k1 s1)) (by exact zat)).lessD (D':=kD k1 s1++D) (by simp only [kD,hfit1.feO,hfit1.stO,hfit1.reO,a1h,zL];exact zsn))).mono ?_;rintro x wN ⟨hx,⟨hF5⟩⟩;rw [hrv.out] at hx;subst hx;clear hF;have hF:=hF5;clear hF5;(try simp only [zF] at hF);(simp only [kD,hfit1.feO,hfit1.stO,hfit1.reO,a1h,zL] at hF))|(go_at_call 83;refine (a5q (s:=s1) hk1 _ _ _ ((hF.front _ (m:=.blk g 81 (mcells k1 s1)) (by exact zat)).lessD (D':=kD k1 s1++D) (by simp only [kD,hfit1.feO,hfit1.stO,hfit1.reO,a1h,zL];exact zsn))).mono ?_;rintro x wN ⟨⟨y,rfl⟩,A5,c5,hF5⟩;clear hF;have hF:=hF5;clear hF5;(try simp only [zF] at hF))|(go_at_call 63;refine (HLi.out _).mono ?_;rintro x wN ⟨rfl,d,rfl⟩;replace hF:=hF.grow (Bel.drewN _ d))|(refine a1s ?_;clear hF;(first|intro gN wN hF|intro wN hF|intro hF))|(refine a1d ?_;clear hF;intro vN wN hF)))
         go_meet
         exact ⟨_,_,Lib.hid (by rw [hA.out];simp),hfit1.ask 3 L ⟨#[]⟩ A5 c5,⟨hF⟩⟩
       ·go_wp2_with ((try simp only [zA,Nat.reduceAdd]);(first|refine b5s ?_|(go_at_call 81;obtain ⟨Ah,ch,hfz,hF2⟩:=hF.freeze 0 at0;injection hfz with hfz1 _ hfz2;subst hfz1 hfz2;clear hF;have hF:=hF2;clear hF2;(try simp only [zF] at hF);refine (a6q _ _ _ _ _ _ _ _ _ hF.rdA hF.rdA).mono ?_;rintro x wN ⟨hx,hb⟩;rw [hhv.out] at hx;subst hx;replace hF:=hF.grow hb;clear hb)|(go_at_call 82;refine (a6r (s:=s1) hk1 true ((hF.front _ (m:=.blk g 81 (mcells k1 s1)) (by exact zat)).lessD (D':=kD k1 s1++D) (by simp only [kD,hfit1.feO,hfit1.stO,hfit1.reO,a1h,zL];exact zsn))).mono ?_;rintro x wN ⟨hx,⟨hF5⟩⟩;rw [hrv.out] at hx;subst hx;clear hF;have hF:=hF5;clear hF5;(try simp only [zF] at hF);(simp only [kD,hfit1.feO,hfit1.stO,hfit1.reO,a1h,zL] at hF))|(go_at_call 83;refine (a5q (s:=s1) hk1 _ _ _ ((hF.front _ (m:=.blk g 81 (mcells k1 s1)) (by exact zat)).lessD (D':=kD k1 s1++D) (by simp only [kD,hfit1.feO,hfit1.stO,hfit1.reO,a1h,zL];exact zsn))).mono ?_;rintro x wN ⟨⟨y,rfl⟩,A5,c5,hF5⟩;clear hF;have hF:=hF5;clear hF5;(try simp only [zF] at hF))|(go_at_call 63;refine (HLi.out _).mono ?_;rintro x wN ⟨rfl,d,rfl⟩;replace hF:=hF.grow (Bel.drewN _ d))|(refine a1s ?_;clear hF;(first|intro gN wN hF|intro wN hF|intro hF))|(refine a1d ?_;clear hF;intro vN wN hF)))
        exact d8q
     ·simp only [Bool.not_true,Bool.false_and]
      go_wp2
      go_meet
      exact ⟨k1,s1,Lib.hid (by unfold b2n;rfl),hfit1,hS1⟩
    case rest=>
     clear hF hS1 hb1
     obtain ⟨k2,s2,hk2e,hfit2,⟨hF⟩⟩:=hcut
     refine hK6 _ _ ?_
     clear hK6
     have hk2:=h6h hk1 (by omega) ok
     rw [← hk2e.out] at hk2 hE
     have hS2:=hF
     clear hk2e hk1 hfit1
     have hB2:Hid (d8r k2=if k2.stores≠[]∨k2.halt=0 then k2 else if (a2r k2.dways k2.data).2=true∧(a2r k2.dways k2.data).1.data.size≠0 then { a3y k2 4 (a2r k2.dways k2.data).1.line (a2r k2.dways k2.data).1.data with data:=a9g k2.dways k2.data (a2r k2.dways k2.data).1.line } else k2):=Lib.hid rfl
     have hDi:=g8g k2.dways k2.data
     have hDk:=d7m (ways:=k2.dways) hk2.dok
     obtain ⟨v,db,hdv⟩:∃ v db,a2r k2.dways k2.data=(v,db):=⟨_,_,rfl⟩
     rw [hdv] at hB2 hDi hDk
     obtain ⟨vl,vd,vb⟩:=v
     dsimp only at hB2 hDi hDk
     rw [← hfit2.data] at hDi
     have hso:=hk2.dok
     rw [← hfit2.data] at hso
     have HDi:=Lib.hid (fun (W:World) (h1:RdS W W.heap.size s2.dA k2.data.length s2.dC s2.dS)=>g7o hso.sok hDi W h1)
     replace hE:=Lib.hid (hE.out.trans hB2.out)
     clear hdv hB2 hDi
     unfold Wy.val at HDi
     simp only [kD,hfit2.feO,hfit2.stO,hfit2.reO,a1h,zL] at hF
     by_cases hst:k2.stores=[]
     ·have hb2:Hid (decide ((0:Int)<(k2.stores.length:Int))=false):=Lib.hid (by rw [hst];rfl)
      by_cases hh:k2.halt=0
      ·have hh2:=Lib.hid hh
       rw [if_pos (.inr hh)] at hE
       clear hh hst
       exact d8p
      ·rw [if_neg (fun h=>h.elim (fun h=>h hst) hh)] at hE
       clear hst
       cases db
       ·rw [if_neg (fun h=>by cases h.1)] at hE
        exact d8n
       ·by_cases hz:vb.size=0
        ·have hemp:=c4j hz
         rw [if_neg (fun h=>h.2 hz)] at hE
         clear hz
         exact d8n
        ·have hemp:=b7e hz
         rw [if_pos ⟨rfl,hz⟩] at hE
         have hDk2:vl<4294967296∧vb.size≤maxLen:=hDk (by simp)
         clear hz
         have hk3:=hk2.ask (by omega) 4 hDk2.1 hDk2.2
         go_upto_region 10 with ((try simp only [zA,Nat.reduceAdd]);(first|refine c2n ?_|(refine c2o ?_;clear hF;(first|intro gN wN hF|intro wN hF|intro hF))|(go_at_call 83;refine (a5q (s:=s2) hk2 _ _ _ ((hF.front _ (m:=.blk g 81 (mcells k2 s2)) (by exact zat)).lessD (D':=kD k2 s2++D) (by simp only [kD,hfit2.feO,hfit2.stO,hfit2.reO,a1h,zL];exact zsn))).mono ?_;rintro x wN ⟨⟨y,rfl⟩,A5,c5,hF5⟩;clear hF;have hF:=hF5;clear hF5;(try simp only [zF] at hF))|(refine a1d ?_;clear hF;intro vN wN hF)))
         have hfit3:=hfit2.ask 4 vl vb A5 c5
         obtain ⟨k3,hk3e⟩:∃ k3,a3y k2 4 vl vb=k3:=⟨_,rfl⟩
         rw [hk3e] at hF hfit3 hk3 hE
         obtain ⟨s3,hs3e⟩:∃ s3,{ s2 with busA:=A5,busC:=c5 }=s3:=⟨_,rfl⟩
         rw [hs3e] at hF hfit3
         have e1:a9g k2.dways k2.data vl=a9g k3.dways k3.data vl:=by rw [← hk3e];rfl
         rw [e1] at hE
         have er:s2.robA=s3.robA:=by rw [← hs3e]
         have ek:k2.rob=k3.rob:=by rw [← hk3e];rfl
         rw [er,ek] at hF
         clear hk3e hs3e e1 er ek
         have hCl:=d5t k3.dways k3.data vl
         obtain ⟨C4,hC4e⟩:∃ C4,a9g k3.dways k3.data vl=C4:=⟨_,rfl⟩
         rw [hC4e] at hCl hE
         rw [← hfit3.data] at hCl
         have hso3:=hk3.dok
         rw [← hfit3.data] at hso3
         have HCl:=Lib.hid (fun (W:World) (h1:RdS W W.heap.size s3.dA k3.data.length s3.dC s3.dS)=>g7y hDk2.1 hso3.sok hCl W h1)
         clear hC4e hCl
         simp only [kD,hfit3.feO,hfit3.stO,hfit3.reO,a1h,zL] at hF
         refine a7k [12] (by kernel_rfl) hF _ _ (fun _ h=>h) (fun _ h=>h) ?_
         clear hF;intro hF hH
         refine zt4 0 hH ?_
         refine zt4 1 hH ?_
         refine zq 2 hH ?_
         refine zt0 3 hH ?_
         refine zt0 4 hH ?_
         refine zt1 5 hH ?_
         refine zt0 6 hH ?_
         refine zt1 7 hH ?_
         refine a2u (rs:=[8]) (by kernel_rfl) (by simp) (a2v rfl (fun K hK=>?_) AllReadyT.nil)
         go_wp2_with ((first|(go_at_call 88;refine (HCl.out _ hF.rds).mono ?_;rintro x wN ⟨_,rfl,A6,n6,c6,S6,rfl,hO,hC6⟩;replace hF:=hF.callA hO;clear hO)|(refine w_stp rfl hF rfl rfl ?_ (hfit:=by (try simp only [List.length_set]);rw [mcells_len];exact Nat.le_of_ble_eq_true rfl);clear hF;intro wN hF;(try simp only [List.set_cons_zero,List.set_cons_succ] at hF);(try simp only [zA,Nat.reduceAdd]))|((first|refine zrg ?_|(refine zst ?_;clear hF;(first|intro gN wN hF|intro wN hF|intro hF))|(refine zap ?_;clear hF;intro vN wN hF));(try simp only [zA,Nat.reduceAdd]))))
         have hH:=zx0 hH hF;refine hK.out _ _ (fun _=>hH) ?_;clear hK;(try simp only [zA,Nat.reduceAdd])
         refine zq 9 hH ?_
         refine zt0 10 hH ?_
         refine zt0 11 hH ?_
         refine a2u (rs:=[12]) (by kernel_rfl) (by simp) (a2v rfl (fun K hK=>?_) AllReadyT.nil)
         go_wp2_with ((first|(go_at_call 88;refine (HCl.out _ hF.rds).mono ?_;rintro x wN ⟨_,rfl,A6,n6,c6,S6,rfl,hO,hC6⟩;replace hF:=hF.callA hO;clear hO)|(refine w_stp rfl hF rfl rfl ?_ (hfit:=by (try simp only [List.length_set]);rw [mcells_len];exact Nat.le_of_ble_eq_true rfl);clear hF;intro wN hF;(try simp only [List.set_cons_zero,List.set_cons_succ] at hF);(try simp only [zA,Nat.reduceAdd]))|((first|refine zrg ?_|(refine zst ?_;clear hF;(first|intro gN wN hF|intro wN hF|intro hF))|(refine zap ?_;clear hF;intro vN wN hF));(try simp only [zA,Nat.reduceAdd]))))
         (try clear hH);refine hK.out _ _ (a4w 12 rfl (by kernel_rfl)) ?_;clear hK;(try simp only [zA,Nat.reduceAdd])
         refine a7j (by kernel_rfl) ?_ _
         (have hn6:n6=C4.length:=(by rw [← hC6,a3n];exact ((hF.rds (A:=A6) (n:=n6) (c:=c6) (S:=S6)).slen).symm);subst hn6;rw [mset_data (k:=k3) (s:=s3) S6 C4 k3.dways rfl] at hF;go_wp2;go_end0;(try refine ⟨⟨_,rfl⟩,?_⟩);rw [hE.out];exact ⟨{ s3 with dA:=A6,dC:=c6,dS:=S6 },⟨hC6,hfit3.words,hfit3.robC,hfit3.robM,hfit3.feO,hfit3.stO,hfit3.reO⟩,fun h=>(by cases h),fun h=>(by cases h),⟨(hF.drop 1).lessD (by simp only [kD,hfit3.feO,hfit3.stO,hfit3.reO,a1h,zL];exact zsn)⟩⟩)
     ·have hb2:Hid (decide ((0:Int)<(k2.stores.length:Int))=true):=Lib.hid (by
       have:k2.stores.length≠0:=fun h=>hst (List.eq_nil_of_length_eq_zero h)
       simp;omega)
      rw [if_pos (.inl hst)] at hE
      clear hst
      exact d8p
end
end Go.Proofs.YtgnomadgnciifaaGreatDoor
