/- . -/
import Derived.Test.YtgnomadgnciifaaGreatDoorZ42
import Derived.Test.YtgnomadgnciifaaGreatDoorZ18
import Derived.Test.YtgnomadgnciifaaGreatDoorZ23
set_option linter.unusedVariables false
set_option linter.unusedSimpArgs false
set_option linter.unusedSectionVars false
set_option maxRecDepth 100000
set_option maxHeartbeats 16000000
namespace Go.Proofs.YtgnomadgnciifaaGreatDoor
theorem d9p {p:Prop} (h:p:=by
 have hH:=zx0 hH hF;refine hK.out _ _ hH ?_;clear hK;(try simp only [zA,Nat.reduceAdd])
 refine zrz ?_
 (skip)
 go_wp2
 go_end0
 refine ⟨⟨_,rfl⟩,?_⟩
 rw [hR.out]
 exact ⟨s,hfit2 _,ha,hb',⟨by rw [b3u _ (List.length_set ..)];exact hF.drop 0⟩⟩):p:=h
section
open Go.RowKit Wd
theorem MX.dropM {w0 w:World} {D0 D:List Da} {m:Mu} {M:List Mu} {g:Nat} {k:Kern} {a b:Bool} (h:MX w0 D0 D (m::M) g k a b w):MX w0 D0 D M g k a b w:=by
 obtain ⟨s,hfit,ha,hb,⟨hF⟩⟩:=h
 exact ⟨s,hfit,ha,hb,⟨hF.drop 2⟩⟩
theorem h7i (HDec:c2a) {w0 w:World} {D0 D:List Da} {M:List Mu} {g:Nat} {k:Kern} {a b:Bool} {B:Int} (hk:KOk B k) (i:Nat) (e:En) (hu:k.rob[i]?=some e) (hX:MX w0 D0 D M g k a b w) :
  Calls Tryz.prog 77 #[.pointer (some ⟨g,0,none⟩),.int .i64 (i:Int)] w fun x w'=>(∃ y,x = .returned y)∧MX w0 D0 D M g (a3h k i) a b w':=by
 obtain ⟨s,hfit,ha,hb',⟨hF⟩⟩:=hX
 have hn16:=hk.roblen
 have hm256:=hk.mem
 have hcap:=hfit.robC
 have hin:i<k.rob.length:=(List.getElem?_eq_some_iff.1 hu).1
 have he:=hk.rob e (List.mem_of_getElem? hu)
 have hl17:(ens k.rob).length=k.rob.length * 17:=a4l _
 have hlen:0<(ens k.rob).length:=by omega
 have hP:=hF.rowP at1 hlen
 have hR:a3h k i=if a1e e.inst.op=4 then { k with rob:=k.rob.set i (a6m e k.mem.size (a5g k.rob k.regs i).1) }
  else if a1e e.inst.op=3 then a3z { k with rob:=k.rob.set i (a6m e k.mem.size (a5g k.rob k.regs i).1) } i
  else { k with rob:=k.rob.set i (a3l e (a5g k.rob k.regs i).1 (a5g k.rob k.regs i).2.1) }:=by
  unfold a3h
  rw [hu]
  (try rfl)
 have HBo:=fun (W:World) (h:Rd W W.heap.size 17 s.robA k.rob.length s.robC (ens k.rob))=>show Calls Tryz.prog 16 #[.slice s.robA k.rob.length s.robC,regsV k s,.int .i64 (i:Int)] W _ from by rw [b7p hk.rlen];exact d4z s.robA k.rob.length s.robC k.rob k.regs i W h hk.rob hk.rlen hin
 have hbo:=d7k (q:=k.rob) (regs:=k.regs) (i:=i) hk.rob hk.regs
 obtain ⟨x1,x2,x3,hbe⟩:∃ x1 x2 x3,a5g k.rob k.regs i=(x1,x2,x3):=⟨_,_,_,rfl⟩
 rw [hbe] at HBo hR hbo
 dsimp only at HBo hR hbo
 unfold regsV at HBo
 replace HBo:=Lib.hid HBo
 have HK:=fun W=>a2o e.inst W he.op
 have HAd:=fun W=>h1s e k.mem.size x1 W he.op he.imm (by omega) hbo.1
 have HSt:=fun W=>h1e e x1 x2 W he.op he.imm hbo.1 hbo.2
 have hadr:=c5l (n:=k.mem.size) (a:=x1) he
 have hinst:=c1y e k.mem.size x1
 obtain ⟨f,hf⟩:∃ f,a6m e k.mem.size x1=f:=⟨_,rfl⟩
 obtain ⟨f2,hf2⟩:∃ f2,a3l e x1 x2=f2:=⟨_,rfl⟩
 rw [hf] at HAd hR hadr hinst
 rw [hf2] at HSt hR
 have hfit2:∀ f:En,Fit { k with rob:=k.rob.set i f } s:=fun f=>⟨hfit.data,hfit.words,by show (k.rob.set i f).length≤_;rw [List.length_set];exact hcap,hfit.robM,hfit.feO,hfit.stO,hfit.reO⟩
 obtain ⟨κ,hκ⟩:∃ κ,a1e e.inst.op=κ:=⟨_,rfl⟩
 rw [hκ] at HK hR
 replace HK:=Lib.hid HK
 replace HAd:=Lib.hid HAd
 replace HSt:=Lib.hid HSt
 clear hbe hf hf2
 (simp only [kD,zL] at hF)
 go_enter Tryz.func77,Tryz.ntmps77
 go_upto_region 1 with ((try simp only [zA,Nat.reduceAdd]);(first|go_big_skip|refine g_fldB rfl rfl (by (first|exact Wtd.of_none rfl|exact Wtd.of_some rfl rfl)) ?_|refine w_ld1 rfl hF rfl ?_|refine w_ixR rfl hF rfl rfl ?_|refine w_ldeR (us:=e.cells) (v:=e.val) (hu:=Rows.sub (f:=ens) hu) rfl hF rfl ?_|(refine w_alloc rfl hF ?_;clear hF;(first|intro gN wN hF|intro wN hF|intro hF))|(refine w_st (us:=e.cells) rfl hF rfl rfl ?_ (h1:=fun u hu=>.inl (e.one u hu));clear hF;(first|intro gN wN hF|intro wN hF|intro hF))))
 refine a1n (by kernel_rfl) hF _ _ (fun _ h=>h) (fun _ h=>h) ?_
 clear hF;intro hF hH
 refine a1c 0 hH ?_
 refine zp 1 hH ?_
 refine zk1 2 hH ?_
 refine zk1 3 hH ?_
 refine a2i 4 hH ?_
 refine a1c 5 hH ?_
 refine zp 6 hH ?_
 refine zk1 7 hH ?_
 refine zk1 8 hH ?_
 refine a2i 9 hH ?_
 refine a1c 10 hH ?_
 refine zry 11 (fun K hK=>?_)
 go_wp2_with ((go_at_call 16;refine (HBo.out _ (hF.rowRd (by exact zat) hl17 (by decide) hfit.robC hfit.robM)).mono ?_;rintro x wN ⟨rfl,hb⟩;replace hF:=hF.grow hb;clear hb))
 have hH:=zx0 hH hF;refine hK.out _ _ hH ?_;clear hK;(try simp only [zA,Nat.reduceAdd])
 refine a1c 12 hH ?_
 refine zp 13 hH ?_
 refine zp 14 hH ?_
 refine zp 15 hH ?_
 refine a2a 16 hH ?_
 refine a2a 17 hH ?_
 refine a2a 18 hH ?_
 refine zrz ?_
 (skip)
 by_cases h4:κ=4
 ·subst h4
  rw [if_pos rfl] at hR
  replace hR:=Lib.hid hR
  go_upto_region 5 with ((try simp only [zA,Nat.reduceAdd]);(first|go_big_skip|(go_at_call 39;refine zcg hF (HK.out _) ?_;clear hF;intro wN hF)|refine g_fldB rfl rfl (by (first|exact Wtd.of_none rfl|exact Wtd.of_some rfl rfl)) ?_|refine w_ldp (v:=e.inst.val) (n:=5) rfl hF rfl ?_ (hn:=Nat.le_of_ble_eq_true rfl)|refine w_ld1 rfl hF rfl ?_))
  refine a1n (by kernel_rfl) hF [.blk _ 54 e.cells,.blk g 81 (mcells k s)] _ (by ((repeat (first|exact a1f|refine a1m zdm ?_)) <;> exact a1f)) (fun _ h=>h) ?_
  clear hF;intro hF hH
  refine a1c 0 hH ?_
  refine zp 1 hH ?_
  refine zk1 2 hH ?_
  refine zk1 3 hH ?_
  refine a2i 4 hH ?_
  refine a1c 5 hH ?_
  refine a2i 6 hH ?_
  refine a1c 7 hH ?_
  refine zp 8 hH ?_
  refine zk1 9 hH ?_
  refine zk1 10 hH ?_
  refine a2i 11 hH ?_
  refine zk3 12 hH ?_
  refine a1c 13 hH ?_
  refine zry 14 (fun K hK=>?_)
  go_wp2_with ((first|(refine c7y ?_;clear hF;intro wN hF)|((refine a5r rfl hF rfl rfl ?_);clear hF;intro wN hF;(try simp only [zA,Nat.reduceAdd]))))
  have hH:=zx0 hH hF;refine hK.out _ _ hH ?_;clear hK;(try simp only [zA,Nat.reduceAdd])
  refine b1z 15 hH ?_
  refine zry 16 (fun K hK=>?_)
  go_wp2_with ((first|(go_at_call 135;refine zcg hF (HAd.out _) ?_;clear hF;intro wN hF)|((refine a5r rfl hF rfl rfl ?_);clear hF;intro wN hF;(try simp only [zA,Nat.reduceAdd]))|(refine w_st1 rfl hF rfl rfl ?_;clear hF;intro wN hF)|(refine w_st rfl hF rfl rfl ?_;clear hF;intro wN hF)|(refine w_st1o rfl hF rfl rfl ?_;clear hF;intro wN hF));(try simp only [zA,Nat.reduceAdd]))
  exact d9p
 rw [if_neg h4] at hR
 by_cases h3:κ=3
 ·subst h3
  rw [if_pos rfl] at hR
  have hu2:({ k with rob:=k.rob.set i f }:Kern).rob[i]?=some f:=by show (k.rob.set i f)[i]?=some f;rw [List.getElem?_set_self hin]
  have hk3:a1e f.inst.op=3:=by rw [hinst];exact hκ
  have hk2:=hk.setRob hadr i
  have hb4:=Lib.hid (show decide ((3:Int)=4)=false from rfl)
  replace hR:=Lib.hid hR
  clear hκ h4
  go_upto_region 7 with ((try simp only [zA,Nat.reduceAdd]);(first|go_big_skip|refine w_eqlH rfl rfl rfl ?_ (hb:=by with_reducible assumption)|refine g_fldB rfl rfl (by (first|exact Wtd.of_none rfl|exact Wtd.of_some rfl rfl)) ?_|refine w_ldp (v:=e.inst.val) (n:=5) rfl hF rfl ?_ (hn:=Nat.le_of_ble_eq_true rfl)|refine w_ld1 rfl hF rfl ?_|(go_at_call 39;refine zcg hF (HK.out _) ?_;clear hF;intro wN hF)))
  refine a1n (by kernel_rfl) hF [.blk _ 54 e.cells,.blk g 81 (mcells k s)] _ (by ((repeat (first|exact a1f|refine a1m zdm ?_)) <;> exact a1f)) (fun _ h=>h) ?_
  clear hF;intro hF hH
  refine a1c 0 hH ?_
  refine zp 1 hH ?_
  refine zk1 2 hH ?_
  refine zk1 3 hH ?_
  refine a2i 4 hH ?_
  refine a1c 5 hH ?_
  refine a2i 6 hH ?_
  refine a1c 7 hH ?_
  refine zp 8 hH ?_
  refine zk1 9 hH ?_
  refine zk1 10 hH ?_
  refine a2i 11 hH ?_
  refine zk3 12 hH ?_
  refine a1c 13 hH ?_
  refine zry 14 (fun K hK=>?_)
  go_wp2_with ((first|(refine c7y ?_;clear hF;intro wN hF)|((refine a5r rfl hF rfl rfl ?_);clear hF;intro wN hF;(try simp only [zA,Nat.reduceAdd]))))
  have hH:=zx0 hH hF;refine hK.out _ _ hH ?_;clear hK;(try simp only [zA,Nat.reduceAdd])
  refine b1z 15 hH ?_
  refine zry 16 (fun K hK=>?_)
  go_wp2_with ((first|(go_at_call 135;refine zcg hF (HAd.out _) ?_;clear hF;intro wN hF)|((refine a5r rfl hF rfl rfl ?_);clear hF;intro wN hF;(try simp only [zA,Nat.reduceAdd]))|(refine w_st1 rfl hF rfl rfl ?_;clear hF;intro wN hF)|(refine w_st rfl hF rfl rfl ?_;clear hF;intro wN hF)|(refine w_st1o rfl hF rfl rfl ?_;clear hF;intro wN hF));(try simp only [zA,Nat.reduceAdd]))
  have hH:=zx0 hH hF;refine hK.out _ _ hH ?_;clear hK;(try simp only [zA,Nat.reduceAdd])
  refine zrz ?_
  (skip)
  have hX:MX w0 D0 D _ g { k with rob:=k.rob.set i f } a b _:=⟨s,hfit2 f,ha,hb',⟨by rw [b3u _ (List.length_set ..)];exact ((hF.front 1 at1).front 2 at2).front 1 at1⟩⟩
  clear hF
  go_wp2_with (go_at_call 136;refine (h6y HDec hk2 i f hu2 hk3 hX).mono ?_;rintro x wN ⟨⟨y,rfl⟩,hX2⟩)
  go_end0
  refine ⟨⟨_,rfl⟩,?_⟩
  rw [hR.out]
  exact hX2.dropM
 rw [if_neg h3] at hR
 have hb4:=Lib.hid (show decide (κ=4)=false by simpa using h4)
 have hb3:=Lib.hid (show decide (κ=3)=false by simpa using h3)
 replace hR:=Lib.hid hR
 clear hκ h3 h4
 go_upto_region 3 with ((try simp only [zA,Nat.reduceAdd]);(first|go_big_skip|refine w_eqlH rfl rfl rfl ?_ (hb:=by with_reducible assumption)|refine g_fldB rfl rfl (by (first|exact Wtd.of_none rfl|exact Wtd.of_some rfl rfl)) ?_|refine w_ldp (v:=e.inst.val) (n:=5) rfl hF rfl ?_ (hn:=Nat.le_of_ble_eq_true rfl)|refine w_ld1 rfl hF rfl ?_|(go_at_call 39;refine zcg hF (HK.out _) ?_;clear hF;intro wN hF)))
 refine a1n (by kernel_rfl) hF [.blk _ 54 e.cells,.blk g 81 (mcells k s)] _ (by ((repeat (first|exact a1f|refine a1m zdm ?_)) <;> exact a1f)) (fun _ h=>h) ?_
 clear hF;intro hF hH
 refine a1c 0 hH ?_
 refine zp 1 hH ?_
 refine zk1 2 hH ?_
 refine zk1 3 hH ?_
 refine a2i 4 hH ?_
 refine a1c 5 hH ?_
 refine a2i 6 hH ?_
 refine a1c 7 hH ?_
 refine a1c 8 hH ?_
 refine zry 9 (fun K hK=>?_)
 go_wp2_with ((first|(refine f4f ?_;clear hF;intro wN hF)|((refine a5r rfl hF rfl rfl ?_);clear hF;intro wN hF;(try simp only [zA,Nat.reduceAdd]))))
 have hH:=zx0 hH hF;refine hK.out _ _ hH ?_;clear hK;(try simp only [zA,Nat.reduceAdd])
 refine b1z 10 hH ?_
 refine zry 11 (fun K hK=>?_)
 go_wp2_with ((first|(go_at_call 137;refine zcg hF (HSt.out _) ?_;clear hF;intro wN hF)|((refine a5r rfl hF rfl rfl ?_);clear hF;intro wN hF;(try simp only [zA,Nat.reduceAdd]))|(refine w_st1 rfl hF rfl rfl ?_;clear hF;intro wN hF)|(refine w_st rfl hF rfl rfl ?_;clear hF;intro wN hF)|(refine w_st1o rfl hF rfl rfl ?_;clear hF;intro wN hF));(try simp only [zA,Nat.reduceAdd]))
 exact d9p
end
end Go.Proofs.YtgnomadgnciifaaGreatDoor
