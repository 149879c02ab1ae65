/- . -/
import Derived.Test.YtgnomadgnciifaaGreatDoorZ47
set_option linter.unusedVariables false
set_option linter.unusedSimpArgs false
set_option linter.unusedSectionVars false
set_option maxRecDepth 100000
set_option maxHeartbeats 16000000
namespace Go.Proofs.YtgnomadgnciifaaGreatDoor
section
open Go.RowKit Wd
def zeroCore : List Value:=[.int .i64 0,.int .i64 0,.int .i64 0,.int .i64 0,.int .i64 0,.int .i64 0,.int .i64 0,.int .i64 0,.slice none 0 0,.bool false,.slice none 0 0,.slice none 0 0,.int .i64 0,.int .u32 0,.int .u32 0,.int .u32 0,.int .u32 0,.int .u32 0,.int .u32 0,.int .u32 0,.int .u32 0,.int .u32 0,.int .u32 0,.int .u32 0,.int .u32 0,.int .u32 0,.int .u32 0,.int .u32 0,.int .u32 0,.int .u32 0,.int .u32 0,.int .u32 0,.int .u32 0,.int .u32 0,.int .u32 0,.int .u32 0,.int .u32 0,.int .u32 0,.int .u32 0,.int .u32 0,.int .u32 0,.int .u32 0,.int .u32 0,.int .u32 0,.int .u32 0,.int .u32 0,.bool false,.slice none 0 0,.slice none 0 0,.int .i64 0,.slice none 0 0,.int .i64 0,.slice none 0 0,.int .i64 0,.slice none 0 0,.slice none 0 0,.int .i64 0,.int .i64 0,.string ⟨#[]⟩,.slice none 0 0,.int .u32 0,.slice none 0 0,.int .i64 0,.slice none 0 0]
def stagesL : List Value:=[.func (.func 31) #[] #[],.func (.func 32) #[] #[],.func (.func 33) #[] #[],.func (.func 34) #[] #[],.func (.func 35) #[] #[],.func (.func 36) #[] #[],.func (.func 37) #[] #[]]
theorem stagesRow : RowTy Tryz.prog 84 7:=⟨_,Tryz.underlying84,rfl,by kernel_rfl⟩
theorem stagesZero : ZeroT Tryz.prog 84 [.nilFunc,.nilFunc,.nilFunc,.nilFunc,.nilFunc,.nilFunc,.nilFunc]:=⟨.agg #[.nilFunc,.nilFunc,.nilFunc,.nilFunc,.nilFunc,.nilFunc,.nilFunc],by kernel_rfl,rfl⟩
theorem stagesOne : ∀ u∈stagesL,u.oneCell'=true:=by decide
theorem f1a {k:Kern} {s:Sls} {B:Int} (hk:KOk B k) (hB:B+21≤1000000) (hL:AllE (fun e=>okL e.left) k.rob) (hfit:FitC k s) (w:World) (hD:∀ d∈a4s k s,d.ok w) :
  Calls Tryz.prog 9 #[.agg (mcells k s).toArray] w (StepPost w (a4s k s) (a2z k)):=by
 have hF:=St.start w (a4s k s) hD
 have HR:=fun (W:World) (h:∀ d∈a4s k s,d.ok W)=>h6t hk hfit.data hfit.words hfit.feO hfit.stO hfit.reO W h
 cases hr:a5h k with
 | false=>
  rw [hr] at HR
  have hS:a2z k=k:=by unfold a2z;rw [if_neg (by rw [hr];decide)]
  replace HR:=Lib.hid HR
  rw [hS]
  go_enter Tryz.func9,Tryz.ntmps9
  go_wp2_with ((try simp only [zA,Nat.reduceAdd]);(first|go_big_skip|(go_at_call 29;refine (HR.out _ (fun d hd=>hF.dat d hd)).mono ?_;rintro x wN ⟨rfl,hb⟩;replace hF:=hF.grow hb;clear hb)|(refine c8g ?_;clear hF;intro gK wN hF)|(refine b8f ?_;clear hF;intro gR wN hF)|refine f4m ?_|(refine f4n ?_;clear hF;intro wN hF)))
  ((try simp only [Exit.inBlock,Exit.then]);refine bodyPost_ret (a2x rfl hF) rfl ?_)
  exact ⟨s,hfit,rfl,hF.out (fun d h=>h)⟩
 | true=>
  rw [hr] at HR
  replace HR:=Lib.hid HR
  go_enter Tryz.func9,Tryz.ntmps9
  have hcy:=hk.cyc
  have hbd:=hk.bound
  go_wp2_with ((try simp only [zA,Nat.reduceAdd]);(first|go_big_skip|(go_at_call 29;refine (HR.out _ (fun d hd=>hF.dat d hd)).mono ?_;rintro x wN ⟨rfl,hb⟩;replace hF:=hF.grow hb;clear hb)|(go_at_call 30;refine (h4q (s:=s) hk hfit.feO hfit.stO hfit.reO (hF.lessD (D':=a1a 17 s.robA k.rob.length s.robC (ens k.rob)::(kD k s++[])) (by intro d hd;rw [List.append_nil] at hd;exact hd))).mono ?_;rintro x wN ⟨⟨y,rfl⟩,A1,c1,hc1,hm1,hF5⟩;clear hF;have hF:=hF5;clear hF5;(try simp only [zF] at hF))|(refine c8g ?_;clear hF;intro gK wN hF)|(refine b8f ?_;clear hF;intro gR wN hF)|(refine f4o ?_;clear hF;intro gM wN hF)|refine f4p ?_|(refine f4q ?_;clear hF;intro wN hF)|(refine f4r ?_;clear hF;intro gA wN hF)))
  obtain ⟨k0,hk0e⟩:∃ k0:Kern,{ k with cycle:=k.cycle+1 }=k0:=⟨_,rfl⟩
  have hk0:KOk (B+1) k0:=by
   have hu:=hk.up (B':=B+1) (by omega) (by omega)
   rw [← hk0e]
   exact { hu with cyc:=⟨by show 0≤k.cycle+1;omega,by show k.cycle+1≤B+1;omega⟩ }
  have hL0:AllE (fun e=>okL e.left) k0.rob:=by rw [← hk0e];exact hL
  have hS:a2z k=stageK k0 7:=by unfold a2z;rw [if_pos hr,hk0e];rfl
  replace hF:=hF.drop 0
  have hX:MX w (a4s k s) [] [.blk gR 42 zeroCore,.blk gK 42 (mcells k s)] gM (stageK k0 0) (c2b 0) (c2c 0) wN:=by
   have e:(mcells k (b5i k s A1 c1)).set 12 (.int .i64 (k.cycle+1))=mcells k0 (b5i k s A1 c1):=by rw [d7d,hk0e]
   subst hk0e
   refine MX.mk (b5i k s A1 c1) ⟨hfit.data,hfit.words,hc1,hm1,hfit.feO,hfit.stO,hfit.reO⟩ (fun _=>rfl) (fun _=>⟨rfl,rfl⟩) ⟨?_⟩
   rw [d7d] at hF
   exact hF
  clear hF hc1 hm1 hcy hbd
  go_loopw [22] (fun i wr=>∃ j:Nat,j≤7∧i = .int .i64 (j:Int)∧MX w (a4s k s) [] [.blk gR 42 zeroCore,.blk gK 42 (mcells k s)] gM (stageK k0 j) (c2b j) (c2c j) wr) (fun i _=>7 - (intOf i).toNat)
  case atStart=>exact ⟨0,by omega,rfl,hX⟩
  case round=>
   clear hX
   obtain ⟨j,hj,rfl,hX⟩:=hrel
   by_cases hj7:j<7
   ·have hst:=h7v hk0 (by omega) hL0 j (by omega) hX
    clear hX
    rcases (show j=0∨j=1∨j=2∨j=3∨j=4∨j=5∨j=6 by omega) with rfl|rfl|rfl|rfl|rfl|rfl|rfl
    ·replace hst:=Lib.hid hst
     go_wp2_with ((first|((refine b3f (cs:=stagesL) (t:=84) (e:=82) (n:=7) rfl rfl rfl Tryz.underlying84 ⟨_,Tryz.underlying82,by simp,by simp⟩ (by kernel_rfl) ?_);(try simp only [zA,Nat.reduceAdd]))|(go_at_call 31;refine hst.out.mono ?_;rintro x wN ⟨⟨y1,rfl⟩,hX⟩)))
     go_roundw
     case rel=>exact ⟨0+1,by omega,by go_num,hX⟩
     case measure=>first|(simp [intOf];done)|(simp [intOf];omega)
    ·replace hst:=Lib.hid hst
     go_wp2_with ((first|((refine b3f (cs:=stagesL) (t:=84) (e:=82) (n:=7) rfl rfl rfl Tryz.underlying84 ⟨_,Tryz.underlying82,by simp,by simp⟩ (by kernel_rfl) ?_);(try simp only [zA,Nat.reduceAdd]))|(go_at_call 32;refine hst.out.mono ?_;rintro x wN ⟨⟨y1,rfl⟩,hX⟩)))
     go_roundw
     case rel=>exact ⟨1+1,by omega,by go_num,hX⟩
     case measure=>first|(simp [intOf];done)|(simp [intOf];omega)
    ·replace hst:=Lib.hid hst
     go_wp2_with ((first|((refine b3f (cs:=stagesL) (t:=84) (e:=82) (n:=7) rfl rfl rfl Tryz.underlying84 ⟨_,Tryz.underlying82,by simp,by simp⟩ (by kernel_rfl) ?_);(try simp only [zA,Nat.reduceAdd]))|(go_at_call 33;refine hst.out.mono ?_;rintro x wN ⟨⟨y1,rfl⟩,hX⟩)))
     go_roundw
     case rel=>exact ⟨2+1,by omega,by go_num,hX⟩
     case measure=>first|(simp [intOf];done)|(simp [intOf];omega)
    ·replace hst:=Lib.hid hst
     go_wp2_with ((first|((refine b3f (cs:=stagesL) (t:=84) (e:=82) (n:=7) rfl rfl rfl Tryz.underlying84 ⟨_,Tryz.underlying82,by simp,by simp⟩ (by kernel_rfl) ?_);(try simp only [zA,Nat.reduceAdd]))|(go_at_call 34;refine hst.out.mono ?_;rintro x wN ⟨⟨y1,rfl⟩,hX⟩)))
     go_roundw
     case rel=>exact ⟨3+1,by omega,by go_num,hX⟩
     case measure=>first|(simp [intOf];done)|(simp [intOf];omega)
    ·replace hst:=Lib.hid hst
     go_wp2_with ((first|((refine b3f (cs:=stagesL) (t:=84) (e:=82) (n:=7) rfl rfl rfl Tryz.underlying84 ⟨_,Tryz.underlying82,by simp,by simp⟩ (by kernel_rfl) ?_);(try simp only [zA,Nat.reduceAdd]))|(go_at_call 35;refine hst.out.mono ?_;rintro x wN ⟨⟨y1,rfl⟩,hX⟩)))
     go_roundw
     case rel=>exact ⟨4+1,by omega,by go_num,hX⟩
     case measure=>first|(simp [intOf];done)|(simp [intOf];omega)
    ·replace hst:=Lib.hid hst
     go_wp2_with ((first|((refine b3f (cs:=stagesL) (t:=84) (e:=82) (n:=7) rfl rfl rfl Tryz.underlying84 ⟨_,Tryz.underlying82,by simp,by simp⟩ (by kernel_rfl) ?_);(try simp only [zA,Nat.reduceAdd]))|(go_at_call 36;refine hst.out.mono ?_;rintro x wN ⟨⟨y1,rfl⟩,hX⟩)))
     go_roundw
     case rel=>exact ⟨5+1,by omega,by go_num,hX⟩
     case measure=>first|(simp [intOf];done)|(simp [intOf];omega)
    ·replace hst:=Lib.hid hst
     go_wp2_with ((first|((refine b3f (cs:=stagesL) (t:=84) (e:=82) (n:=7) rfl rfl rfl Tryz.underlying84 ⟨_,Tryz.underlying82,by simp,by simp⟩ (by kernel_rfl) ?_);(try simp only [zA,Nat.reduceAdd]))|(go_at_call 37;refine hst.out.mono ?_;rintro x wN ⟨⟨y1,rfl⟩,hX⟩)))
     go_roundw
     case rel=>exact ⟨6+1,by omega,by go_num,hX⟩
     case measure=>first|(simp [intOf];done)|(simp [intOf];omega)
   ·obtain rfl:j=7:=by omega
    obtain ⟨s7,hfit7,-,-,⟨hF⟩⟩:=hX
    go_wp2_with ((try simp only [zA,Nat.reduceAdd]);(first|refine f4s ?_|(refine f4t ?_;clear hF;intro wN hF)))
    ((try simp only [Exit.inBlock,Exit.then]);refine bodyPost_ret (a2x rfl hF) rfl ?_)
    have hF2:=hF.rowData (i:=1) rfl (sz:=17) (n:=(stageK k0 7).rob.length) (c:=s7.robC) (by rw [a4l]) (by decide) hfit7.robC hfit7.robM
    rw [hS]
    refine StepPost.mk s7 ⟨hfit7.data,hfit7.words,hfit7.feO,hfit7.stO,hfit7.reO⟩ rfl (hF2.out (fun d hd=>?_))
    rw [List.append_nil]
    exact hd
end
end Go.Proofs.YtgnomadgnciifaaGreatDoor
