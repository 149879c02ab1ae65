/- . -/
import Derived.Test.YtgnomadgnciifaaGreatDoorZ10
set_option linter.unusedVariables false
set_option linter.unusedSimpArgs false
set_option linter.unusedSectionVars false
set_option maxRecDepth 100000
set_option maxHeartbeats 16000000
namespace Go.Proofs.YtgnomadgnciifaaGreatDoor
theorem b2i {p:Prop} (h:p:=by
 (go_wp2_with ((try refine zs ?_);(first|refine a8j ?_|(refine f3f ?_;clear hF;(first|intro gN wN hF|intro wN hF|intro hF))|(go_at_call 56;refine (HR.out _).mono ?_;rintro x wN ⟨rfl,hd⟩;replace hF:=hF.grow (Bel.ofDrew hd);clear hd)|(refine a1d ?_;clear hF;intro vN wN hF))))
 ((try simp only [Exit.inBlock,Exit.then]);refine bodyPost_ret (a2x rfl hF) rfl ?_)
 exact ⟨rfl,hF.bel⟩):p:=h
theorem b7l {p:Prop} (h:p:=by
 go_enter Tryz.func121,Tryz.ntmps121
 (go_wp2_with ((first|(refine b7t ?_;clear hF;intro wN hF)|(go_at_call 169;refine (HJ.out _).mono ?_;rintro x wN ⟨rfl,hd⟩;replace hF:=hF.grow (Bel.ofDrew hd);clear hd)|(go_at_call 170;refine (a9b _ _ _ (by assumption) (by omega)).mono ?_;rintro x wN ⟨rfl,hd⟩;replace hF:=hF.grow (Bel.ofDrew hd);clear hd)|((refine w_ldp (v:=.agg #[.int .i64 op,.int .i64 rd,.int .i64 rs1,.int .i64 rs2,.int .u32 (imm:Int)]) (n:=5) rfl hF rfl ?_ (hn:=Nat.le_of_ble_eq_true rfl));(try refine zs ?_))|((first|refine zrg ?_|(refine zst ?_;clear hF;(first|intro gN wN hF|intro wN hF|intro hF))|(refine zap ?_;clear hF;intro vN wN hF));refine zs ?_))))
 go_ret
 exact ⟨rfl,hF.bel⟩):p:=h
theorem d6p {p:Prop} (h:p:=by
 rw [if_neg (by simp)]
 by_cases hw0:ws=0
 ·subst hw0
  unfold En.val
  go_enter Tryz.func64,Tryz.ntmps64
  exact b2i
 ·rw [if_pos hw0]
  unfold En.val
  go_enter Tryz.func64,Tryz.ntmps64
  exact b2i):p:=h
section
open Go.RowKit Wd
theorem h1x {op:Int} {b:ByteArray}:a7o op b<4294967296:=by
 unfold a7o
 split
 ·omega
 ·rename_i h
  have hz:=c1o op
  have hj:a3s (bl b)<4294967296:=b8k (by rw [a9z];omega)
  split
  ·exact c3b _ hj
  split
  ·exact c3b _ hj
  ·exact hj
theorem h1y (op:Int) (b:ByteArray) (w:World) (hi:okI op) (hs:b.size≤maxLen) :
  Calls Tryz.prog 121 #[.int .i64 op,.string b] w fun x w'=>x = .returned (.int .u32 (a7o op b:Int))∧Bel w w':=by
 have hF:=St.start w [] (fun d hd=>by cases hd)
 have HK:=Lib.hid (fun W=>a2o ⟨op,0,0,0,0⟩ W hi)
 have HZ:=Lib.hid (fun W=>a7s ⟨op,0,0,0,0⟩ W)
 unfold Ins.val at HK HZ
 dsimp only at HK HZ
 have hzb:=c1o op
 by_cases h3:a1e op=3
 ·rw [h3] at HK
  by_cases hz:(b.size:Int)=a2p op
  ·have hz4:b.size≤4:=by omega
   have HJ:=Lib.hid (fun W=>d1q b W hz4)
   have hL:a7o op b=if op=11 then a6k (a3s b.data.toList) 8 else if op=12 then a6k (a3s b.data.toList) 16 else a3s b.data.toList:=by
    unfold a7o;rw [if_neg (by simp [h3,hz])];rfl
   have hj:a3s b.data.toList<4294967296:=b8k (by simpa using hz4)
   rw [← hz] at HZ
   generalize a3s b.data.toList=j at *
   clear h3 hz
   by_cases o1:op=11
   ·rw [hL,if_pos o1]
    subst o1
    clear hL
    exact b7l
   by_cases o2:op=12
   ·rw [hL,if_neg o1,if_pos o2]
    subst o2
    clear hL o1
    exact b7l
   ·rw [hL,if_neg o1,if_neg o2]
    have b1:(op == 11)=false:=by simpa using o1
    have b2:(op == 12)=false:=by simpa using o2
    clear hL o1 o2
    exact b7l
  ·rw [show a7o op b=0 from by unfold a7o;rw [if_pos (.inr hz)]]
   generalize a2p op=sz at *
   clear h3
   exact b7l
 ·rw [show a7o op b=0 from by unfold a7o;rw [if_pos (.inl h3)]]
  generalize a1e op=κ at *
  exact b7l
theorem h1z (x s:Nat):(⟨(bytesL x s).toArray⟩:ByteArray).size=s:=by simp [ByteArray.size,b3z]
theorem h2a (x:Nat) (s:Int) (w:World) (hx:x<4294967296) (hs:0≤s∧s≤4) :
  Calls Tryz.prog 128 #[.int .u32 (x:Int),.int .i64 s] w fun e w'=>e = .returned (.int .u32 (b4t x s:Int))∧Bel w w':=by
 have hF:=St.start w [] (fun d hd=>by cases hd)
 obtain ⟨n,rfl⟩:=Int.eq_ofNat_of_zero_le hs.1
 have hn:n≤4:=by omega
 have HB:=Lib.hid (fun W=>Bytes_any x n W hx hn)
 have HJ:=Lib.hid (fun W=>d1q ⟨(bytesL x n).toArray⟩ W (by rw [h1z];exact hn))
 go_enter Tryz.func128,Tryz.ntmps128
 go_wp2_with ((first|(refine f3e ?_;clear hF;intro wN hF)|(go_at_call 169;refine (HJ.out _).mono ?_;rintro x wN ⟨rfl,hd⟩;replace hF:=hF.grow (Bel.ofDrew hd);clear hd)|((first|refine zrg ?_|(refine zst ?_;clear hF;(first|intro gN wN hF|intro wN hF|intro hF))|(refine zap ?_;clear hF;intro vN wN hF));refine zs ?_)))
 go_ret
 exact ⟨a2m (by simp [b4t]),hF.bel⟩
theorem h2b (x:Nat) {s:Int} (hs:0≤s∧s≤4):b4t x s<4294967296:=b8k (by rw [b3z];omega)
theorem c5j (e:En) (b:ByteArray) (w:World) (hi:okI e.inst.op) (hs:b.size≤maxLen) :
  Calls Tryz.prog 64 #[e.val,.string b] w fun x w'=>x = .returned (a5m e b).val∧Bel w w':=by
 have hF:=St.start w [] (fun d hd=>by cases hd)
 obtain ⟨no,pc,⟨op,rd,rs1,rs2,imm⟩,guess,is,left,value,next,addr,halt,took,known,filled⟩:=e
 have HK:=Lib.hid (fun W=>a2o ⟨op,rd,rs1,rs2,imm⟩ W hi)
 have HW:=Lib.hid (fun W=>a7c ⟨op,rd,rs1,rs2,imm⟩ W)
 have HL:=Lib.hid (fun W=>h1y op b W hi hs)
 have hT:a5m ⟨no,pc,⟨op,rd,rs1,rs2,imm⟩,guess,is,left,value,next,addr,halt,took,known,filled⟩ b=if a1e op≠3∨known=false∨(is≠0∧is≠2) then ⟨no,pc,⟨op,rd,rs1,rs2,imm⟩,guess,is,left,value,next,addr,halt,took,known,filled⟩
  else ⟨no,pc,⟨op,rd,rs1,rs2,imm⟩,guess,1,1,if a2b ⟨op,rd,rs1,rs2,imm⟩≠0 then a7o op b else 0,next,addr,halt,took,known,filled⟩:=rfl
 rw [hT]
 clear hT
 dsimp only at HK
 generalize a1e op=κ at *
 generalize a2b ⟨op,rd,rs1,rs2,imm⟩=ws at *
 generalize a7o op b=lv at *
 unfold Ins.val at *
 by_cases h3:κ=3
 ·subst h3
  cases known
  ·rw [if_pos (by simp)]
   unfold En.val
   go_enter Tryz.func64,Tryz.ntmps64
   exact b2i
  ·by_cases h0:is=0
   ·subst h0
    exact d6p
   by_cases h2:is=2
   ·subst h2
    exact d6p
   ·rw [if_pos (by simp [h0,h2])]
    unfold En.val
    have hn0:(is != 0)=true:=by simpa using h0
    have hn2:(is != 2)=true:=by simpa using h2
    replace hn0:=Lib.hid hn0
    replace hn2:=Lib.hid hn2
    go_enter Tryz.func64,Tryz.ntmps64
    go_upto_region 1 with (((first|refine zrg ?_|(refine zst ?_;clear hF;(first|intro gN wN hF|intro wN hF|intro hF))|(refine zap ?_;clear hF;intro vN wN hF));refine zs ?_))
    go_wp2_with ((try simp only [hn0.out,hn2.out]);(try refine zs ?_);(first|((refine g_skip rfl rfl rfl ?_);refine zs ?_)|(go_at_call 39;refine zcg hF (HK.out _) ?_;clear hF;intro wN hF)|((refine w_ldp (v:=.agg #[.int .i64 op,.int .i64 rd,.int .i64 rs1,.int .i64 rs2,.int .u32 (imm:Int)]) (n:=5) rfl hF rfl ?_ (hn:=Nat.le_of_ble_eq_true rfl));(try refine zs ?_))|((first|refine zrg ?_|(refine zst ?_;clear hF;(first|intro gN wN hF|intro wN hF|intro hF))|(refine zap ?_;clear hF;intro vN wN hF));refine zs ?_)))
    ((try simp only [Exit.inBlock,Exit.then]);refine bodyPost_ret (a2x rfl hF) rfl ?_)
    exact ⟨rfl,hF.bel⟩
 ·rw [if_pos (.inl h3)]
  unfold En.val
  go_enter Tryz.func64,Tryz.ntmps64
  exact b2i
theorem h2c (e:En) (b:Nat) (w:World) (hi:okI e.inst.op) (hb:b<4294967296) :
  Calls Tryz.prog 70 #[e.val,.int .u32 (b:Int)] w fun x w'=>x = .returned (a8q e b).val∧Bel w w':=by
 have hF:=St.start w [] (fun d hd=>by cases hd)
 obtain ⟨no,pc,⟨op,rd,rs1,rs2,imm⟩,guess,is,left,value,next,addr,halt,took,known,filled⟩:=e
 have HK:=Lib.hid (fun W=>a2o ⟨op,rd,rs1,rs2,imm⟩ W hi)
 have HZ:=Lib.hid (fun W=>a7s ⟨op,rd,rs1,rs2,imm⟩ W)
 have HO:=Lib.hid (fun W=>h2a b (a2p op) W hb (c1o op))
 have hT:a8q ⟨no,pc,⟨op,rd,rs1,rs2,imm⟩,guess,is,left,value,next,addr,halt,took,known,filled⟩ b=if a1e op≠4∨known=false∨is≠0 then ⟨no,pc,⟨op,rd,rs1,rs2,imm⟩,guess,is,left,value,next,addr,halt,took,known,filled⟩
  else ⟨no,pc,⟨op,rd,rs1,rs2,imm⟩,guess,3,left,b4t b (a2p op),next,addr,halt,took,known,filled⟩:=rfl
 rw [hT]
 clear hT
 dsimp only at HK HZ
 generalize a1e op=κ at *
 generalize a2p op=sz at *
 generalize b4t b sz=lv at *
 unfold Ins.val at *
 by_cases h3:κ=4
 ·subst h3
  cases known
  ·rw [if_pos (by simp)]
   unfold En.val
   go_enter Tryz.func70,Tryz.ntmps70
   exact b2i
  ·by_cases h0:is=0
   ·subst h0
    rw [if_neg (by simp)]
    unfold En.val
    go_enter Tryz.func70,Tryz.ntmps70
    exact b2i
   ·rw [if_pos (.inr (.inr h0))]
    unfold En.val
    go_enter Tryz.func70,Tryz.ntmps70
    exact b2i
 ·rw [if_pos (.inl h3)]
  unfold En.val
  go_enter Tryz.func70,Tryz.ntmps70
  exact b2i
end
end Go.Proofs.YtgnomadgnciifaaGreatDoor
