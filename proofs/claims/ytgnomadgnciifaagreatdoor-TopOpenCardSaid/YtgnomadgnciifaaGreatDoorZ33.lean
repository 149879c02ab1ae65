/- . -/
import Derived.Test.YtgnomadgnciifaaGreatDoorZ32
set_option linter.unusedVariables false
set_option linter.unusedSimpArgs false
set_option linter.unusedSectionVars false
set_option maxRecDepth 100000
set_option maxHeartbeats 16000000
namespace Go.Proofs.YtgnomadgnciifaaGreatDoor
theorem c6e {p:Prop} (h:p:=by
 all_goals
  go_wp2_with ((try simp only [zA,Nat.reduceAdd]);(first|refine b7v ?_|(refine b5z ?_;clear hF;(first|intro gN wN hF|intro wN hF|intro hF))|(refine a1d ?_;clear hF;intro vN wN hF)))
  go_ret
  exact ⟨by rw [hR.out];rfl,⟨hF.drop 0⟩⟩):p:=h
section
open Go.RowKit Wd
def regsV (k:Kern) (s:Sls):Value:=.agg (((mcells k s).drop 13).take 32).toArray
theorem b7p {k:Kern} {s:Sls} (h:k.regs.length=32):regsV k s = .agg (u32v k.regs).toArray:=by unfold regsV;rw [h3r h]
theorem b5j {w0 w:World} {D0 D:List Da} {M:List Mu} {g:Nat} {k:Kern} {s:Sls} {B:Int} (hk:KOk B k) (hfit:Fit k s) (i:Nat) (e:En) (hu:k.rob[i]?=some e) (hS:MS w0 D0 D M g k s w) :
  Calls Tryz.prog 75 #[.pointer (some ⟨g,0,none⟩),.int .i64 (i:Int)] w fun x w'=>x = .returned (.bool (a5v k i))∧MS w0 D0 D M g k s w':=by
 obtain ⟨hF⟩:=hS
 have hin:i<k.rob.length:=(List.getElem?_eq_some_iff.1 hu).1
 have he:=hk.rob e (List.mem_of_getElem? hu)
 have hl17:(ens k.rob).length=k.rob.length * 17:=a4l _
 have hlen:0<(ens k.rob).length:=by omega
 have hn16:=hk.roblen
 have HM:=Lib.hid (fun (W:World) (h:Rd W W.heap.size 17 s.robA k.rob.length s.robC (ens k.rob))=>g7j k.conf.mode s.robA k.rob.length s.robC k.rob i e W h hk.rob (by omega) hu)
 have HRd:=Lib.hid (fun (W:World) (h:Rd W W.heap.size 17 s.robA k.rob.length s.robC (ens k.rob))=>show Calls Tryz.prog 45 #[.slice s.robA k.rob.length s.robC,regsV k s,.int .i64 (i:Int),.int .i64 e.inst.rs1] W _ from by rw [b7p hk.rlen];exact c1h s.robA k.rob.length s.robC k.rob k.regs i e.inst.rs1 W h hk.rob hk.rlen (by unfold okI;omega) he.rs1)
 have HBo:=Lib.hid (fun (W:World) (h:Rd W W.heap.size 17 s.robA k.rob.length s.robC (ens k.rob))=>show Calls Tryz.prog 16 #[.slice s.robA k.rob.length s.robC,regsV k s,.int .i64 (i:Int)] W _ from by rw [b7p hk.rlen];exact d4z s.robA k.rob.length s.robC k.rob k.regs i W h hk.rob hk.rlen hin)
 have HRs:=Lib.hid (fun W=>b7c e.inst W)
 have HK:=Lib.hid (fun W=>a2o e.inst W he.op)
 have hR:Hid (a5v k i=if e.is≠0 then false else if a1e e.inst.op=3 then e.known || ((a4c k.rob k.regs i e.inst.rs1).2 && a9l k.conf.mode k.rob i e) else if a1e e.inst.op=4 then !e.known && ((a4c k.rob k.regs i e.inst.rs1).2 && a9l k.conf.mode k.rob i e) else (a5g k.rob k.regs i).2.2 && a9l k.conf.mode k.rob i e):=Lib.hid (by unfold a5v;rw [hu])
 generalize a9l k.conf.mode k.rob i e=may at HM hR
 generalize a4c k.rob k.regs i e.inst.rs1=rd1 at HRd hR
 generalize a5g k.rob k.regs i=bo at HBo hR
 obtain ⟨r1,there⟩:=rd1
 obtain ⟨b1,b2,both⟩:=bo
 obtain ⟨no,pc,⟨op,rd,rs1,rs2,imm⟩,guess,is,left,value,next,addr,halt,took,known,filled⟩:=e
 unfold Ins.val at HRs HK
 dsimp only at HRs HK HRd HBo hR
 obtain ⟨κ,hκ⟩:∃ κ,a1e op=κ:=⟨_,rfl⟩
 rw [hκ] at HK hR
 clear hκ he
 unfold regsV at HRd HBo
 (simp only [kD,zL] at hF)
 by_cases h0:is=0
 ·subst h0
  simp only [ne_eq,not_true_eq_false,if_false] at hR
  go_enter Tryz.func75,Tryz.ntmps75
  go_upto_region 4 with ((try simp only [zA,Nat.reduceAdd]);(first|refine b7v ?_|(refine b5z ?_;clear hF;(first|intro gN wN hF|intro wN hF|intro hF))|(refine a1d ?_;clear hF;intro vN wN hF)))
  refine a1n (by kernel_rfl) hF _ _ (fun _ h=>h) (fun _ h=>h) ?_
  clear hF;intro hF hH
  refine a1c 0 hH ?_
  refine zp 1 hH ?_
  refine zk1 2 hH ?_
  refine zk1 3 hH ?_
  refine zk1 4 hH ?_
  refine zk6 5 hH ?_
  refine a1c 6 hH ?_
  refine zp 7 hH ?_
  refine zk1 8 hH ?_
  refine zk1 9 hH ?_
  refine zk6 10 hH ?_
  refine a1c 11 hH ?_
  refine zry 12 (fun K hK=>?_)
  go_wp2_with ((go_at_call 133;refine (HM.out _ (hF.rowRd (by exact zat) hl17 (by decide) hfit.robC hfit.robM)).mono ?_;rintro x wN ⟨rfl,hb⟩;replace hF:=hF.grow hb;clear hb))
  have hH:=zx0 hH hF;refine hK.out _ _ hH ?_;clear hK;(try simp only [zA,Nat.reduceAdd])
  refine a2a 13 hH ?_
  refine zrz ?_
  go_upto_region 6 with ((try simp only [zA,Nat.reduceAdd]);(first|refine b7v ?_|(refine b5z ?_;clear hF;(first|intro gN wN hF|intro wN hF|intro hF))|(refine a1d ?_;clear hF;intro vN wN hF)))
  refine a1n (by kernel_rfl) hF _ _ (fun _ h=>h) (fun _ h=>h) ?_
  clear hF;intro hF hH
  refine a1c 0 hH ?_
  refine zp 1 hH ?_
  refine zk1 2 hH ?_
  refine zk1 3 hH ?_
  refine zk6 4 hH ?_
  refine a1c 5 hH ?_
  refine zp 6 hH ?_
  refine zk1 7 hH ?_
  refine zk1 8 hH ?_
  refine zk6 9 hH ?_
  refine a1c 10 hH ?_
  refine a1c 11 hH ?_
  refine zry 12 (fun K hK=>?_)
  go_wp2_with ((go_at_call 45;refine (HRd.out _ (hF.rowRd (by exact zat) hl17 (by decide) hfit.robC hfit.robM)).mono ?_;rintro x wN ⟨rfl,hb⟩;replace hF:=hF.grow hb;clear hb))
  have hH:=zx0 hH hF;refine hK.out _ _ hH ?_;clear hK;(try simp only [zA,Nat.reduceAdd])
  refine a1c 13 hH ?_
  refine zp 14 hH ?_
  refine zp 15 hH ?_
  refine a2a 16 hH ?_
  refine a2a 17 hH ?_
  refine zrz ?_
  by_cases h3:κ=3
  ·subst h3
   simp only [if_true] at hR
   cases known <;> cases there <;> cases may
   all_goals exact c6e
  ·rw [if_neg h3] at hR
   have b3:(κ == 3)=false:=by simpa using h3
   by_cases h4:κ=4
   ·subst h4
    simp only [if_true] at hR
    cases known <;> cases there <;> cases may
    all_goals exact c6e
   ·rw [if_neg h4] at hR
    have b4:(κ == 4)=false:=by simpa using h4
    go_upto_region 12 with ((try simp only [zA,Nat.reduceAdd]);(first|refine b7v ?_|(refine b5z ?_;clear hF;(first|intro gN wN hF|intro wN hF|intro hF))|(refine a1d ?_;clear hF;intro vN wN hF)))
    refine a1n (by kernel_rfl) hF _ _ (fun _ h=>h) (fun _ h=>h) ?_
    clear hF;intro hF hH
    refine a1c 0 hH ?_
    refine zp 1 hH ?_
    refine zk1 2 hH ?_
    refine zk1 3 hH ?_
    refine zk6 4 hH ?_
    refine a1c 5 hH ?_
    refine zp 6 hH ?_
    refine zk1 7 hH ?_
    refine zk1 8 hH ?_
    refine zk6 9 hH ?_
    refine a1c 10 hH ?_
    refine zry 11 (fun K hK=>?_)
    go_wp2_with ((go_at_call 16;refine (HBo.out _ (hF.rowRd (by exact zat) hl17 (by decide) hfit.robC hfit.robM)).mono ?_;rintro x wN ⟨rfl,hb⟩;replace hF:=hF.grow hb;clear hb))
    have hH:=zx0 hH hF;refine hK.out _ _ hH ?_;clear hK;(try simp only [zA,Nat.reduceAdd])
    refine a1c 12 hH ?_
    refine zp 13 hH ?_
    refine zp 14 hH ?_
    refine zp 15 hH ?_
    refine a2a 16 hH ?_
    refine a2a 17 hH ?_
    refine a2a 18 hH ?_
    refine zrz ?_
    cases both <;> cases may
    all_goals exact c6e
 ·have b0:(is != 0)=true:=by simpa using h0
  rw [if_pos h0] at hR
  go_enter Tryz.func75,Tryz.ntmps75
  go_wp2_with ((try simp only [zA,Nat.reduceAdd]);(first|refine f3y ?_|(refine b5z ?_;clear hF;(first|intro gN wN hF|intro wN hF|intro hF))|(refine a1d ?_;clear hF;intro vN wN hF)))
  go_ret
  exact ⟨by rw [hR.out];rfl,⟨hF.drop 0⟩⟩
end
end Go.Proofs.YtgnomadgnciifaaGreatDoor
