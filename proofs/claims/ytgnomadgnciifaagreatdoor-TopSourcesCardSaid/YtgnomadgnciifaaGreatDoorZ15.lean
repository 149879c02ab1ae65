/- Joined: VBr. -/
import Derived.Test.YtgnomadgnciifaaGreatDoorZH0
import Derived.Test.YtgnomadgnciifaaGreatDoorZ8
import Derived.Test.YtgnomadgnciifaaGreatDoorZ5
import Derived.Test.YtgnomadgnciifaaGreatDoorZ10
import Derived.Test.YtgnomadgnciifaaGreatDoorZ3
set_option linter.unusedVariables false
set_option linter.unusedSimpArgs false
set_option linter.unusedSectionVars false
set_option maxRecDepth 100000
set_option maxHeartbeats 16000000
namespace Go.Proofs.YtgnomadgnciifaaGreatDoor
theorem z15x0 {p:Prop} (h:p:=by
 have hH:=hH.nextA hF;refine hK.out _ _ hH ?_;clear hK;(try simp only [zA,Nat.reduceAdd])
 refine zry 7 (fun K hK=>?_)
 go_wp2_with ((first|(go_at_call 173;refine (vBelow_any _ _ _ _ _ _ hF.rdA hm hqn hq).mono ?_;rintro e wN ⟨rfl,hb⟩;replace hF:=hF.grow hb;clear hb)|(go_at_call 172;refine (vCut_any _ _ _ (by rw [ovS_size];exact hm) hx2).mono ?_;rw [hcut.out];rintro e wN ⟨rfl,hb⟩;replace hF:=hF.grow hb;clear hb)|(go_at_call 66;refine (Put_all hx2 hso hP.out _ hF.rds).mono ?_;rintro e wN ⟨_,rfl,A2,n2,c2,S2,rfl,hO,hC2⟩;replace hF:=hF.callA hO;clear hO)))
 have hH:=hH.nextA hF;refine hK.out _ _ hH ?_;clear hK;(try simp only [zA,Nat.reduceAdd])
 refine zk18 8 hH ?_
 refine zp 9 hH ?_
 refine zp 10 hH ?_
 refine zp 11 hH ?_
 refine zry 13 (fun K hK=>?_)
 go_wp2_with (refine zwr ?_;clear hF;intro wN hF;(try simp only [zA,Nat.reduceAdd]))
 have hH:=hH.nextA hF;refine hK.out _ _ hH ?_;clear hK;(try simp only [zA,Nat.reduceAdd])
 refine zry 14 (fun K hK=>?_)
 go_wp2_with (refine zwr ?_;clear hF;intro wN hF;(try simp only [zA,Nat.reduceAdd]))
 have hH:=hH.nextA hF;refine hK.out _ _ hH ?_;clear hK;(try simp only [zA,Nat.reduceAdd])
 refine zk19 15 hH ?_
 refine zrz ?_
 (go_wp2;go_meet;exact ⟨_,A2,n2,c2,S2,rfl,rfl,Lib.hid hC2,hF.lessA _⟩)):p:=h
theorem z15x1 {p:Prop} (h:p:=by
 have hH:=hH.nextA hF;refine hK.out _ _ hH ?_;clear hK;(try simp only [zA,Nat.reduceAdd])
 refine wpAnyH_ready (rs:=[7,12]) (by kernel_rfl) (by simp) (ready_cons rfl (fun K hK=>?_) (ready_cons rfl (fun K hK=>?_) AllReadyH.nil))
 ·go_wp2_with ((first|(go_at_call 173;refine (vBelow_any _ _ _ _ _ _ hF.rdA hm hqn hq).mono ?_;rintro e wN ⟨rfl,hb⟩;replace hF:=hF.grow hb;clear hb)|(go_at_call 172;refine (vCut_any _ _ _ (by rw [ovS_size];exact hm) hx2).mono ?_;rw [hcut.out];rintro e wN ⟨rfl,hb⟩;replace hF:=hF.grow hb;clear hb)|(go_at_call 66;refine (Put_all hx2 hso hP.out _ hF.rds).mono ?_;rintro e wN ⟨_,rfl,A2,n2,c2,S2,rfl,hO,hC2⟩;replace hF:=hF.callA hO;clear hO)))
  have hH:=hH.nextA hF;refine hK.out _ _ hH ?_;clear hK;(try simp only [zA,Nat.reduceAdd])
  refine zk18 8 hH ?_
  refine zp 9 hH ?_
  refine zp 10 hH ?_
  refine zp 11 hH ?_
  refine zry 12 (fun K hK=>?_)
  go_wp2_with ((refine w_alloc rfl hF ?_;clear hF;intro gN wN hF);(try simp only [zA,Nat.reduceAdd]))
  have hH:=hH.nextA hF;refine hK.out _ _ hH ?_;clear hK;(try simp only [zA,Nat.reduceAdd])
  refine zry 13 (fun K hK=>?_)
  go_wp2_with (refine zwr ?_;clear hF;intro wN hF;(try simp only [zA,Nat.reduceAdd]))
  have hH:=hH.nextA hF;refine hK.out _ _ hH ?_;clear hK;(try simp only [zA,Nat.reduceAdd])
  refine zry 14 (fun K hK=>?_)
  go_wp2_with (refine zwr ?_;clear hF;intro wN hF;(try simp only [zA,Nat.reduceAdd]))
  have hH:=hH.nextA hF;refine hK.out _ _ hH ?_;clear hK;(try simp only [zA,Nat.reduceAdd])
  refine zk19 15 hH ?_
  refine zrz ?_
  (go_wp2;go_meet;exact ⟨_,A2,n2,c2,S2,rfl,rfl,Lib.hid hC2,hF.lessA _⟩)
 ·go_wp2_with ((refine w_alloc rfl hF ?_;clear hF;intro gN wN hF);(try simp only [zA,Nat.reduceAdd]))
  exact z15x0):p:=h
theorem z15x2 {p:Prop} (h:p:=by
 have hH:=hH.nextA hF;refine hK.out _ _ hH ?_;clear hK;(try simp only [zA,Nat.reduceAdd])
 refine zry 6 (fun K hK=>?_)
 go_wp2_with ((first|(go_at_call 173;refine (vBelow_any _ _ _ _ _ _ hF.rdA hm hqn hq).mono ?_;rintro e wN ⟨rfl,hb⟩;replace hF:=hF.grow hb;clear hb)|(go_at_call 172;refine (vCut_any _ _ _ (by rw [ovS_size];exact hm) hx2).mono ?_;rw [hcut.out];rintro e wN ⟨rfl,hb⟩;replace hF:=hF.grow hb;clear hb)|(go_at_call 66;refine (Put_all hx2 hso hP.out _ hF.rds).mono ?_;rintro e wN ⟨_,rfl,A2,n2,c2,S2,rfl,hO,hC2⟩;replace hF:=hF.callA hO;clear hO)))
 exact z15x0):p:=h
theorem z15x3 {p:Prop} (h:p:=by
 have hH:=hH.nextA hF;refine hK.out _ _ hH ?_;clear hK;(try simp only [zA,Nat.reduceAdd])
 refine wpAnyH_ready (rs:=[0,6]) (by kernel_rfl) (by simp) (ready_cons rfl (fun K hK=>?_) (ready_cons rfl (fun K hK=>?_) AllReadyH.nil))
 ·go_wp2_with (refine zrl ?_;(try simp only [zA,Nat.reduceAdd]))
  exact z15x2
 ·go_wp2_with ((first|(go_at_call 173;refine (vBelow_any _ _ _ _ _ _ hF.rdA hm hqn hq).mono ?_;rintro e wN ⟨rfl,hb⟩;replace hF:=hF.grow hb;clear hb)|(go_at_call 172;refine (vCut_any _ _ _ (by rw [ovS_size];exact hm) hx2).mono ?_;rw [hcut.out];rintro e wN ⟨rfl,hb⟩;replace hF:=hF.grow hb;clear hb)|(go_at_call 66;refine (Put_all hx2 hso hP.out _ hF.rds).mono ?_;rintro e wN ⟨_,rfl,A2,n2,c2,S2,rfl,hO,hC2⟩;replace hF:=hF.callA hO;clear hO)))
  have hH:=hH.nextA hF;refine hK.out _ _ hH ?_;clear hK;(try simp only [zA,Nat.reduceAdd])
  refine zry 0 (fun K hK=>?_)
  go_wp2_with (refine zrl ?_;(try simp only [zA,Nat.reduceAdd]))
  exact z15x0):p:=h
theorem z15x4 {p:Prop} (h:p:=by
 have hH:=hH.nextA hF;refine hK.out _ _ hH ?_;clear hK;(try simp only [zA,Nat.reduceAdd])
 refine wpAnyH_ready (rs:=[6,12]) (by kernel_rfl) (by simp) (ready_cons rfl (fun K hK=>?_) (ready_cons rfl (fun K hK=>?_) AllReadyH.nil))
 ·go_wp2_with ((first|(go_at_call 173;refine (vBelow_any _ _ _ _ _ _ hF.rdA hm hqn hq).mono ?_;rintro e wN ⟨rfl,hb⟩;replace hF:=hF.grow hb;clear hb)|(go_at_call 172;refine (vCut_any _ _ _ (by rw [ovS_size];exact hm) hx2).mono ?_;rw [hcut.out];rintro e wN ⟨rfl,hb⟩;replace hF:=hF.grow hb;clear hb)|(go_at_call 66;refine (Put_all hx2 hso hP.out _ hF.rds).mono ?_;rintro e wN ⟨_,rfl,A2,n2,c2,S2,rfl,hO,hC2⟩;replace hF:=hF.callA hO;clear hO)))
  exact z15x1
 ·go_wp2_with ((refine w_alloc rfl hF ?_;clear hF;intro gN wN hF);(try simp only [zA,Nat.reduceAdd]))
  exact z15x2):p:=h
theorem z15x5 {p:Prop} (h:p:=by
 (go_wp2_with (((first|refine zrd ?_|(refine zst ?_;clear hF;(first|intro gN wN hF|intro wN hF|intro hF))|(refine zap ?_;clear hF;intro vN wN hF));(try simp only [zA,Nat.reduceAdd])));((try simp only [Exit.inBlock,Exit.then]);refine bodyPost_ret (w_rescss rfl hF) rfl ?_);exact ⟨_,_,rfl,A2,n2,c2,S2,Aq,cq,rfl,by rw [hql];rfl,by rw [hql];exact hF.outA,hC2.out⟩)):p:=h
theorem z15x6 {p:Prop} (h:p:=by
 have hH:=hH.nextA hF;refine hK.out _ _ hH ?_;clear hK;(try simp only [zA,Nat.reduceAdd])
 refine zry 4 (fun K hK=>?_)
 go_wp2_with ((first|(go_at_call 173;refine (vBelow_any _ _ _ _ _ _ hF.rdA hm hqn hq).mono ?_;rintro e wN ⟨rfl,hb⟩;replace hF:=hF.grow hb;clear hb)|(go_at_call 172;refine (vCut_any _ _ _ (by rw [ovS_size];exact hm) hx2).mono ?_;rw [hcut.out];rintro e wN ⟨rfl,hb⟩;replace hF:=hF.grow hb;clear hb)|(go_at_call 66;refine (Put_all hx2 hso hP.out _ hF.rds).mono ?_;rintro e wN ⟨_,rfl,A2,n2,c2,S2,rfl,hO,hC2⟩;replace hF:=hF.callA hO;clear hO)))
 exact z15x2):p:=h
section
open Go.RowKit Go.Sort
def BRes (w:World) (D0:List Da) (ways:Int) (v1 v2:Value) (w':World) (C:List (List Wy)) (q:List Rq):Prop :=
 ∃ A n c S A2 c2,v1 = .agg #[.int .i64 ways,.slice A n c]∧v2 = .slice A2 q.length c2∧Out w D0 w' [rowD 1 A n c (csv S),elemsD S,rowD 4 A2 q.length c2 (rqs q)]∧cont S=C
def cqD (A:Option Addr) (n c:Nat) (S:List Cs) (Aq:Option Addr) (nq cq:Nat) (q:List Rq):List Da:=[rowD 1 A n c (csv S),elemsD S,rowD 4 Aq nq cq (rqs q)]
theorem cqD_ok {w:World} {A:Option Addr} {n c:Nat} {S:List Cs} {Aq:Option Addr} {nq cq:Nat} {q:List Rq} (hr:RdS w w.heap.size A n c S) (hrq:Rd w w.heap.size 4 Aq nq cq (rqs q)):∀ d∈cqD A n c S Aq nq cq q,d.ok w:=fun d hd=>by
 rcases List.mem_cons.1 hd with rfl|hd
 ·exact hr.rd
 ·rcases List.mem_cons.1 hd with rfl|hd
  ·exact hr.sets
  ·obtain rfl:=List.mem_singleton.1 hd;exact hrq
theorem bring_cut {m:ByteArray} {q:List Rq} {x:Nat} {D:ByteArray} (h:bl D=cutL (belowL q (bl m)) x):cutS (ovS m (writesL q)) (x - x % 16)=D:=by
 rw [cutS_line]
 apply bl_ext
 rw [bl_cutS,bl_ovS,h]
 rfl
theorem Bring_all {ways:Int} {A:Option Addr} {n c:Nat} {S:List Cs} {Aq:Option Addr} {nq cq:Nat} {q:List Rq} {m:ByteArray} {x:Nat} {left:Int} {C':List (List Wy)} {q':List Rq} {b:Bool}
  (hx:x<4294967296) (hso:SOk S) (hm:m.size≤maxLen) (hqn:nq≤1000000) (hq:∀ r∈q,r.line<4294967296) (hl : -9223372036854775808≤left∧left≤9223372036854775807) (h:BringR ways (cont S) q (bl m) x left C' q' b)
  (w:World) (hr:RdS w w.heap.size A n c S) (hrq:Rd w w.heap.size 4 Aq nq cq (rqs q)) :
  Calls Tryz.prog 126 #[.agg #[.int .i64 ways,.slice A n c],.slice Aq nq cq,.string m,.int .u32 (x:Int),.int .i64 left] w fun e w'=>∃ y z,e = .returned (.tuple #[y,z,.bool b])∧BRes w (cqD A n c S Aq nq cq q) ways y z w' C' q':=by
 have hF:=St.start w _ (cqD_ok hr hrq)
 unfold cqD at hF
 have hql:=hrq.rqslen
 have HL:=Lib.hid (fun W=>LineOf_any x W hx)
 have hc1:=hr.rd.le
 have hc2:=hr.rd.mx
 unfold maxLen at hc2
 cases h with
 | no h he hq hb=>
  subst he hq hb
  have HR:=Lib.hid (Right_all (ways:=ways) (A:=A) (n:=n) (c:=c) hso (noR h))
  go_enter Tryz.func126,Tryz.ntmps126
  go_wp2_with ((first|(refine zg39 ?_;clear hF;intro wN hF)|((first|refine zrd ?_|(refine zst ?_;clear hF;(first|intro gN wN hF|intro wN hF|intro hF))|(refine zap ?_;clear hF;intro vN wN hF));(try simp only [zA,Nat.reduceAdd]))))
  ((try simp only [Exit.inBlock,Exit.then]);refine bodyPost_ret (w_rescss rfl hF) rfl ?_)
  exact ⟨_,_,rfl,A,n,c,S,Aq,cq,rfl,by rw [hql];rfl,by rw [hql];exact hF.outA,rfl⟩
 | hit k i h hT hq hb=>
  subst hq hb
  have HR:=Lib.hid (Right_all (ways:=ways) (A:=A) (n:=n) (c:=c) hso (yesR h.at_.1))
  have HFi:=Lib.hid (Find_all (ways:=ways) (A:=A) (n:=n) (c:=c) (show x - x % 16<4294967296 by omega) hso h.line)
  replace hT:=Lib.hid hT.line
  obtain ⟨lo,hlo⟩:∃ lo,x - x % 16=lo:=⟨_,rfl⟩
  have hx2:lo<4294967296:=by omega
  rw [hlo] at HL HFi hT
  clear hlo h
  go_enter Tryz.func126,Tryz.ntmps126
  go_wp2_with ((first|(refine zg40 ?_;clear hF;intro wN hF)|(go_at_call 63;refine (HL.out _).mono ?_;rintro e wN ⟨rfl,d,rfl⟩;replace hF:=hF.grow (Bel.drewN _ d))|(go_at_call 84;refine (Touch_all hx2 hso hT.out _ hF.rds).mono ?_;rintro e wN ⟨_,rfl,A2,n2,c2,S2,rfl,hO,hC2⟩;replace hF:=hF.callA hO;clear hO)|((first|refine zrd ?_|(refine zst ?_;clear hF;(first|intro gN wN hF|intro wN hF|intro hF))|(refine zap ?_;clear hF;intro vN wN hF));(try simp only [zA,Nat.reduceAdd]))))
  ((try simp only [Exit.inBlock,Exit.then]);refine bodyPost_ret (w_rescss rfl hF) rfl ?_)
  exact ⟨_,_,rfl,A2,n2,c2,S2,Aq,cq,rfl,by rw [hql];rfl,by rw [hql];exact hF.outA,hC2⟩
 | put k i hR h D hD gone went hp hb hq'=>
  have HR:=Lib.hid (Right_all (ways:=ways) (A:=A) (n:=n) (c:=c) hso (yesR hR))
  have HFi:=Lib.hid (Find_all (ways:=ways) (A:=A) (n:=n) (c:=c) (show x - x % 16<4294967296 by omega) hso h.line)
  have hP:=Lib.hid hp.lineB
  have hcut:=Lib.hid (bring_cut hD)
  obtain ⟨lo,hlo⟩:∃ lo,x - x % 16=lo:=⟨_,rfl⟩
  have hx2:lo<4294967296:=by omega
  rw [hlo] at HL HFi hP hcut
  clear hlo h hR hD hp
  obtain ⟨gl,gd,gb⟩:=gone
  replace hq':=Lib.hid hq'
  replace hb:=Lib.hid hb
  go_enter Tryz.func126,Tryz.ntmps126
  go_upto_region 7 with ((first|(refine zg40 ?_;clear hF;intro wN hF)|(go_at_call 63;refine (HL.out _).mono ?_;rintro e wN ⟨rfl,d,rfl⟩;replace hF:=hF.grow (Bel.drewN _ d))|((first|refine zrd ?_|(refine zst ?_;clear hF;(first|intro gN wN hF|intro wN hF|intro hF))|(refine zap ?_;clear hF;intro vN wN hF));(try simp only [zA,Nat.reduceAdd]))))
  rename_i K hK
  obtain ⟨gR,gC,rfl,rfl⟩:=hF.names2
  go_cut [16,17] (fun p s wx=>∃ gG A2 n2 c2 S2,p = .pointer (some ⟨gG,0,none⟩)∧s = .bool went∧Hid (cont S2=C')∧St w [rowD 1 A n c (csv S),elemsD S,rowD 4 Aq nq cq (rqs q)] wx [.blk gG 101 [.int .u32 (gl:Int),.bool gd,.string gb],.blk gR 35 [.int .i64 0,.slice none 0 0],.blk gC 35 [.int .i64 ways,.slice A2 n2 c2]] [rowD 1 A2 n2 c2 (csv S2),elemsD S2,rowD 4 Aq nq cq (rqs q)])
  case first=>
   refine wp_region_st (by kernel_rfl) hF [] _ (by ((repeat (first|exact subn_nil|refine subn_cons zdm ?_)) <;> exact subn_nil)) (fun _ h=>h) ?_
   clear hF;intro hF hH
   refine zk18 1 hH ?_
   refine zk18 2 hH ?_
   refine zk18 3 hH ?_
   refine zk18 5 hH ?_
   refine wpAnyH_ready (rs:=[0,4,12]) (by kernel_rfl) (by simp) (ready_cons rfl (fun K hK=>?_) (ready_cons rfl (fun K hK=>?_) (ready_cons rfl (fun K hK=>?_) AllReadyH.nil)))
   ·go_wp2_with (refine zrl ?_;(try simp only [zA,Nat.reduceAdd]))
    have hH:=hH.nextA hF;refine hK.out _ _ hH ?_;clear hK;(try simp only [zA,Nat.reduceAdd])
    refine wpAnyH_ready (rs:=[4,12]) (by kernel_rfl) (by simp) (ready_cons rfl (fun K hK=>?_) (ready_cons rfl (fun K hK=>?_) AllReadyH.nil))
    ·go_wp2_with ((first|(go_at_call 173;refine (vBelow_any _ _ _ _ _ _ hF.rdA hm hqn hq).mono ?_;rintro e wN ⟨rfl,hb⟩;replace hF:=hF.grow hb;clear hb)|(go_at_call 172;refine (vCut_any _ _ _ (by rw [ovS_size];exact hm) hx2).mono ?_;rw [hcut.out];rintro e wN ⟨rfl,hb⟩;replace hF:=hF.grow hb;clear hb)|(go_at_call 66;refine (Put_all hx2 hso hP.out _ hF.rds).mono ?_;rintro e wN ⟨_,rfl,A2,n2,c2,S2,rfl,hO,hC2⟩;replace hF:=hF.callA hO;clear hO)))
     exact z15x4
    ·go_wp2_with ((refine w_alloc rfl hF ?_;clear hF;intro gN wN hF);(try simp only [zA,Nat.reduceAdd]))
     exact z15x6
   ·go_wp2_with ((first|(go_at_call 173;refine (vBelow_any _ _ _ _ _ _ hF.rdA hm hqn hq).mono ?_;rintro e wN ⟨rfl,hb⟩;replace hF:=hF.grow hb;clear hb)|(go_at_call 172;refine (vCut_any _ _ _ (by rw [ovS_size];exact hm) hx2).mono ?_;rw [hcut.out];rintro e wN ⟨rfl,hb⟩;replace hF:=hF.grow hb;clear hb)|(go_at_call 66;refine (Put_all hx2 hso hP.out _ hF.rds).mono ?_;rintro e wN ⟨_,rfl,A2,n2,c2,S2,rfl,hO,hC2⟩;replace hF:=hF.callA hO;clear hO)))
    have hH:=hH.nextA hF;refine hK.out _ _ hH ?_;clear hK;(try simp only [zA,Nat.reduceAdd])
    refine wpAnyH_ready (rs:=[0,6,12]) (by kernel_rfl) (by simp) (ready_cons rfl (fun K hK=>?_) (ready_cons rfl (fun K hK=>?_) (ready_cons rfl (fun K hK=>?_) AllReadyH.nil)))
    ·go_wp2_with (refine zrl ?_;(try simp only [zA,Nat.reduceAdd]))
     exact z15x4
    ·go_wp2_with ((first|(go_at_call 173;refine (vBelow_any _ _ _ _ _ _ hF.rdA hm hqn hq).mono ?_;rintro e wN ⟨rfl,hb⟩;replace hF:=hF.grow hb;clear hb)|(go_at_call 172;refine (vCut_any _ _ _ (by rw [ovS_size];exact hm) hx2).mono ?_;rw [hcut.out];rintro e wN ⟨rfl,hb⟩;replace hF:=hF.grow hb;clear hb)|(go_at_call 66;refine (Put_all hx2 hso hP.out _ hF.rds).mono ?_;rintro e wN ⟨_,rfl,A2,n2,c2,S2,rfl,hO,hC2⟩;replace hF:=hF.callA hO;clear hO)))
     have hH:=hH.nextA hF;refine hK.out _ _ hH ?_;clear hK;(try simp only [zA,Nat.reduceAdd])
     refine wpAnyH_ready (rs:=[0,12]) (by kernel_rfl) (by simp) (ready_cons rfl (fun K hK=>?_) (ready_cons rfl (fun K hK=>?_) AllReadyH.nil))
     ·go_wp2_with (refine zrl ?_;(try simp only [zA,Nat.reduceAdd]))
      exact z15x1
     ·go_wp2_with ((refine w_alloc rfl hF ?_;clear hF;intro gN wN hF);(try simp only [zA,Nat.reduceAdd]))
      have hH:=hH.nextA hF;refine hK.out _ _ hH ?_;clear hK;(try simp only [zA,Nat.reduceAdd])
      refine zry 0 (fun K hK=>?_)
      go_wp2_with (refine zrl ?_;(try simp only [zA,Nat.reduceAdd]))
      exact z15x0
    ·go_wp2_with ((refine w_alloc rfl hF ?_;clear hF;intro gN wN hF);(try simp only [zA,Nat.reduceAdd]))
     exact z15x3
   ·go_wp2_with ((refine w_alloc rfl hF ?_;clear hF;intro gN wN hF);(try simp only [zA,Nat.reduceAdd]))
    have hH:=hH.nextA hF;refine hK.out _ _ hH ?_;clear hK;(try simp only [zA,Nat.reduceAdd])
    refine wpAnyH_ready (rs:=[0,4]) (by kernel_rfl) (by simp) (ready_cons rfl (fun K hK=>?_) (ready_cons rfl (fun K hK=>?_) AllReadyH.nil))
    ·go_wp2_with (refine zrl ?_;(try simp only [zA,Nat.reduceAdd]))
     exact z15x6
    ·go_wp2_with ((first|(go_at_call 173;refine (vBelow_any _ _ _ _ _ _ hF.rdA hm hqn hq).mono ?_;rintro e wN ⟨rfl,hb⟩;replace hF:=hF.grow hb;clear hb)|(go_at_call 172;refine (vCut_any _ _ _ (by rw [ovS_size];exact hm) hx2).mono ?_;rw [hcut.out];rintro e wN ⟨rfl,hb⟩;replace hF:=hF.grow hb;clear hb)|(go_at_call 66;refine (Put_all hx2 hso hP.out _ hF.rds).mono ?_;rintro e wN ⟨_,rfl,A2,n2,c2,S2,rfl,hO,hC2⟩;replace hF:=hF.callA hO;clear hO)))
     exact z15x3
  case rest=>
   obtain ⟨gG,A2,n2,c2,S2,rfl,rfl,hC2,hF⟩:=hcut
   refine hK _ _ ?_
   have hb':=hb.out
   have hq2:=hq'.out
   clear hb hq'
   cases went
   ·rw [Bool.false_and] at hb'
    subst hb'
    rw [if_neg (by decide)] at hq2
    subst hq2
    exact z15x5
   ·cases gd
    ·rw [Bool.false_and,Bool.and_false] at hb'
     subst hb'
     rw [if_neg (by decide)] at hq2
     subst hq2
     exact z15x5
    ·by_cases hz:gb.size=0
     ·have hemp:=isEmpty_yes hz
      rw [Bool.true_and,Bool.true_and,decide_eq_false (fun h=>h hz)] at hb'
      subst hb'
      rw [if_neg (by decide)] at hq2
      subst hq2
      clear hz
      exact z15x5
     ·have hemp:=isEmpty_no hz
      rw [Bool.true_and,Bool.true_and,decide_eq_true hz] at hb'
      subst hb'
      rw [if_pos rfl] at hq2
      have hq3:q'.length=nq+1:=by rw [hq2,List.length_append,hql];rfl
      subst hq2
      clear hz
      go_wp2_with (((first|refine zrd ?_|(refine zst ?_;clear hF;(first|intro gN wN hF|intro wN hF|intro hF))|(refine zap ?_;clear hF;intro vN wN hF));(try simp only [zA,Nat.reduceAdd])))
      refine wp_region_st (by kernel_rfl) hF [.blk gG 101 [.int .u32 (gl:Int),.bool true,.string gb],.blk gC 35 [.int .i64 ways,.slice A2 n2 c2]] _ (by ((repeat (first|exact subn_nil|refine subn_cons zdm ?_)) <;> exact subn_nil)) (fun _ h=>h) ?_
      clear hF;intro hF hH
      refine zk0 0 hH ?_
      refine zk18 1 hH ?_
      refine zk1 2 hH ?_
      refine zk0 3 hH ?_
      refine zk18 4 hH ?_
      refine zk1 5 hH ?_
      refine zk0 6 hH ?_
      refine zry 7 (fun K hK=>?_)
      go_wp2_with ((go_at_call 142;refine (vPush_any _ _ _ _ _ _ _ _ _ hF.rdA hqn hl).mono ?_;rintro e wN ⟨A3,c3,rfl,hO⟩;replace hF:=hF.call1A hO;clear hO))
      have hH:=hH.nextA hF;refine hK.out _ _ hH ?_;clear hK;(try simp only [zA,Nat.reduceAdd])
      refine zry 8 (fun K hK=>?_)
      go_wp2_with (refine zwr ?_;clear hF;intro wN hF;(try simp only [zA,Nat.reduceAdd]))
      have hH:=hH.nextA hF;refine hK.out _ _ hH ?_;clear hK;(try simp only [zA,Nat.reduceAdd])
      refine zk19 9 hH ?_
      refine zk19 10 hH ?_
      refine zrz ?_
      (go_wp2;((try simp only [Exit.inBlock,Exit.then]);refine bodyPost_ret (w_rescss rfl hF) rfl ?_);exact ⟨_,_,rfl,A2,n2,c2,S2,A3,c3,rfl,by rw [hq3];rfl,by rw [hq3];exact hF.outA,hC2.out⟩)
end
end Go.Proofs.YtgnomadgnciifaaGreatDoor
