/- . -/
import Derived.Test.YtgnomadgnciifaaGreatDoorZ10
set_option linter.unusedVariables false
set_option linter.unusedSimpArgs false
set_option linter.unusedSectionVars false
set_option maxRecDepth 100000
set_option maxHeartbeats 16000000
namespace Go.Proofs.YtgnomadgnciifaaGreatDoor
theorem c1p {p:Prop} (h:p:=by
 have hH:=hH.nextA hF;refine hK.out _ _ hH ?_;clear hK;refine zs ?_
 refine zry 7 (fun K hK=>?_)
 go_wp2_with ((first|(go_at_call 173;refine (a8w _ _ _ _ _ _ hF.rdA hm hqn hq).mono ?_;rintro e wN ⟨rfl,hb⟩;replace hF:=hF.grow hb;clear hb)|(go_at_call 172;refine (a9q _ _ _ (by rw [a6p];exact hm) hx2).mono ?_;rw [hcut.out];rintro e wN ⟨rfl,hb⟩;replace hF:=hF.grow hb;clear hb)|(go_at_call 66;refine (a8x hx2 hso hP.out _ hF.rds).mono ?_;rintro e wN ⟨_,rfl,A2,n2,c2,S2,rfl,hO,hC2⟩;replace hF:=hF.callA hO;clear hO)))
 have hH:=hH.nextA hF;refine hK.out _ _ hH ?_;clear hK;refine zs ?_
 refine a1c 8 hH ?_
 refine zp 9 hH ?_
 refine zp 10 hH ?_
 refine zp 11 hH ?_
 refine zry 13 (fun K hK=>?_)
 go_wp2_with (refine zwr ?_;clear hF;intro wN hF;(try refine zs ?_))
 have hH:=hH.nextA hF;refine hK.out _ _ hH ?_;clear hK;refine zs ?_
 refine zry 14 (fun K hK=>?_)
 go_wp2_with (refine zwr ?_;clear hF;intro wN hF;(try refine zs ?_))
 have hH:=hH.nextA hF;refine hK.out _ _ hH ?_;clear hK;refine zs ?_
 refine a2a 15 hH ?_
 refine zrz ?_
 (go_wp2;go_meet;exact ⟨_,A2,n2,c2,S2,rfl,rfl,Lib.hid hC2,hF.lessA _⟩)):p:=h
theorem d6a {p:Prop} (h:p:=by
 have hH:=hH.nextA hF;refine hK.out _ _ hH ?_;clear hK;refine zs ?_
 refine wpAnyH_ready (rs:=[7,12]) (by kernel_rfl) (by simp) (a2d rfl (fun K hK=>?_) (a2d rfl (fun K hK=>?_) AllReadyH.nil))
 ·go_wp2_with ((first|(go_at_call 173;refine (a8w _ _ _ _ _ _ hF.rdA hm hqn hq).mono ?_;rintro e wN ⟨rfl,hb⟩;replace hF:=hF.grow hb;clear hb)|(go_at_call 172;refine (a9q _ _ _ (by rw [a6p];exact hm) hx2).mono ?_;rw [hcut.out];rintro e wN ⟨rfl,hb⟩;replace hF:=hF.grow hb;clear hb)|(go_at_call 66;refine (a8x hx2 hso hP.out _ hF.rds).mono ?_;rintro e wN ⟨_,rfl,A2,n2,c2,S2,rfl,hO,hC2⟩;replace hF:=hF.callA hO;clear hO)))
  have hH:=hH.nextA hF;refine hK.out _ _ hH ?_;clear hK;refine zs ?_
  refine a1c 8 hH ?_
  refine zp 9 hH ?_
  refine zp 10 hH ?_
  refine zp 11 hH ?_
  refine zry 12 (fun K hK=>?_)
  go_wp2_with ((refine w_alloc rfl hF ?_;clear hF;intro gN wN hF);refine zs ?_)
  have hH:=hH.nextA hF;refine hK.out _ _ hH ?_;clear hK;refine zs ?_
  refine zry 13 (fun K hK=>?_)
  go_wp2_with (refine zwr ?_;clear hF;intro wN hF;(try refine zs ?_))
  have hH:=hH.nextA hF;refine hK.out _ _ hH ?_;clear hK;refine zs ?_
  refine zry 14 (fun K hK=>?_)
  go_wp2_with (refine zwr ?_;clear hF;intro wN hF;(try refine zs ?_))
  have hH:=hH.nextA hF;refine hK.out _ _ hH ?_;clear hK;refine zs ?_
  refine a2a 15 hH ?_
  refine zrz ?_
  (go_wp2;go_meet;exact ⟨_,A2,n2,c2,S2,rfl,rfl,Lib.hid hC2,hF.lessA _⟩)
 ·go_wp2_with ((refine w_alloc rfl hF ?_;clear hF;intro gN wN hF);refine zs ?_)
  exact c1p):p:=h
theorem c5a {p:Prop} (h:p:=by
 have hH:=hH.nextA hF;refine hK.out _ _ hH ?_;clear hK;refine zs ?_
 refine zry 6 (fun K hK=>?_)
 go_wp2_with ((first|(go_at_call 173;refine (a8w _ _ _ _ _ _ hF.rdA hm hqn hq).mono ?_;rintro e wN ⟨rfl,hb⟩;replace hF:=hF.grow hb;clear hb)|(go_at_call 172;refine (a9q _ _ _ (by rw [a6p];exact hm) hx2).mono ?_;rw [hcut.out];rintro e wN ⟨rfl,hb⟩;replace hF:=hF.grow hb;clear hb)|(go_at_call 66;refine (a8x hx2 hso hP.out _ hF.rds).mono ?_;rintro e wN ⟨_,rfl,A2,n2,c2,S2,rfl,hO,hC2⟩;replace hF:=hF.callA hO;clear hO)))
 exact c1p):p:=h
theorem d6b {p:Prop} (h:p:=by
 have hH:=hH.nextA hF;refine hK.out _ _ hH ?_;clear hK;refine zs ?_
 refine wpAnyH_ready (rs:=[0,6]) (by kernel_rfl) (by simp) (a2d rfl (fun K hK=>?_) (a2d rfl (fun K hK=>?_) AllReadyH.nil))
 ·go_wp2_with (refine zrl ?_;refine zs ?_)
  exact c5a
 ·go_wp2_with ((first|(go_at_call 173;refine (a8w _ _ _ _ _ _ hF.rdA hm hqn hq).mono ?_;rintro e wN ⟨rfl,hb⟩;replace hF:=hF.grow hb;clear hb)|(go_at_call 172;refine (a9q _ _ _ (by rw [a6p];exact hm) hx2).mono ?_;rw [hcut.out];rintro e wN ⟨rfl,hb⟩;replace hF:=hF.grow hb;clear hb)|(go_at_call 66;refine (a8x hx2 hso hP.out _ hF.rds).mono ?_;rintro e wN ⟨_,rfl,A2,n2,c2,S2,rfl,hO,hC2⟩;replace hF:=hF.callA hO;clear hO)))
  have hH:=hH.nextA hF;refine hK.out _ _ hH ?_;clear hK;refine zs ?_
  refine zry 0 (fun K hK=>?_)
  go_wp2_with (refine zrl ?_;refine zs ?_)
  exact c1p):p:=h
theorem d6c {p:Prop} (h:p:=by
 have hH:=hH.nextA hF;refine hK.out _ _ hH ?_;clear hK;refine zs ?_
 refine wpAnyH_ready (rs:=[6,12]) (by kernel_rfl) (by simp) (a2d rfl (fun K hK=>?_) (a2d rfl (fun K hK=>?_) AllReadyH.nil))
 ·go_wp2_with ((first|(go_at_call 173;refine (a8w _ _ _ _ _ _ hF.rdA hm hqn hq).mono ?_;rintro e wN ⟨rfl,hb⟩;replace hF:=hF.grow hb;clear hb)|(go_at_call 172;refine (a9q _ _ _ (by rw [a6p];exact hm) hx2).mono ?_;rw [hcut.out];rintro e wN ⟨rfl,hb⟩;replace hF:=hF.grow hb;clear hb)|(go_at_call 66;refine (a8x hx2 hso hP.out _ hF.rds).mono ?_;rintro e wN ⟨_,rfl,A2,n2,c2,S2,rfl,hO,hC2⟩;replace hF:=hF.callA hO;clear hO)))
  exact d6a
 ·go_wp2_with ((refine w_alloc rfl hF ?_;clear hF;intro gN wN hF);refine zs ?_)
  exact c5a):p:=h
theorem c5b {p:Prop} (h:p:=by
 (go_wp2_with (((first|refine zrd ?_|(refine zst ?_;clear hF;(first|intro gN wN hF|intro wN hF|intro hF))|(refine zap ?_;clear hF;intro vN wN hF));refine zs ?_));((try simp only [Exit.inBlock,Exit.then]);refine bodyPost_ret (b9e rfl hF) rfl ?_);exact ⟨_,_,rfl,A2,n2,c2,S2,Aq,cq,rfl,by rw [hql];rfl,by rw [hql];exact hF.outA,hC2.out⟩)):p:=h
theorem d6d {p:Prop} (h:p:=by
 have hH:=hH.nextA hF;refine hK.out _ _ hH ?_;clear hK;refine zs ?_
 refine zry 4 (fun K hK=>?_)
 go_wp2_with ((first|(go_at_call 173;refine (a8w _ _ _ _ _ _ hF.rdA hm hqn hq).mono ?_;rintro e wN ⟨rfl,hb⟩;replace hF:=hF.grow hb;clear hb)|(go_at_call 172;refine (a9q _ _ _ (by rw [a6p];exact hm) hx2).mono ?_;rw [hcut.out];rintro e wN ⟨rfl,hb⟩;replace hF:=hF.grow hb;clear hb)|(go_at_call 66;refine (a8x hx2 hso hP.out _ hF.rds).mono ?_;rintro e wN ⟨_,rfl,A2,n2,c2,S2,rfl,hO,hC2⟩;replace hF:=hF.callA hO;clear hO)))
 exact c5a):p:=h
section
open Go.RowKit Go.Sort
def d6e (w:World) (D0:List Da) (ways:Int) (v1 v2:Value) (w':World) (C:List (List Wy)) (q:List Rq):Prop :=
 ∃ A n c S A2 c2,v1 = .agg #[.int .i64 ways,.slice A n c]∧v2 = .slice A2 q.length c2∧Out w D0 w' [a1a 1 A n c (csv S),a1l S,a1a 4 A2 q.length c2 (rqs q)]∧a1j S=C
def cqD (A:Option Addr) (n c:Nat) (S:List Cs) (Aq:Option Addr) (nq cq:Nat) (q:List Rq):List Da:=[a1a 1 A n c (csv S),a1l S,a1a 4 Aq nq cq (rqs q)]
theorem g9h {w:World} {A:Option Addr} {n c:Nat} {S:List Cs} {Aq:Option Addr} {nq cq:Nat} {q:List Rq} (hr:RdS w w.heap.size A n c S) (hrq:Rd w w.heap.size 4 Aq nq cq (rqs q)):∀ d∈cqD A n c S Aq nq cq q,d.ok w:=fun d hd=>by
 rcases List.mem_cons.1 hd with rfl|hd
 ·exact hr.rd
 ·rcases List.mem_cons.1 hd with rfl|hd
  ·exact hr.sets
  ·obtain rfl:=List.mem_singleton.1 hd;exact hrq
theorem g9i {m:ByteArray} {q:List Rq} {x:Nat} {D:ByteArray} (h:bl D=a9e (b9a q (bl m)) x):b1k (ovS m (a3w q)) (x - x % 16)=D:=by
 rw [g5p]
 apply c9v
 rw [d4n,d4l,h]
 rfl
theorem g9j {ways:Int} {A:Option Addr} {n c:Nat} {S:List Cs} {Aq:Option Addr} {nq cq:Nat} {q:List Rq} {m:ByteArray} {x:Nat} {left:Int} {C':List (List Wy)} {q':List Rq} {b:Bool}
  (hx:x<4294967296) (hso:SOk S) (hm:m.size≤maxLen) (hqn:nq≤1000000) (hq:∀ r∈q,r.line<4294967296) (hl : -9223372036854775808≤left∧left≤9223372036854775807) (h:BringR ways (a1j S) q (bl m) x left C' q' b)
  (w:World) (hr:RdS w w.heap.size A n c S) (hrq:Rd w w.heap.size 4 Aq nq cq (rqs q)) :
  Calls Tryz.prog 126 #[.agg #[.int .i64 ways,.slice A n c],.slice Aq nq cq,.string m,.int .u32 (x:Int),.int .i64 left] w fun e w'=>∃ y z,e = .returned (.tuple #[y,z,.bool b])∧d6e w (cqD A n c S Aq nq cq q) ways y z w' C' q':=by
 have hF:=St.start w _ (g9h hr hrq)
 unfold cqD at hF
 have hql:=hrq.rqslen
 have HL:=Lib.hid (fun W=>a6u x W hx)
 have hc1:=hr.rd.le
 have hc2:=hr.rd.mx
 unfold maxLen at hc2
 cases h with
 | no h he hq hb=>
  subst he hq hb
  have HR:=Lib.hid (a8g (ways:=ways) (A:=A) (n:=n) (c:=c) hso (noR h))
  go_enter Tryz.func126,Tryz.ntmps126
  go_wp2_with ((first|(refine f3a ?_;clear hF;intro wN hF)|((first|refine zrd ?_|(refine zst ?_;clear hF;(first|intro gN wN hF|intro wN hF|intro hF))|(refine zap ?_;clear hF;intro vN wN hF));refine zs ?_)))
  ((try simp only [Exit.inBlock,Exit.then]);refine bodyPost_ret (b9e rfl hF) rfl ?_)
  exact ⟨_,_,rfl,A,n,c,S,Aq,cq,rfl,by rw [hql];rfl,by rw [hql];exact hF.outA,rfl⟩
 | hit k i h hT hq hb=>
  subst hq hb
  have HR:=Lib.hid (a8g (ways:=ways) (A:=A) (n:=n) (c:=c) hso (b2e h.at_.1))
  have HFi:=Lib.hid (a7d (ways:=ways) (A:=A) (n:=n) (c:=c) (show x - x % 16<4294967296 by omega) hso h.line)
  replace hT:=Lib.hid hT.line
  obtain ⟨lo,hlo⟩:∃ lo,x - x % 16=lo:=⟨_,rfl⟩
  have hx2:lo<4294967296:=by omega
  rw [hlo] at HL HFi hT
  clear hlo h
  go_enter Tryz.func126,Tryz.ntmps126
  go_wp2_with ((first|(refine c7g ?_;clear hF;intro wN hF)|(go_at_call 63;refine (HL.out _).mono ?_;rintro e wN ⟨rfl,d,rfl⟩;replace hF:=hF.grow (Bel.drewN _ d))|(go_at_call 84;refine (d5a hx2 hso hT.out _ hF.rds).mono ?_;rintro e wN ⟨_,rfl,A2,n2,c2,S2,rfl,hO,hC2⟩;replace hF:=hF.callA hO;clear hO)|((first|refine zrd ?_|(refine zst ?_;clear hF;(first|intro gN wN hF|intro wN hF|intro hF))|(refine zap ?_;clear hF;intro vN wN hF));refine zs ?_)))
  ((try simp only [Exit.inBlock,Exit.then]);refine bodyPost_ret (b9e rfl hF) rfl ?_)
  exact ⟨_,_,rfl,A2,n2,c2,S2,Aq,cq,rfl,by rw [hql];rfl,by rw [hql];exact hF.outA,hC2⟩
 | put k i hR h D hD gone went hp hb hq'=>
  have HR:=Lib.hid (a8g (ways:=ways) (A:=A) (n:=n) (c:=c) hso (b2e hR))
  have HFi:=Lib.hid (a7d (ways:=ways) (A:=A) (n:=n) (c:=c) (show x - x % 16<4294967296 by omega) hso h.line)
  have hP:=Lib.hid hp.lineB
  have hcut:=Lib.hid (g9i hD)
  obtain ⟨lo,hlo⟩:∃ lo,x - x % 16=lo:=⟨_,rfl⟩
  have hx2:lo<4294967296:=by omega
  rw [hlo] at HL HFi hP hcut
  clear hlo h hR hD hp
  obtain ⟨gl,gd,gb⟩:=gone
  replace hq':=Lib.hid hq'
  replace hb:=Lib.hid hb
  go_enter Tryz.func126,Tryz.ntmps126
  go_upto_region 7 with ((first|(refine c7g ?_;clear hF;intro wN hF)|(go_at_call 63;refine (HL.out _).mono ?_;rintro e wN ⟨rfl,d,rfl⟩;replace hF:=hF.grow (Bel.drewN _ d))|((first|refine zrd ?_|(refine zst ?_;clear hF;(first|intro gN wN hF|intro wN hF|intro hF))|(refine zap ?_;clear hF;intro vN wN hF));refine zs ?_)))
  rename_i K hK
  obtain ⟨gR,gC,rfl,rfl⟩:=hF.names2
  go_cut [16,17] (fun p s wx=>∃ gG A2 n2 c2 S2,p = .pointer (some ⟨gG,0,none⟩)∧s = .bool went∧Hid (a1j S2=C')∧St w [a1a 1 A n c (csv S),a1l S,a1a 4 Aq nq cq (rqs q)] wx [.blk gG 101 [.int .u32 (gl:Int),.bool gd,.string gb],.blk gR 35 [.int .i64 0,.slice none 0 0],.blk gC 35 [.int .i64 ways,.slice A2 n2 c2]] [a1a 1 A2 n2 c2 (csv S2),a1l S2,a1a 4 Aq nq cq (rqs q)])
  case first=>
   refine a1n (by kernel_rfl) hF [] _ (by ((repeat (first|exact a1f|refine a1m zdm ?_)) <;> exact a1f)) (fun _ h=>h) ?_
   clear hF;intro hF hH
   refine a1c 1 hH ?_
   refine a1c 2 hH ?_
   refine a1c 3 hH ?_
   refine a1c 5 hH ?_
   refine wpAnyH_ready (rs:=[0,4,12]) (by kernel_rfl) (by simp) (a2d rfl (fun K hK=>?_) (a2d rfl (fun K hK=>?_) (a2d rfl (fun K hK=>?_) AllReadyH.nil)))
   ·go_wp2_with (refine zrl ?_;refine zs ?_)
    have hH:=hH.nextA hF;refine hK.out _ _ hH ?_;clear hK;refine zs ?_
    refine wpAnyH_ready (rs:=[4,12]) (by kernel_rfl) (by simp) (a2d rfl (fun K hK=>?_) (a2d rfl (fun K hK=>?_) AllReadyH.nil))
    ·go_wp2_with ((first|(go_at_call 173;refine (a8w _ _ _ _ _ _ hF.rdA hm hqn hq).mono ?_;rintro e wN ⟨rfl,hb⟩;replace hF:=hF.grow hb;clear hb)|(go_at_call 172;refine (a9q _ _ _ (by rw [a6p];exact hm) hx2).mono ?_;rw [hcut.out];rintro e wN ⟨rfl,hb⟩;replace hF:=hF.grow hb;clear hb)|(go_at_call 66;refine (a8x hx2 hso hP.out _ hF.rds).mono ?_;rintro e wN ⟨_,rfl,A2,n2,c2,S2,rfl,hO,hC2⟩;replace hF:=hF.callA hO;clear hO)))
     exact d6c
    ·go_wp2_with ((refine w_alloc rfl hF ?_;clear hF;intro gN wN hF);refine zs ?_)
     exact d6d
   ·go_wp2_with ((first|(go_at_call 173;refine (a8w _ _ _ _ _ _ hF.rdA hm hqn hq).mono ?_;rintro e wN ⟨rfl,hb⟩;replace hF:=hF.grow hb;clear hb)|(go_at_call 172;refine (a9q _ _ _ (by rw [a6p];exact hm) hx2).mono ?_;rw [hcut.out];rintro e wN ⟨rfl,hb⟩;replace hF:=hF.grow hb;clear hb)|(go_at_call 66;refine (a8x hx2 hso hP.out _ hF.rds).mono ?_;rintro e wN ⟨_,rfl,A2,n2,c2,S2,rfl,hO,hC2⟩;replace hF:=hF.callA hO;clear hO)))
    have hH:=hH.nextA hF;refine hK.out _ _ hH ?_;clear hK;refine zs ?_
    refine wpAnyH_ready (rs:=[0,6,12]) (by kernel_rfl) (by simp) (a2d rfl (fun K hK=>?_) (a2d rfl (fun K hK=>?_) (a2d rfl (fun K hK=>?_) AllReadyH.nil)))
    ·go_wp2_with (refine zrl ?_;refine zs ?_)
     exact d6c
    ·go_wp2_with ((first|(go_at_call 173;refine (a8w _ _ _ _ _ _ hF.rdA hm hqn hq).mono ?_;rintro e wN ⟨rfl,hb⟩;replace hF:=hF.grow hb;clear hb)|(go_at_call 172;refine (a9q _ _ _ (by rw [a6p];exact hm) hx2).mono ?_;rw [hcut.out];rintro e wN ⟨rfl,hb⟩;replace hF:=hF.grow hb;clear hb)|(go_at_call 66;refine (a8x hx2 hso hP.out _ hF.rds).mono ?_;rintro e wN ⟨_,rfl,A2,n2,c2,S2,rfl,hO,hC2⟩;replace hF:=hF.callA hO;clear hO)))
     have hH:=hH.nextA hF;refine hK.out _ _ hH ?_;clear hK;refine zs ?_
     refine wpAnyH_ready (rs:=[0,12]) (by kernel_rfl) (by simp) (a2d rfl (fun K hK=>?_) (a2d rfl (fun K hK=>?_) AllReadyH.nil))
     ·go_wp2_with (refine zrl ?_;refine zs ?_)
      exact d6a
     ·go_wp2_with ((refine w_alloc rfl hF ?_;clear hF;intro gN wN hF);refine zs ?_)
      have hH:=hH.nextA hF;refine hK.out _ _ hH ?_;clear hK;refine zs ?_
      refine zry 0 (fun K hK=>?_)
      go_wp2_with (refine zrl ?_;refine zs ?_)
      exact c1p
    ·go_wp2_with ((refine w_alloc rfl hF ?_;clear hF;intro gN wN hF);refine zs ?_)
     exact d6b
   ·go_wp2_with ((refine w_alloc rfl hF ?_;clear hF;intro gN wN hF);refine zs ?_)
    have hH:=hH.nextA hF;refine hK.out _ _ hH ?_;clear hK;refine zs ?_
    refine wpAnyH_ready (rs:=[0,4]) (by kernel_rfl) (by simp) (a2d rfl (fun K hK=>?_) (a2d rfl (fun K hK=>?_) AllReadyH.nil))
    ·go_wp2_with (refine zrl ?_;refine zs ?_)
     exact d6d
    ·go_wp2_with ((first|(go_at_call 173;refine (a8w _ _ _ _ _ _ hF.rdA hm hqn hq).mono ?_;rintro e wN ⟨rfl,hb⟩;replace hF:=hF.grow hb;clear hb)|(go_at_call 172;refine (a9q _ _ _ (by rw [a6p];exact hm) hx2).mono ?_;rw [hcut.out];rintro e wN ⟨rfl,hb⟩;replace hF:=hF.grow hb;clear hb)|(go_at_call 66;refine (a8x hx2 hso hP.out _ hF.rds).mono ?_;rintro e wN ⟨_,rfl,A2,n2,c2,S2,rfl,hO,hC2⟩;replace hF:=hF.callA hO;clear hO)))
     exact d6b
  case rest=>
   obtain ⟨gG,A2,n2,c2,S2,rfl,rfl,hC2,hF⟩:=hcut
   refine hK _ _ ?_
   have hb':=hb.out
   have hq2:=hq'.out
   clear hb hq'
   cases went
   ·rw [Bool.false_and] at hb'
    subst hb'
    rw [if_neg (by decide)] at hq2
    subst hq2
    exact c5b
   ·cases gd
    ·rw [Bool.false_and,Bool.and_false] at hb'
     subst hb'
     rw [if_neg (by decide)] at hq2
     subst hq2
     exact c5b
    ·by_cases hz:gb.size=0
     ·have hemp:=c4j hz
      rw [Bool.true_and,Bool.true_and,decide_eq_false (fun h=>h hz)] at hb'
      subst hb'
      rw [if_neg (by decide)] at hq2
      subst hq2
      clear hz
      exact c5b
     ·have hemp:=b7e hz
      rw [Bool.true_and,Bool.true_and,decide_eq_true hz] at hb'
      subst hb'
      rw [if_pos rfl] at hq2
      have hq3:q'.length=nq+1:=by rw [hq2,List.length_append,hql];rfl
      subst hq2
      clear hz
      go_wp2_with (((first|refine zrd ?_|(refine zst ?_;clear hF;(first|intro gN wN hF|intro wN hF|intro hF))|(refine zap ?_;clear hF;intro vN wN hF));refine zs ?_))
      refine a1n (by kernel_rfl) hF [.blk gG 101 [.int .u32 (gl:Int),.bool true,.string gb],.blk gC 35 [.int .i64 ways,.slice A2 n2 c2]] _ (by ((repeat (first|exact a1f|refine a1m zdm ?_)) <;> exact a1f)) (fun _ h=>h) ?_
      clear hF;intro hF hH
      refine zk0 0 hH ?_
      refine a1c 1 hH ?_
      refine zk1 2 hH ?_
      refine zk0 3 hH ?_
      refine a1c 4 hH ?_
      refine zk1 5 hH ?_
      refine zk0 6 hH ?_
      refine zry 7 (fun K hK=>?_)
      go_wp2_with ((go_at_call 142;refine (d4q _ _ _ _ _ _ _ _ _ hF.rdA hqn hl).mono ?_;rintro e wN ⟨A3,c3,rfl,hO⟩;replace hF:=hF.call1A hO;clear hO))
      have hH:=hH.nextA hF;refine hK.out _ _ hH ?_;clear hK;refine zs ?_
      refine zry 8 (fun K hK=>?_)
      go_wp2_with (refine zwr ?_;clear hF;intro wN hF;(try refine zs ?_))
      have hH:=hH.nextA hF;refine hK.out _ _ hH ?_;clear hK;refine zs ?_
      refine a2a 9 hH ?_
      refine a2a 10 hH ?_
      refine zrz ?_
      (go_wp2;((try simp only [Exit.inBlock,Exit.then]);refine bodyPost_ret (b9e rfl hF) rfl ?_);exact ⟨_,_,rfl,A2,n2,c2,S2,A3,c3,rfl,by rw [hq3];rfl,by rw [hq3];exact hF.outA,hC2.out⟩)
end
end Go.Proofs.YtgnomadgnciifaaGreatDoor
