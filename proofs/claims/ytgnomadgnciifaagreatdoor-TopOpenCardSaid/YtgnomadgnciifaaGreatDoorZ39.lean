/- . -/
import Derived.Test.YtgnomadgnciifaaGreatDoorZ33
import Derived.Test.YtgnomadgnciifaaGreatDoorZ35
set_option linter.unusedVariables false
set_option linter.unusedSimpArgs false
set_option linter.unusedSectionVars false
set_option maxRecDepth 100000
set_option maxHeartbeats 16000000
namespace Go.Proofs.YtgnomadgnciifaaGreatDoor
theorem d8w {p:Prop} (h:p:=by
 go_wp2_with ((try simp only [zA,Nat.reduceAdd]);(first|refine b2t ?_|(refine b2u ?_;clear hF;(first|intro gN wN hF|intro wN hF|intro hF))|(refine a1d ?_;clear hF;intro vN wN hF)))
 go_roundw
 case rel=>exact ⟨j+1,by omega,by go_num,⟨by rw [hn2.out];exact hF.drop 0⟩⟩
 case measure=>first|(simp [intOf];done)|(simp [intOf];omega)):p:=h
section
open Go.RowKit Wd
theorem h6q {α:Type} (f:α→Nat→α) (a:α) (n:Nat):(List.range (n+1)).foldl f a=f ((List.range n).foldl f a) n:=by rw [List.range_succ,List.foldl_append];rfl
def a5w (regs:List Nat) (j:Nat) (q:List En):List En:=(List.range j).foldl (storeAt regs) q
theorem d8x {regs:List Nat} {j:Nat} {q:List En} (h:ensOk q):ensOk (a5w regs j q)∧(a5w regs j q).length=q.length:=c5t _ h
inductive MQ (w0:World) (D0 D:List Da) (M:List Mu) (g:Nat) (k:Kern) (s:Sls) (q:List En) (w:World):Prop
 | mk (hF:St w0 D0 w (.blk g 81 (mcells k s) :: .row s.robA 54 (ens q)::M) (kD k s++D))
theorem h6r {w0 w:World} {D0 D:List Da} {M:List Mu} {g:Nat} {k:Kern} {a b:Bool} {B:Int} (hk:KOk B k) (hL:∀ e∈k.rob,okL e.left) (hX:MX w0 D0 D M g k a b w) :
  Calls Tryz.prog 32 #[.pointer (some ⟨g,0,none⟩)] w fun x w'=>(∃ y,x = .returned y)∧MX w0 D0 D M g (a1y k) a b w':=by
 obtain ⟨s,hfit,ha,hb',⟨hF⟩⟩:=hX
 have hS:=hF
 by_cases hh:¬ k.halt=0
 ·have hR:Hid (a1y k=k):=Lib.hid (by unfold a1y;rw [if_pos hh])
  have hh2:=Lib.hid (show decide (¬ k.halt=0)=true by simpa using hh)
  clear hh
  (simp only [kD,zL] at hF)
  go_enter Tryz.func32,Tryz.ntmps32
  go_wp2_with ((try simp only [zA,Nat.reduceAdd]);(first|refine b2t ?_|(refine b2u ?_;clear hF;(first|intro gN wN hF|intro wN hF|intro hF))|(refine a1d ?_;clear hF;intro vN wN hF)))
  refine bodyPost_ret (results_none rfl _ _ _) rfl ⟨⟨_,rfl⟩,?_⟩
  rw [hR.out]
  exact ⟨s,hfit,ha,hb',⟨hS⟩⟩
 have hR:Hid (a1y k=match a6y (a5w k.regs k.rob.length (k.rob.map goE)) with
  | none=>{ k with rob:=a5w k.regs k.rob.length (k.rob.map goE) }
  | some i=>match (a5w k.regs k.rob.length (k.rob.map goE))[i]? with
   | none=>{ k with rob:=a5w k.regs k.rob.length (k.rob.map goE) }
   | some e=>{ k with rob:=a7p (a5w k.regs k.rob.length (k.rob.map goE)) i e,fetch:=e.next,fetched:=[],stop:=false }):=Lib.hid (by
  unfold a1y a5w a6h
  rw [if_neg hh,List.length_map]
  rfl)
 have hh2:=Lib.hid (show decide (¬ k.halt=0)=false by simpa using hh)
 clear hh hS
 have hn16:=hk.roblen
 have hcap:=hfit.robC
 (simp only [kD,zL] at hF)
 go_enter Tryz.func32,Tryz.ntmps32
 go_wp2_with ((try simp only [zA,Nat.reduceAdd]);(first|refine b2t ?_|(refine b2u ?_;clear hF;(first|intro gN wN hF|intro wN hF|intro hF))|(refine a1d ?_;clear hF;intro vN wN hF)))
 go_loopw [23] (fun i wr=>∃ j:Nat,j≤k.rob.length∧i = .int .i64 (j:Int)∧MQ w0 D0 D M g k s (a6s goE j k.rob) wr) (fun i _=>k.rob.length - (intOf i).toNat)
 case atStart=>exact ⟨0,by omega,rfl,⟨hF⟩⟩
 case round=>
  clear hF
  obtain ⟨j,hj,rfl,⟨hF⟩⟩:=hrel
  (simp only [kD,zL] at hF)
  by_cases hjn:j<k.rob.length
  ·obtain ⟨e,hu0⟩:∃ e,k.rob[j]?=some e:=⟨_,List.getElem?_eq_getElem hjn⟩
   have hu:=c6b (f:=goE) hu0
   have he:=hk.rob e (List.mem_of_getElem? hu0)
   have HGo:=Lib.hid (fun W=>g8i e W he.op (hL e (List.mem_of_getElem? hu0)))
   have hset:=c6c (f:=goE) hu0
   have hlq:=d8k goE j k.rob
   obtain ⟨q,hq⟩:∃ q,a6s goE j k.rob=q:=⟨_,rfl⟩
   obtain ⟨f,hf⟩:∃ f,goE e=f:=⟨_,rfl⟩
   rw [hq] at hF hu hset hlq
   rw [hf] at HGo hset
   have hlen:0<(ens q).length:=by rw [a4l];omega
   have hP:=hF.rowP at1 hlen
   have hjq:j<q.length:=by omega
   replace hset:=Lib.hid hset
   clear hq hf hu0 he hR
   go_upto_region 4 with ((try simp only [zA,Nat.reduceAdd]);(first|refine b2t ?_|(refine b2u ?_;clear hF;(first|intro gN wN hF|intro wN hF|intro hF))|(refine a1d ?_;clear hF;intro vN wN hF)))
   refine a1n (by kernel_rfl) hF [.blk _ 54 e.cells,.blk g 81 (mcells k s)] _ (by ((repeat (first|exact a1f|refine a1m zdm ?_)) <;> exact a1f)) (fun _ h=>h) ?_
   clear hF;intro hF hH
   refine a1c 0 hH ?_
   refine zp 1 hH ?_
   refine zk1 2 hH ?_
   refine zk1 3 hH ?_
   refine a2i 4 hH ?_
   refine a1c 5 hH ?_
   refine a2i 6 hH ?_
   refine zry 7 (fun K hK=>?_)
   go_wp2_with ((first|(refine f3z ?_;clear hF;intro wN hF)|((refine a5r rfl hF rfl rfl ?_);clear hF;intro wN hF;(try simp only [zA,Nat.reduceAdd]))))
   have hH:=zx0 hH hF;refine hK.out _ _ hH ?_;clear hK;(try simp only [zA,Nat.reduceAdd])
   refine b1z 8 hH ?_
   refine zry 9 (fun K hK=>?_)
   go_wp2_with ((first|(go_at_call 69;refine zcg hF (HGo.out _) ?_;clear hF;intro wN hF)|((refine a5r rfl hF rfl rfl ?_);clear hF;intro wN hF;(try simp only [zA,Nat.reduceAdd]))|(refine w_st1 rfl hF rfl rfl ?_;clear hF;intro wN hF)|(refine w_st rfl hF rfl rfl ?_;clear hF;intro wN hF)|(refine w_st1o rfl hF rfl rfl ?_;clear hF;intro wN hF));(try simp only [zA,Nat.reduceAdd]))
   have hH:=zx0 hH hF;refine hK.out _ _ hH ?_;clear hK;(try simp only [zA,Nat.reduceAdd])
   refine zrz ?_
   (skip)
   go_wp2
   go_roundw
   case rel=>exact ⟨j+1,by omega,by go_num,⟨by rw [← hset.out];exact hF.drop 0⟩⟩
   case measure=>first|(simp [intOf];done)|(simp [intOf];omega)
  ·obtain rfl:j=k.rob.length:=by omega
   rw [d8l] at hF
   obtain ⟨q0,hq0⟩:∃ q0,k.rob.map goE=q0:=⟨_,rfl⟩
   have hlq0:q0.length=k.rob.length:=by rw [← hq0,List.length_map]
   have hok0:ensOk q0:=by rw [← hq0];exact hk.rob.map fun e h=>d6r h
   rw [hq0] at hF hR
   clear hq0
   go_wp2_with ((try simp only [zA,Nat.reduceAdd]);(first|refine b2t ?_|(refine b2u ?_;clear hF;(first|intro gN wN hF|intro wN hF|intro hF))|(refine a1d ?_;clear hF;intro vN wN hF)))
   go_loopw [44] (fun i wr=>∃ j:Nat,j≤k.rob.length∧i = .int .i64 (j:Int)∧MQ w0 D0 D M g k s (a5w k.regs j q0) wr) (fun i _=>k.rob.length - (intOf i).toNat)
   case atStart=>exact ⟨0,by omega,rfl,⟨hF⟩⟩
   case round=>
    clear hF
    obtain ⟨j,hj,rfl,⟨hF⟩⟩:=hrel
    (simp only [kD,zL] at hF)
    have hlq:=(d8x (regs:=k.regs) (j:=j) hok0).2
    have hokq:=(d8x (regs:=k.regs) (j:=j) hok0).1
    have hnext:a5w k.regs (j+1) q0=storeAt k.regs (a5w k.regs j q0) j:=h6q _ _ _
    rw [hlq0] at hlq
    by_cases hjn:j<k.rob.length
    ·obtain ⟨q,hq⟩:∃ q,a5w k.regs j q0=q:=⟨_,rfl⟩
     rw [hq] at hF hlq hokq hnext
     clear hq hR
     obtain ⟨e,hu⟩:∃ e,q[j]?=some e:=⟨_,List.getElem?_eq_getElem (by omega)⟩
     have he:=hokq e (List.mem_of_getElem? hu)
     have HK:=fun W=>a2o e.inst W he.op
     have HRs:=Lib.hid (fun W=>b7c e.inst W)
     have hl17:(ens q).length=k.rob.length * 17:=by rw [a4l,hlq]
     have hlen:0<(ens q).length:=by omega
     have hP:=hF.rowP at1 hlen
     have hjq:j<q.length:=by omega
     by_cases h4:a1e e.inst.op=4
     ·rw [h4] at HK
      have HRd:=Lib.hid (fun (W:World) (h:Rd W W.heap.size 17 s.robA k.rob.length s.robC (ens q))=>show Calls Tryz.prog 45 #[.slice s.robA k.rob.length s.robC,regsV k s,.int .i64 (j:Int),.int .i64 e.inst.rs2] W _ from by rw [b7p hk.rlen];exact c1h s.robA k.rob.length s.robC q k.regs j e.inst.rs2 W h hokq hk.rlen (by unfold okI;omega) he.rs2)
      have hrv:=c5v (q:=q) (regs:=k.regs) (i:=(j:Int)) (reg:=e.inst.rs2) hokq hk.regs
      have hn2:a5w k.regs (j+1) q0=if (a4c q k.regs j e.inst.rs2).2=true then q.set j (a8q e (a4c q k.regs j e.inst.rs2).1) else q:=by
       rw [hnext];unfold storeAt;rw [hu];dsimp only;rw [if_neg (by rw [h4];decide)]
      obtain ⟨v,there,hvt⟩:∃ v there,a4c q k.regs (j:Int) e.inst.rs2=(v,there):=⟨_,_,rfl⟩
      rw [hvt] at HRd hrv hn2
      dsimp only at HRd hrv hn2
      unfold regsV at HRd
      have HSt:=Lib.hid (fun W=>h2c e v W he.op hrv)
      obtain ⟨f,hf⟩:∃ f,a8q e v=f:=⟨_,rfl⟩
      rw [hf] at HSt hn2
      replace HK:=Lib.hid HK
      replace hn2:=Lib.hid hn2
      replace hokq:=Lib.hid hokq
      clear hvt hf hnext h4 he hrv
      go_upto_region 11 with ((try simp only [zA,Nat.reduceAdd]);(first|refine b2t ?_|(refine b2u ?_;clear hF;(first|intro gN wN hF|intro wN hF|intro hF))|(refine a1d ?_;clear hF;intro vN wN hF)))
      refine a1n (by kernel_rfl) hF _ _ (fun _ h=>h) (fun _ h=>h) ?_
      clear hF;intro hF hH
      refine a1c 0 hH ?_
      refine zp 1 hH ?_
      refine zk1 2 hH ?_
      refine zk1 3 hH ?_
      refine a2i 4 hH ?_
      refine a1c 5 hH ?_
      refine zp 6 hH ?_
      refine zk1 7 hH ?_
      refine zk1 8 hH ?_
      refine a2i 9 hH ?_
      refine a1c 10 hH ?_
      refine a1c 11 hH ?_
      refine zry 12 (fun K hK=>?_)
      go_wp2_with ((go_at_call 45;refine (HRd.out _ (hF.rowRd (by exact zat) hl17 (by decide) hcap hfit.robM)).mono ?_;rintro x wN ⟨rfl,hb⟩;replace hF:=hF.grow hb;clear hb))
      have hH:=zx0 hH hF;refine hK.out _ _ hH ?_;clear hK;(try simp only [zA,Nat.reduceAdd])
      refine a1c 13 hH ?_
      refine zp 14 hH ?_
      refine zp 15 hH ?_
      refine a2a 16 hH ?_
      refine a2a 17 hH ?_
      refine zrz ?_
      (skip)
      cases there
      ·replace hn2:=Lib.hid (show a5w k.regs (j+1) q0=q from hn2.out)
       exact d8w
      ·replace hn2:=Lib.hid (show a5w k.regs (j+1) q0=q.set j f from hn2.out)
       go_upto_region 13 with ((try simp only [zA,Nat.reduceAdd]);(first|refine b2t ?_|(refine b2u ?_;clear hF;(first|intro gN wN hF|intro wN hF|intro hF))|(refine a1d ?_;clear hF;intro vN wN hF)))
       refine a1n (by kernel_rfl) hF [.blk _ 54 e.cells,.blk g 81 (mcells k s)] _ (by ((repeat (first|exact a1f|refine a1m zdm ?_)) <;> exact a1f)) (fun _ h=>h) ?_
       clear hF;intro hF hH
       refine a1c 0 hH ?_
       refine zp 1 hH ?_
       refine zk1 2 hH ?_
       refine zk1 3 hH ?_
       refine a2i 4 hH ?_
       refine a1c 5 hH ?_
       refine a2i 6 hH ?_
       refine a1c 7 hH ?_
       refine zry 8 (fun K hK=>?_)
       go_wp2_with ((first|(refine f4a ?_;clear hF;intro wN hF)|((refine a5r rfl hF rfl rfl ?_);clear hF;intro wN hF;(try simp only [zA,Nat.reduceAdd]))))
       have hH:=zx0 hH hF;refine hK.out _ _ hH ?_;clear hK;(try simp only [zA,Nat.reduceAdd])
       refine b1z 9 hH ?_
       refine zry 10 (fun K hK=>?_)
       go_wp2_with ((first|(go_at_call 70;refine zcg hF (HSt.out _) ?_;clear hF;intro wN hF)|((refine a5r rfl hF rfl rfl ?_);clear hF;intro wN hF;(try simp only [zA,Nat.reduceAdd]))|(refine w_st1 rfl hF rfl rfl ?_;clear hF;intro wN hF)|(refine w_st rfl hF rfl rfl ?_;clear hF;intro wN hF)|(refine w_st1o rfl hF rfl rfl ?_;clear hF;intro wN hF));(try simp only [zA,Nat.reduceAdd]))
       have hH:=zx0 hH hF;refine hK.out _ _ hH ?_;clear hK;(try simp only [zA,Nat.reduceAdd])
       refine zrz ?_
       (skip)
       go_wp2
       go_roundw
       case rel=>exact ⟨j+1,by omega,by go_num,⟨by rw [hn2.out];exact hF.drop 0⟩⟩
       case measure=>first|(simp [intOf];done)|(simp [intOf];omega)
     ·have hn2:=Lib.hid (show a5w k.regs (j+1) q0=q by rw [hnext];unfold storeAt;rw [hu];dsimp only;rw [if_pos h4])
      obtain ⟨κ,hκ⟩:∃ κ,a1e e.inst.op=κ:=⟨_,rfl⟩
      rw [hκ] at HK h4
      have hb4:=Lib.hid (show decide (¬ κ=4)=true by simpa using h4)
      replace HK:=Lib.hid HK
      clear hκ h4 hnext he hokq
      exact d8w
    ·obtain rfl:j=k.rob.length:=by omega
     obtain ⟨q,hq⟩:∃ q,a5w k.regs k.rob.length q0=q:=⟨_,rfl⟩
     rw [hq] at hF hlq hokq hR
     clear hq hnext
     have hl17:(ens q).length=k.rob.length * 17:=by rw [a4l,hlq]
     have HWr:=fun (W:World) (h:Rd W W.heap.size 17 s.robA k.rob.length s.robC (ens q))=>g5u s.robA k.rob.length s.robC q W h hokq
     cases hwl:a6y q with
     | none=>
      rw [hwl] at hR
      replace hR:=Lib.hid (show a1y k={ k with rob:=q } from hR.out)
      have hwi:wrongI q = -1:=by unfold wrongI;rw [hwl]
      rw [hwi] at HWr
      replace HWr:=Lib.hid HWr
      clear hwl hwi
      go_wp2_with ((try simp only [zA,Nat.reduceAdd]);(first|refine c7m ?_|(go_at_call 11;refine (HWr.out _ (hF.rowRd (by exact zat) hl17 (by decide) hcap hfit.robM)).mono ?_;rintro x wN ⟨rfl,hb⟩;replace hF:=hF.grow hb;clear hb)|(go_at_call 71;refine (HCu.out _ (hF.rowRd (by exact zat) hl17 (by decide) hcap hfit.robM)).mono ?_;rintro y wN ⟨v,rfl,hb,ho⟩;replace hF:=hF.pushOwn hb ho;clear hb ho;obtain ⟨A2,c2,rfl,hc1,hc2,hF2⟩:=hF.ownRow at0;clear hF;have hF:=hF2;clear hF2;(try simp only [zF] at hF))|(refine b5y ?_;clear hF;(first|intro gN wN hF|intro wN hF|intro hF))|(refine a1d ?_;clear hF;intro vN wN hF)))
      go_end0
      refine ⟨⟨_,rfl⟩,?_⟩
      rw [hR.out]
      exact ⟨s,⟨hfit.data,hfit.words,by show q.length≤_;rw [hlq];exact hcap,hfit.robM,hfit.feO,hfit.stO,hfit.reO⟩,ha,hb',⟨by rw [b3u q hlq];exact hF⟩⟩
     | some i=>
      have hil:i<q.length:=by
       unfold a6y at hwl
       exact (List.findIdx?_eq_some_iff_getElem.1 hwl).1
      obtain ⟨e,hu⟩:∃ e,q[i]?=some e:=⟨_,List.getElem?_eq_getElem hil⟩
      rw [hwl] at hR
      replace hR:=hR.out
      dsimp only at hR
      rw [hu] at hR
      dsimp only at hR
      replace hR:=Lib.hid hR
      have hwi:wrongI q=(i:Int):=by unfold wrongI;rw [hwl]
      rw [hwi] at HWr
      replace HWr:=Lib.hid HWr
      have hge:=Lib.hid (show decide ((0:Int)≤(i:Int))=true by simp)
      have hin:i<k.rob.length:=by omega
      have hlen:0<(ens q).length:=by omega
      have HCu:=Lib.hid (fun (W:World) (h:Rd W W.heap.size 17 s.robA k.rob.length s.robC (ens q))=>g4w s.robA k.rob.length s.robC q i e W h (by omega) hu)
      have hcl:(a7p q i e).length=i+1:=by unfold a7p;rw [List.length_append,List.length_take];simp;omega
      have hnxt:(ens q)[i * 17+11]?=some (.int .u32 (e.next:Int)):=Rows.el (f:=ens) hu rfl
      obtain ⟨q2,hq2⟩:∃ q2,a7p q i e=q2:=⟨_,rfl⟩
      rw [hq2] at HCu hcl
      replace hR:=hR.out
      rw [hq2] at hR
      replace hR:=Lib.hid hR
      clear hwl hwi hq2 hokq
      go_wp2_with ((try simp only [zA,Nat.reduceAdd]);(first|refine c7m ?_|(go_at_call 11;refine (HWr.out _ (hF.rowRd (by exact zat) hl17 (by decide) hcap hfit.robM)).mono ?_;rintro x wN ⟨rfl,hb⟩;replace hF:=hF.grow hb;clear hb)|(go_at_call 71;refine (HCu.out _ (hF.rowRd (by exact zat) hl17 (by decide) hcap hfit.robM)).mono ?_;rintro y wN ⟨v,rfl,hb,ho⟩;replace hF:=hF.pushOwn hb ho;clear hb ho;obtain ⟨A2,c2,rfl,hc1,hc2,hF2⟩:=hF.ownRow at0;clear hF;have hF:=hF2;clear hF2;(try simp only [zF] at hF))|(refine b5y ?_;clear hF;(first|intro gN wN hF|intro wN hF|intro hF))|(refine a1d ?_;clear hF;intro vN wN hF)))
      go_end0
      refine ⟨⟨_,rfl⟩,?_⟩
      rw [hR.out]
      rw [d7c (k:=k) (s:=s),b7m q2 hcl,b5f (n:=0) [] rfl,c5r] at hF
      refine ⟨{ s with robA:=A2,robC:=c2,feA:=none,feC:=0 },⟨hfit.data,hfit.words,by show q2.length≤c2;rw [hcl];exact hc1,hc2,hfit.feO,hfit.stO,hfit.reO⟩,fun _=>rfl,hb',⟨?_⟩⟩
      have hF3:=(((hF.front 1 at1).drop 2).nilZ 2)
      refine hF3.lessD ?_
      simp only [kD,hfit.feO,a1h,zL]
      exact zsn
end
end Go.Proofs.YtgnomadgnciifaaGreatDoor
