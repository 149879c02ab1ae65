/- . -/
import Derived.Test.YtgnomadgnciifaaGreatDoorZ17
import Derived.Test.YtgnomadgnciifaaGreatDoorZ16
set_option linter.unusedVariables false
set_option linter.unusedSimpArgs false
set_option linter.unusedSectionVars false
set_option maxRecDepth 100000
set_option maxHeartbeats 16000000
namespace Go.Proofs.YtgnomadgnciifaaGreatDoor
theorem h1t {p:Prop} (h:p:=by
 refine a1n (by kernel_rfl) hF _ _ (fun _ h=>h) (fun _ h=>h) ?_
 clear hF;intro hF hH
 refine zk1 0 hH ?_
 refine zk7 1 hH ?_
 refine zk7 2 hH ?_
 refine a1c 3 hH ?_
 refine wpAnyH_ready (rs:=[4,7]) (by kernel_rfl) (by simp) (a2d rfl (fun K hK=>?_) (a2d rfl (fun K hK=>?_) AllReadyH.nil))
 ·go_wp2_with ((refine c7k ?_;clear hF;intro wN hF))
  have hH:=hH.nextA hF;refine hK.out _ _ hH ?_;clear hK;refine zs ?_
  refine zk2 5 hH ?_
  refine zk7 6 hH ?_
  refine zry 7 (fun K hK=>?_)
  go_wp2_with ((refine w_alloc rfl hF ?_;clear hF;intro gN wN hF);refine zs ?_)
  have hH:=hH.nextA hF;refine hK.out _ _ hH ?_;clear hK;refine zs ?_
  refine zry 8 (fun K hK=>?_)
  go_wp2_with (refine zwr ?_;clear hF;intro wN hF;(try refine zs ?_))
  have hH:=hH.nextA hF;refine hK.out _ _ hH ?_;clear hK;refine zs ?_
  refine zrz ?_
  (go_wp2;go_meet;exact ⟨_,rfl,((hF.drop 1).drop 1).lessD (fun _ h=>by cases h)⟩)
 ·go_wp2_with ((refine w_alloc rfl hF ?_;clear hF;intro gN wN hF);refine zs ?_)
  have hH:=hH.nextA hF;refine hK.out _ _ hH ?_;clear hK;refine zs ?_
  refine zry 4 (fun K hK=>?_)
  go_wp2_with ((refine c7k ?_;clear hF;intro wN hF))
  have hH:=hH.nextA hF;refine hK.out _ _ hH ?_;clear hK;refine zs ?_
  refine zk2 5 hH ?_
  refine zk7 6 hH ?_
  refine zry 8 (fun K hK=>?_)
  go_wp2_with (refine zwr ?_;clear hF;intro wN hF;(try refine zs ?_))
  have hH:=hH.nextA hF;refine hK.out _ _ hH ?_;clear hK;refine zs ?_
  refine zrz ?_
  (go_wp2;go_meet;exact ⟨_,rfl,((hF.drop 1).drop 1).lessD (fun _ h=>by cases h)⟩)):p:=h
theorem d6o {p:Prop} (h:p:=by
 go_enter Tryz.func143,Tryz.ntmps143
 go_upto_region 6 with ((try refine zs ?_);(first|refine b2r ?_|(refine b2s ?_;clear hF;(first|intro gN wN hF|intro wN hF|intro hF))|(refine a1d ?_;clear hF;intro vN wN hF)))
 rename_i K hK
 obtain ⟨gI,gG,rfl,rfl⟩:=hF.names2
 go_cut [8] (fun p wx=>∃ g8,p = .pointer (some ⟨g8,0,none⟩)∧St w [a1a 2 As 8 cs (sls sl),a1a 1 Ar nr cr (u32v rets)] wx (.blk g8 191 [.int .u32 (vp:Int),.int .u32 (vn:Int)]::[]) [])
 case first=>
  exact h1t
 case rest=>
  obtain ⟨g8,rfl,hF⟩:=hcut
  refine hK _ _ ?_
  clear hK
  by_cases hpc:vp=pc
  ·subst hpc
   by_cases hv0:vp=0
   ·subst hv0
    by_cases hn0:vn=0
    ·subst hn0
     rw [if_neg (fun h=>h.2 ⟨rfl,rfl⟩)] at hN
     have hN2:=hN.out
     subst hN2
     go_wp2_with ((try refine zs ?_);(first|refine b2r ?_|(refine b2s ?_;clear hF;(first|intro gN wN hF|intro wN hF|intro hF))|(refine a1d ?_;clear hF;intro vN wN hF)))
     go_ret
     (first|exact ⟨a2m hw,hF.bel⟩|exact ⟨a2m (by omega),hF.bel⟩)
    ·have hne0:¬ ((vn:Int)=0):=by omega
     rw [if_pos ⟨rfl,fun h=>hn0 h.2⟩] at hN
     have hN2:=hN.out
     subst hN2
     go_wp2_with ((try refine zs ?_);(first|refine b2r ?_|(refine b2s ?_;clear hF;(first|intro gN wN hF|intro wN hF|intro hF))|(refine a1d ?_;clear hF;intro vN wN hF)))
     go_ret
     exact ⟨rfl,hF.bel⟩
   ·have hne0:¬ ((vp:Int)=0):=by omega
    rw [if_pos ⟨rfl,fun h=>hv0 h.1⟩] at hN
    have hN2:=hN.out
    subst hN2
    go_wp2_with ((try refine zs ?_);(first|refine b2r ?_|(refine b2s ?_;clear hF;(first|intro gN wN hF|intro wN hF|intro hF))|(refine a1d ?_;clear hF;intro vN wN hF)))
    go_ret
    exact ⟨rfl,hF.bel⟩
  ·rw [if_neg (fun h=>hpc h.1)] at hN
   have hN2:=hN.out
   subst hN2
   have hpc2:¬ ((vp:Int)=(pc:Int)):=by omega
   go_wp2_with ((try refine zs ?_);(first|refine b2r ?_|(refine b2s ?_;clear hF;(first|intro gN wN hF|intro wN hF|intro hF))|(refine a1d ?_;clear hF;intro vN wN hF)))
   go_ret
   (first|exact ⟨a2m hw,hF.bel⟩|exact ⟨a2m (by omega),hF.bel⟩)):p:=h
section
open Go.RowKit Wd
theorem h1u {l:List Nat} {k x:Nat} (h:l[k]?=some x):(u32v l)[k * 1]?=some (.int .u32 (x:Int)):=by rw [Nat.mul_one];simp [u32v,h]
theorem h1w (As Ar:Option Addr) (cs cr pc:Nat) (g:Gu) (i:Ins) (w:World) (h1:a5o g=true) (hs:Rd w w.heap.size 2 As 8 cs (sls g.slots)) (hr:Rd w w.heap.size 1 Ar g.rets.length cr (u32v g.rets)) (hi:okI i.op) (hp:pc<4294967296) :
  Calls Tryz.prog 143 #[gv As 8 cs g.hist Ar g.rets.length cr,.int .u32 (pc:Int),i.val] w fun x w'=>x = .returned (.int .u32 ((a8s g pc i:Nat):Int))∧Bel w w':=by
 have hF:=St.start w [a1a 2 As 8 cs (sls g.slots),a1a 1 Ar g.rets.length cr (u32v g.rets)] (fun d hd=>by
  rcases List.mem_cons.1 hd with rfl|hd
  ·exact hs
  ·obtain rfl:=List.mem_singleton.1 hd;exact hr)
 have h1':=h1
 simp only [a5o,Bool.and_eq_true,decide_eq_true_eq] at h1'
 obtain ⟨h8,hh,h4⟩:=h1'
 have hw:((pc:Int)+4) % 4294967296=((a1k pc 4:Nat):Int):=by unfold a1k;omega
 have HR:=Lib.hid (fun W=>b9t As Ar cs g.hist g.rets.length cr W hh h4)
 have HK:=Lib.hid (fun W=>a2o i W hi)
 have HB:=Lib.hid (fun W=>d2t i W)
 have HS:=Lib.hid (fun W=>d2u As Ar 8 cs g.hist g.rets.length cr pc g.slots g.rets W hp (by omega))
 have hs8:a6g ⟨g.slots,g.hist,g.rets⟩ pc<8:=Nat.mod_lt _ (by omega)
 have hN:Hid (a8s g pc i=if a1e i.op≠5 then a1k pc 4 else if b1e i=true∧0<g.rets.length then g.rets[g.rets.length - 1]?.getD 0
   else if (g.slots[a6g g pc]?.getD zsl).pc=pc ∧ ¬ ((g.slots[a6g g pc]?.getD zsl).pc=0∧(g.slots[a6g g pc]?.getD zsl).next=0) then (g.slots[a6g g pc]?.getD zsl).next else a1k pc 4):=Lib.hid (by
  unfold a8s
  rw [h1]
  by_cases hk:a1e i.op=5 <;> simp [hk])
 obtain ⟨sl,h,rets⟩:=g
 dsimp only at *
 obtain ⟨s,hse⟩:∃ s,a6g ⟨sl,h,rets⟩ pc=s:=⟨_,rfl⟩
 rw [hse] at HS hs8 hN
 obtain ⟨v,hv⟩:∃ v,sl[s]?=some v:=⟨_,List.getElem?_eq_getElem (by omega)⟩
 rw [hv,Option.getD_some] at hN
 obtain ⟨nr,hnr⟩:∃ nr,rets.length=nr:=⟨_,rfl⟩
 rw [hnr] at HR HS hN hF h4
 rw [hnr]
 obtain ⟨bb,hbb⟩:∃ bb,b1e i=bb:=⟨_,rfl⟩
 rw [hbb] at HB hN
 obtain ⟨κ,hκ⟩:∃ κ,a1e i.op=κ:=⟨_,rfl⟩
 rw [hκ] at HK hN
 obtain ⟨N,hNe⟩:∃ N,a8s ⟨sl,h,rets⟩ pc i=N:=⟨_,rfl⟩
 rw [hNe] at hN
 rw [hNe]
 obtain ⟨N4,hN4⟩:∃ N4,a1k pc 4=N4:=⟨_,rfl⟩
 rw [hN4] at hN hw
 clear hNe hκ hbb hse h1 hs hr hN4
 obtain ⟨op,rd,rs1,rs2,imm⟩:=i
 obtain ⟨vp,vn⟩:=v
 unfold Ins.val at HK HB ⊢
 unfold gv at HR HS ⊢
 dsimp only at hN
 have hsub:0<nr→(nr:Int) - 1=((nr - 1:Nat):Int):=fun h=>by omega
 by_cases h5:κ=5
 ·subst h5
  rw [if_neg (by decide)] at hN
  by_cases hbk:bb=true∧0<nr
  ·obtain ⟨rfl,hpos⟩:=hbk
   rw [if_pos ⟨rfl,hpos⟩] at hN
   have hb:=Lib.hid (show decide ((0:Int)<(nr:Int))=true by simp;omega)
   have hsub:=hsub hpos
   obtain ⟨y,hy⟩:∃ y,rets[nr - 1]?=some y:=⟨_,List.getElem?_eq_getElem (by omega)⟩
   rw [hy,Option.getD_some] at hN
   have hN2:=hN.out
   subst hN2
   have hv1:=h1u hy
   have hlt:nr - 1<nr:=by omega
   clear hN
   go_enter Tryz.func143,Tryz.ntmps143
   go_wp2_with ((try refine zs ?_);(first|refine b2r ?_|(refine b2s ?_;clear hF;(first|intro gN wN hF|intro wN hF|intro hF))|(refine a1d ?_;clear hF;intro vN wN hF)))
   go_ret
   exact ⟨rfl,hF.bel⟩
  ·rw [if_neg hbk] at hN
   have hne:bb=false∨(bb=true∧decide ((0:Int)<(nr:Int))=false):=by
    cases bb
    ·exact .inl rfl
    ·refine .inr ⟨rfl,?_⟩
     have:¬ 0<nr:=fun h=>hbk ⟨rfl,h⟩
     simp;omega
   clear hbk
   have hvl:s<8:=hs8
   replace hN:=Lib.hid (show N=if vp=pc ∧ ¬ (vp=0∧vn=0) then vn else N4 from hN.out)
   rcases hne with rfl|⟨rfl,hb⟩
   ·(try (have hb:=Lib.hid hb))
    exact d6o
   ·(try (have hb:=Lib.hid hb))
    exact d6o
 ·rw [if_pos h5] at hN
  have hN2:=hN.out
  subst hN2
  have c1:(κ == 5)=false:=by simpa using h5
  have c2:(κ != 5)=true:=by simpa using h5
  clear hN
  go_enter Tryz.func143,Tryz.ntmps143
  go_wp2_with ((try refine zs ?_);(first|refine b2r ?_|(refine b2s ?_;clear hF;(first|intro gN wN hF|intro wN hF|intro hF))|(refine a1d ?_;clear hF;intro vN wN hF)))
  go_ret
  (first|exact ⟨a2m hw,hF.bel⟩|exact ⟨a2m (by omega),hF.bel⟩)
end
end Go.Proofs.YtgnomadgnciifaaGreatDoor
