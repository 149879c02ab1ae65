/- . -/
import Derived.Test.YtgnomadgnciifaaGreatDoorZ3
import Derived.RangeFuncNested
import Derived.RangeFuncBound
import Derived.RangeFuncCalls
import Derived.RangeFuncLeaves
import Derived.WalkKit
import Derived.TacticsInMore
import Derived.OrdersIn
import Derived.Shelf.Abstract
import Derived.Shelf.RegionOpen
import Derived.OwnWalkIn
import Derived.LoopNIn
import Derived.LoopIn
import Derived.Maps.OwnOps
import Derived.Maps.Views
set_option linter.unusedVariables false
set_option linter.unusedSimpArgs false
set_option linter.unusedSectionVars false
set_option maxRecDepth 100000
set_option maxHeartbeats 16000000
namespace Go.Proofs.YtgnomadgnciifaaGreatDoor
theorem b1h {p:Prop} (h:p:=by
 (go_wp2_with ((try refine zs ?_);(first|refine f4e ?_|(go_at_call 215;(have hX:=HE1.out);(with_reducible refine (hX _).mono ?_);clear hX;rintro x wN ⟨rfl,hb⟩;replace hF:=hF.grow hb;clear hb)|(go_at_call 215;(have hX:=HE2.out);(with_reducible refine (hX _).mono ?_);clear hX;rintro x wN ⟨rfl,hb⟩;replace hF:=hF.grow hb;clear hb)));go_ret;exact ⟨rfl,hF.bel⟩)):p:=h
theorem d2d {p:Prop} (h:p:=by
 have hj0:(0:Int)≤(j:Int):=by omega
 have hjm2:(m:Int)≤(sc:Int):=by omega
 go_upto_region 16 with (fail)
 have htk:=((hset.out.bel hb12).to (Nat.le_of_lt hjm))
 rw [c3g] at htk
 rcases f6w (ws.take j) v.line with hni|⟨i,u,ha,hf⟩
 ·have hPL:=Lib.hid (fun W (hw:Bel W2 W)=>c3r _ j sc (ws.take j) v.line W (htk.bel hw) 0 false (.inr ⟨rfl,rfl,hni⟩))
  replace hni:=Lib.hid hni
  replace htk:=Lib.hid htk
  replace h16:=Lib.hid h16
  replace hkk:=Lib.hid hkk
  refine wp_region_quiet_below (by kernel_rfl) (by kernel_rfl) ?_;(repeat (go_big_quiet_step ((go_at_call 140;exact b2w (hPL.out _ (b1o _ _ _))))));(refine wpQuiet_nil ?_;intro wq hw';obtain ⟨⟨dq,osq⟩,hw''⟩:=hw';subst hw'')
  go_wp2
  go_roundw
  case rel=>exact ⟨j+1,by omega,by go_num,fun i hi v' hv'=>(way_step hin.out hat.out h16.out hkk.out hsz.out hni.out i hi v' hv'),hb12.trans (b1o _ _ _)⟩
  case measure=>first|(simp [intOf];done)|(simp [intOf];omega)
 ·have hPL:=Lib.hid (fun W (hw:Bel W2 W)=>c3r _ j sc (ws.take j) v.line W (htk.bel hw) i true (.inl ⟨rfl,u,ha,hf⟩))
  have Hno:=Lib.hid (hBad.out (way_dup ha))
  replace hf:=Lib.hid hf
  replace htk:=Lib.hid htk
  replace ha:=Lib.hid ha
  replace h16:=Lib.hid h16
  replace hkk:=Lib.hid hkk
  refine wp_region_quiet_below (by kernel_rfl) (by kernel_rfl) ?_;(repeat (go_big_quiet_step ((go_at_call 140;exact b2w (hPL.out _ (b1o _ _ _))))));(refine wpQuiet_nil ?_;intro wq hw';obtain ⟨⟨dq,osq⟩,hw''⟩:=hw';subst hw'')
  go_wp2
  go_ret
  exact ⟨b1p (by rw [Hno.out]),hbel.out.trans (hbw.trans (hb12.trans (b1o _ _ _)))⟩):p:=h
theorem d2e {p:Prop} (h:p:=by
 cases h1:(rd == 1)
 ·obtain rfl:b=false:=by rw [← hb];simpa using h1
  clear hb
  go_enter Tryz.func131,Tryz.ntmps131
  go_wp2
  go_ret
  exact ⟨rfl,Bel.alloc _ _⟩
 ·obtain rfl:b=true:=by rw [← hb];simpa using h1
  clear hb
  go_enter Tryz.func131,Tryz.ntmps131
  go_wp2
  go_ret
  exact ⟨rfl,Bel.alloc _ _⟩):p:=h
theorem b9q {p:Prop} (h:p:=by
 replace hx:=look_eval hx
 replace hy:=look_eval hy
 unfold execOp
 simp only [ho,hx,hy]
 go_simp):p:=h
theorem b9r {p:Prop} (h:p:=by
 clear hb
 go_enter Tryz.func132,Tryz.ntmps132
 go_wp2
 go_ret
 exact ⟨rfl,Bel.alloc _ _⟩):p:=h
theorem d2f {p:Prop} (h:p:=by
 replace hs:=look_eval hs
 replace hx:=look_eval hx
 unfold Oper.wp execOp
 simp only [ho,resolve,invoke,builtin,Sem.run_bind,Sem.run_pure,Result.andThen_ok,List.map_toArray,List.map_cons,List.map_nil,hs,hx,hrun]
 exact hk):p:=h
theorem d2g {p:Prop} (h:p:=by
 go_wp2
 refine bodyPost_ret (v:=.int .i64 (-1)) ?_ rfl ⟨by rw [HM.out],(Bel.alloc _ _).trans (Bel.alloc _ _)⟩
 simp [results,Tryz.f108,go_sem]):p:=h
theorem d2h {p:Prop} (h:p:=by
 rw [if_pos hw]
 unfold Oper.wpIn
 refine ⟨fun f hf=>(by rw [hab] at hf;cases hf),?_⟩
 rw [Oper.semAt_plain F _ _ hnd,hrun]
 exact hK _ _ h):p:=h
section
open Go Go.RowKit
section
variable {P:Program} {ops:Array Oper} {Q:Exit→Act→World→Prop} {a:Act} {w:World} {o:Oper} {l n:Nat}
def b4w (o:Oper):Bool:=match o.op with | .defer _=>false|_=>true
theorem g2e (h:b4w o=true):∀ c,o.op ≠ .defer c:=fun c e=>by unfold b4w at h;rw [e] at h;cases h
theorem g2f {K:Act→World→Prop} (hd:∀ c,o.op ≠ .defer c) (h:o.wp P a w K Q):o.wpIn (Fence.wide.inRound l) n P a w K Q:=by
 unfold Oper.wpIn
 refine ⟨fun _ _=>trivial,?_⟩
 rw [Oper.semAt_eq _ _ _ hd]
 unfold Oper.wp at h
 generalize (execOp a.eval o).run P w=r at h ⊢
 have hno:∀ {p:Prop},(Fence.wide.inRound l).depth.isSome=true→p:=fun {p} h=>by simp [Fence.wide,Fence.inRound] at h
 cases r with
 | ok x w'=>
  cases x <;> simp only [Oper.upon,Oper.uponIn] at h ⊢ <;>
   first
    | exact h
    | exact ⟨hno,CallsIn.inRound l (callsIn_wide.2 h)⟩
    | exact ⟨hno,fun c cs _=>let ⟨v,w'',r,s⟩:=h c cs;⟨v,w'',r,stepsIn_wide.2 s⟩⟩
 | halt x w'=>cases x <;> simp only [Oper.upon,Oper.uponIn] at h ⊢ <;> exact h
theorem g2g {i:Nat} {K:Act→World→Prop} (hno:¬ LetsOut Q) (hd:ops.all b4w=true) (h:wpOp P ops Q i K a w):wpOpIn (Fence.wide.inRound l) n P ops Q i K a w:=by
 unfold wpOp at h
 unfold wpOpIn
 split
 ·rename_i ho;simpa only [ho] using h
 ·rename_i o ho
  simp only [ho] at h
  have hdo:b4w o=true:=by
   obtain ⟨hi,rfl⟩:=Array.getElem?_eq_some_iff.1 ho
   exact Array.all_eq_true.1 hd i hi
  split
  ·rename_i hw
   simp only [hw,if_true] at h
   rcases h with h|h
   ·exact g2f (g2e hdo) h
   ·exact absurd h.2 hno
  ·rename_i hw
   simp only [hw] at h
   exact ⟨fun _ _=>trivial,h⟩
theorem d2i {md:Region.Mode} (hno:¬ LetsOut Q) (hd:ops.all b4w=true):∀ (fuel:Nat) (listed:Array Bool) (a:Act) (w:World),wpAny P md ops Q fuel listed a w→wpAnyIn (Fence.wide.inRound l) n P md ops Q fuel listed a w
 | 0,_,_,_,h=>h
 | fuel+1,listed,a,w,h=>⟨h.1,fun i hi=>g2g hno hd (wpOp_mono (fun a w h=>h) (h.2 i hi)) |> wpOpIn_mono fun a w h=>d2i hno hd fuel _ a w h⟩
theorem g2h {id:Nat} {w0:World} {D0 D:List Da} {M:List Mu} (hno:¬ LetsOut Q) (hd:ops.all b4w=true) (hm:P.follows .mixedOrders=true) (hF:St w0 D0 w M D) (Mr:List Mu) (Dr:List Da) (hM:∀ m∈Mr,m∈M) (hD:∀ d∈Dr,d∈D)
  (h:St w0 D0 w.drew M D→Hold w0.heap.size Mr Dr w.drew→wpAnyH P .any ops Q (Hold w0.heap.size Mr Dr) ops.size (Array.replicate ops.size false) a w.drew):(Code.region id ops true).wpIn (Fence.wide.inRound l) n P Q a w :=
 wpIn_region_any hm (d2i hno hd _ _ _ _ (wpAny_of_held _ _ _ _ (h (hF.grow (Bel.drew w)) ((hF.grow (Bel.drew w)).hold hM hD))))
def d2j (B:Nat) (W:World):Da where
 ok w:=KeepsFrom B W w
 bl g:=B≤g ∧ ∃ o,W.heap[g]?=some o∧o.isCells=false
 keep {w w'} hk hs h:=⟨Nat.le_trans h.size hs,fun k o hB hk' ho=>(hk k ⟨hB,o,hk',ho⟩).trans (h.same k o hB hk' ho)⟩
 lt {w} h g hg:=by
  obtain ⟨_,o,ho,_⟩:=hg
  exact Nat.lt_of_lt_of_le (Array.getElem?_eq_some_iff.1 ho).1 h.size
theorem St.keeps {w0:World} {D0 D:List Da} {M:List Mu} (h:St w0 D0 w M D) (B:Nat) (hB:w0.heap.size≤B):St w0 D0 w M (d2j B w::D):=by
 refine ⟨h.bel,h.mu,h.apart,fun d hd=>?_,fun d hd i m hm g hg hdg=>?_,fun d hd=>?_⟩
 ·rcases List.mem_cons.1 hd with rfl|hd
  ·exact KeepsFrom.refl B w
  ·exact h.dat d hd
 ·rcases List.mem_cons.1 hd with rfl|hd
  ·obtain ⟨_,o,ho,hc⟩:=hdg
   have hmu:=h.mu i m hm
   have hcell:∀ g t cs,Bk w g t cs → ∃ o,w.heap[g]?=some o∧o.isCells=true:=fun g t cs hb=>by obtain ⟨r,hr,_⟩:=hb;exact ⟨_,hr,rfl⟩
   have:∃ o,w.heap[g]?=some o∧o.isCells=true:=by
    cases m with
    | blk g' t cs=>simp only [Mu.bl,Option.some.injEq] at hg;subst hg;exact hcell _ _ _ hmu.1
    | own v e sz n xs=>
     rcases hmu.2 with ⟨rfl,_⟩|⟨g',cap,cur,rfl,_,h1,_⟩
     ·simp [Mu.bl,Value.ownBlock] at hg
     ·simp only [Mu.bl,Value.ownBlock,Option.some.injEq] at hg
      subst hg
      exact ⟨_,h1,rfl⟩
    | row A t xs=>
     simp only [Mu.bl] at hg
     split at hg
     ·rename_i hx
      obtain ⟨g',pre,post,rfl,hb,_⟩:=hmu hx
      simp only [Option.map_some,Option.some.injEq] at hg
      subst hg
      exact hcell _ _ _ hb
     ·cases hg
   obtain ⟨o',ho',hc'⟩:=this
   rw [ho] at ho'
   injection ho' with ho'
   subst ho'
   rw [hc] at hc'
   cases hc'
  ·exact h.sep d hd i m hm g hg hdg
 ·rcases List.mem_cons.1 hd with rfl|hd
  ·exact From.new fun g hg=>Nat.le_trans hB hg.1
  ·exact h.src d hd
theorem St.kept {w0 W:World} {D0 D:List Da} {M:List Mu} {B:Nat} (h:St w0 D0 w M D) (hd:d2j B W∈D):KeepsFrom B W w:=h.dat _ hd
theorem St.adopt {w0 w':World} {D0 D:List Da} {M:List Mu} (h:St w0 D0 w M D) (hb:Bel w w') {g:Nat} {t:TypeId} {cs:List Value} (hk:Bk w' g t cs) (hg:w.heap.size≤g):St w0 D0 w' (.blk g t cs::M) D :=
 h.push _ (a6l hb none) ⟨hk,Nat.le_trans h.bel.size hg⟩ fun g' hg'=>by simp only [Mu.bl,Option.some.injEq] at hg';omega
end
end
section
open Go.RowKit
def a5i (op:Int):Int :=
 if op<1∨48<op then 0 else if op≤2 then 6 else if op=3 then 7 else if op=4 then 2 else if op≤10 then 5 else if op≤15 then 2 else if op≤18 then 4 else if op≤24 then 2 else if op≤27 then 3 else if op≤45 then 1 else 8
theorem d2k (op:Int):(op<1∧a5i op=0∧a4p op=false)∨(1≤op∧op≤2∧a5i op=6∧a4p op=true)∨(op=3∧a5i op=7∧a4p op=true)∨(op=4∧a5i op=2∧a4p op=true)∨(5≤op∧op≤10∧a5i op=5∧a4p op=false) ∨
  (11≤op∧op≤15∧a5i op=2∧a4p op=true)∨(16≤op∧op≤18∧a5i op=4∧a4p op=false)∨(19≤op∧op≤24∧a5i op=2∧a4p op=true)∨(25≤op∧op≤27∧a5i op=3∧a4p op=true)∨(28≤op∧op≤45∧a5i op=1∧a4p op=true) ∨
  (46≤op∧op≤48∧a5i op=8∧a4p op=false)∨(49≤op∧a5i op=0∧a4p op=false):=by
 have key:∀ v b,((a5i op=v∧a4p op=b)↔(a5i op=v∧a4p op=b)):=fun _ _=>Iff.rfl
 have hb:∀ (h:(1≤op∧op≤4)∨(11≤op∧op≤15)∨(19≤op∧op≤45)),a4p op=true:=fun h=>by
  unfold a4p;rcases h with h|h|h <;> simp [h]
 have hn:∀ (h:¬ ((1≤op∧op≤4)∨(11≤op∧op≤15)∨(19≤op∧op≤45))),a4p op=false:=fun h=>by
  unfold a4p
  rw [decide_eq_false (fun k=>h (.inl k)),decide_eq_false (fun k=>h (.inr (.inl k))),decide_eq_false (fun k=>h (.inr (.inr k)))];rfl
 unfold a5i
 by_cases h1:op<1
 ·exact .inl ⟨h1,by rw [if_pos (by omega)],hn (by omega)⟩
 refine .inr ?_
 by_cases h2:op≤2
 ·exact .inl ⟨by omega,h2,by rw [if_neg (by omega),if_pos h2],hb (by omega)⟩
 refine .inr ?_
 by_cases h3:op=3
 ·subst h3;exact .inl ⟨rfl,rfl,rfl⟩
 refine .inr ?_
 by_cases h4:op=4
 ·subst h4;exact .inl ⟨rfl,rfl,rfl⟩
 refine .inr ?_
 by_cases h5:op≤10
 ·exact .inl ⟨by omega,h5,by rw [if_neg (by omega),if_neg (by omega),if_neg h3,if_neg h4,if_pos h5],hn (by omega)⟩
 refine .inr ?_
 by_cases h6:op≤15
 ·exact .inl ⟨by omega,h6,by rw [if_neg (by omega),if_neg (by omega),if_neg h3,if_neg h4,if_neg h5,if_pos h6],hb (by omega)⟩
 refine .inr ?_
 by_cases h7:op≤18
 ·exact .inl ⟨by omega,h7,by rw [if_neg (by omega),if_neg (by omega),if_neg h3,if_neg h4,if_neg h5,if_neg h6,if_pos h7],hn (by omega)⟩
 refine .inr ?_
 by_cases h8:op≤24
 ·exact .inl ⟨by omega,h8,by rw [if_neg (by omega),if_neg (by omega),if_neg h3,if_neg h4,if_neg h5,if_neg h6,if_neg h7,if_pos h8],hb (by omega)⟩
 refine .inr ?_
 by_cases h9:op≤27
 ·exact .inl ⟨by omega,h9,by rw [if_neg (by omega),if_neg (by omega),if_neg h3,if_neg h4,if_neg h5,if_neg h6,if_neg h7,if_neg h8,if_pos h9],hb (by omega)⟩
 refine .inr ?_
 by_cases h10:op≤45
 ·exact .inl ⟨by omega,h10,by rw [if_neg (by omega),if_neg (by omega),if_neg h3,if_neg h4,if_neg h5,if_neg h6,if_neg h7,if_neg h8,if_neg h9,if_pos h10],hb (by omega)⟩
 refine .inr ?_
 by_cases h11:op≤48
 ·exact .inl ⟨by omega,h11,by rw [if_neg (by omega),if_neg (by omega),if_neg h3,if_neg h4,if_neg h5,if_neg h6,if_neg h7,if_neg h8,if_neg h9,if_neg h10],hn (by omega)⟩
 exact .inr ⟨by omega,by rw [if_pos (by omega)],hn (by omega)⟩
theorem a7r (op:Int) (w:World) :
  Calls Tryz.prog 107 #[.int .i64 op] w fun e w'=>e = .returned (.int .i64 (a5i op))∧w'=w:=by
 rcases d2k op with ⟨h1,hk,_⟩|⟨h1,h2,hk,_⟩|⟨rfl,hk,_⟩|⟨rfl,hk,_⟩|⟨h1,h2,hk,_⟩|⟨h1,h2,hk,_⟩|⟨h1,h2,hk,_⟩|⟨h1,h2,hk,_⟩|⟨h1,h2,hk,_⟩|⟨h1,h2,hk,_⟩|⟨h1,h2,hk,_⟩|⟨h1,hk,_⟩
 all_goals
  rw [hk]
  clear hk
  go_enter Tryz.func107,Tryz.ntmps107
  go_wp2
  go_ret
  exact ⟨rfl,rfl⟩
theorem g2i (op:Int) (w:World) :
  Calls Tryz.prog 106 #[.int .i64 (a5i op)] w fun e w'=>(∃ b c,e = .returned (.tuple #[.bool (a4p op),b,c]))∧w'=w:=by
 rcases d2k op with ⟨_,hk,hb⟩|⟨_,_,hk,hb⟩|⟨_,hk,hb⟩|⟨_,hk,hb⟩|⟨_,_,hk,hb⟩|⟨_,_,hk,hb⟩|⟨_,_,hk,hb⟩|⟨_,_,hk,hb⟩|⟨_,_,hk,hb⟩|⟨_,_,hk,hb⟩|⟨_,_,hk,hb⟩|⟨_,hk,hb⟩
 all_goals
  rw [hk,hb]
  clear hk hb
  go_enter Tryz.func106,Tryz.ntmps106
  go_wp2
  go_returns
  exact ⟨⟨_,_,rfl⟩,rfl⟩
theorem a7c (i:Ins) (w:World) :
  Calls Tryz.prog 43 #[i.val] w fun e w'=>e = .returned (.int .i64 (a2b i))∧Bel w w':=by
 obtain ⟨op,rd,rs1,rs2,imm⟩:=i
 unfold Ins.val a2b
 simp only
 have HF:=Lib.hid (fun W=>a7r op W)
 have HH:=Lib.hid (fun W=>g2i op W)
 generalize a5i op=f at *
 generalize a4p op=h at *
 cases h
 all_goals
  go_enter Tryz.func43,Tryz.ntmps43
  go_wp2_with ((first|(go_at_call 107;refine (HF.out _).mono ?_;rintro x w1 ⟨rfl,rfl⟩)|(go_at_call 106;refine (HH.out _).mono ?_;rintro x w1 ⟨⟨b,c,rfl⟩,rfl⟩)))
  go_returns
  exact ⟨rfl,Bel.alloc _ _⟩
theorem b7c (i:Ins) (w:World) :
  Calls Tryz.prog 17 #[i.val] w fun e w'=>e = .returned (.tuple #[.int .i64 i.rs1,.int .i64 i.rs2])∧Bel w w':=by
 obtain ⟨op,rd,rs1,rs2,imm⟩:=i
 unfold Ins.val
 go_enter Tryz.func17,Tryz.ntmps17
 go_wp2
 go_region
 go_wp2
 go_returns
 exact ⟨rfl,(Bel.alloc _ _).trans (Bel.drew _)⟩
end
section
open Go.RowKit Wd
def g2j (o:Option Nat):Int:=match o with|some x=>(x:Int)|none=>0
theorem d2l (A:Option Addr) (n c:Nat) (zs:List Nat) (pc:Nat) (w:World) (hr:Rd w w.heap.size 1 A n c (u32v zs)) (hp:pc<4294967296) :
  Calls Tryz.prog 79 #[.slice A n c,.int .u32 (pc:Int)] w fun e w'=>e = .returned (.tuple #[.int .u32 (g2j (a5f zs pc)),.bool (a5f zs pc).isSome])∧Bel w w':=by
 have hl:=hr.u32vlen
 by_cases h:pc % 4=0∧pc / 4<zs.length
 ·refine (Me.Fetch_yes A n c w.heap.size zs pc w hr hp h.1 h.2).mono ?_
  rintro e w' ⟨rfl,hd⟩
  refine ⟨?_,Bel.ofDrew hd⟩
  unfold a5f
  rw [if_pos h.1,List.getElem?_eq_getElem h.2]
  rfl
 ·refine (Me.Fetch_no A n c w.heap.size zs pc w hr hp (by omega)).mono ?_
  rintro e w' ⟨rfl,hd⟩
  refine ⟨?_,Bel.ofDrew hd⟩
  have:a5f zs pc=none:=by
   unfold a5f
   by_cases h4:pc % 4=0
   ·rw [if_pos h4,List.getElem?_eq_none (by omega)]
   ·rw [if_neg h4]
  rw [this]
  rfl
end
section
open Go.RowKit
section
variable {P:Program} {ops:Array Oper} {rest:List Oper} {o:Oper} {a:Act} {Q:Exit→Act→World→Prop} {w:World} {S:World→Prop}
theorem d2m {s f off:Nat} {x:Operand} {cs:List Value} {v:Value} (ho:o.op = .field s x f) (hx:a1b a x=some (.agg cs.toArray)) (hT:FldOne P s f off) (h:wpList P ops Q rest (a.put o.dst v) w) (hv:cs[off]?=some v:=by exact rfl) (hw:Region.wanted o (yielded ops a.tmps)=true:=by rfl):wpList P ops Q (o::rest) a w:=by
 replace hx:=look_eval hx
 obtain ⟨fs,fl,hu,hf,rfl,⟨d,hd,hd1,_⟩⟩:=hT
 refine a2c hw fun K hK=>?_
 have hagg:(isAgg fl.type).run P w = .ok false w:=by
  unfold isAgg
  rw [Sem.run_bind,run_underlying hd w]
  cases d <;> simp_all
 have hp:(part fl.type cs.toArray fl.offset).run P w = .ok v w:=by
  unfold part
  rw [Sem.run_bind,hagg]
  simp [Result.andThen_ok,hv]
 have hrun:(Instr.field s (.agg cs.toArray) f).run P w = .ok v w:=by
  unfold Instr.field
  rw [Sem.run_bind,run_underlying hu w]
  simp [Result.andThen_ok,hf,asAgg,hp]
 unfold Oper.wp execOp
 simp only [ho,hx,hrun,Sem.run_bind,Sem.run_pure,Result.andThen_ok]
 exact hK _ _ h
theorem g2k {x y:Operand} {t t':TypeId} {p q r:Int} (ho:o.op = .binOp .sub t x y t') (hx:a1b a x=some (.int .i64 p)) (hy:a1b a y=some (.int .i64 q)) (hr:p - q=r) (h1 : -9223372036854775808≤r) (h2:r≤9223372036854775807):(execOp a.eval o).run P w = .ok (.value (.int .i64 r)) w:=by
 replace hx:=look_eval hx
 replace hy:=look_eval hy
 subst hr
 unfold execOp
 have hwrap:IntKind.i64.wrap (p - q)=p - q:=by simp only [IntKind.wrap,IntKind.bits,IntKind.signed];simp;omega
 simp only [ho,hx,hy]
 go_simp
theorem c3v {x y:Operand} {t t':TypeId} {p q r:Int} (ho:o.op = .binOp .sub t x y t') (hx:a1b a x=some (.int .i64 p)) (hy:a1b a y=some (.int .i64 q)) (hr:p - q=r:=by assumption) (h1 : -9223372036854775808≤r:=by omega) (h2:r≤9223372036854775807:=by omega) (hw:Region.wanted o (yielded ops a.tmps)=true:=by rfl) :
  YieldsIf P ops S o (.int .i64 r) a:=a1u hw fun w=>g2k ho hx hy hr h1 h2
end
end
section
open Go.RowKit
section
variable {P:Program} {ops:Array Oper} {rest:List Oper} {o:Oper} {a:Act} {Q:Exit→Act→World→Prop} {w0 w:World} {D0 D:List Da} {M:List Mu} {S:World→Prop}
theorem d2n {w:World} {t ty e:TypeId} {z:Value} {sz bytes:Nat} (ht:SlT P t e z sz bytes) {A:Option Addr} {n:Nat} {xs:List Value} (hx:Rd w w.heap.size sz A n n xs)
  {g m:Nat} {us:List Value} (hu:∀ j u,us[j]?=some u→w.cell? ⟨g,j,none⟩=some u) (hl:us.length=m * sz) (h0:0<m) (hm:n+m≤9223372036854775807) (hbytes:(n+m) * bytes≤140737488355328) :
  ∃ v' w',(Builtin.append_ #[t,t] ty #[.slice A n n,.slice (some ⟨g,0,none⟩) m m]).run P w = .ok v' w'∧w'.ownsRow w.heap.size e sz v' (n+m) (xs++us)∧w.grownBy w' none:=by
 obtain ⟨hu',hinfo,hzs,hsz⟩:=ht
 obtain ⟨i,hi,hz,rfl,rfl⟩:=info_parts hinfo
 have hnews:∀ j u,us[j]?=some u→w.cell? ((⟨g,0,none⟩:Addr).add j)=some u:=fun j u h=>by rw [a4u,Nat.zero_add];exact hu j u h
 have hlen:(xs++us).length=(n+m) * i.size:=by rw [List.length_append,hx.len,hl,Nat.add_mul]
 have h63:n+m≤maxLen:=by unfold maxLen;omega
 have grown:(w.drew.alloc (.cells (xs.toArray++us.toArray++Builtin.zeroCells z.cells (grownCap w (n+m) n e - (n+m))) e)).ownsRow w.heap.size e i.size
    (.slice (some ⟨w.heap.size,0,none⟩) (n+m) (grownCap w (n+m) n e)) (n+m) (xs++us) ∧
   w.grownBy (w.drew.alloc (.cells (xs.toArray++us.toArray++Builtin.zeroCells z.cells (grownCap w (n+m) n e - (n+m))) e)) none:=by
  have hge:=grownCap_ge w (n+m) n e
  have hcm:grownCap w (n+m) n e≤maxLen:=grownCap_le_maxLen w (n+m) n e h63
  refine ⟨⟨hlen,.inr ⟨w.heap.size,_,_,rfl,Nat.le_refl _,heap_alloc_new w.drew _,hge,hcm,?_,?_⟩⟩,⟨rfl,rfl,rfl,by simp,fun k hk _=>Go.heap_alloc_old w.drew _ hk⟩⟩
  ·simp only [Array.size_append,List.size_toArray,size_zeroCells,hzs,hx.len,hl,← Nat.add_mul]
   congr 1
   omega
  ·simp only [Array.toList_append,List.append_assoc]
   rw [← List.append_assoc,← hlen]
   exact List.take_left
 cases A with
 | none=>
  obtain rfl:n=0:=by
   rcases Nat.eq_zero_or_pos n with h|h
   ·exact h
   ·obtain ⟨g',f,e',_⟩:=hx.at_ h
    cases e'
  obtain rfl:xs=[]:=List.eq_nil_of_length_eq_zero (by simpa using hx.len)
  have hr:=run_append_nil (P:=P) w t ty e i z hu' hi hz ⟨g,0,none⟩ m m us hl hnews h0 (by omega) (by have hb:=hbytes;simp only [Nat.zero_add] at hb;omega)
  simp only [Nat.zero_add,List.nil_append,Array.empty_append] at grown ⊢
  exact ⟨_,_,hr,grown.1,grown.2⟩
 | some b=>
  have holds:∀ j v,xs[j]?=some v→w.cell? (b.add j)=some v:=by
   intro j v hj
   have h1:=(List.getElem?_eq_some_iff.1 hj).1
   rw [hx.len] at h1
   have hn:0<n:=by
    rcases Nat.eq_zero_or_pos n with h|h
    ·subst h;omega
    ·exact h
   obtain ⟨g',f,e',_,hc⟩:=hx.at_ hn
   injection e' with e'
   subst e'
   rw [a4u]
   exact hc j v hj
  have hr:=run_append_grow (P:=P) w t ty e i z hu' hi hz b n n xs hx.len holds ⟨g,0,none⟩ m m us hl hnews (by omega) (by omega) (c9o (by omega) hbytes)
  exact ⟨_,_,hr,grown.1,grown.2⟩
theorem b4x {t e:TypeId} {s x:Operand} {z:Value} {sz bytes:Nat} {A:Option Addr} {n g m j:Nat} {us xs:List Value} {M':List Mu} (ho:o.op = .call { callee:=.builtin .append,args:=#[s,x],argTypes:=#[t,t] }) (hF:St w0 D0 w M D)
  (hs:a1b a s=some (.slice A n n)) (hx:a1b a x=some (.slice (some ⟨g,0,none⟩) m m)) (h:∀ v' w',St w0 D0 w' (.own v' e sz (n+m) (xs++us)::M') D→wpList P ops Q rest (a.put o.dst v') w') (hgd:o.guard=none:=by rfl) (ht:SlT P t e z sz bytes:=by exact a3o _ _ _ _ _ rfl)
  (hd:a1a sz A n n xs∈D:=by exact zdm) (hj:M[j]?=some (.own (.slice (some ⟨g,0,none⟩) m m) e sz m us):=by exact zat) (h0:0<m:=by (first|assumption|omega|exact Nat.zero_lt_of_lt (by assumption)|exact Nat.succ_pos _))
  (h63:(n+m) * bytes≤140737488355328:=by omega) (hm:n+m≤9223372036854775807:=by omega) (hM:M.eraseIdx j=M':=by first|(simp only [zF];exact rfl)|(simp only [zF];done)|exact rfl):wpList P ops Q (o::rest) a w:=by
 subst hM
 have hown:=hF.ownAt hj
 obtain ⟨v',w',hrun,hown',hg⟩:=d2n (ty:=o.type) ht (hF.rd hd) (fun j' u hu=>hF.ownCell hj j' u hu) hown.1 h0 hm h63
 have hF':=(hF.drop j).pushOwn (M:=M.eraseIdx j) ⟨hg.os,hg.tape,hg.output,hg.size,fun k hk=>hg.block k hk (by simp)⟩ hown'
 refine wpList_plain hgd fun K hK=>?_
 have hk:=hK _ _ (h v' w' hF')
 exact d2f
theorem d2o {w:World} {t e:TypeId} {z:Value} {sz bytes:Nat} (ht:SlT P t e z sz bytes) {A:Option Addr} {n c N:Nat} {ki kj:IntKind} (hN:N≤c) :
  (Instr.sliceAt t (.slice A n c) none (some (.int ki (N:Int))) (some (.int kj (N:Int)))).run P w = .ok (.slice A N N) w:=by
 obtain ⟨hu,hi,_,_⟩:=ht
 have hs:(sizeOf e).run P w = .ok sz w:=by
  cases hq:P.info? e with
  | none=>simp [hq] at hi
  | some i=>
   simp only [hq,Option.map_some,Option.some.injEq,Prod.mk.injEq] at hi
   simp [sizeOf,typeInfo,hq,hi.2.1]
 have h1:(0:Int)≤(N:Int)∧(N:Int)≤(c:Int):=by omega
 have ha:∀ b:Addr,b.add 0=b:=fun b=>by unfold Addr.add;simp
 have hel:P.elem t=e:=by simp [Program.elem,hu]
 have h2:(Instr.slice t (.slice A n c) none (some (.int ki (N:Int))) (some (.int kj (N:Int)))).run P w = .ok (.slice A N N) w:=by
  simp [Instr.slice,Instr.sliceBounds,Instr.sliceBound,run_underlying hu,asIntOf,hs,h1,ha]
  intro h;omega
 rw [run_sliceAt_slice (P:=P) (w:=w) t _ _ _ _ (by rw [hel];exact hu)]
 exact h2
theorem y_to3 {t e:TypeId} {x y y':Operand} {A:Option Addr} {n c N:Nat} {ki kj:IntKind} {z:Value} {sz bytes:Nat} (ho:o.op = .slice t x none (some y) (some y')) (hx:a1b a x=some (.slice A n c)) (hy:a1b a y=some (.int ki (N:Int))) (hy':a1b a y'=some (.int kj (N:Int)))
  (ht:SlT P t e z sz bytes:=by exact a3o _ _ _ _ _ rfl) (hw:Region.wanted o (yielded ops a.tmps)=true:=by rfl) (hN:N≤c:=by (first|assumption|omega)):YieldsIf P ops S o (.slice A N N) a:=by
 replace hx:=look_eval hx
 replace hy:=look_eval hy
 replace hy':=look_eval hy'
 refine a1u hw fun w=>?_
 unfold execOp
 simp only [ho,hx,hy,hy',Option.map_some,Option.map_none,d2o ht hN,Sem.run_bind,Sem.run_pure,Result.andThen_ok]
theorem w_to3 {t e:TypeId} {x y y':Operand} {A:Option Addr} {n c N:Nat} {ki kj:IntKind} {z:Value} {sz bytes:Nat} (ho:o.op = .slice t x none (some y) (some y')) (hx:a1b a x=some (.slice A n c)) (hy:a1b a y=some (.int ki (N:Int))) (hy':a1b a y'=some (.int kj (N:Int)))
  (h:wpList P ops Q rest (a.put o.dst (.slice A N N)) w) (ht:SlT P t e z sz bytes:=by exact a3o _ _ _ _ _ rfl) (hw:Region.wanted o (yielded ops a.tmps)=true:=by rfl) (hN:N≤c:=by (first|assumption|omega)):wpList P ops Q (o::rest) a w:=by
 replace hx:=look_eval hx
 replace hy:=look_eval hy
 replace hy':=look_eval hy'
 refine a2c hw fun K hK=>?_
 unfold Oper.wp execOp
 simp only [ho,hx,hy,hy',Option.map_some,Option.map_none,d2o ht hN,Sem.run_bind,Sem.run_pure,Result.andThen_ok]
 exact hK _ _ h
theorem St.clip (h:St w0 D0 w M D) {sz n c N:Nat} {A:Option Addr} {xs:List Value} (hd:a1a sz A n c xs∈D) (hN:N≤n):St w0 D0 w M (a1a sz A N N (xs.take (N * sz))::D):=by
 have hr:=h.rd hd
 refine h.part (a1a sz A N N (xs.take (N * sz))) ?_ fun g hg=>⟨_,hd,by obtain ⟨hn,p⟩:=hg;exact ⟨by omega,p⟩⟩
 have h2:=hr.to hN
 exact ⟨h2.len,Nat.le_refl _,by have:=hr.le;have:=hr.mx;omega,h2.at_⟩
end
end
section
open Go.RowKit
theorem g2l {x:Int} (h0:0≤x) (h1:x<18446744073709551616):IntKind.u64.wrap x=x:=by
 simp only [IntKind.wrap,IntKind.bits,IntKind.signed];simp;omega
section
variable {P:Program} {ops:Array Oper} {rest:List Oper} {o:Oper} {a:Act} {Q:Exit→Act→World→Prop} {w:World} {S:World→Prop}
theorem g2m {src dst:TypeId} {x:Operand} {p:Nat} (ho:o.op = .convert src dst x) (hx:a1b a x=some (.int .u32 (p:Int))) (hp:p<4294967296) (hs:P.underlying src=some (.int .u32)) (hd:P.underlying dst=some (.int .u64)):(execOp a.eval o).run P w = .ok (.value (.int .u64 (p:Int))) w:=by
 replace hx:=look_eval hx
 unfold execOp
 simp only [ho,hx]
 simp [convert,run_underlying hs,run_underlying hd,g2l (x:=(p:Int)) (by omega) (by omega),go_sem]
theorem w_cvt64 {src dst:TypeId} {x:Operand} {p:Nat} (ho:o.op = .convert src dst x) (hx:a1b a x=some (.int .u32 (p:Int))) (hs:P.underlying src=some (.int .u32)) (hd:P.underlying dst=some (.int .u64)) (h:wpList P ops Q rest (a.put o.dst (.int .u64 (p:Int))) w) (hp:p<4294967296:=by (first|assumption|omega)) (hw:Region.wanted o (yielded ops a.tmps)=true:=by rfl):wpList P ops Q (o::rest) a w:=by
 refine a2c hw fun K hK=>?_
 unfold Oper.wp
 rw [g2m ho hx hp hs hd]
 exact hK _ _ h
theorem g2n {x y:Operand} {t t':TypeId} {k:IntKind} {p q:Int} (ho:o.op = .binOp .lss t x y t') (hx:a1b a x=some (.int k p)) (hy:a1b a y=some (.int k q)):(execOp a.eval o).run P w = .ok (.value (.bool (decide (p<q)))) w:=by
 exact b9q
theorem w_lssH {x y:Operand} {t t':TypeId} {k:IntKind} {p q:Int} {b:Bool} (ho:o.op = .binOp .lss t x y t') (hx:a1b a x=some (.int k p)) (hy:a1b a y=some (.int k q)) (h:wpList P ops Q rest (a.put o.dst (.bool b)) w) (hb:Hid (decide (p<q)=b):=by first|(with_reducible assumption)|assumption) (hw:Region.wanted o (yielded ops a.tmps)=true:=by rfl):wpList P ops Q (o::rest) a w:=by
 have hpq:=hb.out
 subst hpq
 refine a2c hw fun K hK=>?_
 unfold Oper.wp
 rw [g2n ho hx hy]
 exact hK _ _ h
theorem g2o {x y:Operand} {t t':TypeId} {k:IntKind} {p q:Int} (ho:o.op = .binOp .leq t x y t') (hx:a1b a x=some (.int k p)) (hy:a1b a y=some (.int k q)):(execOp a.eval o).run P w = .ok (.value (.bool (decide (p≤q)))) w:=by
 exact b9q
theorem w_leqH {x y:Operand} {t t':TypeId} {k:IntKind} {p q:Int} {b:Bool} (ho:o.op = .binOp .leq t x y t') (hx:a1b a x=some (.int k p)) (hy:a1b a y=some (.int k q)) (h:wpList P ops Q rest (a.put o.dst (.bool b)) w) (hb:Hid (decide (p≤q)=b):=by first|(with_reducible assumption)|assumption) (hw:Region.wanted o (yielded ops a.tmps)=true:=by rfl):wpList P ops Q (o::rest) a w:=by
 have hpq:=hb.out
 subst hpq
 refine a2c hw fun K hK=>?_
 unfold Oper.wp
 rw [g2o ho hx hy]
 exact hK _ _ h
theorem d2p {x y:Operand} {t t':TypeId} {k:IntKind} {p q:Int} (ho:o.op = .binOp .gtr t x y t') (hx:a1b a x=some (.int k p)) (hy:a1b a y=some (.int k q)):(execOp a.eval o).run P w = .ok (.value (.bool (decide (q<p)))) w:=by
 exact b9q
theorem w_gtrH {x y:Operand} {t t':TypeId} {k:IntKind} {p q:Int} {b:Bool} (ho:o.op = .binOp .gtr t x y t') (hx:a1b a x=some (.int k p)) (hy:a1b a y=some (.int k q)) (h:wpList P ops Q rest (a.put o.dst (.bool b)) w) (hb:Hid (decide (q<p)=b):=by first|(with_reducible assumption)|assumption) (hw:Region.wanted o (yielded ops a.tmps)=true:=by rfl):wpList P ops Q (o::rest) a w:=by
 have hpq:=hb.out
 subst hpq
 refine a2c hw fun K hK=>?_
 unfold Oper.wp
 rw [d2p ho hx hy]
 exact hK _ _ h
theorem d2q {x y:Operand} {t t':TypeId} {k:IntKind} {p q:Int} {b:Bool} (ho:o.op = .binOp .gtr t x y t') (hx:a1b a x=some (.int k p)) (hy:a1b a y=some (.int k q)) (hb:Hid (decide (q<p)=b):=by first|(with_reducible assumption)|assumption) (hw:Region.wanted o (yielded ops a.tmps)=true:=by rfl):YieldsIf P ops S o (.bool b) a :=
 a1u hw fun w=>by rw [← hb.out];exact d2p ho hx hy
theorem d2r {x y:Operand} {t t':TypeId} {k:IntKind} {p q:Int} (ho:o.op = .binOp .geq t x y t') (hx:a1b a x=some (.int k p)) (hy:a1b a y=some (.int k q)):(execOp a.eval o).run P w = .ok (.value (.bool (decide (q≤p)))) w:=by
 exact b9q
theorem w_geqH {x y:Operand} {t t':TypeId} {k:IntKind} {p q:Int} {b:Bool} (ho:o.op = .binOp .geq t x y t') (hx:a1b a x=some (.int k p)) (hy:a1b a y=some (.int k q)) (h:wpList P ops Q rest (a.put o.dst (.bool b)) w) (hb:Hid (decide (q≤p)=b):=by first|(with_reducible assumption)|assumption) (hw:Region.wanted o (yielded ops a.tmps)=true:=by rfl):wpList P ops Q (o::rest) a w:=by
 have hpq:=hb.out
 subst hpq
 refine a2c hw fun K hK=>?_
 unfold Oper.wp
 rw [d2r ho hx hy]
 exact hK _ _ h
theorem a9n {x y:Operand} {t t':TypeId} {k:IntKind} {p q:Int} {b:Bool} (ho:o.op = .binOp .geq t x y t') (hx:a1b a x=some (.int k p)) (hy:a1b a y=some (.int k q)) (hb:Hid (decide (q≤p)=b):=by first|(with_reducible assumption)|assumption) (hw:Region.wanted o (yielded ops a.tmps)=true:=by rfl):YieldsIf P ops S o (.bool b) a :=
 a1u hw fun w=>by rw [← hb.out];exact d2r ho hx hy
theorem d2s {x y:Operand} {t t':TypeId} {k:IntKind} {p q:Int} (ho:o.op = .binOp .eql t x y t') (hx:a1b a x=some (.int k p)) (hy:a1b a y=some (.int k q)):(execOp a.eval o).run P w = .ok (.value (.bool (decide (p=q)))) w:=by
 replace hx:=look_eval hx
 replace hy:=look_eval hy
 unfold execOp
 simp only [ho,hx,hy]
 by_cases h:p=q
 ·subst h
  go_simp
 ·rw [decide_eq_false h]
  go_simp
theorem g2p {x y:Operand} {t t':TypeId} {k:IntKind} {p q:Int} (ho:o.op = .binOp .neq t x y t') (hx:a1b a x=some (.int k p)) (hy:a1b a y=some (.int k q)):(execOp a.eval o).run P w = .ok (.value (.bool (decide (¬ p=q)))) w:=by
 replace hx:=look_eval hx
 replace hy:=look_eval hy
 unfold execOp
 simp only [ho,hx,hy]
 by_cases h:p=q
 ·subst h
  go_simp
 ·rw [decide_eq_true h]
  go_simp
theorem w_eqlH {x y:Operand} {t t':TypeId} {k:IntKind} {p q:Int} {b:Bool} (ho:o.op = .binOp .eql t x y t') (hx:a1b a x=some (.int k p)) (hy:a1b a y=some (.int k q)) (h:wpList P ops Q rest (a.put o.dst (.bool b)) w) (hb:Hid (decide (p=q)=b):=by first|(with_reducible assumption)|assumption) (hw:Region.wanted o (yielded ops a.tmps)=true:=by rfl):wpList P ops Q (o::rest) a w:=by
 have hpq:=hb.out
 subst hpq
 refine a2c hw fun K hK=>?_
 unfold Oper.wp
 rw [d2s ho hx hy]
 exact hK _ _ h
theorem b4y {x y:Operand} {t t':TypeId} {k:IntKind} {p q:Int} {b:Bool} (ho:o.op = .binOp .eql t x y t') (hx:a1b a x=some (.int k p)) (hy:a1b a y=some (.int k q)) (hb:Hid (decide (p=q)=b):=by first|(with_reducible assumption)|assumption) (hw:Region.wanted o (yielded ops a.tmps)=true:=by rfl):YieldsIf P ops S o (.bool b) a :=
 a1u hw fun w=>by rw [← hb.out];exact d2s ho hx hy
theorem w_neqH {x y:Operand} {t t':TypeId} {k:IntKind} {p q:Int} {b:Bool} (ho:o.op = .binOp .neq t x y t') (hx:a1b a x=some (.int k p)) (hy:a1b a y=some (.int k q)) (h:wpList P ops Q rest (a.put o.dst (.bool b)) w) (hb:Hid (decide (¬ p=q)=b):=by first|(with_reducible assumption)|assumption) (hw:Region.wanted o (yielded ops a.tmps)=true:=by rfl):wpList P ops Q (o::rest) a w:=by
 have hpq:=hb.out
 subst hpq
 refine a2c hw fun K hK=>?_
 unfold Oper.wp
 rw [g2p ho hx hy]
 exact hK _ _ h
end
end
section
open Go.RowKit
def apD (o:Bool) (sz:Nat) (A:Option Addr) (n c:Nat) (xs:List Value):Da:=match o with
 | false=>a1a sz A n c xs
 | true=>a1a 1 none 0 0 []
def apM (o:Bool) (t:TypeId) (sz:Nat) (A:Option Addr) (n c:Nat) (xs:List Value):Mu:=match o with
 | false=>.row none t []
 | true=>.own (.slice A n c) t sz n xs
theorem a1h {sz n c:Nat} {A:Option Addr} {xs:List Value}:apD false sz A n c xs=a1a sz A n c xs:=rfl
theorem c3w {sz n c:Nat} {A:Option Addr} {xs:List Value}:apD true sz A n c xs=a1a 1 none 0 0 []:=rfl
theorem b9s {sz n c:Nat} {t:TypeId} {A:Option Addr} {xs:List Value}:apM false t sz A n c xs = .row none t []:=rfl
theorem g2q {sz n c:Nat} {t:TypeId} {A:Option Addr} {xs:List Value}:apM true t sz A n c xs = .own (.slice A n c) t sz n xs:=rfl
section
variable {P:Program} {ops:Array Oper} {rest:List Oper} {o:Oper} {a:Act} {Q:Exit→Act→World→Prop} {w0 w:World} {D0 D:List Da} {M:List Mu}
theorem St.nothing (h:St w0 D0 w M D):St w0 D0 w M (a1a 1 none 0 0 []::D) :=
 h.part _ ⟨rfl,Nat.le_refl _,by unfold maxLen;omega,fun hn=>absurd hn (by omega)⟩ fun g hg=>by obtain ⟨hn,_⟩:=hg;omega
theorem a6o {t e:TypeId} {s x:Operand} {z:Value} {sz bytes:Nat} {A:Option Addr} {n c g m j i:Nat} {b:Bool} {us xs:List Value} {M':Option Addr→Nat→List Mu} (ho:o.op = .call { callee:=.builtin .append,args:=#[s,x],argTypes:=#[t,t] }) (hF:St w0 D0 w M D)
  (hs:a1b a s=some (.slice A n c)) (hx:a1b a x=some (.slice (some ⟨g,0,none⟩) m m)) (h:∀ A' c' w',St w0 D0 w' (M' A' c') (a1a 1 none 0 0 []::D)→wpList P ops Q rest (a.put o.dst (.slice A' (n+m) c')) w')
  (hi:M[i]?=some (apM b e sz A n c xs)) (hj:M[j]?=some (.own (.slice (some ⟨g,0,none⟩) m m) e sz m us)) (hij:i≠j) (hfull:b=false→c=n)
  (hgd:o.guard=none:=by rfl) (ht:SlT P t e z sz bytes:=by exact a3o _ _ _ _ _ rfl) (hd:apD b sz A n c xs∈D:=by exact zdm) (h1:∀ u∈us,a7v M u:=by exact b1x) (h0:0<m:=by (first|assumption|omega|exact Nat.zero_lt_of_lt (by assumption)|exact Nat.succ_pos _))
  (h63:(n+m) * bytes≤140737488355328:=by omega) (hm:n+m≤9223372036854775807:=by omega) (hM:∀ A' c',(M.set i (Mu.own (.slice A' (n+m) c') e sz (n+m) (xs++us))).eraseIdx j=M' A' c':=by first|(simp only [zF];exact fun _ _=>rfl)|(simp only [zF];done)|exact fun _ _=>rfl):wpList P ops Q (o::rest) a w:=by
 cases b with
 | true=>
  rw [g2q] at hi
  refine w_app (M':=fun v'=>(M.set i (Mu.own v' e sz (n+m) (xs++us))).eraseIdx j) ho hF hs hx ?_ hgd ht hj hi h1 h63 hm (fun _=>rfl)
  intro v' w' hF'
  have hil:i<M.length:=(List.getElem?_eq_some_iff.1 hi).1
  have hi':∃ i':Nat,((M.set i (Mu.own v' e sz (n+m) (xs++us))).eraseIdx j)[i']?=some (Mu.own v' e sz (n+m) (xs++us)):=by
   rcases Nat.lt_or_gt_of_ne hij with h|h
   ·exact ⟨i,by rw [List.getElem?_eraseIdx,if_pos h,List.getElem?_set_self hil]⟩
   ·exact ⟨i - 1,by rw [List.getElem?_eraseIdx,if_neg (by omega),show i - 1+1=i by omega,List.getElem?_set_self hil]⟩
  obtain ⟨i',hi'⟩:=hi'
  obtain ⟨g',cap,rfl,h2,h3⟩:=hF'.ownSome hi' (by omega)
  exact h _ _ _ (by rw [← hM];exact hF'.nothing)
 | false=>
  rw [b9s] at hi
  rw [a1h] at hd
  obtain rfl:=hfull rfl
  have hown:=hF.ownAt hj
  obtain ⟨v',w',hrun,hown',hg⟩:=d2n (ty:=o.type) ht (hF.rd hd) (fun j' u hu=>hF.ownCell hj j' u hu) hown.1 h0 hm h63
  have hb0:(Mu.row none e []).bl=none:=by simp [Mu.bl]
  have hF':=hF.upd i _ (.own v' e sz (c+m) (xs++us)) hi (by rw [hb0];exact hg) (c9h hown' hF.bel.size) fun g hg'=>.inr (World.ownsRow.lt hown' g hg').1
  have hil:i<M.length:=(List.getElem?_eq_some_iff.1 hi).1
  obtain ⟨g',cap,rfl,h2,h3⟩:=hF'.ownSome (i:=i) (List.getElem?_set_self hil) (by omega)
  replace hF':=hF'.drop j
  rw [hM] at hF'
  refine wpList_plain hgd fun K hK=>?_
  have hk:=hK _ _ (h _ _ w' hF'.nothing)
  exact d2f
theorem St.apEnd (h:St w0 D0 w M D) {i:Nat} {b:Bool} {t:TypeId} {sz:Nat} {A:Option Addr} {n c:Nat} {xs:List Value} (hi:M[i]?=some (apM b t sz A n c xs)) (hd:apD b sz A n c xs∈D):St w0 D0 w (M.eraseIdx i) (a1a sz A n c xs::D):=by
 cases b with
 | false=>
  refine (h.drop i).lessD (D':=a1a sz A n c xs::D) ?_
  intro d hd'
  rcases List.mem_cons.1 hd' with rfl|h1
  ·exact hd
  ·exact h1
 | true=>
  obtain ⟨A',c',e,h'⟩:=h.freeze i hi
  injection e with e1 e2 e3
  subst e1 e3
  exact h'
end
end
section
open Go.RowKit Wd
instance slsRows : Rows sls Sl.cells 2:=⟨fun _=>rfl,fun _=>rfl,Sl.one,by decide⟩
instance slsOne (q:List Sl):OneC (sls q):=⟨c9g q⟩
instance slOne (r:Sl):OneC r.cells:=⟨r.one⟩
def gv (As:Option Addr) (ns cs:Nat) (h:Nat) (Ar:Option Addr) (nr cr:Nat):Value:=.agg #[.slice As ns cs,.int .u32 (h:Int),.slice Ar nr cr]
theorem g2r (i:Ins) (w:World) :
  Calls Tryz.prog 131 #[i.val] w fun e w'=>e = .returned (.bool (b4v i))∧Bel w w':=by
 obtain ⟨op,rd,rs1,rs2,imm⟩:=i
 obtain ⟨b,hb⟩:∃ b,b4v ⟨op,rd,rs1,rs2,imm⟩=b:=⟨_,rfl⟩
 rw [hb]
 simp only [b4v] at hb
 unfold Ins.val
 by_cases h3:op=3
 ·subst h3
  exact d2e
 ·by_cases h4:op=4
  ·subst h4
   exact d2e
  ·obtain rfl:b=false:=by rw [← hb];simp [h3,h4]
   have b3:(op == 3)=false:=by simpa using h3
   have b4:(op == 4)=false:=by simpa using h4
   clear hb h3 h4
   go_enter Tryz.func131,Tryz.ntmps131
   go_wp2
   go_ret
   exact ⟨rfl,Bel.alloc _ _⟩
theorem d2t (i:Ins) (w:World) :
  Calls Tryz.prog 132 #[i.val] w fun e w'=>e = .returned (.bool (b1e i))∧Bel w w':=by
 obtain ⟨op,rd,rs1,rs2,imm⟩:=i
 obtain ⟨b,hb⟩:∃ b,b1e ⟨op,rd,rs1,rs2,imm⟩=b:=⟨_,rfl⟩
 rw [hb]
 simp only [b1e] at hb
 unfold Ins.val
 cases h4:(op == 4)
 ·obtain rfl:b=false:=by rw [← hb];simp at h4;simp [h4]
  exact b9r
 ·cases h0:(rd == 0)
  ·obtain rfl:b=false:=by rw [← hb];simp at h0;simp [h0]
   exact b9r
  ·cases h1:(rs1 == 1)
   ·obtain rfl:b=false:=by rw [← hb];simp at h1;simp [h1]
    exact b9r
   ·obtain rfl:b=true:=by rw [← hb];simp at h0 h1 h4;simp [h0,h1,h4]
    exact b9r
theorem d2u (As Ar:Option Addr) (ns cs h nr cr pc:Nat) (sl:List Sl) (rets:List Nat) (w:World) (hp:pc<4294967296) (hh:h<4294967296) :
  Calls Tryz.prog 130 #[gv As ns cs h Ar nr cr,.int .u32 (pc:Int)] w fun e w'=>e = .returned (.int .i64 ((a6g ⟨sl,h,rets⟩ pc:Nat):Int))∧Bel w w':=by
 have hx:=u32_xor_nat (pc / 4) h (by omega) hh
 have hs:a6g ⟨sl,h,rets⟩ pc=(pc / 4 ^^^ h) % 8:=rfl
 have hc:(((pc / 4:Nat):Int))=(pc:Int) / 4:=by omega
 rw [hc] at hx
 rw [hs]
 clear hs hc
 generalize pc / 4 ^^^ h=x at *
 unfold gv
 go_enter Tryz.func130,Tryz.ntmps130
 go_wp2
 go_ret
 exact ⟨b6g (by omega),Bel.alloc _ _⟩
theorem b9t (As Ar:Option Addr) (cs h nr cr:Nat) (w:World) (h1:h<8) (h2:nr≤4) :
  Calls Tryz.prog 55 #[gv As 8 cs h Ar nr cr] w fun e w'=>e = .returned (.bool true)∧Bel w w':=by
 have hd:decide ((nr:Int)≤4)=true:=by simp;omega
 unfold gv
 go_enter Tryz.func55,Tryz.ntmps55
 go_wp2
 go_ret
 exact ⟨rfl,Bel.alloc _ _⟩
end
section
open Go.RowKit Go.Sort
def SOk (S:List Cs):Prop:=∀ s∈S,∀ v∈s.ws,v.line<4294967296∧v.data.size≤maxLen
theorem g2s (n:Nat) (ways:Int) :
  ((n=1∨n=2∨n=4)∧(ways=1∨ways=2)) ∨
  (((n:Int) != 1)=true∧((n:Int) != 2)=true∧((n:Int) != 4)=true ∧ ¬ (n=1∨n=2∨n=4)) ∨
  ((n=1∨n=2∨n=4)∧(ways != 1)=true∧(ways != 2)=true ∧ ¬ (ways=1∨ways=2)):=by
 by_cases hn:n=1∨n=2∨n=4
 ·by_cases hw:ways=1∨ways=2
  ·exact .inl ⟨hn,hw⟩
  ·exact .inr (.inr ⟨hn,by simp;omega,by simp;omega,hw⟩)
 ·exact .inr (.inl ⟨by simp;omega,by simp;omega,by simp;omega,hn⟩)
theorem g2t (ways:Int) (A:Option Addr) (n c:Nat) (w:World) (hc:n≤c) (hm:c≤maxLen) (h:¬ ((n=1∨n=2∨n=4)∧(ways=1∨ways=2))) :
  Calls Tryz.prog 120 #[.agg #[.int .i64 ways,.slice A n c]] w fun e w'=>e = .returned (.bool false)∧Bel w w':=by
 unfold maxLen at hm
 rcases g2s n ways with h'|⟨b1,b2,b3,_⟩|⟨hn,b1,b2,_⟩
 ·exact absurd h' h
 ·clear h
  go_enter Tryz.func120,Tryz.ntmps120
  go_wp2
  go_ret
  exact ⟨rfl,Bel.alloc _ _⟩
 ·clear h
  rcases hn with rfl|rfl|rfl
  all_goals
   go_enter Tryz.func120,Tryz.ntmps120
   go_wp2
   go_ret
   exact ⟨rfl,Bel.alloc _ _⟩
theorem way_dup {n k j i:Nat} {ws:List Wy} {v u:Wy} (ha:At (ws.take j) v.line i u):¬ b1s n k ws j v:=by
 intro h
 have hi:=(List.getElem?_eq_some_iff.1 ha.is).1
 rw [List.length_take] at hi
 have hu:=ha.is
 rw [List.getElem?_take,if_pos (by omega)] at hu
 exact h.2.2.2 i (by omega) u hu ha.line
theorem way_step {n k j:Nat} {ws:List Wy} {v:Wy} (hin:∀ i<j,∀ v,ws[i]?=some v→b1s n k ws i v) (hat:ws[j]?=some v) (h16:v.line % 16=0) (hkk:v.line / 16 % n=k) (hsz:v.data.size=0∨v.data.size=16) (hni:a9y (ws.take j) v.line) :
  ∀ i<j+1,∀ v,ws[i]?=some v→b1s n k ws i v:=by
 intro i hi v' hv'
 rcases Nat.lt_or_ge i j with h|h
 ·exact hin i h v' hv'
 ·obtain rfl:i=j:=by omega
  rw [hat] at hv'
  injection hv' with hv'
  subst hv'
  refine ⟨h16,hkk,hsz,fun l hl u hu=>hni u ?_⟩
  rw [List.mem_iff_getElem?]
  exact ⟨l,by rw [List.getElem?_take,if_pos hl];exact hu⟩
theorem g2u (ways:Int) (A:Option Addr) (n c:Nat) (S:List Cs) (w:World) (hr:RdS w w.heap.size A n c S) (ho:SOk S) (hn:n=1∨n=2∨n=4) (hw:ways=1∨ways=2) (b:Bool) (hb:b=true ↔ ∀ k s,(a1j S)[k]?=some s→a7i n ways k s) :
  Calls Tryz.prog 120 #[.agg #[.int .i64 ways,.slice A n c]] w fun e w'=>e = .returned (.bool b)∧Bel w w':=by
 have hc1:=hr.rd.le
 have hc2:=hr.rd.mx
 unfold maxLen at hc2
 have Hb:=Lib.hid hb
 have Ho:=Lib.hid ho
 have Hsl:=Lib.hid hr.slen
 clear hb ho
 go_enter Tryz.func120,Tryz.ntmps120
 go_upto_region 2 with (fail)
 go_cut [32] (fun s wx=>s = .bool false∧wx=w.alloc (.cells #[.int .i64 ways,.slice A n c] 35))
 case first=>
  rcases hn with rfl|rfl|rfl <;> rcases hw with rfl|rfl <;> (go_wp2;go_meet;exact ⟨rfl,rfl⟩)
 case rest=>
  obtain ⟨rfl,rfl⟩:=hcut
  have hkC:=Bk.new' w 35 [.int .i64 ways,.slice A n c] w.heap.size rfl
  have hbel:=Bel.alloc w (.cells [Value.int .i64 ways,.slice A n c].toArray 35)
  revert hkC hbel
  generalize w.alloc _=W0
  intro hkC hbel
  have cw0:=hkC.cell_of 0 _ rfl
  have cw1:=hkC.cell_of 1 _ rfl
  replace hbel:=Lib.hid hbel
  replace hr:=hr.bel hbel.out
  go_wp2
  replace hn:=Lib.hid hn
  replace hw:=Lib.hid hw
  go_loopw [36] (fun i wr=>∃ k:Nat,k≤n∧i = .int .i64 (k:Int)∧(∀ k'<k,∀ s,(a1j S)[k']?=some s→a7i n ways k' s)∧Bel W0 wr) (fun i _=>n - (intOf i).toNat)
  case atStart=>exact ⟨0,by omega,rfl,fun k' h=>absurd h (by omega),Bel.refl W0⟩
  case round=>
   obtain ⟨k,hk,rfl,hall,hbw⟩:=hrel
   replace hall:=Lib.hid hall
   by_cases hkn:k<n
   ·obtain ⟨hl,g0,o0,rfl,hg0,hcs,hset⟩:=(hr.bel hbw).at_ hkn
    have hso:=Ho.out _ (List.getElem_mem hl)
    have hcont:=c3j hl
    obtain ⟨s,hs⟩:∃ s,S[k]'hl=s:=⟨_,rfl⟩
    rw [hs] at hcs hset hso hcont
    clear hs
    obtain ⟨sA,m,sc,ws⟩:=s
    simp only at hcs hset hso hcont
    replace hcont:=Lib.hid hcont
    replace hso:=Lib.hid hso
    have hm1:=hset.le
    have hm2:=hset.mx
    unfold maxLen at hm2
    have hwl:=Lib.hid hset.wyslen
    have cw0':=hbw.cell_of cw0
    have cw1':=hbw.cell_of cw1
    by_cases hlen:(m:Int)≤ways
    ·have hd:decide (ways<(m:Int))=false:=by simpa using hlen
     obtain ⟨wo,rfl⟩:∃ wo:World,wo=wr:=⟨_,rfl⟩
     have hsetW:=hset
     replace hset:=Lib.hid hset
     replace hlen:=Lib.hid hlen
     go_wp2
     go_loopw [48] (fun i wr=>∃ j:Nat,j≤m∧i = .int .i64 (j:Int)∧(∀ i<j,∀ v,ws[i]?=some v→b1s n k ws i v)∧Bel wo wr) (fun i _=>m - (intOf i).toNat)
     case atStart=>exact ⟨0,by omega,rfl,fun i h=>absurd h (by omega),Bel.refl wo⟩
     case round=>
      obtain ⟨j,hj,rfl,hin,hbi⟩:=hrel
      replace hin:=Lib.hid hin
      by_cases hjm:j<m
      ·obtain ⟨hlj,g,o,rfl,hg,hce⟩:=(hset.out.bel hbi).wyselem hjm
       have hat:ws[j]?=some (ws[j]'hlj):=List.getElem?_eq_getElem hlj
       have hvo:=hso.out _ (List.getElem_mem hlj)
       obtain ⟨v,hv⟩:∃ v,ws[j]'hlj=v:=⟨_,rfl⟩
       rw [hv] at hce hat hvo
       clear hv
       replace hce:=Lib.hid hce
       replace hat:=Lib.hid hat
       obtain ⟨hv1,hv2⟩:=hvo
       unfold maxLen at hv2
       have hBad:Hid (¬ b1s n k ws j v→b=false):=by
        show ¬ b1s n k ws j v→b=false
        intro hno
        cases hbb:b
        ·rfl
        ·exact absurd ((Hb.out.1 hbb k _ hcont.out).2 j v hat.out) hno
       go_upto_region 12 with ((first|refine zg1 ?_|(refine b6l (by rfl) 101 (.tmp 7) (.tmp 52) (by rfl) wr.heap.size v.cells (by rfl) (by rfl) 101 b4b ?_ rfl wysTy v.one ?_;exact Bk.new wr _ b4b;intro w1 hk1 hs1 ho1 hbe1;clear hs1 ho1)))
       go_frame
       have hkC1:=((hkC.bel hbw).bel hbi).bel (hbe1 _ (Bel.alloc _ _) (Nat.le_refl _))
       have hb1:=hbi.trans (hbe1 _ (Bel.alloc _ _) (Nat.le_refl _))
       replace hbe1:=Lib.hid hbe1
       have d0:=hk1.cell_of 0 _ rfl
       have D0:=fun d os=>cell_regrown d0 d os
       have LC:=Lib.hid (hkC1.inClass (P:=Tryz.prog) (ty:=35) cTy)
       by_cases h16:v.line % 16=0
       ·have hLO:∀ W,Calls Tryz.prog 63 #[.int .u32 (v.line:Int)] W fun e w'=>e = .returned (.int .u32 (v.line:Int))∧Bel W w':=by
         intro W
         have:=a6u v.line W hv1
         rw [h16,Nat.sub_zero] at this
         exact this.mono fun e w' ⟨he,d,hd⟩=>⟨he,by rw [hd];exact Bel.drewN _ _⟩
        replace hLO:=Lib.hid hLO
        have hSO:=Lib.hid (fun W=>d1p ways (some ⟨g0,o0,none⟩) n c v.line W hn.out hv1)
        by_cases hkk:v.line / 16 % n=k
        ·rw [hkk] at hSO
         refine wp_region_quiet_below (by kernel_rfl) (by kernel_rfl) ?_;(repeat (first|(go_big_quiet_want;refine c8z 35 (.tmp 1) (by rfl) w.heap.size (by rfl) _ LC.out _ rfl ?_;go_frame;go_big_quiet_on)|go_big_quiet_step ((first|(go_at_call 63;exact b2w (hLO.out _))|(go_at_call 139;exact b2w (hSO.out _))))));(refine wpQuiet_nil ?_;intro wq hw';obtain ⟨⟨dq,osq⟩,hw''⟩:=hw';subst hw'')
         have hbq:=b1o w1 dq osq
         have hk12:=hk1.bel hbq
         have hb12:=hb1.trans hbq
         clear LC D0 d0
         revert hk12 hb12
         clear hbq
         generalize grow (redrawn w1 dq) osq=W2
         intro hk12 hb12
         have e0:=hk12.cell_of 0 _ rfl
         have e2:=hk12.cell_of 2 _ rfl
         have E0:=fun d os=>cell_regrown e0 d os
         by_cases hsz:v.data.size=0∨v.data.size=16
         ·have hsp:(((v.data.size:Int) != 0)=false)∨(((v.data.size:Int) != 0)=true∧((v.data.size:Int) != 16)=false):=by
           rcases hsz with h|h
           ·exact .inl (by rw [h];rfl)
           ·exact .inr ⟨by rw [h];rfl,by rw [h];rfl⟩
          replace hsz:=Lib.hid hsz
          rcases hsp with z1|⟨z1,z2⟩
          ·have hjm1:(j:Int)≤(m:Int):=by omega
           exact d2d
          ·have hjm1:(j:Int)≤(m:Int):=by omega
           exact d2d
         ·have z1:((v.data.size:Int) != 0)=true:=by rw [bne_iff_ne];omega
          have z2:((v.data.size:Int) != 16)=true:=by rw [bne_iff_ne];omega
          have Hno:=Lib.hid (hBad.out fun hw=>hsz hw.2.2.1)
          clear hsz E0
          go_wp2
          go_ret
          exact ⟨b1p (by rw [Hno.out]),hbel.out.trans (hbw.trans hb12)⟩
        ·have Hno:=Lib.hid (hBad.out fun hw=>hkk hw.2.1)
         obtain ⟨t,ht⟩:∃ t,v.line / 16 % n=t:=⟨_,rfl⟩
         rw [ht] at hSO hkk
         have hb12:((t:Int) != (k:Int))=true:=by rw [bne_iff_ne];omega
         clear hkk ht
         refine wp_region_quiet_below (by kernel_rfl) (by kernel_rfl) ?_;(repeat (first|(go_big_quiet_want;refine c8z 35 (.tmp 1) (by rfl) w.heap.size (by rfl) _ LC.out _ rfl ?_;go_frame;go_big_quiet_on)|go_big_quiet_step ((first|(go_at_call 63;exact b2w (hLO.out _))|(go_at_call 139;exact b2w (hSO.out _))))));(refine wpQuiet_nil ?_;intro wq hw';obtain ⟨⟨dq,osq⟩,hw''⟩:=hw';subst hw'')
         go_wp2
         go_ret
         exact ⟨b1p (by rw [Hno.out]),hbel.out.trans (hbw.trans (hb1.trans (b1o _ _ _)))⟩
       ·have hLO:∀ W,Calls Tryz.prog 63 #[.int .u32 (v.line:Int)] W fun e w'=>e = .returned (.int .u32 ((v.line - v.line % 16:Nat):Int))∧Bel W w':=by
         intro W
         exact (a6u v.line W hv1).mono fun e w' ⟨he,d,hd⟩=>⟨he,by rw [hd];exact Bel.drewN _ _⟩
        have hnl:(((v.line - v.line % 16:Nat):Int) != (v.line:Int))=true:=by rw [bne_iff_ne];omega
        have Hno:=Lib.hid (hBad.out fun hw=>h16 hw.1)
        have hSO:Hid True:=Lib.hid trivial
        revert hLO hnl
        generalize v.line - v.line % 16=lo
        intro hLO hnl
        replace hLO:=Lib.hid hLO
        clear h16
        refine wp_region_quiet_below (by kernel_rfl) (by kernel_rfl) ?_
        repeat (go_big_quiet_step ((go_at_call 63;exact b2w (hLO.out _))))
        (refine wpQuiet_nil ?_;intro wq hw';obtain ⟨⟨dq,osq⟩,hw''⟩:=hw';subst hw'')
        go_wp2
        go_ret
        exact ⟨b1p (by rw [Hno.out]),hbel.out.trans (hbw.trans (hb1.trans (b1o _ _ _)))⟩
      ·obtain rfl:j=m:=by omega
       go_wp2
       go_roundw
       case rel=>
        refine ⟨k+1,by omega,by go_num,fun k' hk' s hs'=>?_,hbw.trans hbi⟩
        rcases Nat.lt_or_ge k' k with h|h
        ·exact hall.out k' h s hs'
        ·obtain rfl:k'=k:=by omega
         have e:=hcont.out
         rw [hs'] at e
         injection e with e
         subst e
         exact ⟨by rw [hwl.out];exact hlen.out,fun i v hv=>hin.out i (by have:=(List.getElem?_eq_some_iff.1 hv).1;have:=hwl.out;omega) v hv⟩
       case measure=>first|(simp [intOf];done)|(simp [intOf];omega)
    ·have hd:decide (ways<(m:Int))=true:=by simpa using hlen
     have Hno:Hid (b=false):=by
      show b=false
      cases hbb:b
      ·rfl
      ·exact absurd ((Hb.out.1 hbb k _ hcont.out).1) (by rw [hwl.out];exact hlen)
     clear hlen
     go_wp2
     go_ret
     exact ⟨b1p (by rw [Hno.out]),hbel.out.trans hbw⟩
   ·obtain rfl:k=n:=by omega
    have Hyes:Hid (b=true):=Lib.hid (Hb.out.2 fun k' s hk'=>hall.out k' (by have:=(List.getElem?_eq_some_iff.1 hk').1;rw [a3n] at this;have:=Hsl.out;omega) s hk')
    go_wp2
    go_ret
    exact ⟨b1p (by rw [Hyes.out]),hbel.out.trans hbw⟩
theorem c3x (ways:Int) (A:Option Addr) (n c:Nat) (S:List Cs) (w:World) (hr:RdS w w.heap.size A n c S) (ho:SOk S) (b:Bool) (hb:b=true↔RightP ways (a1j S)) :
  Calls Tryz.prog 120 #[.agg #[.int .i64 ways,.slice A n c]] w fun e w'=>e = .returned (.bool b)∧Bel w w':=by
 have hl:(a1j S).length=n:=by rw [a3n,hr.slen]
 by_cases h:(n=1∨n=2∨n=4)∧(ways=1∨ways=2)
 ·refine g2u ways A n c S w hr ho h.1 h.2 b ⟨fun e=>?_,fun e=>?_⟩
  ·have:=(hb.1 e).hs
   rwa [hl] at this
  ·exact hb.2 ⟨by rw [hl];exact h.1,h.2,by rw [hl];exact e⟩
 ·obtain rfl:b=false:=by
   cases hbb:b
   ·rfl
   ·have:=hb.1 hbb
    exact absurd ⟨by have:=this.hn;rwa [hl] at this,this.hw⟩ h
  exact g2t ways A n c w hr.rd.le hr.rd.mx h
end
section
open Go.RowKit Go.Shelf
attribute [local go_sem] Oper.semAt_some
section
variable {F:Fence} {nf:Nat} {P:Program} {ops:Array Oper} {rest:List Oper} {o:Oper} {a:Act} {w:World} {Q:Exit→Act→World→Prop}
theorem d2v {v:Value} {w':World} (hw:Region.wanted o (yielded ops a.tmps)=true) (hab:o.about P w a.eval=none) (hnd:∀ c,o.op ≠ .defer c) (hrun:(execOp a.eval o).run P w = .ok (.value v) w')
  (h:wpListIn F nf P ops Q rest (a.put o.dst v) w'):wpListIn F nf P ops Q (o::rest) a w:=by
 refine wpListIn_step fun K hK=>?_
 exact d2h
theorem g2v {w':World} (hw:Region.wanted o (yielded ops a.tmps)=true) (hab:o.about P w a.eval=none) (hnd:∀ c,o.op ≠ .defer c) (hrun:(execOp a.eval o).run P w = .ok .skip w')
  (h:wpListIn F nf P ops Q rest (a.put o.dst undef) w'):wpListIn F nf P ops Q (o::rest) a w:=by
 refine wpListIn_step fun K hK=>?_
 exact d2h
theorem g2w (hw:Region.wanted o (yielded ops a.tmps)=true) (ty:TypeId) (x:Operand) (ho:o.op = .load ty x) (g off:Nat) (hx:a.eval x = .pointer (some ⟨g,off,none⟩)) (cs:List Value) (v:Value) (hv:v = .agg cs.toArray)
  (hc:∀ j u,cs[j]?=some u→w.cell? ⟨g,off+j,none⟩=some u) (ht:RowTy P ty cs.length) (h:wpListIn F nf P ops Q rest (a.put o.dst v) w):wpListIn F nf P ops Q (o::rest) a w:=by
 subst hv
 refine d2v hw (by simp [Oper.about,ho]) (by rw [ho];intro c hc';cases hc') ?_ h
 unfold execOp
 simp only [ho,hx,Instr.loadAt,Instr.sureAddr,Sem.run_bind,Sem.run_pure,Result.andThen_ok,b8q w g off ty cs hc ht]
theorem d2w (hw:Region.wanted o (yielded ops a.tmps)=true) (ty:TypeId) (x y:Operand) (ho:o.op = .store ty x y) (g:Nat) (cs:List Value) (hx:a.eval x = .pointer (some ⟨g,0,none⟩)) (hy:a.eval y = .agg cs.toArray)
  (t:TypeId) (old:List Value) (hg:Bk w g t old) (hold:old.length=cs.length) (ht:RowTy P ty cs.length) (h1:∀ u∈cs,u.oneCell'=true)
  (h:∀ w',Bk w' g t cs→w'.heap.size=w.heap.size→(∀ k,k≠g→w'.heap[k]?=w.heap[k]?)→(∀ b:World,Bel b w→b.heap.size≤g→Bel b w')→wpListIn F nf P ops Q rest (a.put o.dst undef) w'):wpListIn F nf P ops Q (o::rest) a w:=by
 obtain ⟨d,hu,hd,hi⟩:=ht
 have hst:=run_storeCells_cells (P:=P) g 0 cs 0 w (fun j hj=>by
  rw [hg.cell,show 0+0+j=j by omega,List.getElem?_eq_getElem (by omega)];rfl) (fun j hj=>by
  rw [show 0+0+j=j by omega];exact hg.frozen (by omega)) h1
 obtain ⟨k1,k2⟩:=hg.setCells cs 0
 have hrun:(storeVar ty ⟨g,0,none⟩ (.agg cs.toArray)).run P w = .ok () (w.setCells g 0 cs):=by
  cases hq:P.info? ty with
  | none=>simp [hq] at hi
  | some i=>
   have hs:i.size=cs.length:=by simpa [hq] using hi
   simp [storeVar,sizeOf,typeInfo,hq,Value.cells,hs,hst]
 have e:spl old 0 cs=cs:=by rw [b1r _ _ _ (by omega)];simp [hold]
 rw [e] at k1
 refine g2v (w':=w.setCells g 0 cs) hw (by simp [Oper.about,ho]) (by rw [ho];intro c hc';cases hc') ?_ (h _ k1 ?_ (fun k hk=>?_) (fun b hb hbg=>hb.grown k2 fun k hk=>by injection hk with hk;omega))
 ·unfold execOp
  simp only [ho,hx,hy,Instr.storeAt,Instr.sureAddr,Sem.run_bind,Sem.run_pure,Result.andThen_ok,hrun]
 ·clear hst k1 k2 hrun
  have:∀ (l:List Value) (o:Nat) (W:World),(W.setCells g o l).heap.size=W.heap.size:=by
   intro l
   induction l with
   | nil=>intro o W;rfl
   | cons v r ih=>intro o W;rw [World.setCells,ih];simp [World.setCell]
  exact this cs 0 w
 ·clear hst k1 k2 hrun
  have:∀ (l:List Value) (o:Nat) (W:World),(W.setCells g o l).heap[k]?=W.heap[k]?:=by
   intro l
   induction l with
   | nil=>intro o W;rfl
   | cons v r ih=>intro o W;rw [World.setCells,ih];exact Below.heap_setCell W _ v k hk
  exact this cs 0 w
theorem g2x (hgd:o.guard=none) (x y:Operand) (ts:Array TypeId) (ho:o.op = .call { callee:=.builtin .min,args:=#[x,y],argTypes:=ts })
  (k k':IntKind) (p q N:Int) (hx:a.eval x = .int k p) (hy:a.eval y = .int k' q) (hN:N=if q<p then q else p)
  (h:wpListIn F nf P ops Q rest (a.put o.dst (.int k N)) w):wpListIn F nf P ops Q (o::rest) a w:=by
 refine d2v (by simp [Region.wanted,hgd]) (by simp [Oper.about,ho,resolve,Target.leads,Sem.run_pure]) (by rw [ho];intro c hc';cases hc') ?_ h
 have hrun:=fun ts t=>run_min_int2 (P:=P) w ts t k k' p q
 unfold execOp
 simp only [ho,resolve,invoke,builtin,Sem.run_bind,Sem.run_pure,Result.andThen_ok,List.map_toArray,List.map_cons,List.map_nil,hx,hy,hrun]
 rw [← hN]
end
theorem b3k {W W1:World} (h:Bel W W1) (B:Nat):KeepsFrom B W W1:=⟨h.size,fun k o _ hk _=>(h.block k (Array.getElem?_eq_some_iff.1 hk).1).trans hk⟩
def bkL (q:List En):Nat→List (Nat × En)
 | 0=>[]
 | k+1=>match q[k]? with
  | some e=>(k,e)::bkL q k
  | none=>[]
theorem c3y {q:List En} {k:Nat} {e:En} (h:q[k]?=some e):bkL q (k+1)=(k,e)::bkL q k:=by simp [bkL,h]
theorem d2x {q:List En} {reg:Int}:∀ {n:Nat},n≤q.length→(∀ p∈bkL q n,a2b p.2.inst≠reg)→a9j q reg n = -1
 | 0,_,_=>rfl
 | n+1,hn,h=>by
  obtain ⟨e,he⟩:∃ e,q[n]?=some e:=⟨_,List.getElem?_eq_getElem (by omega)⟩
  rw [c3y he] at h
  have h0:=h (n,e) (List.mem_cons_self ..)
  unfold a9j
  simp only [he,if_neg h0]
  exact d2x (by omega) fun p hp=>h p (List.mem_cons_of_mem _ hp)
theorem d2y {q:List En} {reg:Int} {last:Nat × En} {rest:List (Nat × En)}:∀ {n:Nat} {ini:List (Nat × En)},n≤q.length→bkL q n=ini++last::rest→(∀ p∈ini,a2b p.2.inst≠reg)→a2b last.2.inst=reg→a9j q reg n=(last.1:Int)
 | 0,ini,_,h,_,_=>by simp [bkL] at h
 | n+1,ini,hn,h,hi,hl=>by
  obtain ⟨e,he⟩:∃ e,q[n]?=some e:=⟨_,List.getElem?_eq_getElem (by omega)⟩
  rw [c3y he] at h
  unfold a9j
  simp only [he]
  cases ini with
  | nil=>
   rw [List.nil_append] at h
   injection h with h1 h2
   subst h1
   rw [if_pos hl]
  | cons x ini=>
   rw [List.cons_append] at h
   injection h with h1 h2
   subst h1
   rw [if_neg (hi _ (List.mem_cons_self ..))]
   exact d2y (by omega) h2 (fun p hp=>hi p (List.mem_cons_of_mem _ hp)) hl
theorem g2y (nf:Nat) (A:Option Addr) (n c:Nat) (i:Int) (w:World) :
  CallsIn Fence.wide nf Tryz.prog 163 #[.slice A n c,.int .i64 i] w fun e w'=>e = .returned (.func (.func 200) #[] #[.pointer (some ⟨w.heap.size+1,0,none⟩),.pointer (some ⟨w.heap.size,0,none⟩)])∧w'=(w.alloc (.cells #[.slice A n c] 31)).alloc (.cells #[.int .i64 i] 3):=by
 refine callsIn_of_wp Tryz.func163 rfl trivial ?_ rfl
 simp only [Tryz.ntmps163,List.size_toArray,List.length_cons,List.length_nil,Nat.reduceAdd,Nat.reduceSub,Array.replicate_succ,Array.replicate_zero,List.push_toArray,List.append_toArray,List.nil_append,List.cons_append]
 gi_wp2
 go_ret
 exact ⟨rfl,rfl⟩
theorem g2z (nf l Bi Bs n₀:Nat) (hn:1≤nf) (A:Option Addr) (n c:Nat) (i M:Int) (q:List En) (hBi:Bi<n₀) (hBs:Bs<n₀) (hi : -9223372036854775808≤i∧i≤9223372036854775807) (hM:M=if (n:Int)<i then (n:Int) else i) (J Jx:List (Nat × En)→World→Prop)
  (hY:∀ pre x W,J pre W→pre.length<n→YieldAt Fence.wide (nf - 1) Tryz.prog l #[.int .i64 (x.1:Int),x.2.val] W fun e W'=>
   (e = .returned (.bool true)∧J (pre++[x]) W'∧Below n₀ W W')∨(e = .returned (.bool false)∧Jx (pre++[x]) W'))
  (W:World) (hcs:W.cell? ⟨Bs,0,none⟩=some (.slice A n c)) (hci:W.cell? ⟨Bi,0,none⟩=some (.int .i64 i)) (hr:Rd W n₀ 17 A n c (ens q)) (h0:J [] W) :
  CallsIn Fence.wide nf Tryz.prog 200 #[.func (.yield l) #[] #[],.pointer (some ⟨Bi,0,none⟩),.pointer (some ⟨Bs,0,none⟩)] W fun e W'=>(∃ v,e = .returned v) ∧
   ((∃ ys,ys=bkL q M.toNat∧J ys W')∨(∃ pre,pre <+: bkL q M.toNat∧Jx pre W')):=by
 have hql:=hr.enslen
 have hc1:=hr.le
 have hc2:=hr.mx
 unfold maxLen at hc2
 have hM1:M≤(n:Int):=by rw [hM];split <;> omega
 have hM2 : -9223372036854775808≤M:=by rw [hM];split <;> omega
 replace hM:=Lib.hid hM
 replace hr:=Lib.hid hr
 refine callsIn_of_wp Tryz.func200 rfl trivial ?_ rfl
 simp only [Tryz.ntmps200,List.size_toArray,List.length_cons,List.length_nil,Nat.reduceAdd,Nat.reduceSub,Array.replicate_succ,Array.replicate_zero,List.push_toArray,List.append_toArray,List.nil_append,List.cons_append]
 gi_wp2_with (refine g2x rfl _ _ _ (by rfl) _ _ _ _ M (by rfl) (by rfl) hM.out ?_)
 gi_loopw [4] (fun x wr=>∃ (kk:Int) (pre:List (Nat × En)),x = .int .i64 kk∧kk≤(n:Int) ∧ -9223372036854775808≤kk∧bkL q M.toNat=pre++bkL q kk.toNat∧pre.length+kk.toNat≤n∧J pre wr∧Below n₀ W wr)
  (fun x _=>(intOf x).toNat)
 case atStart=>exact ⟨M,[],rfl,hM1,hM2,rfl,by simp;omega,h0,Below.refl _ _⟩
 case round=>
  obtain ⟨kk,pre,rfl,hk1,hk2,hpre,hlen,hJs,hnx⟩:=hrel
  by_cases hpos:0<kk
  ·obtain ⟨m,rfl⟩:∃ m:Nat,kk=(m:Int)+1:=⟨(kk - 1).toNat,by omega⟩
   have hmn:m<n:=by omega
   have hmt:((m:Int)+1).toNat=m+1:=by omega
   rw [hmt] at hpre hlen
   obtain ⟨e,he⟩:∃ e,q[m]?=some e:=⟨_,List.getElem?_eq_getElem (by omega)⟩
   rw [c3y he] at hpre
   obtain ⟨hl,g,off,rfl,hg,hce⟩:=(hr.out.below hnx).enselem hmn
   have hee:q[m]'hl=e:=by rw [List.getElem?_eq_getElem hl] at he;exact Option.some.inj he
   rw [hee] at hce
   replace hce:=Lib.hid hce
   have hcs':=(hnx.cell (p:=⟨Bs,0,none⟩) hBs).trans hcs
   have hci':=(hnx.cell (p:=⟨Bi,0,none⟩) hBi).trans hci
   obtain ⟨fn,tmps,assign,body,hy,hR⟩:=hY pre (m,e) wr hJs (by omega)
   dsimp only at hy
   replace hpre:=Lib.hid hpre
   replace he:=Lib.hid he
   clear hcs hci hmt hM hee
   gi_wp2_with (refine g2w rfl 54 (.tmp 19) (by rfl) g (off+m * 17) (by rfl) e.cells e.val rfl hce.out ensTy ?_)
   refine hR.mono ?_
   rintro e W3 (⟨rfl,hJ3,hk3⟩|⟨rfl,hJx3⟩)
   ·gi_wp2
    go_roundw
    case rel=>exact ⟨(m:Int),pre++[(m,_)],by go_num,by omega,by omega,by rw [hpre.out];simp,by simp;omega,hJ3,hnx.trans hk3⟩
    case measure=>first|(simp [intOf];done)|(simp [intOf];omega)
   ·gi_wp2
    refine bodyPost_ret (results_none rfl _ _ _) rfl ?_
    exact ⟨⟨_,rfl⟩,.inr ⟨_,by rw [hpre.out];exact ⟨bkL q m,by simp⟩,hJx3⟩⟩
  ·have hz:kk.toNat=0:=by omega
   rw [hz] at hpre
   replace hpre:=Lib.hid (show pre=bkL q M.toNat by rw [hpre];simp [bkL])
   gi_wp2
   go_end0
   exact ⟨⟨_,rfl⟩,.inl (by rw [← hpre.out];exact hJs)⟩
theorem g3a (nf:Nat) (hn:1≤nf) (Bi Bs:Nat) (A:Option Addr) (n c:Nat) (i M:Int) (q:List En) (w0:World) (hBi:Bi<w0.heap.size) (hBs:Bs<w0.heap.size) (hi : -9223372036854775808≤i∧i≤9223372036854775807) (hM:M=if (n:Int)<i then (n:Int) else i)
  (hcs:w0.cell? ⟨Bs,0,none⟩=some (.slice A n c)) (hci:w0.cell? ⟨Bi,0,none⟩=some (.int .i64 i)) (hr:Rd w0 w0.heap.size 17 A n c (ens q)) :
  SeqStopsK Fence.wide nf Tryz.prog 200 #[.pointer (some ⟨Bi,0,none⟩),.pointer (some ⟨Bs,0,none⟩)] (fun x:Nat × En=>#[.int .i64 (x.1:Int),x.2.val]) (Below w0.heap.size) (fun ys=>ys=bkL q M.toNat) (fun pre=>pre <+: bkL q M.toNat) n w0:=fun l J Jx W hW _ _ hY h0=>
 g2z nf l Bi Bs w0.heap.size hn A n c i M q hBi hBs hi hM J Jx hY W ((hW.cell (p:=⟨Bs,0,none⟩) hBs).trans hcs) ((hW.cell (p:=⟨Bi,0,none⟩) hBi).trans hci) (hr.below hW) h0
theorem g3b (A:Option Addr) (n c:Nat) (i reg:Int) (q:List En) (w:World) (hr:Rd w w.heap.size 17 A n c (ens q)) (hi : -9223372036854775808≤i∧i≤9223372036854775807) (h1:1≤reg) (h2:reg≤31) :
  CallsIn Fence.wide 9 Tryz.prog 108 #[.slice A n c,.int .i64 i,.int .i64 reg] w fun e w'=>e = .returned (.int .i64 (a3b q i reg))∧Below w.heap.size w w':=by
 obtain ⟨M,hM⟩:∃ M,M=if (n:Int)<i then (n:Int) else i:=⟨_,rfl⟩
 have hMt:M.toNat=(min i q.length).toNat:=by rw [hr.enslen,hM];split <;> omega
 refine callsIn_of_wp_marks Tryz.func108 rfl trivial ?_ rfl
 simp only [Tryz.ntmps108,List.size_toArray,List.length_cons,List.length_nil,Nat.reduceAdd,Nat.reduceSub,Array.replicate_succ,Array.replicate_zero,List.push_toArray,List.append_toArray,List.nil_append,List.cons_append]
 gi_wp2_with (refine ⟨trivial,?_⟩;gi_at_call 163;refine (g2y _ _ _ _ _ _).mono ?_;rintro e w' ⟨rfl,rfl⟩)
 have hB0:Below w.heap.size w ((((w.alloc (.cells #[.int .i64 reg] 3)).alloc (.cells #[.int .i64 0] 3)).alloc (.cells #[.slice A n c] 31)).alloc (.cells #[.int .i64 i] 3)) :=
  ((((Below.refl _ w).alloc (Nat.le_refl _) _).alloc (by simp) _).alloc (by simp;omega) _).alloc (by simp;omega) _
 have k1:=(((Bk.new w 3 [.int .i64 reg]).bel (Bel.alloc _ (.cells #[.int .i64 0] 3))).bel (Bel.alloc _ (.cells #[.slice A n c] 31))).bel (Bel.alloc _ (.cells #[.int .i64 i] 3))
 have k2:=((Bk.new (w.alloc (.cells #[.int .i64 reg] 3)) 3 [.int .i64 0]).bel (Bel.alloc _ (.cells #[.slice A n c] 31))).bel (Bel.alloc _ (.cells #[.int .i64 i] 3))
 have k3:=(Bk.new ((w.alloc (.cells #[.int .i64 reg] 3)).alloc (.cells #[.int .i64 0] 3)) 31 [.slice A n c]).bel (Bel.alloc _ (.cells #[.int .i64 i] 3))
 have k4:=Bk.new (((w.alloc (.cells #[.int .i64 reg] 3)).alloc (.cells #[.int .i64 0] 3)).alloc (.cells #[.slice A n c] 31)) 3 [.int .i64 i]
 simp only [World.size_alloc] at k1 k2 k3 k4
 have hsz:((((w.alloc (.cells #[.int .i64 reg] 3)).alloc (.cells #[.int .i64 0] 3)).alloc (.cells #[.slice A n c] 31)).alloc (.cells #[.int .i64 i] 3)).heap.size=w.heap.size+4:=by simp
 obtain ⟨W0,hW0⟩:∃ W0,(((w.alloc (.cells #[.int .i64 reg] 3)).alloc (.cells #[.int .i64 0] 3)).alloc (.cells #[.slice A n c] 31)).alloc (.cells #[.int .i64 i] 3)=W0:=⟨_,rfl⟩
 rw [hW0] at hB0 hsz ⊢
 replace k1:Bk W0 w.heap.size 3 [.int .i64 reg]:=by rw [← hW0];exact k1
 replace k2:Bk W0 (w.heap.size+1) 3 [.int .i64 0]:=by rw [← hW0];exact k2
 replace k3:Bk W0 (w.heap.size+1+1) 31 [.slice A n c]:=by rw [← hW0];exact k3
 replace k4:Bk W0 (w.heap.size+1+1+1) 3 [.int .i64 i]:=by rw [← hW0];exact k4
 clear hW0
 have hr0:=(hr.below hB0).more hB0.size
 have hnl:=hr.enslen
 refine wpIn_rangeFunc_ownH (P:=Tryz.prog) (F:=Fence.wide) (n:=9) rfl (by omega) (gf:=200) (lb:=#[.pointer (some ⟨w.heap.size+1+1+1,0,none⟩),.pointer (some ⟨w.heap.size+1+1,0,none⟩)]) rfl trivial (enters_of Tryz.func200 (by kernel_rfl) rfl)
  (g3a 8 (by omega) _ _ A n c i M q W0 (by omega) (by omega) hi hM (k3.cell 0) (k4.cell 0) hr0) belowK_t (belowK_b (Nat.le_refl _)) (Below.refl _ _) (fun _=>rfl)
  (fun pre W=>(∀ p∈pre,a2b p.2.inst≠reg)∧Below W0.heap.size W0 W)
  (fun c pre W=>(c = .ret ∧ ∃ ini last,pre=ini++[last]∧(∀ p∈ini,a2b p.2.inst≠reg)∧a2b last.2.inst=reg∧W.cell? ⟨w.heap.size+1,0,none⟩=some (.int .i64 (last.1:Int)))∧Below w.heap.size w W)
  (OwnFrom.and (ownFrom_pure _ _) (ownFrom_below (Nat.le_refl _) (Nat.le_refl _)))
  (fun c=>OwnFrom.and (Own.from (fun s A B row hs hg hr=>by obtain ⟨hc,ini,last,e1,e2,e3,e4⟩:=hs;exact ⟨hc,ini,last,e1,e2,e3,cell_kept e4 hg hr⟩) _) (ownFrom_below (Nat.le_refl _) (by omega)))
  ⟨by simp,Below.refl _ _⟩
  (fun x a' W=>∃ Bx,W0.heap.size≤Bx∧Bk W Bx 54 x.2.cells∧a'={ tmps:=#[.slice A n c,.int .i64 i,.int .i64 reg,undef,undef,.pointer (some ⟨w.heap.size,0,none⟩),.pointer (some ⟨w.heap.size+1,0,none⟩),.int .i64 (x.1:Int),.pointer (some ⟨Bx,0,none⟩),.int .i64 reg,.bool (decide (reg<1)),.bool (decide (reg<1)),.int .i64 reg,.bool (decide (31<reg)),.bool (decide (reg<1) || decide (31<reg)),.slice A n c,.int .i64 i,.func (.func 200) #[] #[.pointer (some ⟨w.heap.size+1+1+1,0,none⟩),.pointer (some ⟨w.heap.size+1+1,0,none⟩)],.int .i64 (x.1:Int),x.2.val,undef,undef,undef,undef,undef,undef],defers:=[] })
  (fun x a' _ X Y row hs hg hr=>by
   obtain ⟨Bx,h1,h2,h3⟩:=hs
   refine ⟨Bx,h1,h2.grown hg (fun e=>?_),h3⟩
   obtain ⟨_,o,ho,hc⟩:=hr _ e.symm
   obtain ⟨r,hg2,_⟩:=h2
   rw [ho] at hg2
   cases hg2
   cases hc)
  ?assign ?body ?done ?stop
 case assign=>
  rintro l pre x W K ⟨hp,hB⟩ hK
  gi_wp2_with (refine d2w rfl 54 (.tmp 8) (.tmp 19) (by rfl) W.heap.size x.2.cells (by rfl) (by rfl) 54 b4d ?_ rfl ensTy x.2.one ?_;exact Bk.new W _ b4d;intro w1 hk1 hs1 ho1 hbe1)
  have hbel:Bel W w1:=hbe1 _ (Bel.alloc _ _) (Nat.le_refl _)
  exact hK _ _ (b3k hbel _) (hbel.mono hB.size) ⟨hp,hB.trans (hbel.mono hB.size)⟩ ⟨_,hB.size,hk1,rfl⟩
 case body=>
  rintro l pre ⟨k,e⟩ a' W hl ⟨r,hr⟩ ⟨hp,hB⟩ ⟨Bx,hBx,bX,rfl⟩ hlt
  have c0:=bX.cell 2
  have c1:=bX.cell 3
  have c2:=bX.cell 4
  have c3:=bX.cell 5
  have c4:=bX.cell 6
  have cr:W.cell? ⟨w.heap.size,0,none⟩=some (.int .i64 reg):=(hB.cell (p:=⟨w.heap.size,0,none⟩) (by dsimp only;omega)).trans (k1.cell 0)
  have cv:W.cell? ⟨w.heap.size+1,0,none⟩=some (.int .i64 0):=(hB.cell (p:=⟨w.heap.size+1,0,none⟩) (by dsimp only;omega)).trans (k2.cell 0)
  have fv:W.frozen? ⟨w.heap.size+1,0,none⟩=false:=(hB.frozen (p:=⟨w.heap.size+1,0,none⟩) (by dsimp only;omega)).trans (k2.frozen (i:=0) (by simp))
  have hmx:Tryz.prog.follows .mixedOrders=true:=by kernel_rfl
  dsimp only [En.cells,List.getElem?_cons_succ,List.getElem?_cons_zero] at c0 c1 c2 c3 c4
  have HW:=Lib.hid (fun W=>a7c e.inst W)
  unfold Ins.val at HW
  have hww:W0.heap.size≤W.heap.size:=hB.size
  by_cases hw:a2b e.inst=reg
  ·have HP:=Lib.hid hp
   clear hp
   gi_wp2
   gi_region_with_o (refine ⟨trivial,?_⟩;gi_at_call 43;refine (CallsIn.inRound l (callsIn_wide.2 (HW.out _))).mono ?_;rintro e w1 ⟨rfl,hb1⟩;have cr1:=hb1.cell_of cr;have cv1:=hb1.cell_of cv;have fv1:=(hb1.frozen (p:=⟨w.heap.size+1,0,none⟩) (World.block_lt_of_cell? _ _ cv)).trans fv)
   all_goals gi_wp2
   all_goals (try go_bits)
   all_goals
    have hbel:Bel W w1:=by first|exact hb1|exact (Bel.drew _).trans hb1
    exact ⟨(b3k hbel _).trans ((KeepsOthers.setCell _ _ _).from _),⟨rfl,pre,(k,e),rfl,HP.out,hw,World.cell?_setCell_same' _ _ _ (by rw [cv1];rfl)⟩,((hB0.trans (hB.mono hB0.size)).trans (hbel.mono (Nat.le_trans hB0.size hww))).setCell (p:=⟨w.heap.size+1,0,none⟩) (by simp) _⟩
  ·have HP:=Lib.hid hp
   clear hp
   gi_wp2
   gi_region_with_o (refine ⟨trivial,?_⟩;gi_at_call 43;refine (CallsIn.inRound l (callsIn_wide.2 (HW.out _))).mono ?_;rintro e w1 ⟨rfl,hb1⟩;have cr1:=hb1.cell_of cr)
   all_goals gi_wp2
   all_goals (try go_bits)
   all_goals
    have hbel:Bel W w1:=by first|exact hb1|exact (Bel.drew _).trans hb1
    have hb2:Below W0.heap.size W w1:=hbel.mono hww
    exact ⟨b3k hbel _,hb2,fun p hp=>(List.mem_append.1 hp).elim (HP.out p) (fun h=>by rw [List.mem_singleton.1 h];exact hw),hB.trans hb2⟩
 case done=>
  rintro D ys W hD rfl ⟨hp,hB⟩ hK
  have cv:W.cell? ⟨w.heap.size+1,0,none⟩=some (.int .i64 0):=(hB.cell (p:=⟨w.heap.size+1,0,none⟩) (by dsimp only;omega)).trans (k2.cell 0)
  have fv:W.frozen? ⟨w.heap.size+1,0,none⟩=false:=(hB.frozen (p:=⟨w.heap.size+1,0,none⟩) (by dsimp only;omega)).trans (k2.frozen (i:=0) (by simp))
  have HM:=Lib.hid (show a3b q i reg = -1 by rw [a3b,if_neg (by omega),← hMt];exact d2x (by omega) hp)
  clear hp
  gi_wp2
  have hK':=(KeepsOthers.setCell W ⟨w.heap.size+1,0,none⟩ (.int .i64 (-1))).same D _ hK rfl
  refine ⟨by simp,.inl ⟨_,_,rfl,run_takeDeferred hK',?_⟩⟩
  have hc5:=cell_kept (World.cell?_setCell_same' W ⟨w.heap.size+1,0,none⟩ (.int .i64 (-1)) (by rw [cv];rfl)) (grownBy_putObj' _ D (.deferred none)) (fun r e=>by cases e;exact ⟨_,hK',rfl⟩)
  refine ⟨.int .i64 (-1),?_,by rw [HM.out],((hB0.trans (hB.mono hB0.size)).setCell (p:=⟨w.heap.size+1,0,none⟩) (by simp) _).trans (belowK_b (w:=w) (Nat.le_refl _) _ D _ _ (by omega) hK' rfl rfl)⟩
  simp [results,Tryz.f108,go_sem,hc5]
 case stop=>
  rintro D c pre W hD ⟨rest,hpre⟩ ⟨⟨rfl,ini,last,rfl,e2,e3,hcr⟩,hB⟩ hK
  have HM:=Lib.hid (show a3b q i reg=(last.1:Int) by
   rw [a3b,if_neg (by omega),← hMt]
   exact d2y (rest:=rest) (by omega) (by rw [← hpre];simp) e2 e3)
  clear e2 e3 hpre
  gi_wp2
  refine ⟨by simp,.inl ⟨_,_,rfl,run_takeDeferred hK,?_⟩⟩
  have hc5:=cell_kept hcr (grownBy_putObj' _ D (.deferred none)) (fun r e=>by cases e;exact ⟨_,hK,rfl⟩)
  refine ⟨.int .i64 (last.1:Int),?_,by rw [HM.out],hB.trans (belowK_b (w:=w) (Nat.le_refl _) W D _ _ (by omega) hK rfl rfl)⟩
  simp [results,Tryz.f108,go_sem,hc5]
theorem c3z (A:Option Addr) (n c:Nat) (i reg:Int) (q:List En) (w:World) (hr:Rd w w.heap.size 17 A n c (ens q)) (hi : -9223372036854775808≤i∧i≤9223372036854775807) (hg : -9223372036854775808≤reg∧reg≤9223372036854775807) :
  Calls Tryz.prog 108 #[.slice A n c,.int .i64 i,.int .i64 reg] w fun e w'=>e = .returned (.int .i64 (a3b q i reg))∧Bel w w':=by
 by_cases h:reg<1∨31<reg
 ·have HM:=Lib.hid (show a3b q i reg = -1 by rw [a3b,if_pos h])
  clear hi hg hr
  rcases Int.lt_or_le reg 1 with h|h
  ·go_enter Tryz.func108,Tryz.ntmps108
   exact d2g
  ·have h:31<reg:=by omega
   go_enter Tryz.func108,Tryz.ntmps108
   exact d2g
 ·refine (callsIn_wide (n:=9)).1 ((g3b A n c i reg q w hr hi (by omega) (by omega)).mono ?_)
  rintro e w' ⟨rfl,hb⟩
  exact ⟨rfl,hb⟩
end
section
open Go.RowKit Go.Sort
theorem g3c (ways:Int) (A:Option Addr) (n c:Nat) (S:List Cs) (x:Nat) (w:World) (hr:RdS w w.heap.size A n c S) (ho:SOk S) (hno:¬ RightP ways (a1j S)) :
  Calls Tryz.prog 80 #[.agg #[.int .i64 ways,.slice A n c],.int .u32 (x:Int)] w fun e w'=>e = .returned (.tuple #[.int .i64 0,.int .i64 0,.bool false])∧Bel w w':=by
 have HR:=Lib.hid (fun W (hw:Bel w W)=>c3x ways A n c S W (hr.bel hw) ho false ⟨fun h=>(by cases h),fun h=>absurd h hno⟩)
 go_enter Tryz.func80,Tryz.ntmps80
 go_upto_region 1 with (fail)
 have hkC:=Bk.new' w 35 [.int .i64 ways,.slice A n c] w.heap.size rfl;have hbel:=Bel.alloc w (.cells [Value.int .i64 ways,.slice A n c].toArray 35);revert hkC hbel;generalize w.alloc _=W0;intro hkC hbel;replace hbel:=Lib.hid hbel
 go_wp2_with ((first|refine zg2 ?_|(go_at_call 120;refine (HR.out _ hbel.out).mono ?_;rintro e w1 ⟨rfl,hn1⟩)))
 go_ret3
 exact ⟨rfl,hbel.out.trans hn1⟩
theorem g3d (ways:Int) (A:Option Addr) (n c:Nat) (S:List Cs) (x:Nat) (w:World) (hr:RdS w w.heap.size A n c S) (ho:SOk S) (hx:x<4294967296) (hR:RightP ways (a1j S)) (k:Nat) (hk:x / 16 % n=k) (set:List Wy) (hset:(a1j S)[k]?=some set) (at':Nat) (b:Bool)
  (hb:(b=true ∧ ∃ v,At set (x - x % 16) at' v ∧ ∀ j<at',∀ u,set[j]?=some u→u.line≠x - x % 16)∨(b=false∧at'=0∧a9y set (x - x % 16))) :
  Calls Tryz.prog 80 #[.agg #[.int .i64 ways,.slice A n c],.int .u32 (x:Int)] w fun e w'=>e = .returned (.tuple #[.int .i64 (k:Int),.int .i64 (at':Int),.bool b])∧Bel w w':=by
 have hn:n=1∨n=2∨n=4:=by have:=hR.hn;rwa [a3n,hr.slen] at this
 have HR:=Lib.hid (fun W (hw:Bel w W)=>c3x ways A n c S W (hr.bel hw) ho true ⟨fun _=>hR,fun _=>rfl⟩)
 have hkn:k<n:=by rw [← hk];exact Nat.mod_lt _ (by omega)
 obtain ⟨hl,g0,o0,rfl,hg0,hcs,hs⟩:=hr.at_ hkn
 rw [c3j hl] at hset
 have hset':(S[k]'hl).ws=set:=by injection hset
 obtain ⟨s,hs'⟩:∃ s,S[k]'hl=s:=⟨_,rfl⟩
 rw [hs'] at hcs hs hset'
 obtain ⟨sA,m,sc,ws⟩:=s
 simp only at hcs hs hset'
 subst hset'
 have HL:=Lib.hid (fun W=>a6u x W hx)
 have hxx:(x - x % 16) / 16 % n=k:=by rw [← hk];congr 1;omega
 have HS:=Lib.hid (fun W=>d1p ways (some ⟨g0,o0,none⟩) n c (x - x % 16) W hn (by omega))
 rw [hxx] at HS
 have HP:=Lib.hid (fun W (hw:Bel w W)=>c3r sA m sc ws (x - x % 16) W (hs.bel hw) at' b hb)
 have Hcs:=Lib.hid hcs
 have hki:(k:Int)<(n:Int):=by omega
 have hc1:=hr.rd.le
 have hc2:=hr.rd.mx
 unfold maxLen at hc2
 clear hk hxx hset hs' hcs hb hn
 revert HL HS HP
 generalize x - x % 16=lo
 intro HL HS HP
 obtain ⟨A,hA⟩:∃ A,A=(some ⟨g0,o0,none⟩:Option Addr):=⟨_,rfl⟩
 go_enter Tryz.func80,Tryz.ntmps80
 go_upto_region 1 with (fail)
 have hkC:=Bk.new' w 35 [.int .i64 ways,.slice (some ⟨g0,o0,none⟩) n c] w.heap.size rfl
 have hbel:=Bel.alloc w (.cells [Value.int .i64 ways,.slice (some ⟨g0,o0,none⟩) n c].toArray 35)
 clear hA
 revert hkC hbel
 generalize w.alloc _=W0
 intro hkC hbel
 replace hbel:=Lib.hid hbel
 go_wp2_with ((first|refine zg2 ?_|(go_at_call 120;refine (HR.out _ hbel.out).mono ?_;rintro e w1 ⟨rfl,hn1⟩;replace hkC:=hkC.bel hn1;replace hbel:=Lib.hid (hbel.out.trans hn1);clear hn1)|(go_at_call 63;refine (HL.out _).mono ?_;rintro e w2 ⟨rfl,d2,rfl⟩;replace hkC:=hkC.drewN d2;replace hbel:=Lib.hid (hbel.out.trans (Bel.drewN _ d2)))|(go_at_call 139;refine (HS.out _).mono ?_;rintro e w3 ⟨rfl,hn3⟩;replace hkC:=hkC.bel hn3;replace hbel:=Lib.hid (hbel.out.trans hn3);have cc:=hkC.cell_of 1 _ rfl;have ccs:=hbel.out.cell_of Hcs.out;clear hn3)|(go_at_call 140;refine (HP.out _ hbel.out).mono ?_;rintro e w4 ⟨rfl,hn4⟩)))
 go_ret3
 exact ⟨rfl,hbel.out.trans hn4⟩
end
section
open Go.RowKit
instance ensRows : Rows ens En.cells 17:=⟨fun _=>rfl,fun _=>rfl,En.one,by decide⟩
instance ensOne (q:List En):OneC (ens q):=⟨c9m q⟩
instance enOne (r:En):OneC r.cells:=⟨r.one⟩
def a1i (ks:List Int):List Value:=ks.map (Value.int .i64)
theorem a9o (l:List Int):(a1i l).length=l.length:=by simp [a1i]
theorem b1i {l:List Int} {k:Nat} {x:Int} (h:l[k]?=some x):(a1i l)[k]?=some (.int .i64 x):=by simp [a1i,h]
theorem g3e (l:List Int):∀ u∈a1i l,u.oneCell'=true:=fun u hu=>by
 obtain ⟨x,_,rfl⟩:=List.mem_map.1 hu
 rfl
instance i64sOne (l:List Int):OneC (a1i l):=⟨g3e l⟩
theorem b4z (a b:List Int):a1i (a++b)=a1i a++a1i b:=by simp [a1i]
theorem g3f (a:List Int) (k:Nat):(a1i a).take k=a1i (a.take k):=by simp [a1i,List.map_take]
theorem Rd.i64slen {w:World} {B n c:Nat} {A:Option Addr} {l:List Int} (h:Rd w B 1 A n c (a1i l)):l.length=n:=by
 have:=h.len;rw [a9o] at this;omega
def okI (x:Int):Prop:=-9223372036854775808≤x∧x≤9223372036854775807
theorem EnOk.op {r:En} (h:EnOk r):okI r.inst.op:=h.2.2.1.1
theorem EnOk.rs1 {r:En} (h:EnOk r):okI r.inst.rs1:=h.2.2.1.2.2.1
theorem EnOk.rs2 {r:En} (h:EnOk r):okI r.inst.rs2:=h.2.2.1.2.2.2.1
def ensOk (q:List En):Prop:=∀ r∈q,EnOk r
theorem ensOk.op {q:List En} (h:ensOk q):d1s q:=fun r hr=>(h r hr).op
theorem ensOk.take {q:List En} (h:ensOk q) (k:Nat):ensOk (q.take k):=fun r hr=>h r (List.mem_of_mem_take hr)
end
section
open Go.RowKit
section
variable {P:Program} {ops:Array Oper} {rest:List Oper} {o:Oper} {a:Act} {Q:Exit→Act→World→Prop} {w0 w w1:World} {D0 D:List Da} {M:List Mu}
theorem St.put (h:St w0 D0 w M D) (hb:Bel w w1) {i g off:Nat} {t:TypeId} {cs:List Value} (hi:M[i]?=some (.blk g t cs)) (v:Value):St w0 D0 (w1.setCell ⟨g,off,none⟩ v) (M.set i (.blk g t (cs.set off v))) D:=by
 have h2:=h.grow hb
 have hg:w1.grownBy (w1.setCell ⟨g,off,none⟩ v) (some g):=⟨rfl,rfl,rfl,by simp [World.setCell],fun k hk hne=>Below.heap_setCell w1 _ _ k (fun e=>hne (by rw [e]))⟩
 exact h2.upd i _ (.blk g t (cs.set off v)) hi hg ⟨(h2.bkAt hi).set_ off _,(h2.mu i _ hi).2⟩ fun g' hg'=>.inl hg'
theorem w_maxH {x y:Operand} {ts:Array TypeId} {k k':IntKind} {p q N:Int} (ho:o.op = .call { callee:=.builtin .max,args:=#[x,y],argTypes:=ts }) (hx:a1b a x=some (.int k p)) (hy:a1b a y=some (.int k' q))
  (h:wpList P ops Q rest (a.put o.dst (.int k N)) w) (hgd:o.guard=none:=by rfl) (hN:Hid (N=if q > p then q else p):=by assumption):wpList P ops Q (o::rest) a w:=w_max N ho hx hy h hgd hN.out
theorem b9u {t e:TypeId} {d s:Operand} {z:Value} {sz bytes:Nat} {g n m cd:Nat} {A:Option Addr} {c i:Nat} {us cs:List Value} {t':TypeId} {M':List Mu} (ho:o.op = .call { callee:=.builtin .copy,args:=#[d,s],argTypes:=#[t,t] }) (hF:St w0 D0 w M D)
  (hx:a1b a d=some (.slice (some ⟨g,0,none⟩) n cd)) (hy:a1b a s=some (.slice A m c)) (h:∀ w',St w0 D0 w' M' D→wpList P ops Q rest (a.put o.dst (goInt (n:Nat))) w') (hgd:o.guard=none:=by rfl) (ht:SlT P t e z sz bytes:=by exact a3o _ _ _ _ _ rfl)
  (hd:a1a sz A m c us∈D:=by exact zdm) (hi:M[i]?=some (.blk g t' cs):=by exact zat) (hl:cs.length=n * sz:=by first|exact rfl|(simp [madeCells];done)|(simp [madeCells];omega)) (hnm:n≤m:=by (first|assumption|omega)) (h1:∀ u∈us,a7v M u:=by exact b1x) (hM:M.set i (.blk g t' (us.take (n * sz)))=M':=by first|(simp only [zF];exact rfl)|(simp only [zF];done)|exact rfl):wpList P ops Q (o::rest) a w:=by
 subst hM
 have hr:=hF.rd hd
 have hr2:=hr.to hnm
 replace hx:=look_eval hx
 replace hy:=look_eval hy
 obtain ⟨hu,hinfo,hzz,hsz⟩:=ht
 obtain ⟨i0,hi0,hz,hs1,rfl⟩:=info_parts hinfo
 subst hs1
 have hg:=hF.bkAt hi
 have hul:(us.take (n * i0.size)).length=n * i0.size:=hr2.len
 refine wpList_plain hgd fun K hK=>?_
 have hst:=run_storeCells_cells (P:=P) g 0 (us.take (n * i0.size)) 0 w (fun j hj=>by
  rw [hg.cell,Nat.add_zero,List.getElem?_eq_getElem (by omega)];rfl) (fun j hj=>hg.frozen (by omega)) (fun u hu=>hF.oneM (h1 u (List.mem_of_mem_take hu)))
 obtain ⟨k1,k2⟩:=hg.setCells (us.take (n * i0.size)) (0+0)
 have hf:(Builtin.firstCells i0.size n (.slice A m c)).run P w = .ok (us.take (n * i0.size)).toArray w:=by
  cases A with
  | none=>
   have hm0:m=0:=by
    rcases Nat.eq_zero_or_pos m with h0|h0
    ·exact h0
    ·obtain ⟨g,f,e,_⟩:=hr.at_ h0
     cases e
   have:n=0:=by omega
   subst this
   rw [Nat.zero_mul,List.take_zero]
   exact run_firstCells_none w _ _ _ _
  | some ad=>
   refine run_firstCells_some (P:=P) w i0.size n ad m c _ hul fun j u hu=>?_
   have hj:=(List.getElem?_eq_some_iff.1 hu).1
   have hm:0<n:=by
    rcases Nat.eq_zero_or_pos n with h0|h0
    ·subst h0;omega
    ·exact h0
   obtain ⟨g',f',e',_,hc⟩:=hr2.at_ hm
   injection e' with e'
   subst e'
   have e3:(⟨g',f',none⟩:Addr).add j=⟨g',f'+j,none⟩:=by unfold Addr.add;split <;> simp_all
   rw [e3];exact hc j u hu
 have hrun:(Builtin.copy_ #[t,t] o.type #[.slice (some ⟨g,0,none⟩) n cd,.slice A m c]).run P w = .ok (goInt (n:Nat)) (w.setCells g (0+0) (us.take (n * i0.size))):=by
  simp [Builtin.copy_,run_underlying hu,Builtin.lenOf,sizeOf,typeInfo,hi0,show m.min n=n from Nat.min_eq_right hnm,hf,hst]
 unfold Oper.wp execOp
 simp only [ho,resolve,invoke,builtin,Sem.run_bind,Sem.run_pure,Result.andThen_ok,List.map_toArray,List.map_cons,List.map_nil,hx,hy,hrun]
 refine hK _ _ (h _ ?_)
 rw [c3e cs _ (by omega)] at k1
 exact hF.upd i _ _ hi k2 ⟨k1,(hF.mu i _ hi).2⟩ fun g' hg'=>.inl hg'
end
end
section
open Go.RowKit Go.Maps
theorem d2z : Keyed Tryz.prog 3:=int_keyed Tryz.underlying3
theorem g3g (w:World):(zeroValue 3).run Tryz.prog w = .ok (.int .i64 0) w:=by kernel_rfl
def mapOk (w:World) (b N:Nat) (d m:Bool):Prop:=∃ Dt:DataW Unit,w.ownsMap Tryz.prog 3 (plainElem Tryz.prog 3) b N Dt∧IsMap Dt ∧
 ∀ u:Int,u=0∨u=1∨u=2 → ∃ c:Int,Dt.atKey (.int .i64 u) (.lit (.int .i64 0)) = .lit (.int .i64 c)∧0≤c∧c≤(N:Int)∧(u=1→(0<c↔d=true))∧(u=2→(0<c↔m=true))
theorem mapOk.kept {w w':World} {b N:Nat} {d m:Bool} (h:mapOk w b N d m) (hk:w'.heap[b]?=w.heap[b]?):mapOk w' b N d m:=by
 obtain ⟨Dt,⟨es,clock,hb,F,hs,hD⟩,h2⟩:=h
 exact ⟨Dt,⟨es,clock,hk.trans hb,F,hs,hD⟩,h2⟩
def b2c (b N:Nat) (d m:Bool):Da where
 ok w:=mapOk w b N d m
 bl g:=g=b
 keep {w w'} hk hs h:=h.kept (hk b rfl)
 lt {w} h g hg:=by obtain ⟨Dt,h1,_⟩:=h;rw [hg];exact h1.lt
section
variable {P:Program} {ops:Array Oper} {rest:List Oper} {o:Oper} {a:Act} {Q:Exit→Act→World→Prop} {w0 w w':World} {D0 D:List Da} {M:List Mu}
theorem St.pushMap (h:St w0 D0 w M D):St w0 D0 (w.alloc (.map #[] 0)) M (b2c w.heap.size 0 false false::D) :=
 h.add (Bel.alloc w _) _ ⟨.map [],World.ownsMap_made _ _ _ _,⟨[],rfl⟩,fun u _=>⟨0,rfl,by omega,by omega,fun _=>by simp,fun _=>by simp⟩⟩ [] (From.new fun g hg=>by rw [hg];exact Nat.le_refl _) (fun e he=>by cases he)
theorem St.updD {d d':Da} {b:Nat} (h:St w0 D0 w M (d::D)) (hb:w0.heap.size≤b) (hbl:d.bl b) (hbl':∀ g,d'.bl g→g=b) (hok:d'.ok w') (hg:w.grownBy w' (some b)) (hD:∀ e∈D,¬ e.bl b):St w0 D0 w' M (d'::D):=by
 refine ⟨h.bel.grown hg fun k hk=>by cases hk;exact hb,fun i m hm=>?_,h.apart,fun e he=>?_,fun e he i m hm g hmg heg=>?_,fun e he=>?_⟩
 ·exact (h.mu i m hm).keep fun g hmg=>hg.block g ((h.mu i m hm).lt hmg).2 (fun e=>by cases e;exact h.sep d (List.mem_cons_self ..) i m hm _ hmg hbl)
 ·rcases List.mem_cons.1 he with rfl|he
  ·exact hok
  ·have h1:=h.dat e (List.mem_cons_of_mem _ he)
   exact e.keep (fun g heg=>hg.block g (e.lt h1 g heg) (fun e'=>by cases e';exact hD e he heg)) hg.size h1
 ·rcases List.mem_cons.1 he with rfl|he
  ·rw [hbl' g heg] at hmg
   exact h.sep d (List.mem_cons_self ..) i m hm _ hmg hbl
  ·exact h.sep e (List.mem_cons_of_mem _ he) i m hm g hmg heg
 ·rcases List.mem_cons.1 he with rfl|he
  ·exact From.new fun g hg'=>by rw [hbl' g hg'];exact hb
  ·exact h.src e (List.mem_cons_of_mem _ he)
theorem a8t {b N:Nat} {d m:Bool} {x y:Operand} {u:Int} {t:TypeId} (ho:o.op = .lookup t x y false) (hF:St w0 D0 w M (b2c b N d m::D)) (hx:a1b a x=some (.map (some b))) (hy:a1b a y=some (.int .i64 u)) (ht:Tryz.prog.underlying t=some (.map 3 3)) (hu:u=0∨u=1∨u=2)
  (hw:Wtd o ops a.tmps)
  (h:∀ c:Int,0≤c→c≤(N:Int)→(u=1→(0<c↔d=true))→(u=2→(0<c↔m=true))→wpList Tryz.prog ops Q rest (a.put o.dst (.int .i64 c)) w):wpList Tryz.prog ops Q (o::rest) a w:=by
 replace hx:=look_eval hx
 replace hy:=look_eval hy
 obtain ⟨Dt,hown,_,hat⟩:=hF.dat (b2c b N d m) (List.mem_cons_self ..)
 obtain ⟨c,hc,h0,h1,h2,h3⟩:=hat u hu
 obtain ⟨c',hrun,hat',_⟩:=hown.lookup_int d2z ht Tryz.underlying3 (g3g _) (keyOf_int_mk Tryz.underlying3 (a:=u) (by rcases hu with rfl|rfl|rfl <;> decide))
 rw [hc] at hat'
 obtain rfl:c=c':=(Lit.int.inj (DataW.lit.inj hat')).2
 refine a2c hw.1 fun K hK=>?_
 have hk:=hK _ _ (h c h0 h1 h2 h3)
 unfold Oper.wp
 simp [execOp,ho,hx,hy,hrun,Result.andThen]
 exact hk
theorem a8b {t:TypeId} (ho:o.op = .makeMap t none) (hF:St w0 D0 w M D) (hgd:o.guard=none)
  (h:∀ b w',St w0 D0 w' M (b2c b 0 false false::D)→w0.heap.size≤b→(∀ e∈D,¬ e.bl b)→wpList P ops Q rest (a.put o.dst (.map (some b))) w'):wpList P ops Q (o::rest) a w:=by
 refine wpList_plain hgd fun K hK=>?_
 unfold Oper.wp execOp
 simp only [ho,Option.map_none,run_makeMap,Sem.run_bind,Sem.run_pure,Result.andThen_ok]
 exact hK _ _ (h _ _ hF.pushMap hF.bel.size fun e he hb=>by have:=e.lt (hF.dat e he) _ hb;omega)
theorem w_mapset {b N:Nat} {d m:Bool} {x y z:Operand} {u c:Int} {t:TypeId} {d' m':Bool} (ho:o.op = .mapUpdate t x y z) (hF:St w0 D0 w M (b2c b N d m::D)) (hx:a1b a x=some (.map (some b))) (hy:a1b a y=some (.int .i64 u)) (hz:a1b a z=some (.int .i64 c)) (ht:Tryz.prog.underlying t=some (.map 3 3)) (hu:u=0∨u=1∨u=2)
  (hgd:o.guard=none) (hc0:0<c) (hcN:c≤(N:Int)+1) (hN:N≤100000) (hb:w0.heap.size≤b) (hD:∀ e∈D,¬ e.bl b) (hd:d'=(d || decide (u=1))) (hm:m'=(m || decide (u=2)))
  (h:∀ w',St w0 D0 w' M (b2c b (N+1) d' m'::D)→wpList Tryz.prog ops Q rest (a.put o.dst undef) w'):wpList Tryz.prog ops Q (o::rest) a w:=by
 replace hx:=look_eval hx
 replace hy:=look_eval hy
 replace hz:=look_eval hz
 obtain ⟨Dt,hown,hIs,hat⟩:=hF.dat (b2c b N d m) (List.mem_cons_self ..)
 refine wpList_mapUpdate_own _ hgd _ _ _ t ho 3 3 d2z ht _ b N Dt hx hown (by unfold maxLen;omega) _ _ (.int .i64 u) hy hz (keyOf_int_mk Tryz.underlying3 (by rcases hu with rfl|rfl|rfl <;> decide)) (.lit (.int .i64 c)) [] (plainElem_int Tryz.underlying3 (WalkArith.wf_i64 (by omega))) ?_
 intro w1 hown1 hg1
 refine h w1 (hF.updD hb rfl (fun g hg=>hg) ⟨_,hown1,hIs.put _ _,fun v hv=>?_⟩ hg1 hD)
 by_cases huv:v=u
 ·subst huv
  refine ⟨c,atKey_put_same hIs (by constructor) _ _,by omega,by omega,fun h1=>?_,fun h1=>?_⟩
  ·simp [hd,h1];exact hc0
  ·simp [hm,h1];exact hc0
 ·obtain ⟨c2,h1,h2,h3,h4,h5⟩:=hat v hv
  refine ⟨c2,by rw [atKey_put_other (by intro e;injection e with _ e;exact huv e)];exact h1,h2,by omega,fun e=>?_,fun e=>?_⟩
  ·rw [h4 e,hd]
   have:decide (u=1)=false:=by simp;omega
   simp [this]
  ·rw [h5 e,hm]
   have:decide (u=2)=false:=by simp;omega
   simp [this]
end
end
section
open Go.RowKit Wd
theorem c4a {x:Int} (h0:0≤x) (h1:x<18446744073709551616):IntKind.u64.wrap x=x:=by
 simp only [IntKind.wrap,IntKind.bits,IntKind.signed];simp;omega
theorem b9v (a:Nat) (n:Int) (w:World) (ha:a<4294967296) (hn:okI n) :
  Calls Tryz.prog 215 #[.int .u32 (a:Int),.int .i64 n] w fun e w'=>e = .returned (.int .u64 ((a6c a n:Nat):Int))∧Bel w w':=by
 obtain ⟨hn1,hn2⟩:=hn
 obtain ⟨M,hM⟩:∃ M:Nat,M=(max n 0).toNat:=⟨_,rfl⟩
 have hM1:Hid ((M:Int)=if (0:Int) > n then 0 else n):=Lib.hid (by split <;> omega)
 have hM2:M≤9223372036854775807:=by omega
 have hE:a6c a n=a+M:=by unfold a6c;rw [hM]
 have w1:=c4a (x:=(a:Int)) (by omega) (by omega)
 have w2:=c4a (x:=(M:Int)) (by omega) (by omega)
 have w3:=c4a (x:=(a:Int)+(M:Int)) (by omega) (by omega)
 rw [hE]
 clear hM hE
 go_enter Tryz.func215,Tryz.ntmps215
 go_wp2_with ((try refine zs ?_);refine f4d ?_)
 go_ret
 exact ⟨by simp,Bel.refl _⟩
end
section
open Go.RowKit
instance wysRows : Rows wys Wy.cells 3:=⟨fun _=>rfl,fun _=>rfl,Wy.one,by decide⟩
instance csvRows : Rows csv (fun s=>[.slice s.A s.n s.c]) 1:=⟨fun q=>by simp only [csv];induction q with
 | nil=>rfl
 | cons r q ih=>rw [List.map_cons,ih];rfl,fun _=>rfl,fun r u hu=>by obtain rfl:=List.mem_singleton.1 hu;rfl,by decide⟩
instance wysOne (q:List Wy):OneC (wys q):=⟨b6o q⟩
instance wyOne (r:Wy):OneC r.cells:=⟨r.one⟩
def a1l (S:List Cs):Da where
 ok w:=∀ s∈S,(a1a 3 s.A s.n s.c (wys s.ws)).ok w
 bl g:=∃ s∈S,inA s.A s.n g
 keep {w w'} hk hs h:=fun s hm=>(a1a 3 s.A s.n s.c (wys s.ws)).keep (fun g hg=>hk g ⟨s,hm,hg⟩) hs (h s hm)
 lt {w} h g hg:=by obtain ⟨s,hm,hg⟩:=hg;exact (a1a 3 s.A s.n s.c (wys s.ws)).lt (h s hm) g hg
def a3k (A:Option Addr) (n c:Nat) (S:List Cs):List Da:=[a1a 1 A n c (csv S),a1l S]
theorem a2t {w:World} {A:Option Addr} {n c:Nat} {S:List Cs} (h1:(a1a 1 A n c (csv S)).ok w) (h2:(a1l S).ok w):RdS w w.heap.size A n c S:=⟨h1,h2⟩
theorem a6j {w:World} {A:Option Addr} {n c:Nat} {S:List Cs} (h:RdS w w.heap.size A n c S):∀ d∈a3k A n c S,d.ok w:=by
 intro d hd
 rcases List.mem_cons.1 hd with rfl|hd
 ·exact h.rd
 ·rcases List.mem_cons.1 hd with rfl|hd
  ·exact h.sets
  ·cases hd
section
variable {w0 w w':World} {D0 D D1 ds:List Da} {M:List Mu}
theorem St.elem (h:St w0 D0 w M D) {S:List Cs} (hS:a1l S∈D) {k:Nat} {s:Cs} (hs:S[k]?=some s):St w0 D0 w M (a1a 3 s.A s.n s.c (wys s.ws)::D) :=
 h.part _ ((h.dat _ hS:(a1l S).ok w) s (List.mem_of_getElem? hs)) fun g hg=>⟨_,hS,s,List.mem_of_getElem? hs,hg⟩
theorem St.elemSet (h:St w0 D0 w M D) {S:List Cs} (hS:a1l S∈D) (k:Nat) {A2:Option Addr} {n2 c2:Nat} {q2:List Wy} (h2:a1a 3 A2 n2 c2 (wys q2)∈D):St w0 D0 w M (a1l (S.set k ⟨A2,n2,c2,q2⟩)::D) :=
 h.part _ (fun s hs=>by
  rcases List.mem_or_eq_of_mem_set hs with hs|rfl
  ·exact (h.dat _ hS:(a1l S).ok w) s hs
  ·exact h.dat _ h2) fun g hg=>by
  obtain ⟨s,hs,hg⟩:=hg
  rcases List.mem_or_eq_of_mem_set hs with hs|rfl
  ·exact ⟨_,hS,s,hs,hg⟩
  ·exact ⟨_,h2,hg⟩
end
theorem St.rds {w0 w:World} {D0 D:List Da} {M:List Mu} (h:St w0 D0 w M D) {A:Option Addr} {n c:Nat} {S:List Cs} (h1:a1a 1 A n c (csv S)∈D:=by exact zdm) (h2:a1l S∈D:=by exact zdm):RdS w w.heap.size A n c S:=a2t (h.dat _ h1) (h.dat _ h2)
theorem St.elemA {w0 w:World} {D0 D:List Da} {M:List Mu} (h:St w0 D0 w M D) {S:List Cs} {k:Nat} {s:Cs} (hs:S[k]?=some s) (hS:a1l S∈D:=by exact zdm):St w0 D0 w M (a1a 3 s.A s.n s.c (wys s.ws)::D):=h.elem hS hs
def CRes (w:World) (D0:List Da) (ways:Int) (v:Value) (w':World) (C:List (List Wy)):Prop :=
 ∃ A n c S,v = .agg #[.int .i64 ways,.slice A n c]∧Out w D0 w' [a1a 1 A n c (csv S),a1l S]∧a1j S=C
end
section
open Go.RowKit Wd
theorem g3h (a:Nat) (n:Int) (b:Nat) (m:Int) (w:World) (ha:a<4294967296) (hn:okI n) (hb:b<4294967296) (hm:okI m) :
  Calls Tryz.prog 204 #[.int .u32 (a:Int),.int .i64 n,.int .u32 (b:Int),.int .i64 m] w fun e w'=>e = .returned (.bool (a6z a n b m))∧Bel w w':=by
 have hF:=St.start w [] (fun d hd=>by cases hd)
 have HE1:=Lib.hid (fun W=>b9v b m W hb hm)
 have HE2:=Lib.hid (fun W=>b9v a n W ha hn)
 have hR:a6z a n b m=(!decide (n≤0) && !decide (m≤0) && (decide ((a:Int)<(a6c b m:Int)) && decide ((b:Int)<(a6c a n:Int)))):=by
  unfold a6z
  congr 1
  ·congr 1
   ·rw [Bool.eq_iff_iff];simp
   ·rw [Bool.eq_iff_iff];simp
  ·congr 1
   ·rw [Bool.eq_iff_iff];simp
   ·rw [Bool.eq_iff_iff];simp
 generalize a6c b m=E1 at *
 generalize a6c a n=E2 at *
 rw [hR]
 clear hR hn hm
 obtain ⟨b1,h1⟩:∃ b1,decide (n≤0)=b1:=⟨_,rfl⟩
 obtain ⟨b2,h2⟩:∃ b2,decide (m≤0)=b2:=⟨_,rfl⟩
 obtain ⟨b3,h3⟩:∃ b3,decide ((a:Int)<(E1:Int))=b3:=⟨_,rfl⟩
 obtain ⟨b4,h4⟩:∃ b4,decide ((b:Int)<(E2:Int))=b4:=⟨_,rfl⟩
 rw [h1,h2,h3,h4]
 replace h1:=Lib.hid h1
 replace h2:=Lib.hid h2
 replace h3:=Lib.hid h3
 replace h4:=Lib.hid h4
 cases b1
 ·cases b2
  ·cases b3
   ·go_enter Tryz.func204,Tryz.ntmps204
    exact b1h
   ·cases b4
    ·go_enter Tryz.func204,Tryz.ntmps204
     exact b1h
    ·go_enter Tryz.func204,Tryz.ntmps204
     exact b1h
  ·go_enter Tryz.func204,Tryz.ntmps204
   exact b1h
 ·go_enter Tryz.func204,Tryz.ntmps204
  exact b1h
theorem g3i (a:Nat) (n:Int) (b:Nat) (m:Int) (w:World) (ha:a<4294967296) (hn:okI n) (hb:b<4294967296) (hm:okI m) :
  Calls Tryz.prog 205 #[.int .u32 (a:Int),.int .i64 n,.int .u32 (b:Int),.int .i64 m] w fun e w'=>e = .returned (.bool (b2a a n b m))∧Bel w w':=by
 have hF:=St.start w [] (fun d hd=>by cases hd)
 have HE1:=Lib.hid (fun W=>b9v b m W hb hm)
 have HE2:=Lib.hid (fun W=>b9v a n W ha hn)
 have hR:b2a a n b m=(decide (0<m) && (decide ((a:Int)≤(b:Int)) && decide ((a6c b m:Int)≤(a6c a n:Int)))):=by
  unfold b2a
  congr 1
  congr 1
  ·rw [Bool.eq_iff_iff];simp
  ·rw [Bool.eq_iff_iff];simp
 generalize a6c b m=E1 at *
 generalize a6c a n=E2 at *
 rw [hR]
 clear hR hn hm
 obtain ⟨b1,h1⟩:∃ b1,decide (0<m)=b1:=⟨_,rfl⟩
 obtain ⟨b3,h3⟩:∃ b3,decide ((a:Int)≤(b:Int))=b3:=⟨_,rfl⟩
 obtain ⟨b4,h4⟩:∃ b4,decide ((E1:Int)≤(E2:Int))=b4:=⟨_,rfl⟩
 rw [h1,h3,h4]
 replace h1:=Lib.hid h1
 replace h3:=Lib.hid h3
 replace h4:=Lib.hid h4
 cases b1
 ·go_enter Tryz.func205,Tryz.ntmps205
  exact b1h
 ·cases b3
  ·go_enter Tryz.func205,Tryz.ntmps205
   exact b1h
  ·cases b4
   ·go_enter Tryz.func205,Tryz.ntmps205
    exact b1h
   ·go_enter Tryz.func205,Tryz.ntmps205
    exact b1h
end
end Go.Proofs.YtgnomadgnciifaaGreatDoor
