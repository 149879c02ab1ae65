/- . -/
import Derived.Test.YtgnomadgnciifaaGreatDoorZ35
import Derived.Test.YtgnomadgnciifaaGreatDoorZ24
set_option linter.unusedVariables false
set_option linter.unusedSimpArgs false
set_option linter.unusedSectionVars false
set_option maxRecDepth 100000
set_option maxHeartbeats 16000000
namespace Go.Proofs.YtgnomadgnciifaaGreatDoor
theorem d8v {p:Prop} (h:p:=by
 go_enter Tryz.func85,Tryz.ntmps85
 go_wp2_with ((try simp only [zA,Nat.reduceAdd]);(first|refine c2p ?_|(refine b5x ?_;clear hF;(first|intro gN wN hF|intro wN hF|intro hF))|(refine a1d ?_;clear hF;intro vN wN hF)))
 (go_ret;refine ⟨(by first|exact a2m hw|rfl),?_⟩;exact ⟨(hF.drop 0).lessD (by simp only [kD,zL];exact zsn)⟩)):p:=h
section
open Go.RowKit Wd
theorem h6p {w0 w:World} {D0 D:List Da} {M:List Mu} {g:Nat} {k:Kern} {s:Sls} {B:Int} (hk:KOk B k) (x:Nat) (hx:x<4294967296) (hF:St w0 D0 w (.blk g 81 (mcells k s)::M) (kD k s++D)) :
  Calls Tryz.prog 85 #[.pointer (some ⟨g,0,none⟩),.int .u32 (x:Int)] w fun y w'=>y = .returned (.int .u32 ((a2f k x).1:Int))∧Kept w0 D0 D M g (a2f k x).2 s w':=by
 have HDe:=Lib.hid (fun W h=>c5g x W hx h)
 have hw:((k.fetch:Int)+4) % 4294967296=((a1k k.fetch 4:Nat):Int):=by have:=hk.fetch;unfold a1k;omega
 have hgu:=hk.guessed
 have hbd:=hk.bound
 have hft:=hk.fetch
 have hR:Hid (a2f k x=match a4j x with|none=>(a1k k.fetch 4,k)|some i=>if a1e i.op≠5 then (a1k k.fetch 4,k) else
  if k.conf.tables=true then (a8s k.guess k.fetch i,k) else (b2b k.conf k.guessed k.fetch,{ k with guessed:=k.guessed+1 })):=Lib.hid rfl
 (simp only [kD,zL] at hF)
 cases hd:a4j x with
 | none=>
  rw [hd] at hR HDe
  replace hR:=Lib.hid (show a2f k x=(a1k k.fetch 4,k) from hR.out)
  clear hd
  unfold c5e c5f at HDe
  rw [hR.out]
  exact d8v
 | some i=>
  have hi:=(c5o hd).1
  have hop:okI i.op:=by unfold okI;have:=(c5o hd).2;omega
  rw [hd] at hR HDe
  replace hR:=Lib.hid (show a2f k x=if a1e i.op≠5 then (a1k k.fetch 4,k) else if k.conf.tables=true then (a8s k.guess k.fetch i,k) else (b2b k.conf k.guessed k.fetch,{ k with guessed:=k.guessed+1 }) from hR.out)
  clear hd
  have HK:=Lib.hid (fun W=>a2o i W hop)
  unfold c5e c5f at HDe
  dsimp only at HDe
  obtain ⟨op,rd,rs1,rs2,imm⟩:=i
  unfold Ins.val at HDe HK
  dsimp only at HDe HK hop
  by_cases h5:a1e op=5
  ·rw [if_neg (fun h=>h h5)] at hR
   rw [h5] at HK
   cases ht:k.conf.tables with
   | true=>
    rw [if_pos ht] at hR
    have h8:k.guess.slots.length=8:=by have:=hk.guess;simp only [a5o,Bool.and_eq_true,decide_eq_true_eq] at this;exact this.1
    have HN:=Lib.hid (fun (W:World) (h1:Rd W W.heap.size 2 s.slA k.guess.slots.length s.slC (sls k.guess.slots)) (h2:Rd W W.heap.size 1 s.rtA k.guess.rets.length s.rtC (u32v k.guess.rets))=>show Calls Tryz.prog 143 #[.agg #[.slice s.slA k.guess.slots.length s.slC,.int .u32 (k.guess.hist:Int),.slice s.rtA k.guess.rets.length s.rtC],.int .u32 (k.fetch:Int),.agg #[.int .i64 op,.int .i64 rd,.int .i64 rs1,.int .i64 rs2,.int .u32 (imm:Int)]] W (fun y w'=>y = .returned (.int .u32 ((a8s k.guess k.fetch ⟨op,rd,rs1,rs2,imm⟩:Nat):Int))∧Bel W w') from by
     rw [h8] at h1 ⊢
     exact h1w s.slA s.rtA s.slC s.rtC k.fetch k.guess ⟨op,rd,rs1,rs2,imm⟩ W hk.guess h1 h2 hop hft)
    generalize a8s k.guess k.fetch ⟨op,rd,rs1,rs2,imm⟩=N at HN hR
    rw [hR.out]
    have hT9:(mcells k s)[9]?=some (.bool true):=(show (mcells k s)[9]?=some (.bool k.conf.tables) from rfl).trans (congrArg (fun b=>some (Value.bool b)) ht)
    clear h5 hi hop h8 ht
    go_enter Tryz.func85,Tryz.ntmps85
    go_upto_region 5 with ((try simp only [zA,Nat.reduceAdd]);(first|refine f3m ?_|(refine b5x ?_;clear hF;(first|intro gN wN hF|intro wN hF|intro hF))|(refine a1d ?_;clear hF;intro vN wN hF)))
    refine a1n (by kernel_rfl) hF _ _ (fun _ h=>h) (fun _ h=>h) ?_
    clear hF;intro hF hH
    refine a1c 0 hH ?_
    refine zp 1 hH ?_
    refine zk1 2 hH ?_
    refine zk1 3 hH ?_
    refine zk6 4 hH ?_
    refine a1c 5 hH ?_
    refine zp 6 hH ?_
    refine zk1 7 hH ?_
    refine zk1 8 hH ?_
    refine zk6 9 hH ?_
    refine zk6 10 hH ?_
    refine zry 11 (fun K hK=>?_)
    go_wp2_with ((refine f3n ?_;clear hF;intro wN hF))
    have hH:=zx0 hH hF;refine hK.out _ _ hH ?_;clear hK;(try simp only [zA,Nat.reduceAdd])
    refine a2a 12 hH ?_
    refine zrz ?_
    (go_wp2_with ((try simp only [zA,Nat.reduceAdd]);(first|refine c2p ?_|(refine b5x ?_;clear hF;(first|intro gN wN hF|intro wN hF|intro hF))|(refine a1d ?_;clear hF;intro vN wN hF)));(go_ret;refine ⟨rfl,?_⟩;exact ⟨(hF.drop 0).lessD (by simp only [kD,zL];exact zsn)⟩))
   | false=>
    rw [if_neg (by rw [ht];decide)] at hR
    have HT:=Lib.hid (fun (W:World) (h1:Rd W W.heap.size 1 s.latA k.conf.lat.length s.latC (a1i k.conf.lat)) (h2:Rd W W.heap.size 1 s.tapeA k.conf.tape.length s.tapeC (u32v k.conf.tape))=>g9m k.conf s.latA s.latC s.tapeA s.tapeC k.guessed k.fetch W (by unfold okI;omega) hft h1 h2)
    generalize b2b k.conf k.guessed k.fetch=N at HT hR
    rw [hR.out]
    have hT9:(mcells k s)[9]?=some (.bool false):=(show (mcells k s)[9]?=some (.bool k.conf.tables) from rfl).trans (congrArg (fun b=>some (Value.bool b)) ht)
    clear h5 hi hop ht
    go_enter Tryz.func85,Tryz.ntmps85
    go_upto_region 6 with ((try simp only [zA,Nat.reduceAdd]);(first|refine f3o ?_|(refine b5x ?_;clear hF;(first|intro gN wN hF|intro wN hF|intro hF))|(refine a1d ?_;clear hF;intro vN wN hF)))
    refine a1n (by kernel_rfl) hF _ _ (fun _ h=>h) (fun _ h=>h) ?_
    clear hF;intro hF hH
    refine a1c 0 hH ?_
    refine zp 1 hH ?_
    refine zk1 2 hH ?_
    refine zk1 3 hH ?_
    refine zk6 4 hH ?_
    refine a1c 5 hH ?_
    refine zp 6 hH ?_
    refine zk1 7 hH ?_
    refine zk1 8 hH ?_
    refine zk6 9 hH ?_
    refine a1c 10 hH ?_
    refine zp 11 hH ?_
    refine zk1 12 hH ?_
    refine zk1 13 hH ?_
    refine zk6 14 hH ?_
    refine zry 15 (fun K hK=>?_)
    go_wp2_with ((refine f3p ?_;clear hF;intro wN hF))
    have hH:=zx0 hH hF;refine hK.out _ _ hH ?_;clear hK;(try simp only [zA,Nat.reduceAdd])
    refine a2a 16 hH ?_
    refine zrz ?_
    (go_wp2_with ((try simp only [zA,Nat.reduceAdd]);(first|refine c2p ?_|(refine b5x ?_;clear hF;(first|intro gN wN hF|intro wN hF|intro hF))|(refine a1d ?_;clear hF;intro vN wN hF)));go_ret;refine ⟨rfl,?_⟩;rw [h3m] at hF;exact ⟨(hF.drop 0).lessD (by simp only [kD,zL];exact zsn)⟩)
  ·rw [if_pos h5] at hR
   obtain ⟨κ,hκ⟩:∃ κ,a1e op=κ:=⟨_,rfl⟩
   rw [hκ] at HK h5
   have hb5:=Lib.hid (show decide (¬ κ=5)=true by simpa using h5)
   rw [hR.out]
   clear h5 hκ hi hop
   exact d8v
end
end Go.Proofs.YtgnomadgnciifaaGreatDoor
