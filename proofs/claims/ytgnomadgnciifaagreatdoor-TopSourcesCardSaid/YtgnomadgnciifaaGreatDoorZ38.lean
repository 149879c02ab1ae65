/- Joined: Ml. -/
import Derived.Test.YtgnomadgnciifaaGreatDoorZH0
import Derived.Test.YtgnomadgnciifaaGreatDoorZ35
import Derived.Test.YtgnomadgnciifaaGreatDoorZ16
import Derived.Test.YtgnomadgnciifaaGreatDoorZ24
import Derived.Test.YtgnomadgnciifaaGreatDoorZ4
import Derived.Test.YtgnomadgnciifaaGreatDoorZ3
set_option linter.unusedVariables false
set_option linter.unusedSimpArgs false
set_option linter.unusedSectionVars false
set_option maxRecDepth 100000
set_option maxHeartbeats 16000000
namespace Go.Proofs.YtgnomadgnciifaaGreatDoor
theorem z38x0 {p:Prop} (h:p:=by
 go_enter Tryz.func85,Tryz.ntmps85
 go_wp2_with ((try simp only [zA,Nat.reduceAdd]);(first|refine zg73 ?_|(refine zg74 ?_;clear hF;(first|intro gN wN hF|intro wN hF|intro hF))|(refine zg15 ?_;clear hF;intro vN wN hF)))
 (go_ret;refine ⟨(by first|exact val_u32 hw|rfl),?_⟩;exact ⟨(hF.drop 0).lessD (by simp only [kD,List.cons_append,List.nil_append];((repeat (refine subn_cons ?_ ?_;focus (exact zdm)));exact fun d h=>by (repeat (first|exact h|refine List.Mem.tail _ ?_))))⟩)):p:=h
section
open Go.RowKit Wd
theorem mBehind_any {w0 w:World} {D0 D:List Da} {M:List Mu} {g:Nat} {k:Kern} {s:Sls} {B:Int} (hk:KOk B k) (x:Nat) (hx:x<4294967296) (hF:St w0 D0 w (.blk g 81 (mcells k s)::M) (kD k s++D)) :
  Calls Tryz.prog 85 #[.pointer (some ⟨g,0,none⟩),.int .u32 (x:Int)] w fun y w'=>y = .returned (.int .u32 ((behindK k x).1:Int))∧Kept w0 D0 D M g (behindK k x).2 s w':=by
 have HDe:=Lib.hid (fun W h=>Decode_any x W hx h)
 have hw:((k.fetch:Int)+4) % 4294967296=((add32 k.fetch 4:Nat):Int):=by have:=hk.fetch;unfold add32;omega
 have hgu:=hk.guessed
 have hbd:=hk.bound
 have hft:=hk.fetch
 have hR:Hid (behindK k x=match decodeL x with|none=>(add32 k.fetch 4,k)|some i=>if kindI i.op≠5 then (add32 k.fetch 4,k) else
  if k.conf.tables=true then (nextG k.guess k.fetch i,k) else (tapeK k.conf k.guessed k.fetch,{ k with guessed:=k.guessed+1 })):=Lib.hid rfl
 (simp only [kD,List.cons_append,List.nil_append] at hF)
 cases hd:decodeL x with
 | none=>
  rw [hd] at hR HDe
  replace hR:=Lib.hid (show behindK k x=(add32 k.fetch 4,k) from hR.out)
  clear hd
  unfold decodeV decodeE at HDe
  rw [hR.out]
  exact z38x0
 | some i=>
  have hi:=(decodeL_ok hd).1
  have hop:okI i.op:=by unfold okI;have:=(decodeL_ok hd).2;omega
  rw [hd] at hR HDe
  replace hR:=Lib.hid (show behindK k x=if kindI i.op≠5 then (add32 k.fetch 4,k) else if k.conf.tables=true then (nextG k.guess k.fetch i,k) else (tapeK k.conf k.guessed k.fetch,{ k with guessed:=k.guessed+1 }) from hR.out)
  clear hd
  have HK:=Lib.hid (fun W=>Kind_any i W hop)
  unfold decodeV decodeE at HDe
  dsimp only at HDe
  obtain ⟨op,rd,rs1,rs2,imm⟩:=i
  unfold Ins.val at HDe HK
  dsimp only at HDe HK hop
  by_cases h5:kindI op=5
  ·rw [if_neg (fun h=>h h5)] at hR
   rw [h5] at HK
   cases ht:k.conf.tables with
   | true=>
    rw [if_pos ht] at hR
    have h8:k.guess.slots.length=8:=by have:=hk.guess;simp only [rightG,Bool.and_eq_true,decide_eq_true_eq] at this;exact this.1
    have HN:=Lib.hid (fun (W:World) (h1:Rd W W.heap.size 2 s.slA k.guess.slots.length s.slC (sls k.guess.slots)) (h2:Rd W W.heap.size 1 s.rtA k.guess.rets.length s.rtC (u32v k.guess.rets))=>show Calls Tryz.prog 143 #[.agg #[.slice s.slA k.guess.slots.length s.slC,.int .u32 (k.guess.hist:Int),.slice s.rtA k.guess.rets.length s.rtC],.int .u32 (k.fetch:Int),.agg #[.int .i64 op,.int .i64 rd,.int .i64 rs1,.int .i64 rs2,.int .u32 (imm:Int)]] W (fun y w'=>y = .returned (.int .u32 ((nextG k.guess k.fetch ⟨op,rd,rs1,rs2,imm⟩:Nat):Int))∧Bel W w') from by
     rw [h8] at h1 ⊢
     exact gNext_any s.slA s.rtA s.slC s.rtC k.fetch k.guess ⟨op,rd,rs1,rs2,imm⟩ W hk.guess h1 h2 hop hft)
    generalize nextG k.guess k.fetch ⟨op,rd,rs1,rs2,imm⟩=N at HN hR
    rw [hR.out]
    have hT9:(mcells k s)[9]?=some (.bool true):=(show (mcells k s)[9]?=some (.bool k.conf.tables) from rfl).trans (congrArg (fun b=>some (Value.bool b)) ht)
    clear h5 hi hop h8 ht
    go_enter Tryz.func85,Tryz.ntmps85
    go_upto_region 5 with ((try simp only [zA,Nat.reduceAdd]);(first|refine zg75 ?_|(refine zg74 ?_;clear hF;(first|intro gN wN hF|intro wN hF|intro hF))|(refine zg15 ?_;clear hF;intro vN wN hF)))
    refine wp_region_st (by kernel_rfl) hF _ _ (fun _ h=>h) (fun _ h=>h) ?_
    clear hF;intro hF hH
    refine zk18 0 hH ?_
    refine zp 1 hH ?_
    refine zk1 2 hH ?_
    refine zk1 3 hH ?_
    refine zk6 4 hH ?_
    refine zk18 5 hH ?_
    refine zp 6 hH ?_
    refine zk1 7 hH ?_
    refine zk1 8 hH ?_
    refine zk6 9 hH ?_
    refine zk6 10 hH ?_
    refine zry 11 (fun K hK=>?_)
    go_wp2_with ((refine zg76 ?_;clear hF;intro wN hF))
    have hH:=zx0 hH hF;refine hK.out _ _ hH ?_;clear hK;(try simp only [zA,Nat.reduceAdd])
    refine zk19 12 hH ?_
    refine zrz ?_
    (go_wp2_with ((try simp only [zA,Nat.reduceAdd]);(first|refine zg73 ?_|(refine zg74 ?_;clear hF;(first|intro gN wN hF|intro wN hF|intro hF))|(refine zg15 ?_;clear hF;intro vN wN hF)));(go_ret;refine ⟨rfl,?_⟩;exact ⟨(hF.drop 0).lessD (by simp only [kD,List.cons_append,List.nil_append];((repeat (refine subn_cons ?_ ?_;focus (exact zdm)));exact fun d h=>by (repeat (first|exact h|refine List.Mem.tail _ ?_))))⟩))
   | false=>
    rw [if_neg (by rw [ht];decide)] at hR
    have HT:=Lib.hid (fun (W:World) (h1:Rd W W.heap.size 1 s.latA k.conf.lat.length s.latC (i64s k.conf.lat)) (h2:Rd W W.heap.size 1 s.tapeA k.conf.tape.length s.tapeC (u32v k.conf.tape))=>Tape_any k.conf s.latA s.latC s.tapeA s.tapeC k.guessed k.fetch W (by unfold okI;omega) hft h1 h2)
    generalize tapeK k.conf k.guessed k.fetch=N at HT hR
    rw [hR.out]
    have hT9:(mcells k s)[9]?=some (.bool false):=(show (mcells k s)[9]?=some (.bool k.conf.tables) from rfl).trans (congrArg (fun b=>some (Value.bool b)) ht)
    clear h5 hi hop ht
    go_enter Tryz.func85,Tryz.ntmps85
    go_upto_region 6 with ((try simp only [zA,Nat.reduceAdd]);(first|refine zg77 ?_|(refine zg74 ?_;clear hF;(first|intro gN wN hF|intro wN hF|intro hF))|(refine zg15 ?_;clear hF;intro vN wN hF)))
    refine wp_region_st (by kernel_rfl) hF _ _ (fun _ h=>h) (fun _ h=>h) ?_
    clear hF;intro hF hH
    refine zk18 0 hH ?_
    refine zp 1 hH ?_
    refine zk1 2 hH ?_
    refine zk1 3 hH ?_
    refine zk6 4 hH ?_
    refine zk18 5 hH ?_
    refine zp 6 hH ?_
    refine zk1 7 hH ?_
    refine zk1 8 hH ?_
    refine zk6 9 hH ?_
    refine zk18 10 hH ?_
    refine zp 11 hH ?_
    refine zk1 12 hH ?_
    refine zk1 13 hH ?_
    refine zk6 14 hH ?_
    refine zry 15 (fun K hK=>?_)
    go_wp2_with ((refine zg78 ?_;clear hF;intro wN hF))
    have hH:=zx0 hH hF;refine hK.out _ _ hH ?_;clear hK;(try simp only [zA,Nat.reduceAdd])
    refine zk19 16 hH ?_
    refine zrz ?_
    (go_wp2_with ((try simp only [zA,Nat.reduceAdd]);(first|refine zg73 ?_|(refine zg74 ?_;clear hF;(first|intro gN wN hF|intro wN hF|intro hF))|(refine zg15 ?_;clear hF;intro vN wN hF)));go_ret;refine ⟨rfl,?_⟩;rw [mset_guessed] at hF;exact ⟨(hF.drop 0).lessD (by simp only [kD,List.cons_append,List.nil_append];((repeat (refine subn_cons ?_ ?_;focus (exact zdm)));exact fun d h=>by (repeat (first|exact h|refine List.Mem.tail _ ?_))))⟩)
  ·rw [if_pos h5] at hR
   obtain ⟨κ,hκ⟩:∃ κ,kindI op=κ:=⟨_,rfl⟩
   rw [hκ] at HK h5
   have hb5:=Lib.hid (show decide (¬ κ=5)=true by simpa using h5)
   rw [hR.out]
   clear h5 hκ hi hop
   exact z38x0
end
end Go.Proofs.YtgnomadgnciifaaGreatDoor
