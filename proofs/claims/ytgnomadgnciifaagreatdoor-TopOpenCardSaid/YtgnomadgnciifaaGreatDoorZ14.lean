/- . -/
import Derived.Test.YtgnomadgnciifaaGreatDoorZ6
set_option linter.unusedVariables false
set_option linter.unusedSimpArgs false
set_option linter.unusedSectionVars false
set_option maxRecDepth 100000
set_option maxHeartbeats 16000000
namespace Go.Proofs.YtgnomadgnciifaaGreatDoor
theorem c4z {p:Prop} (h:p:=by
 replace hb:=Lib.hid hb
 replace him:=Lib.hid him
 (first|rw [e2 rfl] at HG|skip)
 replace e1:=Lib.hid e1
 replace e2:=Lib.hid e2
 unfold Ins.val
 clear hg h2 hf
 go_enter Tryz.func149,Tryz.ntmps149
 go_upto_region 12 with ((try refine zs ?_);(first|(go_at_call 107;refine (HFo.out _).mono ?_;rintro x wN ⟨rfl,rfl⟩)|(go_at_call 106;refine (HH.out _).mono ?_;rintro x wN ⟨rfl,rfl⟩)|(go_at_call 146;refine (HN.out _).mono ?_;rintro x wN ⟨A,c,rfl,hO⟩;replace hF:=hF.call1A hO;clear hO)|(go_at_call 187;refine (HG.out _ _ _ hF.rdA).mono ?_;rintro x wN ⟨rfl,hb⟩;replace hF:=hF.grow hb;clear hb)|(go_at_call 186;refine (b8p _ _ _ _ hx (by omega) (by omega)).mono ?_;rintro x wN ⟨rfl,hd⟩;replace hF:=hF.grow (Bel.ofDrew hd);clear hd)|refine a8i ?_|(refine a1s ?_;clear hF;(first|intro gN wN hF|intro wN hF|intro hF))|(refine a1d ?_;clear hF;intro vN wN hF)))
 replace e1:=e1.out
 have e3:(im:Int) % 4294967296=(im:Int):=by omega
 go_upto_region 13 with ((try refine zs ?_);(first|refine c2i ?_|(refine c2j ?_;clear hF;intro wN hF)))
 go_wp2_with ((try refine zs ?_);(first|(go_at_call 170;refine (HS.out _).mono ?_;rintro x wN ⟨rfl,hd⟩;replace hF:=hF.grow (Bel.ofDrew hd);clear hd)|refine c2k ?_|(refine c2l ?_;clear hF;intro wN hF)))
 ((try simp only [Exit.inBlock,Exit.then]);refine bodyPost_ret (a2x rfl hF) rfl ?_)
 exact ⟨rfl,hF.bel⟩):p:=h
section
open Go.RowKit Wd
theorem g9e (op:Int) (x:Nat) (w:World) (hf:a1o op=3) (hx:x<4294967296) :
  Calls Tryz.prog 149 #[.int .i64 op,.int .u32 (x:Int)] w fun e w'=>e = .returned (a2g op x).val∧Bel w w':=by
 have hF:=St.start w [] (fun d hd=>by cases hd)
 have HFo:=Lib.hid (fun W=>by have:=a7r op W;rwa [a8c,hf] at this:∀ W,Calls Tryz.prog 107 #[.int .i64 op] W fun e w'=>e = .returned (.int .i64 3)∧w'=W)
 have HH:=Lib.hid (fun W=>d3p W)
 have HN0:∀ W,Calls Tryz.prog 146 #[.int .i64 3] W fun e w'=>∃ A c,e = .returned (.tuple #[.slice A 1 c,.int .i64 0])∧Out W [] w' [a1a 2 A 1 c (spns (a2l (a1g 3).1))]:=fun W=>d3z W
 have HN:=Lib.hid HN0
 clear HN0
 have r1:=a3e x 7 5
 have r2:=a3e x 15 5
 have r3:=a3e x 20 5
 have HG0:∀ W A c,Rd W W.heap.size 2 A 1 c (spns (a2l (a1g 3).1))→Calls Tryz.prog 187 #[.int .u32 (x:Int),.slice A 1 c] W fun e w'=>e = .returned (.tuple #[.int .u32 ((a1x x (a1g 3).1).1:Int),.int .i64 (a1x x (a1g 3).1).2])∧Bel W w':=fun W A c hr=>b1j A c x (a1g 3).1 W hr (a4y _) hx
 have hb:=(a9p hx (a4y 3) _ (Nat.le_refl _)).1
 rw [List.take_length] at hb
 have h2:(a1x x (a1g 3).1).2=5:=rfl
 rw [b1l hf,h2]
 rw [h2] at HG0
 generalize hg:(a1x x (a1g 3).1).1=g1 at *
 have HG:=Lib.hid HG0
 clear HG0
 obtain ⟨im,him⟩:∃ im,g1 * 2 ^ (a1g 3).2 % 4294967296=im:=⟨_,rfl⟩
 have himl:im<4294967296:=by rw [← him];exact Nat.mod_lt _ (by omega)
 have HS:=Lib.hid (fun W=>a9b im 5 W himl ⟨by omega,by omega⟩)
 rw [him]
 have e1:(g1:Int) * 1 % 4294967296=((im:Nat):Int):=by
  rw [← him,show (a1g 3).2=0 from rfl]
  omega
 have e2:1=1→(g1:Int)=((im:Nat):Int):=fun h=>by omega
 exact c4z
theorem g9f (op:Int) (x:Nat) (w:World) (hf:a1o op=4) (hx:x<4294967296) :
  Calls Tryz.prog 149 #[.int .i64 op,.int .u32 (x:Int)] w fun e w'=>e = .returned (a2g op x).val∧Bel w w':=by
 have hF:=St.start w [] (fun d hd=>by cases hd)
 have HFo:=Lib.hid (fun W=>by have:=a7r op W;rwa [a8c,hf] at this:∀ W,Calls Tryz.prog 107 #[.int .i64 op] W fun e w'=>e = .returned (.int .i64 4)∧w'=W)
 have HH:=Lib.hid (fun W=>d3q W)
 have HN0:∀ W,Calls Tryz.prog 146 #[.int .i64 4] W fun e w'=>∃ A c,e = .returned (.tuple #[.slice A 2 c,.int .i64 0])∧Out W [] w' [a1a 2 A 2 c (spns (a2l (a1g 4).1))]:=fun W=>d4a W
 have HN:=Lib.hid HN0
 clear HN0
 have r1:=a3e x 7 5
 have r2:=a3e x 15 5
 have r3:=a3e x 20 5
 have HG0:∀ W A c,Rd W W.heap.size 2 A 2 c (spns (a2l (a1g 4).1))→Calls Tryz.prog 187 #[.int .u32 (x:Int),.slice A 2 c] W fun e w'=>e = .returned (.tuple #[.int .u32 ((a1x x (a1g 4).1).1:Int),.int .i64 (a1x x (a1g 4).1).2])∧Bel W w':=fun W A c hr=>b1j A c x (a1g 4).1 W hr (a4y _) hx
 have hb:=(a9p hx (a4y 4) _ (Nat.le_refl _)).1
 rw [List.take_length] at hb
 have h2:(a1x x (a1g 4).1).2=12:=rfl
 rw [b1l hf,h2]
 rw [h2] at HG0
 generalize hg:(a1x x (a1g 4).1).1=g1 at *
 have HG:=Lib.hid HG0
 clear HG0
 obtain ⟨im,him⟩:∃ im,g1 * 2 ^ (a1g 4).2 % 4294967296=im:=⟨_,rfl⟩
 have himl:im<4294967296:=by rw [← him];exact Nat.mod_lt _ (by omega)
 have HS:=Lib.hid (fun W=>a9b im 12 W himl ⟨by omega,by omega⟩)
 rw [him]
 have e1:(g1:Int) * 1 % 4294967296=((im:Nat):Int):=by
  rw [← him,show (a1g 4).2=0 from rfl]
  omega
 have e2:1=1→(g1:Int)=((im:Nat):Int):=fun h=>by omega
 exact c4z
theorem g9g (op:Int) (x:Nat) (w:World) (hf:a1o op=5) (hx:x<4294967296) :
  Calls Tryz.prog 149 #[.int .i64 op,.int .u32 (x:Int)] w fun e w'=>e = .returned (a2g op x).val∧Bel w w':=by
 have hF:=St.start w [] (fun d hd=>by cases hd)
 have HFo:=Lib.hid (fun W=>by have:=a7r op W;rwa [a8c,hf] at this:∀ W,Calls Tryz.prog 107 #[.int .i64 op] W fun e w'=>e = .returned (.int .i64 5)∧w'=W)
 have HH:=Lib.hid (fun W=>d3r W)
 have HN0:∀ W,Calls Tryz.prog 146 #[.int .i64 5] W fun e w'=>∃ A c,e = .returned (.tuple #[.slice A 4 c,.int .i64 1])∧Out W [] w' [a1a 2 A 4 c (spns (a2l (a1g 5).1))]:=fun W=>d4b W
 have HN:=Lib.hid HN0
 clear HN0
 have r1:=a3e x 7 5
 have r2:=a3e x 15 5
 have r3:=a3e x 20 5
 have HG0:∀ W A c,Rd W W.heap.size 2 A 4 c (spns (a2l (a1g 5).1))→Calls Tryz.prog 187 #[.int .u32 (x:Int),.slice A 4 c] W fun e w'=>e = .returned (.tuple #[.int .u32 ((a1x x (a1g 5).1).1:Int),.int .i64 (a1x x (a1g 5).1).2])∧Bel W w':=fun W A c hr=>b1j A c x (a1g 5).1 W hr (a4y _) hx
 have hb:=(a9p hx (a4y 5) _ (Nat.le_refl _)).1
 rw [List.take_length] at hb
 have h2:(a1x x (a1g 5).1).2=12:=rfl
 rw [b1l hf,h2]
 rw [h2] at HG0
 generalize hg:(a1x x (a1g 5).1).1=g1 at *
 have HG:=Lib.hid HG0
 clear HG0
 obtain ⟨im,him⟩:∃ im,g1 * 2 ^ (a1g 5).2 % 4294967296=im:=⟨_,rfl⟩
 have himl:im<4294967296:=by rw [← him];exact Nat.mod_lt _ (by omega)
 have HS:=Lib.hid (fun W=>a9b im 13 W himl ⟨by omega,by omega⟩)
 rw [him]
 have e1:(g1:Int) * 2 % 4294967296=((im:Nat):Int):=by
  rw [← him,show (a1g 5).2=1 from rfl]
  omega
 have e2:2=1→(g1:Int)=((im:Nat):Int):=fun h=>by omega
 exact c4z
end
end Go.Proofs.YtgnomadgnciifaaGreatDoor
