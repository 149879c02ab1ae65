/- Joined: In6. -/
import Derived.Test.YtgnomadgnciifaaGreatDoorZH0
import Derived.Test.YtgnomadgnciifaaGreatDoorZ6
import Derived.Test.YtgnomadgnciifaaGreatDoorZ3
set_option linter.unusedVariables false
set_option linter.unusedSimpArgs false
set_option linter.unusedSectionVars false
set_option maxRecDepth 100000
set_option maxHeartbeats 16000000
namespace Go.Proofs.YtgnomadgnciifaaGreatDoor
theorem z12x0 {p:Prop} (h:p:=by
 replace hb:=Lib.hid hb
 replace him:=Lib.hid him
 (first|rw [e2 rfl] at HG|skip)
 replace e1:=Lib.hid e1
 replace e2:=Lib.hid e2
 unfold Ins.val
 clear hg h2 hf
 go_enter Tryz.func149,Tryz.ntmps149
 go_upto_region 12 with ((try simp only [zA,Nat.reduceAdd]);(first|(go_at_call 107;refine (HFo.out _).mono ?_;rintro x wN ⟨rfl,rfl⟩)|(go_at_call 106;refine (HH.out _).mono ?_;rintro x wN ⟨rfl,rfl⟩)|(go_at_call 146;refine (HN.out _).mono ?_;rintro x wN ⟨A,c,rfl,hO⟩;replace hF:=hF.call1A hO;clear hO)|(go_at_call 187;refine (HG.out _ _ _ hF.rdA).mono ?_;rintro x wN ⟨rfl,hb⟩;replace hF:=hF.grow hb;clear hb)|(go_at_call 186;refine (Field_any _ _ _ _ hx (by omega) (by omega)).mono ?_;rintro x wN ⟨rfl,hd⟩;replace hF:=hF.grow (Bel.ofDrew hd);clear hd)|refine zg13 ?_|(refine zg14 ?_;clear hF;(first|intro gN wN hF|intro wN hF|intro hF))|(refine zg15 ?_;clear hF;intro vN wN hF)))
 replace e1:=e1.out
 have e3:(im:Int) % 4294967296=(im:Int):=by omega
 go_upto_region 13 with ((try simp only [zA,Nat.reduceAdd]);(first|refine zg16 ?_|(refine zg17 ?_;clear hF;intro wN hF)))
 go_wp2_with ((try simp only [zA,Nat.reduceAdd]);(first|(go_at_call 170;refine (HS.out _).mono ?_;rintro x wN ⟨rfl,hd⟩;replace hF:=hF.grow (Bel.ofDrew hd);clear hd)|refine zg18 ?_|(refine zg19 ?_;clear hF;intro wN hF)))
 ((try simp only [Exit.inBlock,Exit.then]);refine bodyPost_ret (w_resc rfl hF) rfl ?_)
 exact ⟨rfl,hF.bel⟩):p:=h
section
open Go.RowKit Wd
theorem read_6 (op:Int) (x:Nat) (w:World) (hf:formL op=6) (hx:x<4294967296) :
  Calls Tryz.prog 149 #[.int .i64 op,.int .u32 (x:Int)] w fun e w'=>e = .returned (readL op x).val∧Bel w w':=by
 have hF:=St.start w [] (fun d hd=>by cases hd)
 have HFo:=Lib.hid (fun W=>by have:=form_any op W;rwa [form_is,hf] at this:∀ W,Calls Tryz.prog 107 #[.int .i64 op] W fun e w'=>e = .returned (.int .i64 6)∧w'=W)
 have HH:=Lib.hid (fun W=>has3_6 W)
 have HN0:∀ W,Calls Tryz.prog 146 #[.int .i64 6] W fun e w'=>∃ A c,e = .returned (.tuple #[.slice A 1 c,.int .i64 12])∧Out W [] w' [rowD 2 A 1 c (spns (spOf (numberL 6).1))]:=fun W=>number_6 W
 have HN:=Lib.hid HN0
 clear HN0
 have r1:=fieldI_lt x 7 5
 have r2:=fieldI_lt x 15 5
 have r3:=fieldI_lt x 20 5
 have HG0:∀ W A c,Rd W W.heap.size 2 A 1 c (spns (spOf (numberL 6).1))→Calls Tryz.prog 187 #[.int .u32 (x:Int),.slice A 1 c] W fun e w'=>e = .returned (.tuple #[.int .u32 ((gatherL x (numberL 6).1).1:Int),.int .i64 (gatherL x (numberL 6).1).2])∧Bel W w':=fun W A c hr=>gather_any A c x (numberL 6).1 W hr (numberL_ok _) hx
 have hb:=(gather_b hx (numberL_ok 6) _ (Nat.le_refl _)).1
 rw [List.take_length] at hb
 have h2:(gatherL x (numberL 6).1).2=20:=rfl
 rw [readL_eq hf,h2]
 rw [h2] at HG0
 generalize hg:(gatherL x (numberL 6).1).1=g1 at *
 have HG:=Lib.hid HG0
 clear HG0
 obtain ⟨im,him⟩:∃ im,g1 * 2 ^ (numberL 6).2 % 4294967296=im:=⟨_,rfl⟩
 have himl:im<4294967296:=by rw [← him];exact Nat.mod_lt _ (by omega)
 have HS:=Lib.hid (fun W=>Sext_any im 32 W himl ⟨by omega,by omega⟩)
 rw [him]
 have e1:(g1:Int) * 4096 % 4294967296=((im:Nat):Int):=by
  rw [← him,show (numberL 6).2=12 from rfl]
  omega
 have e2:4096=1→(g1:Int)=((im:Nat):Int):=fun h=>by omega
 exact z12x0
theorem read_7 (op:Int) (x:Nat) (w:World) (hf:formL op=7) (hx:x<4294967296) :
  Calls Tryz.prog 149 #[.int .i64 op,.int .u32 (x:Int)] w fun e w'=>e = .returned (readL op x).val∧Bel w w':=by
 have hF:=St.start w [] (fun d hd=>by cases hd)
 have HFo:=Lib.hid (fun W=>by have:=form_any op W;rwa [form_is,hf] at this:∀ W,Calls Tryz.prog 107 #[.int .i64 op] W fun e w'=>e = .returned (.int .i64 7)∧w'=W)
 have HH:=Lib.hid (fun W=>has3_7 W)
 have HN0:∀ W,Calls Tryz.prog 146 #[.int .i64 7] W fun e w'=>∃ A c,e = .returned (.tuple #[.slice A 4 c,.int .i64 1])∧Out W [] w' [rowD 2 A 4 c (spns (spOf (numberL 7).1))]:=fun W=>number_7 W
 have HN:=Lib.hid HN0
 clear HN0
 have r1:=fieldI_lt x 7 5
 have r2:=fieldI_lt x 15 5
 have r3:=fieldI_lt x 20 5
 have HG0:∀ W A c,Rd W W.heap.size 2 A 4 c (spns (spOf (numberL 7).1))→Calls Tryz.prog 187 #[.int .u32 (x:Int),.slice A 4 c] W fun e w'=>e = .returned (.tuple #[.int .u32 ((gatherL x (numberL 7).1).1:Int),.int .i64 (gatherL x (numberL 7).1).2])∧Bel W w':=fun W A c hr=>gather_any A c x (numberL 7).1 W hr (numberL_ok _) hx
 have hb:=(gather_b hx (numberL_ok 7) _ (Nat.le_refl _)).1
 rw [List.take_length] at hb
 have h2:(gatherL x (numberL 7).1).2=20:=rfl
 rw [readL_eq hf,h2]
 rw [h2] at HG0
 generalize hg:(gatherL x (numberL 7).1).1=g1 at *
 have HG:=Lib.hid HG0
 clear HG0
 obtain ⟨im,him⟩:∃ im,g1 * 2 ^ (numberL 7).2 % 4294967296=im:=⟨_,rfl⟩
 have himl:im<4294967296:=by rw [← him];exact Nat.mod_lt _ (by omega)
 have HS:=Lib.hid (fun W=>Sext_any im 21 W himl ⟨by omega,by omega⟩)
 rw [him]
 have e1:(g1:Int) * 2 % 4294967296=((im:Nat):Int):=by
  rw [← him,show (numberL 7).2=1 from rfl]
  omega
 have e2:2=1→(g1:Int)=((im:Nat):Int):=fun h=>by omega
 exact z12x0
theorem read_8 (op:Int) (x:Nat) (w:World) (hf:formL op=8) (hx:x<4294967296) :
  Calls Tryz.prog 149 #[.int .i64 op,.int .u32 (x:Int)] w fun e w'=>e = .returned (readL op x).val∧Bel w w':=by
 have hF:=St.start w [] (fun d hd=>by cases hd)
 have HFo:=Lib.hid (fun W=>by have:=form_any op W;rwa [form_is,hf] at this:∀ W,Calls Tryz.prog 107 #[.int .i64 op] W fun e w'=>e = .returned (.int .i64 8)∧w'=W)
 have HH:=Lib.hid (fun W=>has3_8 W)
 have HN0:∀ W,Calls Tryz.prog 146 #[.int .i64 8] W fun e w'=>∃ A c,e = .returned (.tuple #[.slice A 0 c,.int .i64 0])∧Out W [] w' [rowD 2 A 0 c (spns (spOf (numberL 8).1))]:=fun W=>number_8 W
 have HN:=Lib.hid HN0
 clear HN0
 have r1:=fieldI_lt x 7 5
 have r2:=fieldI_lt x 15 5
 have r3:=fieldI_lt x 20 5
 have HG0:∀ W A c,Rd W W.heap.size 2 A 0 c (spns (spOf (numberL 8).1))→Calls Tryz.prog 187 #[.int .u32 (x:Int),.slice A 0 c] W fun e w'=>e = .returned (.tuple #[.int .u32 ((gatherL x (numberL 8).1).1:Int),.int .i64 (gatherL x (numberL 8).1).2])∧Bel W w':=fun W A c hr=>gather_any A c x (numberL 8).1 W hr (numberL_ok _) hx
 have hb:=(gather_b hx (numberL_ok 8) _ (Nat.le_refl _)).1
 rw [List.take_length] at hb
 have h2:(gatherL x (numberL 8).1).2=0:=rfl
 rw [readL_eq hf,h2]
 rw [h2] at HG0
 generalize hg:(gatherL x (numberL 8).1).1=g1 at *
 have HG:=Lib.hid HG0
 clear HG0
 obtain ⟨im,him⟩:∃ im,g1 * 2 ^ (numberL 8).2 % 4294967296=im:=⟨_,rfl⟩
 have himl:im<4294967296:=by rw [← him];exact Nat.mod_lt _ (by omega)
 have HS:=Lib.hid (fun W=>Sext_any im 0 W himl ⟨by omega,by omega⟩)
 rw [him]
 have e1:(g1:Int) * 1 % 4294967296=((im:Nat):Int):=by
  rw [← him,show (numberL 8).2=0 from rfl]
  omega
 have e2:1=1→(g1:Int)=((im:Nat):Int):=fun h=>by omega
 exact z12x0
end
end Go.Proofs.YtgnomadgnciifaaGreatDoor
