/- Joined: In4. -/
import Derived.Test.YtgnomadgnciifaaGreatDoorZH0
import Derived.Test.YtgnomadgnciifaaGreatDoorZ6
import Derived.Test.YtgnomadgnciifaaGreatDoorZ3
set_option linter.unusedVariables false
set_option linter.unusedSimpArgs false
set_option linter.unusedSectionVars false
set_option maxRecDepth 100000
set_option maxHeartbeats 16000000
namespace Go.Proofs.YtgnomadgnciifaaGreatDoor
theorem z13x0 {p:Prop} (h:p:=by
 have e2:1=1→(g1:Int)=((im:Nat):Int):=fun h=>by omega
 replace hb:=Lib.hid hb
 replace him:=Lib.hid him
 (first|rw [e2 rfl] at HG|skip)
 replace e1:=Lib.hid e1
 replace e2:=Lib.hid e2
 unfold Ins.val
 clear hg h2 hf
 go_enter Tryz.func149,Tryz.ntmps149
 go_upto_region 12 with ((try simp only [zA,Nat.reduceAdd]);(first|(go_at_call 107;refine (HFo.out _).mono ?_;rintro x wN ⟨rfl,rfl⟩)|(go_at_call 106;refine (HH.out _).mono ?_;rintro x wN ⟨rfl,rfl⟩)|(go_at_call 146;refine (HN.out _).mono ?_;rintro x wN ⟨A,c,rfl,hO⟩;replace hF:=hF.call1A hO;clear hO)|(go_at_call 187;refine (HG.out _ _ _ hF.rdA).mono ?_;rintro x wN ⟨rfl,hb⟩;replace hF:=hF.grow hb;clear hb)|(go_at_call 186;refine (Field_any _ _ _ _ hx (by omega) (by omega)).mono ?_;rintro x wN ⟨rfl,hd⟩;replace hF:=hF.grow (Bel.ofDrew hd);clear hd)|refine zg13 ?_|(refine zg14 ?_;clear hF;(first|intro gN wN hF|intro wN hF|intro hF))|(refine zg15 ?_;clear hF;intro vN wN hF)))
 replace e1:=e1.out
 have e3:(im:Int) % 4294967296=(im:Int):=by omega
 go_upto_region 13 with ((try simp only [zA,Nat.reduceAdd]);(first|refine zg16 ?_|(refine zg17 ?_;clear hF;intro wN hF)))
 go_wp2_with ((try simp only [zA,Nat.reduceAdd]);(first|(go_at_call 170;refine (HS.out _).mono ?_;rintro x wN ⟨rfl,hd⟩;replace hF:=hF.grow (Bel.ofDrew hd);clear hd)|refine zg18 ?_|(refine zg19 ?_;clear hF;intro wN hF)))
 ((try simp only [Exit.inBlock,Exit.then]);refine bodyPost_ret (w_resc rfl hF) rfl ?_)
 exact ⟨rfl,hF.bel⟩):p:=h
section
open Go.RowKit Wd
theorem read_0 (op:Int) (x:Nat) (w:World) (hf:formL op=0) (hx:x<4294967296) :
  Calls Tryz.prog 149 #[.int .i64 op,.int .u32 (x:Int)] w fun e w'=>e = .returned (readL op x).val∧Bel w w':=by
 have hF:=St.start w [] (fun d hd=>by cases hd)
 have HFo:=Lib.hid (fun W=>by have:=form_any op W;rwa [form_is,hf] at this:∀ W,Calls Tryz.prog 107 #[.int .i64 op] W fun e w'=>e = .returned (.int .i64 0)∧w'=W)
 have HH:=Lib.hid (fun W=>has3_0 W)
 have HN0:∀ W,Calls Tryz.prog 146 #[.int .i64 0] W fun e w'=>∃ A c,e = .returned (.tuple #[.slice A 0 c,.int .i64 0])∧Out W [] w' [rowD 2 A 0 c (spns (spOf (numberL 0).1))]:=fun W=>number_0 W
 have HN:=Lib.hid HN0
 clear HN0
 have r1:=fieldI_lt x 7 5
 have r2:=fieldI_lt x 15 5
 have r3:=fieldI_lt x 20 5
 have HG0:∀ W A c,Rd W W.heap.size 2 A 0 c (spns (spOf (numberL 0).1))→Calls Tryz.prog 187 #[.int .u32 (x:Int),.slice A 0 c] W fun e w'=>e = .returned (.tuple #[.int .u32 ((gatherL x (numberL 0).1).1:Int),.int .i64 (gatherL x (numberL 0).1).2])∧Bel W w':=fun W A c hr=>gather_any A c x (numberL 0).1 W hr (numberL_ok _) hx
 have hb:=(gather_b hx (numberL_ok 0) _ (Nat.le_refl _)).1
 rw [List.take_length] at hb
 have h2:(gatherL x (numberL 0).1).2=0:=rfl
 rw [readL_eq hf,h2]
 rw [h2] at HG0
 generalize hg:(gatherL x (numberL 0).1).1=g1 at *
 have HG:=Lib.hid HG0
 clear HG0
 obtain ⟨im,him⟩:∃ im,g1 * 2 ^ (numberL 0).2 % 4294967296=im:=⟨_,rfl⟩
 have himl:im<4294967296:=by rw [← him];exact Nat.mod_lt _ (by omega)
 have HS:=Lib.hid (fun W=>Sext_any im 0 W himl ⟨by omega,by omega⟩)
 rw [him]
 have e1:(g1:Int) * 1 % 4294967296=((im:Nat):Int):=by
  rw [← him,show (numberL 0).2=0 from rfl]
  omega
 exact z13x0
theorem read_1 (op:Int) (x:Nat) (w:World) (hf:formL op=1) (hx:x<4294967296) :
  Calls Tryz.prog 149 #[.int .i64 op,.int .u32 (x:Int)] w fun e w'=>e = .returned (readL op x).val∧Bel w w':=by
 have hF:=St.start w [] (fun d hd=>by cases hd)
 have HFo:=Lib.hid (fun W=>by have:=form_any op W;rwa [form_is,hf] at this:∀ W,Calls Tryz.prog 107 #[.int .i64 op] W fun e w'=>e = .returned (.int .i64 1)∧w'=W)
 have HH:=Lib.hid (fun W=>has3_1 W)
 have HN0:∀ W,Calls Tryz.prog 146 #[.int .i64 1] W fun e w'=>∃ A c,e = .returned (.tuple #[.slice A 0 c,.int .i64 0])∧Out W [] w' [rowD 2 A 0 c (spns (spOf (numberL 1).1))]:=fun W=>number_1 W
 have HN:=Lib.hid HN0
 clear HN0
 have r1:=fieldI_lt x 7 5
 have r2:=fieldI_lt x 15 5
 have r3:=fieldI_lt x 20 5
 have HG0:∀ W A c,Rd W W.heap.size 2 A 0 c (spns (spOf (numberL 1).1))→Calls Tryz.prog 187 #[.int .u32 (x:Int),.slice A 0 c] W fun e w'=>e = .returned (.tuple #[.int .u32 ((gatherL x (numberL 1).1).1:Int),.int .i64 (gatherL x (numberL 1).1).2])∧Bel W w':=fun W A c hr=>gather_any A c x (numberL 1).1 W hr (numberL_ok _) hx
 have hb:=(gather_b hx (numberL_ok 1) _ (Nat.le_refl _)).1
 rw [List.take_length] at hb
 have h2:(gatherL x (numberL 1).1).2=0:=rfl
 rw [readL_eq hf,h2]
 rw [h2] at HG0
 generalize hg:(gatherL x (numberL 1).1).1=g1 at *
 have HG:=Lib.hid HG0
 clear HG0
 obtain ⟨im,him⟩:∃ im,g1 * 2 ^ (numberL 1).2 % 4294967296=im:=⟨_,rfl⟩
 have himl:im<4294967296:=by rw [← him];exact Nat.mod_lt _ (by omega)
 have HS:=Lib.hid (fun W=>Sext_any im 0 W himl ⟨by omega,by omega⟩)
 rw [him]
 have e1:(g1:Int) * 1 % 4294967296=((im:Nat):Int):=by
  rw [← him,show (numberL 1).2=0 from rfl]
  omega
 exact z13x0
theorem read_2 (op:Int) (x:Nat) (w:World) (hf:formL op=2) (hx:x<4294967296) :
  Calls Tryz.prog 149 #[.int .i64 op,.int .u32 (x:Int)] w fun e w'=>e = .returned (readL op x).val∧Bel w w':=by
 have hF:=St.start w [] (fun d hd=>by cases hd)
 have HFo:=Lib.hid (fun W=>by have:=form_any op W;rwa [form_is,hf] at this:∀ W,Calls Tryz.prog 107 #[.int .i64 op] W fun e w'=>e = .returned (.int .i64 2)∧w'=W)
 have HH:=Lib.hid (fun W=>has3_2 W)
 have HN0:∀ W,Calls Tryz.prog 146 #[.int .i64 2] W fun e w'=>∃ A c,e = .returned (.tuple #[.slice A 1 c,.int .i64 0])∧Out W [] w' [rowD 2 A 1 c (spns (spOf (numberL 2).1))]:=fun W=>number_2 W
 have HN:=Lib.hid HN0
 clear HN0
 have r1:=fieldI_lt x 7 5
 have r2:=fieldI_lt x 15 5
 have r3:=fieldI_lt x 20 5
 have HG0:∀ W A c,Rd W W.heap.size 2 A 1 c (spns (spOf (numberL 2).1))→Calls Tryz.prog 187 #[.int .u32 (x:Int),.slice A 1 c] W fun e w'=>e = .returned (.tuple #[.int .u32 ((gatherL x (numberL 2).1).1:Int),.int .i64 (gatherL x (numberL 2).1).2])∧Bel W w':=fun W A c hr=>gather_any A c x (numberL 2).1 W hr (numberL_ok _) hx
 have hb:=(gather_b hx (numberL_ok 2) _ (Nat.le_refl _)).1
 rw [List.take_length] at hb
 have h2:(gatherL x (numberL 2).1).2=12:=rfl
 rw [readL_eq hf,h2]
 rw [h2] at HG0
 generalize hg:(gatherL x (numberL 2).1).1=g1 at *
 have HG:=Lib.hid HG0
 clear HG0
 obtain ⟨im,him⟩:∃ im,g1 * 2 ^ (numberL 2).2 % 4294967296=im:=⟨_,rfl⟩
 have himl:im<4294967296:=by rw [← him];exact Nat.mod_lt _ (by omega)
 have HS:=Lib.hid (fun W=>Sext_any im 12 W himl ⟨by omega,by omega⟩)
 rw [him]
 have e1:(g1:Int) * 1 % 4294967296=((im:Nat):Int):=by
  rw [← him,show (numberL 2).2=0 from rfl]
  omega
 exact z13x0
end
end Go.Proofs.YtgnomadgnciifaaGreatDoor
