/- Joined: TLaw, CNewG, Alu4, Bools, VA, CPut3, Alu5, Src, CAny. -/
import Derived.Test.YtgnomadgnciifaaGreatDoorZH0
import Derived.Test.YtgnomadgnciifaaGreatDoorZ6
import Derived.Test.YtgnomadgnciifaaGreatDoorZ1
import Derived.Test.YtgnomadgnciifaaGreatDoorZ3
import Derived.Test.YtgnomadgnciifaaGreatDoorZ2
import Derived.Test.YtgnomadgnciifaaGreatDoorZ5
import Derived.Test.YtgnomadgnciifaaGreatDoorZ4
import Derived.Test.YtgnomadgnciifaaGreatDoorZ7
set_option linter.unusedVariables false
set_option linter.unusedSimpArgs false
set_option linter.unusedSectionVars false
set_option maxRecDepth 100000
set_option maxHeartbeats 16000000
namespace Go.Proofs.YtgnomadgnciifaaGreatDoor
theorem z8x0 {p:Prop} (h:p:=by
 (go_wp2_with ((first|((refine w_box (cs:=i.cells) rfl hF rfl ?_);clear hF;intro gN wN hF;(try simp only [zA,Nat.reduceAdd]))|(refine zg42 ?_;clear hF;intro wN hF)|(go_at_call 206;refine (Mul_any _ _ _ _ ha hb).mono ?_;rintro x wN ⟨rfl,rfl⟩)|(go_at_call 207;refine (Div_any _ _ _ _ ha hb).mono ?_;rintro x wN ⟨rfl,hbel⟩;replace hF:=hF.grow hbel;clear hbel)|(go_at_call 208;refine (HI.out _).mono ?_;rintro x wN ⟨rfl,rfl⟩)|(go_at_call 209;refine (Alu_any _ _ _ _ ha (by assumption)).mono ?_;rintro x wN ⟨rfl,rfl⟩)|((first|refine zrd ?_|(refine zst ?_;clear hF;(first|intro gN wN hF|intro wN hF|intro hF))|(refine zap ?_;clear hF;intro vN wN hF));(try simp only [zA,Nat.reduceAdd])))))
 go_ret
 exact ⟨val_u32 (by rw [hV.out];rfl),hF.bel⟩):p:=h
theorem z8x1 {p:Prop} (h:p:=by
 go_enter Tryz.func45,Tryz.ntmps45
 (go_wp2_with ((try simp only [zA,Nat.reduceAdd]);(first|refine zg90 ?_|(refine zg91 ?_;clear hF;(first|intro gN wN hF|intro wN hF|intro hF))|(refine zg15 ?_;clear hF;intro vN wN hF))))
 go_returns
 exact ⟨rfl,hF.bel⟩):p:=h
theorem z8x2 {p:Prop} (h:p:=by
 go_enter Tryz.func180,Tryz.ntmps180
 (go_wp2_with ((first|((refine w_box (cs:=i.cells) rfl hF rfl ?_);clear hF;intro gN wN hF;(try simp only [zA,Nat.reduceAdd]))|(refine zg42 ?_;clear hF;intro wN hF)|(go_at_call 206;refine (Mul_any _ _ _ _ ha hb).mono ?_;rintro x wN ⟨rfl,rfl⟩)|(go_at_call 207;refine (Div_any _ _ _ _ ha hb).mono ?_;rintro x wN ⟨rfl,hbel⟩;replace hF:=hF.grow hbel;clear hbel)|(go_at_call 208;refine (HI.out _).mono ?_;rintro x wN ⟨rfl,rfl⟩)|(go_at_call 209;refine (Alu_any _ _ _ _ ha (by assumption)).mono ?_;rintro x wN ⟨rfl,rfl⟩)|((first|refine zrd ?_|(refine zst ?_;clear hF;(first|intro gN wN hF|intro wN hF|intro hF))|(refine zap ?_;clear hF;intro vN wN hF));(try simp only [zA,Nat.reduceAdd])))))
 go_ret
 exact ⟨val_u32 (by rw [hV.out];exact add4_c _),hF.bel⟩):p:=h
theorem z8x3 {p:Prop} (h:p:=by
 clear h1
 go_enter Tryz.func208,Tryz.ntmps208
 go_wp2
 go_ret
 exact ⟨rfl,rfl⟩):p:=h
section
open Go.RowKit Go.Sort
theorem ens_inst {q:List En} {k:Nat} {e:En} (h:q[k]?=some e):∀ i u,e.inst.cells[i]?=some u→(ens q)[k * 17+2+i]?=some u:=fun i u hu=>by
 have hi:i<5:=(List.getElem?_eq_some_iff.1 hu).1
 have:e.cells[2+i]?=some u:=by
  match i,hi with
  | 0,_=>exact hu
  | 1,_=>exact hu
  | 2,_=>exact hu
  | 3,_=>exact hu
  | 4,_=>exact hu
 rw [Nat.add_assoc]
 exact Rows.el (f:=ens) h this
theorem Visible_any (A:Option Addr) (n c:Nat) (q:List En) (i:Int) (w:World) (hr:Rd w w.heap.size 17 A n c (ens q)) (hq:ensOk q) (h0:0≤i) :
  Calls Tryz.prog 13 #[.slice A n c,.int .i64 i] w fun e w'=>e = .returned (.bool (decide (i≤(tfrontL q:Int))))∧Bel w w':=by
 have HF:=Lib.hid (Front_any A n c q w hr hq.op)
 have hn:=hr.enslen
 have hfl:=tfrontL_le q
 generalize tfrontL q=f at *
 by_cases h2:i≤(n:Int)
 ·clear hn hfl
  go_enter Tryz.func13,Tryz.ntmps13
  go_wp2_with (go_at_call 42;refine HF.out.mono ?_;rintro e w1 ⟨rfl,hb1⟩)
  go_ret
  exact ⟨rfl,hb1⟩
 ·have h3:decide (i≤(f:Int))=false:=by simp;omega
  rw [h3]
  clear hn hfl h3
  go_enter Tryz.func13,Tryz.ntmps13
  go_wp2_with fail
  go_ret
  exact ⟨rfl,Bel.refl w⟩
end
section
open Go.RowKit Go.Sort
def newN (sets:Int):Nat:=if sets<2 then 1 else if sets<4 then 2 else 4
def newW (ways:Int):Int:=if ways<2 then 1 else 2
theorem cont_rep (n:Nat):cont (List.replicate n nilS)=List.replicate n []:=by simp [cont,nilS]
theorem made_rep (n:Nat):(madeCells (Value.slice none 0 0).cells (n * 1)).toList=csv (List.replicate n nilS):=by
 rw [show (Value.slice none 0 0).cells=#[Value.slice none 0 0] from rfl,toList_madeCells_one,Nat.mul_one]
 simp [csv,nilS,Cs.val]
theorem New_core (sets ways p1 p2 q1 q2:Int) (n:Nat) (w:World) (hs1 : -9223372036854775808≤sets) (hs2:sets≤9223372036854775807) (hw1 : -9223372036854775808≤ways) (hw2:ways≤9223372036854775807)
  (hp1:sets≤1∧p1=1∨1<sets∧p1=sets) (hp2:p1≤4∧p2=p1∨4<p1∧p2=4) (hq1:ways≤1∧q1=1∨1<ways∧q1=ways) (hq2:q1≤2∧q2=q1∨2<q1∧q2=2) (h3:p2=3∧n=2∨p2≠3∧p2=(n:Int)) :
  Calls Tryz.prog 26 #[.int .i64 sets,.int .i64 ways] w fun e w'=>∃ x,e = .returned x∧CRes w [] q2 x w' (List.replicate n []):=by
 have hF:=St.start w [] (fun d hd=>by cases hd)
 rcases h3 with ⟨rfl,rfl⟩|⟨h3,hn⟩
 ·go_enter Tryz.func26,Tryz.ntmps26
  go_wp2_with ((first|refine zg22 ?_|(refine zg23 ?_;clear hF;intro gN wN hF)|((first|refine zrd ?_|(refine zst ?_;clear hF;(first|intro gN wN hF|intro wN hF|intro hF))|(refine zap ?_;clear hF;intro vN wN hF));(try simp only [zA,Nat.reduceAdd]))))
  rw [made_rep 2] at hF
  have hF:=(hF.freezeB 0 at0 1 2 2 (by simp [csv_len]) (Nat.le_refl _) (by decide)).elemNil 2
  (try simp only [zF] at hF)
  ((try simp only [Exit.inBlock,Exit.then]);refine bodyPost_ret (w_resc rfl hF) rfl ?_)
  exact ⟨_,rfl,_,_,_,List.replicate 2 nilS,rfl,hF.outA,cont_rep 2⟩
 ·have hn1:p2≤(n:Int):=by omega
  have hn2:(n:Int)≤p2:=by omega
  have hn4:n≤4:=by omega
  clear hn
  go_enter Tryz.func26,Tryz.ntmps26
  go_wp2_with ((first|refine zg22 ?_|(refine zg24 ?_;clear hF;intro gN wN hF)|((first|refine zrd ?_|(refine zst ?_;clear hF;(first|intro gN wN hF|intro wN hF|intro hF))|(refine zap ?_;clear hF;intro vN wN hF));(try simp only [zA,Nat.reduceAdd]))))
  rw [made_rep n] at hF
  have hF:=(hF.freezeB 0 at0 1 n n (by simp [csv_len]) (Nat.le_refl _) (by unfold maxLen;omega)).elemNil n
  (try simp only [zF] at hF)
  ((try simp only [Exit.inBlock,Exit.then]);refine bodyPost_ret (w_resc rfl hF) rfl ?_)
  exact ⟨_,rfl,_,_,_,List.replicate n nilS,rfl,hF.outA,cont_rep n⟩
theorem New_all (sets ways:Int) (w:World) (hs : -9223372036854775808≤sets∧sets≤9223372036854775807) (hw : -9223372036854775808≤ways∧ways≤9223372036854775807) :
  Calls Tryz.prog 26 #[.int .i64 sets,.int .i64 ways] w fun e w'=>∃ x,e = .returned x∧CRes w [] (newW ways) x w' (List.replicate (newN sets) []):=by
 refine New_core sets ways (if sets≤1 then 1 else sets) (if sets≤1 then 1 else if 4<sets then 4 else sets) (if ways≤1 then 1 else ways) (newW ways) (newN sets) w hs.1 hs.2 hw.1 hw.2 ?_ ?_ ?_ ?_ ?_
 ·split <;> omega
 ·by_cases h1:sets≤1
  ·simp only [if_pos h1];first|omega|(simp;done)|(simp;omega)
  ·simp only [if_neg h1];split <;> omega
 ·split <;> omega
 ·unfold newW
  by_cases h1:ways≤1
  ·simp only [if_pos h1,if_pos (show ways<2 by omega)];first|omega|(simp;done)|(simp;omega)
  ·simp only [if_neg h1,if_neg (show ¬ ways<2 by omega)];first|omega|(simp;done)|(simp;omega)
 ·unfold newN
  by_cases h1:sets≤1
  ·simp only [if_pos h1,if_pos (show sets<2 by omega)];first|omega|(simp;done)|(simp;omega)
  ·simp only [if_neg h1,if_neg (show ¬ sets<2 by omega)]
   by_cases h4:4<sets
   ·simp only [if_pos h4,if_neg (show ¬ sets<4 by omega)];first|omega|(simp;done)|(simp;omega)
   ·simp only [if_neg h4]
    by_cases h5:sets<4
    ·simp only [if_pos h5];first|omega|(simp;done)|(simp;omega)
    ·simp only [if_neg h5];first|omega|(simp;done)|(simp;omega)
end
section
open Go.RowKit Wd
theorem Div_any (op:Int) (a b:Nat) (w:World) (ha:a<4294967296) (hb:b<4294967296) :
  Calls Tryz.prog 207 #[.int .i64 op,.int .u32 (a:Int),.int .u32 (b:Int)] w fun e w'=>e = .returned (.int .u32 (divL op a b:Int))∧Bel w w':=by
 by_cases h:op=42∨op=43∨op=44∨op=45
 ·by_cases h0:(b:Int)=0
  ·obtain rfl:b=0:=by omega
   rcases h with rfl|rfl|rfl|rfl
   ·exact div_420 a w ha
   ·exact div_430 a w ha
   ·exact div_440 a w ha
   ·exact div_450 a w ha
  ·rcases h with rfl|rfl|rfl|rfl
   ·exact div_42 a b w ha hb h0
   ·exact div_43 a b w ha hb h0
   ·exact div_44 a b w ha hb h0
   ·exact div_45 a b w ha hb h0
 ·have key:∀ k:Int,op≠k→(op == k)=false:=fun k hk=>by simpa using hk
  have b1:=key 42 (by omega)
  have b2:=key 43 (by omega)
  have b3:=key 44 (by omega)
  have b4:=key 45 (by omega)
  rw [show divL op a b=0 from by unfold divL;rw [if_neg (by omega),if_neg (by omega)]]
  clear h key
  go_enter Tryz.func207,Tryz.ntmps207
  go_wp2
  go_ret
  exact ⟨rfl,Bel.alloc _ _⟩
theorem bits_aux (f x:Nat):bitsL f x=Lib.bitLenAux f x:=by
 induction f generalizing x with
 | zero=>rfl
 | succ f ih=>unfold bitsL Lib.bitLenAux;rw [ih];split <;> omega
theorem bits_eq {x:Nat} (h:x<4294967296):bitsL 32 x=Lib.bitLen x:=by
 rw [bits_aux];exact (Lib.bitLenAux_fuel 32 x h 64 (by omega)).symm
theorem bitsL_le (f x:Nat):bitsL f x≤f:=by
 induction f generalizing x with
 | zero=>exact Nat.le_refl _
 | succ f ih=>unfold bitsL;have:=ih (x / 2);split <;> omega
theorem Len32_any (x:Nat) (w:World) (hx:x<4294967296) :
  Calls Tryz.prog 218 #[.int .u32 (x:Int)] w fun e w'=>e = .returned (.int .i64 (bitsL 32 x:Int))∧w'=w:=by
 rw [bits_eq hx]
 exact Len32_lib (x:Int) w (by omega) (by omega)
theorem Bits_any (x:Nat) (w:World) (hx:x<4294967296) :
  Calls Tryz.prog 211 #[.int .u32 (x:Int)] w fun e w'=>e = .returned (.int .i64 (bitsL 32 x:Int))∧w'=w:=by
 go_enter Tryz.func211,Tryz.ntmps211
 go_wp2_with (go_at_call 218;refine (Len32_any _ _ hx).mono ?_;rintro e wN ⟨rfl,rfl⟩)
 go_ret
 exact ⟨rfl,rfl⟩
theorem Took_any (op:Int) (a b:Nat) (w:World) (ha:a<4294967296) (hb:b<4294967296) :
  Calls Tryz.prog 181 #[.int .i64 op,.int .u32 (a:Int),.int .u32 (b:Int)] w fun e w'=>e = .returned (.int .i64 (tookL op a b))∧w'=w:=by
 by_cases h1:op<42
 ·rw [show tookL op a b=0 from by unfold tookL;rw [if_pos (.inl h1)]]
  go_enter Tryz.func181,Tryz.ntmps181
  go_wp2
  go_ret
  exact ⟨rfl,rfl⟩
 by_cases h2:45<op
 ·rw [show tookL op a b=0 from by unfold tookL;rw [if_pos (.inr h2)]]
  go_enter Tryz.func181,Tryz.ntmps181
  go_wp2
  go_ret
  exact ⟨rfl,rfl⟩
 by_cases h0:(b:Int)=0
 ·obtain rfl:b=0:=by omega
  rw [show tookL op a 0=2 from by unfold tookL;rw [if_neg (by omega),if_pos (.inl rfl)]]
  clear h0
  go_enter Tryz.func181,Tryz.ntmps181
  go_wp2_with (go_at_call 210;refine (Size_any _ _ _ (by assumption)).mono ?_;rintro e wN ⟨rfl,rfl⟩)
  go_ret
  exact ⟨rfl,rfl⟩
 have hsa:sizeL op a<4294967296:=sizeL_lt ha
 have hsb:sizeL op b<4294967296:=sizeL_lt hb
 have hT:tookL op a b=if sizeL op a<sizeL op b then 2 else 2+(bitsL 32 (sizeL op a):Int) - (bitsL 32 (sizeL op b):Int)+1:=by
  unfold tookL
  rw [if_neg (by omega)]
  by_cases h3:sizeL op a<sizeL op b
  ·rw [if_pos (.inr h3),if_pos h3]
  ·rw [if_neg (by omega),if_neg h3]
 have hS1:=Lib.hid (Size_any op a w ha)
 have hS2:=Lib.hid (Size_any op b w hb)
 generalize sizeL op a=x at *
 generalize sizeL op b=y at *
 have l1:=bitsL_le 32 x
 have l2:=bitsL_le 32 y
 have hB1:=Lib.hid (Bits_any x w hsa)
 have hB2:=Lib.hid (Bits_any y w hsb)
 generalize bitsL 32 x=u at *
 generalize bitsL 32 y=v at *
 have h4:((b:Int) == 0)=false:=by simpa using h0
 by_cases h3:x<y
 ·rw [hT,if_pos (by omega)]
  have h5:decide (x<y)=true:=by simpa using h3
  clear hT
  go_enter Tryz.func181,Tryz.ntmps181
  go_wp2_with ((first|(go_at_call 210;with_reducible refine hS1.out.mono ?_;rintro e wN ⟨rfl,rfl⟩)|(go_at_call 210;with_reducible refine hS2.out.mono ?_;rintro e wN ⟨rfl,rfl⟩)))
  go_ret
  exact ⟨rfl,rfl⟩
 ·rw [hT,if_neg (by omega)]
  have h5:decide (x<y)=false:=by simpa using h3
  clear hT
  go_enter Tryz.func181,Tryz.ntmps181
  go_wp2_with ((first|(go_at_call 210;with_reducible refine hS1.out.mono ?_;rintro e wN ⟨rfl,rfl⟩)|(go_at_call 210;with_reducible refine hS2.out.mono ?_;rintro e wN ⟨rfl,rfl⟩)|(go_at_call 211;with_reducible refine hB1.out.mono ?_;rintro e wN ⟨rfl,rfl⟩)|(go_at_call 211;with_reducible refine hB2.out.mono ?_;rintro e wN ⟨rfl,rfl⟩)))
  go_ret
  exact ⟨rfl,rfl⟩
end
section
open Go.RowKit
def bls (ks:List Bool):List Value:=ks.map Value.bool
theorem bls_len (l:List Bool):(bls l).length=l.length:=by simp [bls]
theorem bls_at {l:List Bool} {k:Nat} {x:Bool} (h:l[k]?=some x):(bls l)[k]?=some (.bool x):=by simp [bls,h]
theorem Rd.blslen {w:World} {B n c:Nat} {A:Option Addr} {l:List Bool} (h:Rd w B 1 A n c (bls l)):l.length=n:=by
 have:=h.len;rw [bls_len] at this;omega
end
section
open Go.RowKit Go.Sort
theorem vOver_any (m:ByteArray) (A:Option Addr) (n c:Nat) (ps:List Pu) (w:World) (hr:Rd w w.heap.size 2 A n c (pus ps)) (hm:m.size≤maxLen) (ha:∀ p∈ps,p.addr<4294967296) :
  Calls Tryz.prog 68 #[.string m,.slice A n c] w fun e w'=>e = .returned (.string (ovS m ps))∧Bel w w':=by
 have hF:=St.start w [rowD 2 A n c (pus ps)] (fun d hd=>by obtain rfl:=List.mem_singleton.1 hd;exact hr)
 have hc1:=hr.le
 have hc2:=hr.mx
 unfold maxLen at hc2
 have hn:=hr.puslen
 have hmm:=hm
 unfold maxLen at hmm
 go_enter Tryz.func68,Tryz.ntmps68
 go_wp2_with ((first|(refine w_bytes rfl hF rfl ?_;clear hF;intro gN capN rN wN hF hcap hcapm)|((first|refine zrd ?_|(refine zst ?_;clear hF;(first|intro gN wN hF|intro wN hF|intro hF))|(refine zap ?_;clear hF;intro vN wN hF));(try simp only [zA,Nat.reduceAdd]))))
 obtain ⟨gB,rfl⟩:=hF.names1
 replace hcap:=Lib.hid hcap
 go_loopw [12] (fun ix wr=>∃ k:Nat,k≤n∧ix = .int .i64 (k:Int)∧St w [rowD 2 A n c (pus ps)] wr [.blk gB 5 (byteCells (overL (bl m) (ps.take k))++rN)] [rowD 2 A n c (pus ps)]) (fun ix _=>n - (intOf ix).toNat)
 case atStart=>exact ⟨0,by omega,rfl,hF⟩
 case round=>
  obtain ⟨k,hk,rfl,hF⟩:=hrel
  by_cases hkn:k<n
  ·obtain ⟨p,hu⟩:∃ p,ps[k]?=some p:=⟨_,List.getElem?_eq_getElem (by omega)⟩
   have hpa:=ha p (List.mem_of_getElem? hu)
   have hstep:overL (bl m) (ps.take (k+1))=stepL (overL (bl m) (ps.take k)) p:=by
    obtain ⟨hl,e⟩:=List.getElem?_eq_some_iff.1 hu
    rw [List.take_succ_eq_append_getElem hl,e,overL_snoc]
   have hlen:(overL (bl m) (ps.take k)).length=m.size:=by rw [overL_len,bl_len]
   obtain ⟨pa,pd⟩:=p
   unfold stepL at hstep
   rw [hlen] at hstep
   dsimp only at hstep hpa
   by_cases hlt:pa<m.size
   ·rw [if_pos hlt] at hstep
    have hle:pa+(m.size - pa)=(overL (bl m) (ps.take k)).length:=by omega
    have hmc:m.size≤capN:=by have:=hcap.out;omega
    have hst:=Lib.hid hstep
    clear hstep hlen
    go_upto_region 6 with ((first|refine zg30 ?_|((first|refine zrd ?_|(refine zst ?_;clear hF;(first|intro gN wN hF|intro wN hF|intro hF))|(refine zap ?_;clear hF;intro vN wN hF));(try simp only [zA,Nat.reduceAdd]))))
    obtain ⟨gP,rfl⟩:=hF.names1
    refine wp_region_st (by kernel_rfl) hF [.blk gP 109 [.int .u32 (pa:Int),.string pd]] _ (by ((repeat (first|exact subn_nil|refine subn_cons zdm ?_)) <;> exact subn_nil)) (fun _ h=>h) ?_
    clear hF;intro hF hH
    refine zk18 0 hH ?_
    refine zk1 1 hH ?_
    refine zk0 2 hH ?_
    refine zk5 3 hH ?_
    refine zk1 4 hH ?_
    refine zk0 5 hH ?_
    refine zry 6 (fun K hK=>?_)
    go_wp2_with ((first|(refine zg31 ?_;clear hF;intro wN hF)|((first|refine zrd ?_|(refine zst ?_;clear hF;(first|intro gN wN hF|intro wN hF|intro hF))|(refine zap ?_;clear hF;intro vN wN hF));(try simp only [zA,Nat.reduceAdd]))))
    have hH:=hH.nextA hF;refine hK.out _ _ hH ?_;clear hK;(try simp only [zA,Nat.reduceAdd])
    refine zrz ?_
    (go_wp2_with (((first|refine zrd ?_|(refine zst ?_;clear hF;(first|intro gN wN hF|intro wN hF|intro hF))|(refine zap ?_;clear hF;intro vN wN hF));(try simp only [zA,Nat.reduceAdd])));go_roundw;(case rel=>exact ⟨k+1,by omega,by go_num,by rw [hst.out];exact hF.drop 0⟩);(case measure=>first|(simp [intOf];done)|(simp [intOf];omega)))
   ·rw [if_neg hlt] at hstep
    have hst:=Lib.hid hstep
    clear hstep hlen
    go_wp2_with ((first|refine zg30 ?_|((first|refine zrd ?_|(refine zst ?_;clear hF;(first|intro gN wN hF|intro wN hF|intro hF))|(refine zap ?_;clear hF;intro vN wN hF));(try simp only [zA,Nat.reduceAdd]))))
    go_roundw
    case rel=>exact ⟨k+1,by omega,by go_num,by rw [hst.out];exact hF.drop 0⟩
    case measure=>first|(simp [intOf];done)|(simp [intOf];omega)
  ·obtain rfl:k=n:=by omega
   have hlen:(overL (bl m) (ps.take k)).length=m.size:=by rw [overL_len,bl_len]
   have hmc:m.size≤capN:=by have:=hcap.out;omega
   have htk:ps.take k=ps:=List.take_of_length_le (by omega)
   go_wp2_with ((first|refine zg32 ?_|((first|refine zrd ?_|(refine zst ?_;clear hF;(first|intro gN wN hF|intro wN hF|intro hF))|(refine zap ?_;clear hF;intro vN wN hF));(try simp only [zA,Nat.reduceAdd]))))
   go_ret
   exact ⟨rfl,hF.bel⟩
theorem vBelow_any (m:ByteArray) (A:Option Addr) (n c:Nat) (q:List Rq) (w:World) (hr:Rd w w.heap.size 4 A n c (rqs q)) (hm:m.size≤maxLen) (hn:n≤1000000) (hq:∀ r∈q,r.line<4294967296) :
  Calls Tryz.prog 173 #[.slice A n c,.string m] w fun e w'=>e = .returned (.string (ovS m (writesL q)))∧Bel w w':=by
 have hF:=St.start w [rowD 4 A n c (rqs q)] (fun d hd=>by obtain rfl:=List.mem_singleton.1 hd;exact hr)
 have hc1:=hr.le
 have hc2:=hr.mx
 unfold maxLen at hc2
 have hql:=hr.rqslen
 go_enter Tryz.func173,Tryz.ntmps173
 go_wp2_with (((first|refine zrd ?_|(refine zst ?_;clear hF;(first|intro gN wN hF|intro wN hF|intro hF))|(refine zap ?_;clear hF;intro vN wN hF));(try simp only [zA,Nat.reduceAdd])))
 have hF:=hF.nil 109 2
 go_loopw [10,5] (fun ix x wr=>∃ k N:Nat,k≤n∧N≤k∧ix = .int .i64 (k:Int)∧St w [rowD 4 A n c (rqs q)] wr [.own x 109 2 N (pus (writesL (q.take k)))] [rowD 4 A n c (rqs q)]) (fun ix _ _=>n - (intOf ix).toNat)
 case atStart=>exact ⟨0,0,by omega,by omega,rfl,hF⟩
 case round=>
  obtain ⟨k,N,hk,hN,rfl,hF⟩:=hrel
  by_cases hkn:k<n
  ·obtain ⟨r,hu⟩:∃ r,q[k]?=some r:=⟨_,List.getElem?_eq_getElem (by omega)⟩
   by_cases h4:r.kind=4
   ·have hst:=Lib.hid (writesL_yes hu h4)
    obtain ⟨rk,rl,rt,rd⟩:=r
    dsimp only at h4
    subst h4
    have happ:Hid (pus (writesL (q.take k))++[.int .u32 (rl:Int),.string rd]=pus (writesL (q.take (k+1)))):=Lib.hid (by rw [hst.out,pus_append];rfl)
    clear hst
    go_wp2_with ((first|refine zg33 ?_|((first|refine zrd ?_|(refine zst ?_;clear hF;(first|intro gN wN hF|intro wN hF|intro hF))|(refine zap ?_;clear hF;intro vN wN hF));(try simp only [zA,Nat.reduceAdd]))))
    go_roundw
    case rel=>exact ⟨k+1,N+1,by omega,by omega,by go_num,by rw [← happ.out];exact hF.drop 0⟩
    case measure=>first|(simp [intOf];done)|(simp [intOf];omega)
   ·have hst:=Lib.hid (writesL_no hu h4)
    obtain ⟨rk,rl,rt,rd⟩:=r
    dsimp only at h4
    go_wp2_with ((first|refine zg34 ?_|((first|refine zrd ?_|(refine zst ?_;clear hF;(first|intro gN wN hF|intro wN hF|intro hF))|(refine zap ?_;clear hF;intro vN wN hF));(try simp only [zA,Nat.reduceAdd]))))
    go_roundw
    case rel=>exact ⟨k+1,N,by omega,by omega,by go_num,by rw [hst.out];exact hF.drop 0⟩
    case measure=>first|(simp [intOf];done)|(simp [intOf];omega)
  ·obtain rfl:k=n:=by omega
   rw [List.take_of_length_le (by omega)] at hF
   obtain ⟨A2,c2,rfl,hF⟩:=hF.freeze 0 at0
   (try simp only [zF] at hF)
   go_wp2_with ((first|(go_at_call 68;refine (vOver_any _ _ _ _ _ _ hF.rdA hm (writes_ok hq)).mono ?_;rintro e wN ⟨rfl,hb⟩;replace hF:=hF.grow hb;clear hb)|((first|refine zrd ?_|(refine zst ?_;clear hF;(first|intro gN wN hF|intro wN hF|intro hF))|(refine zap ?_;clear hF;intro vN wN hF));(try simp only [zA,Nat.reduceAdd]))))
   go_ret
   exact ⟨rfl,hF.bel⟩
theorem vUnder_any (m:ByteArray) (ways:Int) (A:Option Addr) (n c:Nat) (S:List Cs) (Aq:Option Addr) (nq cq:Nat) (q:List Rq) (w:World) (hr:RdS w w.heap.size A n c S) (hrq:Rd w w.heap.size 4 Aq nq cq (rqs q)) (hm:m.size≤maxLen) (ho:SOk S) (hn:n≤1000) (hws:∀ ws∈cont S,ws.length≤1000) (hqn:nq≤1000000) (hq:∀ r∈q,r.line<4294967296) :
  Calls Tryz.prog 171 #[.agg #[.int .i64 ways,.slice A n c],.slice Aq nq cq,.string m] w fun e w'=>e = .returned (.string (ovS m (writesL q++linesL (cont S))))∧Bel w w':=by
 have hF:=St.start w [rowD 1 A n c (csv S),elemsD S,rowD 4 Aq nq cq (rqs q)] (fun d hd=>by
  rcases List.mem_cons.1 hd with rfl|hd
  ·exact hr.rd
  ·rcases List.mem_cons.1 hd with rfl|hd
   ·exact hr.sets
   ·obtain rfl:=List.mem_singleton.1 hd;exact hrq)
 have hsl:=hr.slen
 have hc1:=hr.rd.le
 have hc2:=hr.rd.mx
 unfold maxLen at hc2
 replace hws:=Lib.hid hws
 go_enter Tryz.func171,Tryz.ntmps171
 go_wp2_with (((first|refine zrd ?_|(refine zst ?_;clear hF;(first|intro gN wN hF|intro wN hF|intro hF))|(refine zap ?_;clear hF;intro vN wN hF));(try simp only [zA,Nat.reduceAdd])))
 obtain ⟨gC,rfl⟩:=hF.names1
 have hF:=hF.nil 109 2
 go_loopw [15,7] (fun ix x wr=>∃ k N:Nat,k≤n∧N≤k * 1000∧ix = .int .i64 (k:Int)∧St w [rowD 1 A n c (csv S),elemsD S,rowD 4 Aq nq cq (rqs q)] wr [.own x 109 2 N (pus (linesL ((cont S).take k))),.blk gC 35 [.int .i64 ways,.slice A n c]] [rowD 1 A n c (csv S),elemsD S,rowD 4 Aq nq cq (rqs q)]) (fun ix _ _=>n - (intOf ix).toNat)
 case atStart=>exact ⟨0,0,by omega,by omega,rfl,hF⟩
 case round=>
  obtain ⟨k,N,hk,hN,rfl,hF⟩:=hrel
  by_cases hkn:k<n
  ·obtain ⟨s,hs⟩:∃ s,S[k]?=some s:=⟨_,List.getElem?_eq_getElem (by omega)⟩
   obtain ⟨sA,m',sc,ws⟩:=s
   have hF:=hF.elemA hs
   simp only at hF
   have hse:=hF.rdA (sz:=3) (A:=sA) (n:=m') (c:=sc) (xs:=wys ws)
   have hm1:=hse.le
   have hm2:=hse.mx
   have hwl:=Lib.hid hse.wyslen
   have hset:=Lib.hid (vcont_el hs)
   have hm3:m'≤1000:=by rw [← hwl.out];exact hws.out ws (List.mem_of_getElem? hset.out)
   unfold maxLen at hm2
   clear hse
   go_wp2_with (((first|refine zrd ?_|(refine zst ?_;clear hF;(first|intro gN wN hF|intro wN hF|intro hF))|(refine zap ?_;clear hF;intro vN wN hF));(try simp only [zA,Nat.reduceAdd])))
   try simp only [Nat.mul_one]
   go_loopw [21,7] (fun ix x wr=>∃ j N':Nat,j≤m'∧N'≤k * 1000+j∧ix = .int .i64 (j:Int)∧St w [rowD 1 A n c (csv S),elemsD S,rowD 4 Aq nq cq (rqs q)] wr [.own x 109 2 N' (pus (linesL ((cont S).take k)++waysL (ws.take j))),.blk gC 35 [.int .i64 ways,.slice A n c]] [rowD 3 sA m' sc (wys ws),rowD 1 A n c (csv S),elemsD S,rowD 4 Aq nq cq (rqs q)]) (fun ix _ _=>m' - (intOf ix).toNat)
   case atStart=>exact ⟨0,N,by omega,by omega,rfl,by simp only [waysL,List.take_zero,List.map_nil,List.append_nil];exact hF⟩
   case round=>
    obtain ⟨j,N',hj,hN',rfl,hF⟩:=hrel
    by_cases hjm:j<m'
    ·obtain ⟨⟨ul,ud,ub⟩,hu⟩:∃ u,ws[j]?=some u:=⟨_,List.getElem?_eq_getElem (by have:=hwl.out;omega)⟩
     have happ:Hid (pus (linesL ((cont S).take k)++waysL (ws.take j))++[.int .u32 (ul:Int),.string ub]=pus (linesL ((cont S).take k)++waysL (ws.take (j+1)))):=Lib.hid (by rw [waysL_succ hu,← List.append_assoc,pus_append _ [_]];rfl)
     go_wp2_with ((first|refine zg35 ?_|((first|refine zrd ?_|(refine zst ?_;clear hF;(first|intro gN wN hF|intro wN hF|intro hF))|(refine zap ?_;clear hF;intro vN wN hF));(try simp only [zA,Nat.reduceAdd]))))
     go_roundw
     case rel=>exact ⟨j+1,N'+1,by omega,by omega,by go_num,by rw [← happ.out];exact hF.drop 0⟩
     case measure=>first|(simp [intOf];done)|(simp [intOf];omega)
    ·obtain rfl:j=m':=by omega
     rw [List.take_of_length_le (l:=ws) (by have:=hwl.out;omega),← linesL_succ hset.out] at hF
     go_wp2_with (((first|refine zrd ?_|(refine zst ?_;clear hF;(first|intro gN wN hF|intro wN hF|intro hF))|(refine zap ?_;clear hF;intro vN wN hF));(try simp only [zA,Nat.reduceAdd])))
     go_roundw
     case rel=>exact ⟨k+1,N',by omega,by omega,by go_num,hF.lessA _⟩
     case measure=>first|(simp [intOf];done)|(simp [intOf];omega)
  ·obtain rfl:k=n:=by omega
   rw [List.take_of_length_le (by rw [cont_len];omega)] at hF
   obtain ⟨A2,c2,rfl,hF⟩:=hF.freeze 0 at0
   (try simp only [zF] at hF)
   go_wp2_with ((first|(go_at_call 173;refine (vBelow_any _ _ _ _ _ _ hF.rdA hm hqn hq).mono ?_;rintro e wN ⟨rfl,hb⟩;replace hF:=hF.grow hb;clear hb)|(go_at_call 68;refine (vOver_any _ _ _ _ _ _ hF.rdA (by rw [ovS_size];exact hm) (lines_ok ho)).mono ?_;rintro e wN ⟨rfl,hb⟩;replace hF:=hF.grow hb;clear hb)|((first|refine zrd ?_|(refine zst ?_;clear hF;(first|intro gN wN hF|intro wN hF|intro hF))|(refine zap ?_;clear hF;intro vN wN hF));(try simp only [zA,Nat.reduceAdd]))))
   go_ret
   exact ⟨by rw [ovS_ovS];rfl,hF.bel⟩
theorem vAll_any (m:ByteArray) (ways:Int) (A:Option Addr) (n c:Nat) (S:List Cs) (Aq:Option Addr) (nq cq:Nat) (q:List Rq) (As:Option Addr) (ns cs:Nat) (ss:List Pu) (w:World) (hr:RdS w w.heap.size A n c S) (hrq:Rd w w.heap.size 4 Aq nq cq (rqs q)) (hrs:Rd w w.heap.size 2 As ns cs (pus ss))
  (hm:m.size≤maxLen) (ho:SOk S) (hn:n≤1000) (hws:∀ ws∈cont S,ws.length≤1000) (hqn:nq≤1000000) (hq:∀ r∈q,r.line<4294967296) (hss:∀ p∈ss,p.addr<4294967296) :
  Calls Tryz.prog 123 #[.slice As ns cs,.agg #[.int .i64 ways,.slice A n c],.slice Aq nq cq,.string m] w fun e w'=>e = .returned (.string (ovS m (writesL q++linesL (cont S)++ss)))∧Bel w w':=by
 have hF:=St.start w [rowD 1 A n c (csv S),elemsD S,rowD 4 Aq nq cq (rqs q),rowD 2 As ns cs (pus ss)] (fun d hd=>by
  rcases List.mem_cons.1 hd with rfl|hd
  ·exact hr.rd
  ·rcases List.mem_cons.1 hd with rfl|hd
   ·exact hr.sets
   ·rcases List.mem_cons.1 hd with rfl|hd
    ·exact hrq
    ·obtain rfl:=List.mem_singleton.1 hd;exact hrs)
 go_enter Tryz.func123,Tryz.ntmps123
 go_wp2_with ((first|(go_at_call 171;refine (vUnder_any _ _ _ _ _ _ _ _ _ _ _ hF.rds hF.rdA hm ho hn hws hqn hq).mono ?_;rintro e wN ⟨rfl,hb⟩;replace hF:=hF.grow hb;clear hb)|(go_at_call 68;refine (vOver_any _ _ _ _ _ _ hF.rdA (by rw [ovS_size];exact hm) hss).mono ?_;rintro e wN ⟨rfl,hb⟩;replace hF:=hF.grow hb;clear hb)|((first|refine zrd ?_|(refine zst ?_;clear hF;(first|intro gN wN hF|intro wN hF|intro hF))|(refine zap ?_;clear hF;intro vN wN hF));(try simp only [zA,Nat.reduceAdd]))))
 go_ret
 exact ⟨by rw [ovS_ovS];rfl,hF.bel⟩
theorem vCut_any (m:ByteArray) (x:Nat) (w:World) (hm:m.size≤maxLen) (hx:x<4294967296) :
  Calls Tryz.prog 172 #[.string m,.int .u32 (x:Int)] w fun e w'=>e = .returned (.string (cutS m x))∧Bel w w':=by
 have hF:=St.start w [] (fun d hd=>by cases hd)
 unfold maxLen at hm
 have HL:=Lib.hid (fun W=>LineOf_any x W hx)
 have hout:=cutS_out (m:=m) (x:=x)
 have hin:=fun n=>cutS_in (m:=m) (x:=x) (n:=n)
 obtain ⟨lo,hlo⟩:∃ lo,x - x % 16=lo:=⟨_,rfl⟩
 rw [hlo] at HL hout hin
 have hlo2:lo<4294967296:=by omega
 clear hlo
 go_enter Tryz.func172,Tryz.ntmps172
 by_cases hlt:lo<m.size
 ·obtain ⟨N,hN⟩:∃ N,N=min (m.size - lo) 16:=⟨_,rfl⟩
  replace hin:=Lib.hid (hin N hlt hN)
  clear hout
  have hes:(m.extract lo m.size).size=m.size - lo:=by rw [cut_size];omega
  have hle:lo≤m.size:=by omega
  have hN2:N≤(m.extract lo m.size).size:=by omega
  go_wp2_with ((first|(go_at_call 63;refine (HL.out _).mono ?_;rintro e wN ⟨rfl,d,rfl⟩;replace hF:=hF.grow (Bel.drewN _ d))|refine zg36 ?_|((first|refine zrd ?_|(refine zst ?_;clear hF;(first|intro gN wN hF|intro wN hF|intro hF))|(refine zap ?_;clear hF;intro vN wN hF));(try simp only [zA,Nat.reduceAdd]))))
  go_ret
  exact ⟨by rw [← hin.out,hN];rfl,hF.bel⟩
 ·replace hout:=Lib.hid (hout (by omega))
  clear hin
  go_wp2_with ((first|(go_at_call 63;refine (HL.out _).mono ?_;rintro e wN ⟨rfl,d,rfl⟩;replace hF:=hF.grow (Bel.drewN _ d))|((first|refine zrd ?_|(refine zst ?_;clear hF;(first|intro gN wN hF|intro wN hF|intro hF))|(refine zap ?_;clear hF;intro vN wN hF));(try simp only [zA,Nat.reduceAdd]))))
  go_ret
  exact ⟨by rw [hout.out];rfl,hF.bel⟩
end
section
open Go.RowKit Go.Sort
theorem Put_room (ways:Int) (A:Option Addr) (n c x:Nat) (data:ByteArray) (dirty:Bool) (S:List Cs) (k at':Nat) (ws:List Wy) (w:World) (hr:RdS w w.heap.size A n c S) (hx:x<4294967296) (hn:n≤1000) (hk:k<n) (hset:(cont S)[k]?=some ws) (hws:ws.length≤900) (hfull:(ws.length:Int)≠ways)
  (HR:Hid (RightC 120 ways A n c S true)) (HF:Hid (FindC 80 ways A n c x S k at' false)) :
  Calls Tryz.prog 66 #[.agg #[.int .i64 ways,.slice A n c],.int .u32 (x:Int),.string data,.bool dirty] w fun e w'=>∃ y,e = .returned (.tuple #[y,wayZ,.bool false])∧CRes w (cacheD A n c S) ways y w' ((cont S).set k (⟨x - x % 16,dirty,trimD data⟩::ws)):=by
 have hF:=St.start w _ (cacheD_ok hr)
 unfold cacheD at hF
 obtain ⟨sA,m,sc,hS⟩:=set_of hset
 have hF:=hF.elem (List.Mem.tail _ (List.Mem.head _)) hS
 simp only at hF
 have hse:=(hF.rd (List.Mem.head _)).wyslen
 have hm1:=(hF.rd (List.Mem.head _)).le
 have hm2:=(hF.rd (List.Mem.head _)).mx
 unfold maxLen at hm2
 clear hset
 obtain ⟨d2,hd2⟩:∃ d2,trimD data=d2:=⟨_,rfl⟩
 rw [hd2]
 obtain ⟨nw,hnw⟩:∃ nw:Wy,nw=⟨x - x % 16,dirty,d2⟩:=⟨_,rfl⟩
 have hvn:(ws++[nw])[m]?=some nw:=by rw [List.getElem?_append_right (by omega)];simp [hse]
 have hfr:frontL (ws++[nw]) m nw=nw::ws:=by rw [← hse];exact frontL_last ws nw
 rw [← hnw]
 have hfb:((m:Int) == ways)=false:=by rw [beq_eq_false_iff_ne];omega
 unfold trimD at hd2
 go_enter Tryz.func66,Tryz.ntmps66
 go_upto_if 27 with (first|(go_at_call 120;refine (HR.out _ (rds_of (hF.dat _ zdm) (hF.dat _ zdm))).mono ?_;rintro e wN ⟨rfl,hb⟩;replace hF:=hF.grow hb;clear hb)|(go_at_call 80;refine (HF.out _ (rds_of (hF.dat _ zdm) (hF.dat _ zdm))).mono ?_;rintro e wN ⟨rfl,hb⟩;replace hF:=hF.grow hb;clear hb)|((first|refine zrd ?_|(refine zst ?_;clear hF;(first|intro gN wN hF|intro wN hF|intro hF))|(refine zap ?_;clear hF;intro vN wN hF));(try simp only [zA,Nat.reduceAdd])))
 go_cut [2] (fun s wx=>s = .string d2∧wx=wN)
 case first=>
  by_cases h16:data.size=16
  ·rw [if_pos h16] at hd2
   subst hd2
   have hsz:((data.size:Int) != 16)=false:=by simp [h16]
   clear h16
   go_wp2
   go_meet
   exact ⟨rfl,rfl⟩
  ·rw [if_neg h16] at hd2
   subst hd2
   have hsz:((data.size:Int) != 16)=true:=by rw [bne_iff_ne];omega
   clear h16
   go_wp2
   go_meet
   exact ⟨rfl,rfl⟩
 case rest=>
  obtain ⟨rfl,rfl⟩:=hcut
  go_wp2_with ((first|(go_at_call 120;refine (HR.out _ (rds_of (hF.dat _ zdm) (hF.dat _ zdm))).mono ?_;rintro e wN ⟨rfl,hb⟩;replace hF:=hF.grow hb;clear hb)|(go_at_call 80;refine (HF.out _ (rds_of (hF.dat _ zdm) (hF.dat _ zdm))).mono ?_;rintro e wN ⟨rfl,hb⟩;replace hF:=hF.grow hb;clear hb)|((first|refine zrd ?_|(refine zst ?_;clear hF;(first|intro gN wN hF|intro wN hF|intro hF))|(refine zap ?_;clear hF;intro vN wN hF));(try simp only [zA,Nat.reduceAdd]))))
  refine wp_region_st (by kernel_rfl) hF [.blk _ 35 [.int .i64 ways,.slice A n c]] [rowD 3 sA m sc (wys ws),rowD 1 A n c (csv S),elemsD S] (by ((repeat (first|exact subn_nil|refine subn_cons zdm ?_)) <;> exact subn_nil)) (by ((repeat (first|exact subn_nil|refine subn_cons zdm ?_)) <;> exact subn_nil)) ?_
  clear hF;intro hF hH
  refine zp 0 hH ?_
  refine zk18 1 hH ?_
  refine zk3 2 hH ?_
  refine zk1 3 hH ?_
  refine zk0 4 hH ?_
  refine zp 5 hH ?_
  refine zry 6 (fun K hK=>?_)
  go_wp2_with ((refine w_alloc rfl hF ?_;clear hF;intro gN wN hF);(try simp only [zA,Nat.reduceAdd]))
  have hH:=hH.nextA hF;refine hK.out _ _ hH ?_;clear hK;(try simp only [zA,Nat.reduceAdd])
  refine zry 7 (fun K hK=>?_)
  go_wp2_with (refine zwr ?_;clear hF;intro wN hF;(try simp only [zA,Nat.reduceAdd]))
  have hH:=hH.nextA hF;refine hK.out _ _ hH ?_;clear hK;(try simp only [zA,Nat.reduceAdd])
  refine zk19 8 hH ?_
  refine zrz ?_
  go_wp2_with ((first|(go_at_call 63;refine (LineOf_any x _ hx).mono ?_;rintro e wN ⟨rfl,d,rfl⟩;replace hF:=hF.grow (Bel.drewN _ d))|(refine zg5 ?_;clear hF;intro gN wN hF)|((first|refine zrd ?_|(refine zst ?_;clear hF;(first|intro gN wN hF|intro wN hF|intro hF))|(refine zap ?_;clear hF;intro vN wN hF));(try simp only [zA,Nat.reduceAdd]))))
  rw [show []++wys ws++[Value.int .u32 ((x - x % 16:Nat):Int),.bool dirty,.string d2]=wys (ws++[nw]) by rw [hnw];simp [wys,Wy.cells],show 0+m+1=m+1 by omega] at hF
  obtain ⟨A3,c3,rfl,hF⟩:=hF.freeze 0 at0
  (try simp only [zF] at hF)
  refine wp_region_st (by kernel_rfl) hF [.blk _ 101 [.int .u32 0,.bool false,.string ⟨#[]⟩],.blk _ 35 [.int .i64 ways,.slice A n c]] [rowD 3 A3 (m+1) c3 (wys (ws++[nw])),rowD 3 sA m sc (wys ws),rowD 1 A n c (csv S),elemsD S] (by ((repeat (first|exact subn_nil|refine subn_cons zdm ?_)) <;> exact subn_nil)) (by ((repeat (first|exact subn_nil|refine subn_cons zdm ?_)) <;> exact subn_nil)) ?_
  clear hF;intro hF hH
  refine zk0 0 hH ?_
  refine zk18 1 hH ?_
  refine zk18 2 hH ?_
  refine zk18 3 hH ?_
  refine zk3 4 hH ?_
  refine zk0 7 hH ?_
  refine zk18 8 hH ?_
  refine zry 5 (fun K hK=>?_)
  go_wp2_with ((first|(go_at_call 124;refine (front_own _ _ _ (ws++[nw]) _ nw _ (hF.rd zdm) (by omega) hvn).mono ?_;rintro e wN ⟨xF,rfl,hb,ho⟩;replace hF:=hF.pushOwn hb ho;clear hb ho;rw [hfr] at hF)|(go_at_call 125;obtain ⟨A2,c2,rfl,hF⟩:=hF.freeze 0 at0;(try simp only [List.eraseIdx_cons_zero] at hF);refine (with_st ways A n c S k _ _ _ (nw::ws) _ (rds_of (hF.dat _ zdm) (hF.dat _ zdm)) hn hk (hF.dat _ zdm)).mono ?_;rintro e wN ⟨_,rfl,A',n',c',S',rfl,hO,hC⟩;replace hF:=hF.callA hO;clear hO)))
  have hH:=hH.nextA hF;refine hK.out _ _ hH ?_;clear hK;(try simp only [zA,Nat.reduceAdd])
  refine zry 6 (fun K hK=>?_)
  go_wp2_with ((first|(go_at_call 124;refine (front_own _ _ _ (ws++[nw]) _ nw _ (hF.rd zdm) (by omega) hvn).mono ?_;rintro e wN ⟨xF,rfl,hb,ho⟩;replace hF:=hF.pushOwn hb ho;clear hb ho;rw [hfr] at hF)|(go_at_call 125;obtain ⟨A2,c2,rfl,hF⟩:=hF.freeze 0 at0;(try simp only [List.eraseIdx_cons_zero] at hF);refine (with_st ways A n c S k _ _ _ (nw::ws) _ (rds_of (hF.dat _ zdm) (hF.dat _ zdm)) hn hk (hF.dat _ zdm)).mono ?_;rintro e wN ⟨_,rfl,A',n',c',S',rfl,hO,hC⟩;replace hF:=hF.callA hO;clear hO)))
  have hH:=hH.nextA hF;refine hK.out _ _ hH ?_;clear hK;(try simp only [zA,Nat.reduceAdd])
  refine zry 9 (fun K hK=>?_)
  go_wp2_with (refine zwr ?_;clear hF;intro wN hF;(try simp only [zA,Nat.reduceAdd]))
  have hH:=hH.nextA hF;refine hK.out _ _ hH ?_;clear hK;(try simp only [zA,Nat.reduceAdd])
  refine zry 10 (fun K hK=>?_)
  go_wp2_with (refine zwr ?_;clear hF;intro wN hF;(try simp only [zA,Nat.reduceAdd]))
  have hH:=hH.nextA hF;refine hK.out _ _ hH ?_;clear hK;(try simp only [zA,Nat.reduceAdd])
  refine zk19 11 hH ?_
  refine zrz ?_
  go_wp2_with (((first|refine zrd ?_|(refine zst ?_;clear hF;(first|intro gN wN hF|intro wN hF|intro hF))|(refine zap ?_;clear hF;intro vN wN hF));(try simp only [zA,Nat.reduceAdd])))
  ((try simp only [Exit.inBlock,Exit.then]);refine bodyPost_ret (w_resccs rfl hF) rfl ?_)
  exact ⟨_,rfl,A',n',c',S',rfl,hF.out (by ((repeat (first|exact subn_nil|refine subn_cons zdm ?_)) <;> exact subn_nil)),hC⟩
end
section
open Go.RowKit Wd
theorem imm_any (op:Int) (w:World):Calls Tryz.prog 208 #[.int .i64 op] w fun e w'=>e = .returned (.bool (immB op))∧w'=w:=by
 by_cases h1:op=1
 ·subst h1
  go_enter Tryz.func208,Tryz.ntmps208
  go_wp2
  go_ret
  exact ⟨rfl,rfl⟩
 have b1:(op == 1)=false:=by simpa using h1
 by_cases h2:op<11
 ·rw [show immB op=false from by unfold immB;simp;omega]
  exact z8x3
 by_cases h3:op≤15
 ·rw [show immB op=true from by unfold immB;simp;omega]
  exact z8x3
 by_cases h4:op<19
 ·rw [show immB op=false from by unfold immB;simp;omega]
  exact z8x3
 by_cases h5:op≤27
 ·rw [show immB op=true from by unfold immB;simp;omega]
  exact z8x3
 ·rw [show immB op=false from by unfold immB;simp;omega]
  exact z8x3
theorem add_c (a b:Nat):((a:Int)+(b:Int)) % 4294967296=((add32 a b:Nat):Int):=by unfold add32;omega
theorem add4_c (a:Nat):((a:Int)+4) % 4294967296=((add32 a 4:Nat):Int):=by unfold add32;omega
theorem add32_lt (a b:Nat):add32 a b<4294967296:=Nat.mod_lt _ (by omega)
theorem valueL_lt (i:Ins) (pc:Nat) {a b:Nat} (ha:a<4294967296) (hb:b<4294967296) (hi:i.imm<4294967296):valueL i pc a b<4294967296:=by
 unfold valueL
 have h1:=add32_lt pc i.imm
 have h2:=add32_lt pc 4
 split
 ·exact mulL_lt _ _ _ ha hb
 split
 ·exact divL_lt _ ha hb
 split
 ·exact h1
 split
 ·exact h2
 split
 ·exact aluL_lt ha hi
 ·exact aluL_lt ha hb
theorem Value_any (i:Ins) (pc a b:Nat) (w:World) (hi:okI i.op) (him:i.imm<4294967296) (ha:a<4294967296) (hb:b<4294967296) :
  Calls Tryz.prog 180 #[i.val,.int .u32 (pc:Int),.int .u32 (a:Int),.int .u32 (b:Int)] w fun x w'=>x = .returned (.int .u32 (valueL i pc a b:Int))∧Bel w w':=by
 have hF:=St.start w [] (fun d hd=>by cases hd)
 have HK:=Lib.hid (fun W=>Kind_any i W hi)
 have HI:=Lib.hid (fun W=>imm_any i.op W)
 have hcl:i.val.cells=i.cells.toArray:=rfl
 have hV:=Lib.hid (show valueL i pc a b=if kindI i.op=1 then mulL i.op a b else if kindI i.op=2 then divL i.op a b else if i.op=2 then add32 pc i.imm else if i.op=3∨i.op=4 then add32 pc 4
  else aluL i.op a (if immB i.op=true then i.imm else b) from rfl)
 generalize kindI i.op=κ at *
 by_cases k1:κ=1
 ·subst k1
  go_enter Tryz.func180,Tryz.ntmps180
  exact z8x0
 by_cases k2:κ=2
 ·subst k2
  go_enter Tryz.func180,Tryz.ntmps180
  exact z8x0
 replace hV:=hV.out
 rw [if_neg k1,if_neg k2] at hV
 have b1:(κ == 1)=false:=by simpa using k1
 have b2:(κ == 2)=false:=by simpa using k2
 clear k1 k2
 by_cases o2:i.op=2
 ·have c2:(i.op == 2)=true:=by simpa using o2
  replace hV:=Lib.hid (hV.trans (if_pos o2))
  clear o2
  go_enter Tryz.func180,Tryz.ntmps180
  (go_wp2_with ((first|((refine w_box (cs:=i.cells) rfl hF rfl ?_);clear hF;intro gN wN hF;(try simp only [zA,Nat.reduceAdd]))|(refine zg42 ?_;clear hF;intro wN hF)|(go_at_call 206;refine (Mul_any _ _ _ _ ha hb).mono ?_;rintro x wN ⟨rfl,rfl⟩)|(go_at_call 207;refine (Div_any _ _ _ _ ha hb).mono ?_;rintro x wN ⟨rfl,hbel⟩;replace hF:=hF.grow hbel;clear hbel)|(go_at_call 208;refine (HI.out _).mono ?_;rintro x wN ⟨rfl,rfl⟩)|(go_at_call 209;refine (Alu_any _ _ _ _ ha (by assumption)).mono ?_;rintro x wN ⟨rfl,rfl⟩)|((first|refine zrd ?_|(refine zst ?_;clear hF;(first|intro gN wN hF|intro wN hF|intro hF))|(refine zap ?_;clear hF;intro vN wN hF));(try simp only [zA,Nat.reduceAdd])))))
  go_ret
  exact ⟨val_u32 (by rw [hV.out];exact add_c _ _),hF.bel⟩
 rw [if_neg o2] at hV
 have c2:(i.op == 2)=false:=by simpa using o2
 clear o2
 by_cases o3:i.op=3
 ·have c3:(i.op == 3)=true:=by simpa using o3
  replace hV:=Lib.hid (hV.trans (if_pos (.inl o3)))
  clear o3
  exact z8x2
 have c3:(i.op == 3)=false:=by simpa using o3
 by_cases o4:i.op=4
 ·have c4:(i.op == 4)=true:=by simpa using o4
  replace hV:=Lib.hid (hV.trans (if_pos (.inr o4)))
  clear o3 o4
  exact z8x2
 have c4:(i.op == 4)=false:=by simpa using o4
 rw [if_neg (fun h=>h.elim o3 o4)] at hV
 clear o3 o4
 generalize immB i.op=ib at *
 replace hV:=Lib.hid hV
 cases ib
 all_goals
  go_enter Tryz.func180,Tryz.ntmps180
  exact z8x0
end
section
open Go.RowKit Wd
section
variable {P:Program} {ops:Array Oper} {rest:List Oper} {o:Oper} {a:Act} {Q:Exit→Act→World→Prop} {w0 w:World} {D0 D:List Da} {M:List Mu}
theorem w_ixA {t e:TypeId} {g n k:Nat} {x ix:Operand} {ki:IntKind} (ho:o.op = .indexAddr t x ix) (hx:look a x=some (.pointer (some ⟨g,0,none⟩))) (hk:look a ix=some (.int ki (k:Int))) (hu:P.underlying t=some (.array n e)) (hi:(P.info? e).map (·.size)=some 1) (h:wpList P ops Q rest (a.put o.dst (.pointer (some ⟨g,k,none⟩))) w) (hkn:k<n:=by (first|assumption|omega|exact Nat.zero_lt_of_lt (by assumption)|exact Nat.succ_pos _)) (hw:Region.wanted o (yielded ops a.tmps)=true:=by rfl) :
  wpList P ops Q (o::rest) a w:=by
 replace hk:=look_eval hk
 replace hx:=look_eval hx
 have hs:(sizeOf e).run P w = .ok 1 w:=by
  cases hq:P.info? e with
  | none=>simp [hq] at hi
  | some i=>
   have:i.size=1:=by simpa [hq] using hi
   simp [sizeOf,typeInfo,hq,this]
 have hrun:(Instr.indexAt t (.pointer (some ⟨g,0,none⟩)) (.int ki (k:Int))).run P w = .ok (.pointer (some ⟨g,k,none⟩)) w:=by
  simp [Instr.indexAt,run_underlying hu,asIntOf,hs,addr_add,Instr.sureAddr,show (k:Int)<(n:Int) by omega]
  intro h;omega
 refine wpList_wanted hw fun K hK=>?_
 unfold Oper.wp execOp
 simp only [ho,hk,hx,hrun,Sem.run_bind,Sem.run_pure,Result.andThen_ok]
 exact hK _ _ h
end
theorem Read_any (A:Option Addr) (n c:Nat) (q:List En) (regs:List Nat) (i reg:Int) (w:World) (hr:Rd w w.heap.size 17 A n c (ens q)) (hq:ensOk q) (hl:regs.length=32) (hi:okI i) (hg:okI reg) :
  Calls Tryz.prog 45 #[.slice A n c,.agg (u32v regs).toArray,.int .i64 i,.int .i64 reg] w fun e w'=>e = .returned (.tuple #[.int .u32 ((readS q regs i reg).1:Int),.bool (readS q regs i reg).2])∧Bel w w':=by
 have hF:=St.start w [rowD 17 A n c (ens q)] (fun d hd=>by obtain rfl:=List.mem_singleton.1 hd;exact hr)
 have hc1:=hr.le
 have hc2:=hr.mx
 unfold maxLen at hc2
 have hn:=hr.enslen
 have HM:=Lib.hid (fun W (h:Rd W W.heap.size 17 A n c (ens q))=>Maker_any A n c i reg q W h hi hg)
 have HS:=(show readS q regs i reg=if reg=0 then (0,true) else if reg<0∨31<reg then (0,false) else if makerL q i reg<0 then (regs[reg.toNat]?.getD 0,true) else
  match q[(makerL q i reg).toNat]? with|some e=>if e.is=3∧e.halt=0 then (e.value,true) else (0,false)|none=>(0,false) from rfl)
 clear hr
 by_cases h0:reg=0
 ·subst h0
  rw [if_pos rfl] at HS
  rw [HS]
  clear HS
  exact z8x1
 rw [if_neg h0] at HS
 have b0:(reg == 0)=false:=by simpa using h0
 by_cases h1:reg<0
 ·rw [if_pos (.inl h1)] at HS
  rw [HS]
  clear HS h0
  exact z8x1
 by_cases h2:31<reg
 ·rw [if_pos (.inr h2)] at HS
  rw [HS]
  clear HS h0
  exact z8x1
 rw [if_neg (by omega)] at HS
 obtain ⟨r,rfl⟩:=Int.eq_ofNat_of_zero_le (show 0≤reg by omega)
 have hlt:=@makerL_lt q i (r:Int)
 obtain ⟨mk,hmk⟩:∃ mk,makerL q i (r:Int)=mk:=⟨_,rfl⟩
 rw [hmk] at HM HS hlt
 clear hmk h0
 by_cases hm:mk<0
 ·rw [if_pos hm,Int.toNat_natCast] at HS
  obtain ⟨x,hx⟩:∃ x,regs[r]?=some x:=⟨_,List.getElem?_eq_getElem (by omega)⟩
  have hreg:(u32v regs)[r]?=some (.int .u32 (x:Int)):=by simp [u32v,hx]
  rw [hx] at HS
  rw [HS]
  clear HS hx hlt
  exact z8x1
 rw [if_neg hm] at HS
 obtain ⟨m,rfl⟩:=Int.eq_ofNat_of_zero_le (show 0≤mk by omega)
 obtain ⟨m1,m2⟩:=hlt (by omega)
 have hmn:m<n:=by omega
 obtain ⟨e,hu⟩:∃ e,q[m]?=some e:=⟨_,List.getElem?_eq_getElem (by omega)⟩
 rw [Int.toNat_natCast,hu] at HS
 dsimp only at HS
 obtain ⟨no,pc,⟨op,rd,rs1,rs2,imm⟩,guess,is,left,value,next,addr,halt,took,known,filled⟩:=e
 dsimp only at HS
 clear m1 m2 hm hlt
 by_cases h3:is=3
 ·subst h3
  by_cases h4:halt=0
  ·subst h4
   rw [if_pos ⟨rfl,rfl⟩] at HS
   rw [HS]
   clear HS
   exact z8x1
  ·rw [if_neg (fun h=>h4 h.2)] at HS
   have b4:(halt == 0)=false:=by simpa using h4
   rw [HS]
   clear HS h4
   exact z8x1
 ·rw [if_neg (fun h=>h3 h.1)] at HS
  have b3:(is == 3)=false:=by simpa using h3
  rw [HS]
  clear HS h3
  exact z8x1
theorem Both_any (A:Option Addr) (n c:Nat) (q:List En) (regs:List Nat) (k:Nat) (w:World) (hr:Rd w w.heap.size 17 A n c (ens q)) (hq:ensOk q) (hl:regs.length=32) (hk:k<n) :
  Calls Tryz.prog 16 #[.slice A n c,.agg (u32v regs).toArray,.int .i64 (k:Int)] w fun e w'=>e = .returned (.tuple #[.int .u32 ((bothS q regs k).1:Int),.int .u32 ((bothS q regs k).2.1:Int),.bool (bothS q regs k).2.2])∧Bel w w':=by
 have hF:=St.start w [rowD 17 A n c (ens q)] (fun d hd=>by obtain rfl:=List.mem_singleton.1 hd;exact hr)
 have hc1:=hr.le
 have hc2:=hr.mx
 unfold maxLen at hc2
 have hn:=hr.enslen
 clear hr
 obtain ⟨e,hu⟩:∃ e,q[k]?=some e:=⟨_,List.getElem?_eq_getElem (by omega)⟩
 have ho:=hq e (List.mem_of_getElem? hu)
 have hB:bothS q regs k=((readS q regs k e.inst.rs1).1,(readS q regs k e.inst.rs2).1,(readS q regs k e.inst.rs1).2 && (readS q regs k e.inst.rs2).2):=by unfold bothS;rw [hu]
 have H1:=Lib.hid (fun W (h:Rd W W.heap.size 17 A n c (ens q))=>Read_any A n c q regs (k:Int) e.inst.rs1 W h hq hl ⟨by omega,by omega⟩ ho.rs1)
 have H2:=Lib.hid (fun W (h:Rd W W.heap.size 17 A n c (ens q))=>Read_any A n c q regs (k:Int) e.inst.rs2 W h hq hl ⟨by omega,by omega⟩ ho.rs2)
 rw [hB]
 clear hB
 obtain ⟨no,pc,⟨op,rd,rs1,rs2,imm⟩,guess,is,left,value,next,addr,halt,took,known,filled⟩:=e
 have HRe:=Lib.hid (fun W=>Reads_any ⟨op,rd,rs1,rs2,imm⟩ W)
 dsimp only at H1 H2 HRe
 generalize readS q regs k rs1=p1 at *
 generalize readS q regs k rs2=p2 at *
 obtain ⟨a1,b1⟩:=p1
 obtain ⟨a2,b2⟩:=p2
 dsimp only at H1 H2 ⊢
 cases b1
 all_goals
  go_enter Tryz.func16,Tryz.ntmps16
  go_wp2_with ((try simp only [zA,Nat.reduceAdd]);(first|refine zg92 ?_|(refine zg93 ?_;clear hF;(first|intro gN wN hF|intro wN hF|intro hF))|(go_at_call 45;have h1:=H1.out _ hF.rdA;(with_reducible refine h1.mono ?_);rintro x wN ⟨rfl,hb⟩;replace hF:=hF.grow hb;clear hb h1)|(go_at_call 45;have h2:=H2.out _ hF.rdA;(with_reducible refine h2.mono ?_);rintro x wN ⟨rfl,hb⟩;replace hF:=hF.grow hb;clear hb h2)|(refine zg15 ?_;clear hF;intro vN wN hF)))
  go_returns
  exact ⟨rfl,hF.bel⟩
end
section
open Go.RowKit Go.Sort
def COk (C:List (List Wy)):Prop:=∀ ws∈C,∀ v∈ws,v.line<4294967296∧v.data.size≤maxLen
theorem COk.sok {S:List Cs} (h:COk (cont S)):SOk S:=fun s hs v hv=>h s.ws (List.mem_map.2 ⟨s,hs,rfl⟩) v hv
theorem COk.set {C:List (List Wy)} (h:COk C) (k:Nat) {ws:List Wy} (hw:∀ v∈ws,v.line<4294967296∧v.data.size≤maxLen):COk (C.set k ws):=fun us hu v hv=>by
 rcases List.mem_or_eq_of_mem_set hu with hu|rfl
 ·exact h us hu v hv
 ·exact hw v hv
theorem COk.at_ {C:List (List Wy)} (h:COk C) {k:Nat} {ws:List Wy} (hw:C[k]?=some ws):∀ v∈ws,v.line<4294967296∧v.data.size≤maxLen:=h ws (List.mem_of_getElem? hw)
def Spot (ws:List Wy) (l i:Nat) (b:Bool):Prop :=
 (b=true ∧ ∃ v,At ws l i v ∧ ∀ j<i,∀ u,ws[j]?=some u→u.line≠l)∨(b=false∧i=0∧NotIn ws l)
inductive FindR (ways:Int) (C:List (List Wy)) (x k i:Nat) (b:Bool):Prop
 | no (h:¬ RightP ways C) (hk:k=0) (hi:i=0) (hb:b=false)
 | yes (h:RightP ways C) (hk:x / 16 % C.length=k) (ws:List Wy) (hw:C[k]?=some ws) (hs:Spot ws (x - x % 16) i b)
theorem RightP.set_at {ways:Int} {C:List (List Wy)} (h:RightP ways C) (x:Nat):∃ ws,C[x / 16 % C.length]?=some ws :=
 ⟨_,List.getElem?_eq_getElem (Nat.mod_lt _ (by rcases h.hn with h|h|h <;> omega))⟩
theorem FindR.line {ways:Int} {C:List (List Wy)} {x k i:Nat} {b:Bool} (h:FindR ways C x k i b):FindR ways C (x - x % 16) k i b:=by
 cases h with
 | no h hk hi hb=>exact .no h hk hi hb
 | yes h hk ws hw hs=>exact .yes h (by rw [← hk];congr 1;omega) ws hw (by rwa [show x - x % 16 - (x - x % 16) % 16=x - x % 16 by omega])
theorem FindR.at_ {ways:Int} {C:List (List Wy)} {x k i:Nat} (h:FindR ways C x k i true):RightP ways C∧x / 16 % C.length=k ∧ ∃ ws v,C[k]?=some ws∧ws[i]?=some v∧v.line=x - x % 16∧(ws.length:Int)≤ways:=by
 cases h with
 | no h hk hi hb=>cases hb
 | yes h hk ws hw hs=>
  rcases hs with ⟨_,v,ha,_⟩|⟨hb,_⟩
  ·exact ⟨h,hk,ws,v,hw,ha.is,ha.line,(h.hs k ws hw).1⟩
  ·cases hb
inductive TouchR (ways:Int) (C:List (List Wy)) (x:Nat) (C':List (List Wy)):Prop
 | no (k i:Nat) (h:FindR ways C x k i false) (he:C'=C)
 | yes (k i:Nat) (h:FindR ways C x k i true) (ws:List Wy) (v:Wy) (hw:C[k]?=some ws) (hv:ws[i]?=some v) (he:C'=C.set k (frontL ws i v))
inductive PutR (ways:Int) (C:List (List Wy)) (x:Nat) (data:ByteArray) (dirty:Bool) (C':List (List Wy)) (gone:Wy) (went:Bool):Prop
 | no (h:¬ RightP ways C) (he:C'=C) (hg:gone=⟨0,false,⟨#[]⟩⟩) (hb:went=false)
 | hit (k i:Nat) (h:FindR ways C x k i true) (ws:List Wy) (v:Wy) (hw:C[k]?=some ws) (hv:ws[i]?=some v)
   (he:C'=C.set k (frontL ws i ⟨v.line,v.dirty || dirty,if data.size=16 then data else v.data⟩)) (hg:gone=⟨0,false,⟨#[]⟩⟩) (hb:went=false)
 | room (k i:Nat) (hR:RightP ways C) (h:FindR ways C x k i false) (ws:List Wy) (hw:C[k]?=some ws) (hl:(ws.length:Int)<ways)
   (he:C'=C.set k (⟨x - x % 16,dirty,trimD data⟩::ws)) (hg:gone=⟨0,false,⟨#[]⟩⟩) (hb:went=false)
 | full (k i:Nat) (hR:RightP ways C) (h:FindR ways C x k i false) (ws:List Wy) (hw:C[k]?=some ws) (hl:(ws.length:Int)=ways) (l:Nat) (hl1:ws.length=l+1) (hgv:ws[l]?=some gone)
   (he:C'=C.set k (⟨x - x % 16,dirty,trimD data⟩::ws.take l)) (hb:went=true)
theorem FindR.set_ {ways:Int} {C:List (List Wy)} {x k i:Nat} {b:Bool} (h:FindR ways C x k i b) (hR:RightP ways C):x / 16 % C.length=k ∧ ∃ ws,C[k]?=some ws∧(ws.length:Int)≤ways∧Spot ws (x - x % 16) i b:=by
 cases h with
 | no h hk hi hb=>exact absurd hR h
 | yes h hk ws hw hs=>exact ⟨hk,ws,hw,(h.hs k ws hw).1,hs⟩
section
variable {ways:Int} {A:Option Addr} {n c x:Nat} {S:List Cs}
theorem CRes.same {w w':World} {D0:List Da} {A:Option Addr} {n c:Nat} {S:List Cs} (hr:RdS w w.heap.size A n c S) (hb:Bel w w') (h1:rowD 1 A n c (csv S)∈D0) (h2:elemsD S∈D0):CRes w D0 ways (.agg #[.int .i64 ways,.slice A n c]) w' (cont S) :=
 ⟨A,n,c,S,rfl,⟨hb,cacheD_ok (hr.bel hb),fun d hd=>by
  rcases List.mem_cons.1 hd with rfl|hd
  ·exact From.self h1
  ·obtain rfl:=List.mem_singleton.1 hd
   exact From.self h2⟩,rfl⟩
theorem CRes.sameC {w w':World} {A:Option Addr} {n c:Nat} {S:List Cs} (hr:RdS w w.heap.size A n c S) (hb:Bel w w'):CRes w (cacheD A n c S) ways (.agg #[.int .i64 ways,.slice A n c]) w' (cont S) :=
 CRes.same hr hb (List.Mem.head _) (List.Mem.tail _ (List.Mem.head _))
theorem clen {W:World} (h:RdS W W.heap.size A n c S):(cont S).length=n:=by rw [cont_len];exact h.slen
theorem Find_all (hx:x<4294967296) (ho:SOk S) {k i:Nat} {b:Bool} (h:FindR ways (cont S) x k i b):FindC 80 ways A n c x S k i b:=fun W hr=>by
 cases h with
 | no h hk hi hb=>subst hk hi hb;exact Find_no ways A n c S x W hr ho h
 | yes h hk ws hw hs=>rw [clen hr] at hk;exact Find_any ways A n c S x W hr ho hx h k hk ws hw i b hs
theorem Right_all (ho:SOk S) {b:Bool} (hb:b=true↔RightP ways (cont S)):RightC 120 ways A n c S b:=fun W hr=>Right_any ways A n c S W hr ho b hb
theorem yesR {p:Prop} (h:p):true=true↔p:=⟨fun _=>h,fun _=>rfl⟩
theorem noR {p:Prop} (h:¬ p):false=true↔p:=⟨fun e=>(by cases e),fun e=>absurd e h⟩
theorem ways_le {ways:Int} {C:List (List Wy)} (h:RightP ways C) {ws:List Wy} (hl:(ws.length:Int)≤ways):ws.length≤2:=by have:=h.hw;omega
theorem n_le {W:World} (hr:RdS W W.heap.size A n c S) (h:RightP ways (cont S)):n≤1000:=by have:=h.hn;rw [clen hr] at this;omega
theorem k_lt {W:World} (hr:RdS W W.heap.size A n c S) {k:Nat} {ws:List Wy} (hw:(cont S)[k]?=some ws):k<n:=by have:=(List.getElem?_eq_some_iff.1 hw).1;rwa [clen hr] at this
theorem Touch_all {C':List (List Wy)} (hx:x<4294967296) (ho:SOk S) (h:TouchR ways (cont S) x C') (w:World) (hr:RdS w w.heap.size A n c S) :
  Calls Tryz.prog 84 #[.agg #[.int .i64 ways,.slice A n c],.int .u32 (x:Int)] w fun e w'=>∃ y,e = .returned y∧CRes w (cacheD A n c S) ways y w' C':=by
 cases h with
 | no k i h he=>
  subst he
  refine (Touch_no ways A n c x S k i w hr (Lib.hid (Find_all hx ho h))).mono ?_
  rintro e w' ⟨rfl,hb⟩
  exact ⟨_,rfl,CRes.sameC hr hb⟩
 | yes k i h ws v hw hv he=>
  subst he
  obtain ⟨hR,_,ws',v',hw',_,_,hl⟩:=h.at_
  rw [hw] at hw';injection hw' with hw';subst hw'
  exact Touch_st ways A n c x S k i ws v w hr (n_le hr hR) (k_lt hr hw) hw (by have:=ways_le hR hl;omega) hv (Lib.hid (Find_all hx ho h))
theorem Put_all {data:ByteArray} {dirty:Bool} {C':List (List Wy)} {gone:Wy} {went:Bool} (hx:x<4294967296) (ho:SOk S) (h:PutR ways (cont S) x data dirty C' gone went) (w:World) (hr:RdS w w.heap.size A n c S) :
  Calls Tryz.prog 66 #[.agg #[.int .i64 ways,.slice A n c],.int .u32 (x:Int),.string data,.bool dirty] w fun e w'=>∃ y,e = .returned (.tuple #[y,gone.val,.bool went])∧CRes w (cacheD A n c S) ways y w' C':=by
 cases h with
 | no h he hg hb=>
  subst he hg hb
  refine (Put_no ways A n c x data dirty S w hr (Lib.hid (Right_all ho (noR h)))).mono ?_
  rintro e w' ⟨rfl,hb⟩
  exact ⟨_,rfl,CRes.sameC hr hb⟩
 | hit k i h ws v hw hv he hg hb=>
  subst he hg hb
  obtain ⟨hR,hk,ws',v',hw',hv',hvl,hl⟩:=h.at_
  rw [hw] at hw';injection hw' with hw';subst hw'
  exact Put_hit ways A n c x data dirty S k i ws v w hr (n_le hr hR) (k_lt hr hw) hw (by have:=ways_le hR hl;omega) hv (Lib.hid (Right_all ho (yesR hR))) (Lib.hid (Find_all hx ho h))
 | room k i hR h ws hw hl he hg hb=>
  subst he hg hb
  exact Put_room ways A n c x data dirty S k i ws w hr hx (n_le hr hR) (k_lt hr hw) hw (by have:=ways_le hR (by omega:(ws.length:Int)≤ways);omega) (by omega) (Lib.hid (Right_all ho (yesR hR))) (Lib.hid (Find_all hx ho h))
 | full k i hR h ws hw hl l hl1 hgv he hb=>
  subst he hb
  exact Put_full ways A n c x data dirty S k i ws w hr hx (n_le hr hR) (k_lt hr hw) hw (by have:=ways_le hR (by omega:(ws.length:Int)≤ways);omega) hl l hl1 gone hgv (Lib.hid (Right_all ho (yesR hR))) (Lib.hid (Find_all hx ho h))
theorem notIn_take {ws:List Wy} {l k:Nat} (h:NotIn ws l):NotIn (ws.take k) l:=fun v hv=>h v (List.mem_of_mem_take hv)
end
end
end Go.Proofs.YtgnomadgnciifaaGreatDoor
