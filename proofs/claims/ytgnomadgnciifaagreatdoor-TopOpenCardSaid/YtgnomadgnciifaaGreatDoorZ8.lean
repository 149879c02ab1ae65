/- . -/
import Derived.Test.YtgnomadgnciifaaGreatDoorZ2
import Derived.Test.YtgnomadgnciifaaGreatDoorZ7
set_option linter.unusedVariables false
set_option linter.unusedSimpArgs false
set_option linter.unusedSectionVars false
set_option maxRecDepth 100000
set_option maxHeartbeats 16000000
namespace Go.Proofs.YtgnomadgnciifaaGreatDoor
theorem c4m {p:Prop} (h:p:=by
 (go_wp2_with ((first|((refine w_box (cs:=i.cells) rfl hF rfl ?_);clear hF;intro gN wN hF;(try refine zs ?_))|(refine b5r ?_;clear hF;intro wN hF)|(go_at_call 206;refine (c4g _ _ _ _ ha hb).mono ?_;rintro x wN ⟨rfl,rfl⟩)|(go_at_call 207;refine (Div_any _ _ _ _ ha hb).mono ?_;rintro x wN ⟨rfl,hbel⟩;replace hF:=hF.grow hbel;clear hbel)|(go_at_call 208;refine (HI.out _).mono ?_;rintro x wN ⟨rfl,rfl⟩)|(go_at_call 209;refine (c4f _ _ _ _ ha (by assumption)).mono ?_;rintro x wN ⟨rfl,rfl⟩)|((first|refine zrd ?_|(refine zst ?_;clear hF;(first|intro gN wN hF|intro wN hF|intro hF))|(refine zap ?_;clear hF;intro vN wN hF));refine zs ?_))))
 go_ret
 exact ⟨a2m (by rw [hV.out];rfl),hF.bel⟩):p:=h
theorem b3n {p:Prop} (h:p:=by
 go_enter Tryz.func45,Tryz.ntmps45
 (go_wp2_with ((try refine zs ?_);(first|refine f3u ?_|(refine f3v ?_;clear hF;(first|intro gN wN hF|intro wN hF|intro hF))|(refine a1d ?_;clear hF;intro vN wN hF))))
 go_returns
 exact ⟨rfl,hF.bel⟩):p:=h
theorem d4v {p:Prop} (h:p:=by
 go_enter Tryz.func180,Tryz.ntmps180
 (go_wp2_with ((first|((refine w_box (cs:=i.cells) rfl hF rfl ?_);clear hF;intro gN wN hF;(try refine zs ?_))|(refine b5r ?_;clear hF;intro wN hF)|(go_at_call 206;refine (c4g _ _ _ _ ha hb).mono ?_;rintro x wN ⟨rfl,rfl⟩)|(go_at_call 207;refine (Div_any _ _ _ _ ha hb).mono ?_;rintro x wN ⟨rfl,hbel⟩;replace hF:=hF.grow hbel;clear hbel)|(go_at_call 208;refine (HI.out _).mono ?_;rintro x wN ⟨rfl,rfl⟩)|(go_at_call 209;refine (c4f _ _ _ _ ha (by assumption)).mono ?_;rintro x wN ⟨rfl,rfl⟩)|((first|refine zrd ?_|(refine zst ?_;clear hF;(first|intro gN wN hF|intro wN hF|intro hF))|(refine zap ?_;clear hF;intro vN wN hF));refine zs ?_))))
 go_ret
 exact ⟨a2m (by rw [hV.out];exact add4_c _),hF.bel⟩):p:=h
theorem b7f {p:Prop} (h:p:=by
 clear h1
 go_enter Tryz.func208,Tryz.ntmps208
 go_wp2
 go_ret
 exact ⟨rfl,rfl⟩):p:=h
section
open Go.RowKit Go.Sort
theorem ens_inst {q:List En} {k:Nat} {e:En} (h:q[k]?=some e):∀ i u,e.inst.cells[i]?=some u→(ens q)[k * 17+2+i]?=some u:=fun i u hu=>by
 have hi:i<5:=(List.getElem?_eq_some_iff.1 hu).1
 have:e.cells[2+i]?=some u:=by
  match i,hi with
  | 0,_=>exact hu
  | 1,_=>exact hu
  | 2,_=>exact hu
  | 3,_=>exact hu
  | 4,_=>exact hu
 rw [Nat.add_assoc]
 exact Rows.el (f:=ens) h this
theorem d4w (A:Option Addr) (n c:Nat) (q:List En) (i:Int) (w:World) (hr:Rd w w.heap.size 17 A n c (ens q)) (hq:ensOk q) (h0:0≤i) :
  Calls Tryz.prog 13 #[.slice A n c,.int .i64 i] w fun e w'=>e = .returned (.bool (decide (i≤(a3p q:Int))))∧Bel w w':=by
 have HF:=Lib.hid (d1t A n c q w hr hq.op)
 have hn:=hr.enslen
 have hfl:=d1r q
 generalize a3p q=f at *
 by_cases h2:i≤(n:Int)
 ·clear hn hfl
  go_enter Tryz.func13,Tryz.ntmps13
  go_wp2_with (go_at_call 42;refine HF.out.mono ?_;rintro e w1 ⟨rfl,hb1⟩)
  go_ret
  exact ⟨rfl,hb1⟩
 ·have h3:decide (i≤(f:Int))=false:=by simp;omega
  rw [h3]
  clear hn hfl h3
  go_enter Tryz.func13,Tryz.ntmps13
  go_wp2_with fail
  go_ret
  exact ⟨rfl,Bel.refl w⟩
end
section
open Go.RowKit Go.Sort
def b7g (sets:Int):Nat:=if sets<2 then 1 else if sets<4 then 2 else 4
def b7h (ways:Int):Int:=if ways<2 then 1 else 2
theorem d4x (n:Nat):a1j (List.replicate n b1m)=List.replicate n []:=by simp [a1j,b1m]
theorem c4n (n:Nat):(madeCells (Value.slice none 0 0).cells (n * 1)).toList=csv (List.replicate n b1m):=by
 rw [show (Value.slice none 0 0).cells=#[Value.slice none 0 0] from rfl,toList_madeCells_one,Nat.mul_one]
 simp [csv,b1m,Cs.val]
theorem g6r (sets ways p1 p2 q1 q2:Int) (n:Nat) (w:World) (hs1 : -9223372036854775808≤sets) (hs2:sets≤9223372036854775807) (hw1 : -9223372036854775808≤ways) (hw2:ways≤9223372036854775807)
  (hp1:sets≤1∧p1=1∨1<sets∧p1=sets) (hp2:p1≤4∧p2=p1∨4<p1∧p2=4) (hq1:ways≤1∧q1=1∨1<ways∧q1=ways) (hq2:q1≤2∧q2=q1∨2<q1∧q2=2) (h3:p2=3∧n=2∨p2≠3∧p2=(n:Int)) :
  Calls Tryz.prog 26 #[.int .i64 sets,.int .i64 ways] w fun e w'=>∃ x,e = .returned x∧CRes w [] q2 x w' (List.replicate n []):=by
 have hF:=St.start w [] (fun d hd=>by cases hd)
 rcases h3 with ⟨rfl,rfl⟩|⟨h3,hn⟩
 ·go_enter Tryz.func26,Tryz.ntmps26
  go_wp2_with ((first|refine c7c ?_|(refine f2p ?_;clear hF;intro gN wN hF)|((first|refine zrd ?_|(refine zst ?_;clear hF;(first|intro gN wN hF|intro wN hF|intro hF))|(refine zap ?_;clear hF;intro vN wN hF));refine zs ?_)))
  rw [c4n 2] at hF
  have hF:=(hF.freezeB 0 at0 1 2 2 (by simp [b2z]) (Nat.le_refl _) (by decide)).elemNil 2
  (try simp only [zF] at hF)
  ((try simp only [Exit.inBlock,Exit.then]);refine bodyPost_ret (a2x rfl hF) rfl ?_)
  exact ⟨_,rfl,_,_,_,List.replicate 2 b1m,rfl,hF.outA,d4x 2⟩
 ·have hn1:p2≤(n:Int):=by omega
  have hn2:(n:Int)≤p2:=by omega
  have hn4:n≤4:=by omega
  clear hn
  go_enter Tryz.func26,Tryz.ntmps26
  go_wp2_with ((first|refine c7c ?_|(refine f2q ?_;clear hF;intro gN wN hF)|((first|refine zrd ?_|(refine zst ?_;clear hF;(first|intro gN wN hF|intro wN hF|intro hF))|(refine zap ?_;clear hF;intro vN wN hF));refine zs ?_)))
  rw [c4n n] at hF
  have hF:=(hF.freezeB 0 at0 1 n n (by simp [b2z]) (Nat.le_refl _) (by unfold maxLen;omega)).elemNil n
  (try simp only [zF] at hF)
  ((try simp only [Exit.inBlock,Exit.then]);refine bodyPost_ret (a2x rfl hF) rfl ?_)
  exact ⟨_,rfl,_,_,_,List.replicate n b1m,rfl,hF.outA,d4x n⟩
theorem g6s (sets ways:Int) (w:World) (hs : -9223372036854775808≤sets∧sets≤9223372036854775807) (hw : -9223372036854775808≤ways∧ways≤9223372036854775807) :
  Calls Tryz.prog 26 #[.int .i64 sets,.int .i64 ways] w fun e w'=>∃ x,e = .returned x∧CRes w [] (b7h ways) x w' (List.replicate (b7g sets) []):=by
 refine g6r sets ways (if sets≤1 then 1 else sets) (if sets≤1 then 1 else if 4<sets then 4 else sets) (if ways≤1 then 1 else ways) (b7h ways) (b7g sets) w hs.1 hs.2 hw.1 hw.2 ?_ ?_ ?_ ?_ ?_
 ·split <;> omega
 ·by_cases h1:sets≤1
  ·simp only [if_pos h1];first|omega|(simp;done)|(simp;omega)
  ·simp only [if_neg h1];split <;> omega
 ·split <;> omega
 ·unfold b7h
  by_cases h1:ways≤1
  ·simp only [if_pos h1,if_pos (show ways<2 by omega)];first|omega|(simp;done)|(simp;omega)
  ·simp only [if_neg h1,if_neg (show ¬ ways<2 by omega)];first|omega|(simp;done)|(simp;omega)
 ·unfold b7g
  by_cases h1:sets≤1
  ·simp only [if_pos h1,if_pos (show sets<2 by omega)];first|omega|(simp;done)|(simp;omega)
  ·simp only [if_neg h1,if_neg (show ¬ sets<2 by omega)]
   by_cases h4:4<sets
   ·simp only [if_pos h4,if_neg (show ¬ sets<4 by omega)];first|omega|(simp;done)|(simp;omega)
   ·simp only [if_neg h4]
    by_cases h5:sets<4
    ·simp only [if_pos h5];first|omega|(simp;done)|(simp;omega)
    ·simp only [if_neg h5];first|omega|(simp;done)|(simp;omega)
end
section
open Go.RowKit Wd
theorem Div_any (op:Int) (a b:Nat) (w:World) (ha:a<4294967296) (hb:b<4294967296) :
  Calls Tryz.prog 207 #[.int .i64 op,.int .u32 (a:Int),.int .u32 (b:Int)] w fun e w'=>e = .returned (.int .u32 (a4h op a b:Int))∧Bel w w':=by
 by_cases h:op=42∨op=43∨op=44∨op=45
 ·by_cases h0:(b:Int)=0
  ·obtain rfl:b=0:=by omega
   rcases h with rfl|rfl|rfl|rfl
   ·exact g6g a w ha
   ·exact g6i a w ha
   ·exact g6k a w ha
   ·exact g6m a w ha
  ·rcases h with rfl|rfl|rfl|rfl
   ·exact g6h a b w ha hb h0
   ·exact g6j a b w ha hb h0
   ·exact g6l a b w ha hb h0
   ·exact g6n a b w ha hb h0
 ·have key:∀ k:Int,op≠k→(op == k)=false:=fun k hk=>by simpa using hk
  have b1:=key 42 (by omega)
  have b2:=key 43 (by omega)
  have b3:=key 44 (by omega)
  have b4:=key 45 (by omega)
  rw [show a4h op a b=0 from by unfold a4h;rw [if_neg (by omega),if_neg (by omega)]]
  clear h key
  go_enter Tryz.func207,Tryz.ntmps207
  go_wp2
  go_ret
  exact ⟨rfl,Bel.alloc _ _⟩
theorem g6t (f x:Nat):a6v f x=Lib.bitLenAux f x:=by
 induction f generalizing x with
 | zero=>rfl
 | succ f ih=>unfold a6v Lib.bitLenAux;rw [ih];split <;> omega
theorem g6u {x:Nat} (h:x<4294967296):a6v 32 x=Lib.bitLen x:=by
 rw [g6t];exact (Lib.bitLenAux_fuel 32 x h 64 (by omega)).symm
theorem c1e (f x:Nat):a6v f x≤f:=by
 induction f generalizing x with
 | zero=>exact Nat.le_refl _
 | succ f ih=>unfold a6v;have:=ih (x / 2);split <;> omega
theorem g6v (x:Nat) (w:World) (hx:x<4294967296) :
  Calls Tryz.prog 218 #[.int .u32 (x:Int)] w fun e w'=>e = .returned (.int .i64 (a6v 32 x:Int))∧w'=w:=by
 rw [g6u hx]
 exact f8l (x:Int) w (by omega) (by omega)
theorem d4y (x:Nat) (w:World) (hx:x<4294967296) :
  Calls Tryz.prog 211 #[.int .u32 (x:Int)] w fun e w'=>e = .returned (.int .i64 (a6v 32 x:Int))∧w'=w:=by
 go_enter Tryz.func211,Tryz.ntmps211
 go_wp2_with (go_at_call 218;refine (g6v _ _ hx).mono ?_;rintro e wN ⟨rfl,rfl⟩)
 go_ret
 exact ⟨rfl,rfl⟩
theorem c1f (op:Int) (a b:Nat) (w:World) (ha:a<4294967296) (hb:b<4294967296) :
  Calls Tryz.prog 181 #[.int .i64 op,.int .u32 (a:Int),.int .u32 (b:Int)] w fun e w'=>e = .returned (.int .i64 (a4i op a b))∧w'=w:=by
 by_cases h1:op<42
 ·rw [show a4i op a b=0 from by unfold a4i;rw [if_pos (.inl h1)]]
  go_enter Tryz.func181,Tryz.ntmps181
  go_wp2
  go_ret
  exact ⟨rfl,rfl⟩
 by_cases h2:45<op
 ·rw [show a4i op a b=0 from by unfold a4i;rw [if_pos (.inr h2)]]
  go_enter Tryz.func181,Tryz.ntmps181
  go_wp2
  go_ret
  exact ⟨rfl,rfl⟩
 by_cases h0:(b:Int)=0
 ·obtain rfl:b=0:=by omega
  rw [show a4i op a 0=2 from by unfold a4i;rw [if_neg (by omega),if_pos (.inl rfl)]]
  clear h0
  go_enter Tryz.func181,Tryz.ntmps181
  go_wp2_with (go_at_call 210;refine (b3l _ _ _ (by assumption)).mono ?_;rintro e wN ⟨rfl,rfl⟩)
  go_ret
  exact ⟨rfl,rfl⟩
 have hsa:a1v op a<4294967296:=a8d ha
 have hsb:a1v op b<4294967296:=a8d hb
 have hT:a4i op a b=if a1v op a<a1v op b then 2 else 2+(a6v 32 (a1v op a):Int) - (a6v 32 (a1v op b):Int)+1:=by
  unfold a4i
  rw [if_neg (by omega)]
  by_cases h3:a1v op a<a1v op b
  ·rw [if_pos (.inr h3),if_pos h3]
  ·rw [if_neg (by omega),if_neg h3]
 have hS1:=Lib.hid (b3l op a w ha)
 have hS2:=Lib.hid (b3l op b w hb)
 generalize a1v op a=x at *
 generalize a1v op b=y at *
 have l1:=c1e 32 x
 have l2:=c1e 32 y
 have hB1:=Lib.hid (d4y x w hsa)
 have hB2:=Lib.hid (d4y y w hsb)
 generalize a6v 32 x=u at *
 generalize a6v 32 y=v at *
 have h4:((b:Int) == 0)=false:=by simpa using h0
 by_cases h3:x<y
 ·rw [hT,if_pos (by omega)]
  have h5:decide (x<y)=true:=by simpa using h3
  clear hT
  go_enter Tryz.func181,Tryz.ntmps181
  go_wp2_with ((first|(go_at_call 210;with_reducible refine hS1.out.mono ?_;rintro e wN ⟨rfl,rfl⟩)|(go_at_call 210;with_reducible refine hS2.out.mono ?_;rintro e wN ⟨rfl,rfl⟩)))
  go_ret
  exact ⟨rfl,rfl⟩
 ·rw [hT,if_neg (by omega)]
  have h5:decide (x<y)=false:=by simpa using h3
  clear hT
  go_enter Tryz.func181,Tryz.ntmps181
  go_wp2_with ((first|(go_at_call 210;with_reducible refine hS1.out.mono ?_;rintro e wN ⟨rfl,rfl⟩)|(go_at_call 210;with_reducible refine hS2.out.mono ?_;rintro e wN ⟨rfl,rfl⟩)|(go_at_call 211;with_reducible refine hB1.out.mono ?_;rintro e wN ⟨rfl,rfl⟩)|(go_at_call 211;with_reducible refine hB2.out.mono ?_;rintro e wN ⟨rfl,rfl⟩)))
  go_ret
  exact ⟨rfl,rfl⟩
end
section
open Go.RowKit
def bls (ks:List Bool):List Value:=ks.map Value.bool
theorem c4o (l:List Bool):(bls l).length=l.length:=by simp [bls]
theorem g6w {l:List Bool} {k:Nat} {x:Bool} (h:l[k]?=some x):(bls l)[k]?=some (.bool x):=by simp [bls,h]
theorem Rd.blslen {w:World} {B n c:Nat} {A:Option Addr} {l:List Bool} (h:Rd w B 1 A n c (bls l)):l.length=n:=by
 have:=h.len;rw [c4o] at this;omega
end
section
open Go.RowKit Go.Sort
theorem c1g (m:ByteArray) (A:Option Addr) (n c:Nat) (ps:List Pu) (w:World) (hr:Rd w w.heap.size 2 A n c (pus ps)) (hm:m.size≤maxLen) (ha:∀ p∈ps,p.addr<4294967296) :
  Calls Tryz.prog 68 #[.string m,.slice A n c] w fun e w'=>e = .returned (.string (ovS m ps))∧Bel w w':=by
 have hF:=St.start w [a1a 2 A n c (pus ps)] (fun d hd=>by obtain rfl:=List.mem_singleton.1 hd;exact hr)
 have hc1:=hr.le
 have hc2:=hr.mx
 unfold maxLen at hc2
 have hn:=hr.puslen
 have hmm:=hm
 unfold maxLen at hmm
 go_enter Tryz.func68,Tryz.ntmps68
 go_wp2_with ((first|(refine f9v rfl hF rfl ?_;clear hF;intro gN capN rN wN hF hcap hcapm)|((first|refine zrd ?_|(refine zst ?_;clear hF;(first|intro gN wN hF|intro wN hF|intro hF))|(refine zap ?_;clear hF;intro vN wN hF));refine zs ?_)))
 obtain ⟨gB,rfl⟩:=hF.names1
 replace hcap:=Lib.hid hcap
 go_loopw [12] (fun ix wr=>∃ k:Nat,k≤n∧ix = .int .i64 (k:Int)∧St w [a1a 2 A n c (pus ps)] wr [.blk gB 5 (a1z (a5c (bl m) (ps.take k))++rN)] [a1a 2 A n c (pus ps)]) (fun ix _=>n - (intOf ix).toNat)
 case atStart=>exact ⟨0,by omega,rfl,hF⟩
 case round=>
  obtain ⟨k,hk,rfl,hF⟩:=hrel
  by_cases hkn:k<n
  ·obtain ⟨p,hu⟩:∃ p,ps[k]?=some p:=⟨_,List.getElem?_eq_getElem (by omega)⟩
   have hpa:=ha p (List.mem_of_getElem? hu)
   have hstep:a5c (bl m) (ps.take (k+1))=b3a (a5c (bl m) (ps.take k)) p:=by
    obtain ⟨hl,e⟩:=List.getElem?_eq_some_iff.1 hu
    rw [List.take_succ_eq_append_getElem hl,e,f9c]
   have hlen:(a5c (bl m) (ps.take k)).length=m.size:=by rw [b8z,a9z]
   obtain ⟨pa,pd⟩:=p
   unfold b3a at hstep
   rw [hlen] at hstep
   dsimp only at hstep hpa
   by_cases hlt:pa<m.size
   ·rw [if_pos hlt] at hstep
    have hle:pa+(m.size - pa)=(a5c (bl m) (ps.take k)).length:=by omega
    have hmc:m.size≤capN:=by have:=hcap.out;omega
    have hst:=Lib.hid hstep
    clear hstep hlen
    go_upto_region 6 with ((first|refine c7f ?_|((first|refine zrd ?_|(refine zst ?_;clear hF;(first|intro gN wN hF|intro wN hF|intro hF))|(refine zap ?_;clear hF;intro vN wN hF));refine zs ?_)))
    obtain ⟨gP,rfl⟩:=hF.names1
    refine a1n (by kernel_rfl) hF [.blk gP 109 [.int .u32 (pa:Int),.string pd]] _ (by ((repeat (first|exact a1f|refine a1m zdm ?_)) <;> exact a1f)) (fun _ h=>h) ?_
    clear hF;intro hF hH
    refine a1c 0 hH ?_
    refine zk1 1 hH ?_
    refine zk0 2 hH ?_
    refine zk5 3 hH ?_
    refine zk1 4 hH ?_
    refine zk0 5 hH ?_
    refine zry 6 (fun K hK=>?_)
    go_wp2_with ((first|(refine f2s ?_;clear hF;intro wN hF)|((first|refine zrd ?_|(refine zst ?_;clear hF;(first|intro gN wN hF|intro wN hF|intro hF))|(refine zap ?_;clear hF;intro vN wN hF));refine zs ?_)))
    have hH:=hH.nextA hF;refine hK.out _ _ hH ?_;clear hK;refine zs ?_
    refine zrz ?_
    (go_wp2_with (((first|refine zrd ?_|(refine zst ?_;clear hF;(first|intro gN wN hF|intro wN hF|intro hF))|(refine zap ?_;clear hF;intro vN wN hF));refine zs ?_));go_roundw;(case rel=>exact ⟨k+1,by omega,by go_num,by rw [hst.out];exact hF.drop 0⟩);(case measure=>first|(simp [intOf];done)|(simp [intOf];omega)))
   ·rw [if_neg hlt] at hstep
    have hst:=Lib.hid hstep
    clear hstep hlen
    go_wp2_with ((first|refine c7f ?_|((first|refine zrd ?_|(refine zst ?_;clear hF;(first|intro gN wN hF|intro wN hF|intro hF))|(refine zap ?_;clear hF;intro vN wN hF));refine zs ?_)))
    go_roundw
    case rel=>exact ⟨k+1,by omega,by go_num,by rw [hst.out];exact hF.drop 0⟩
    case measure=>first|(simp [intOf];done)|(simp [intOf];omega)
  ·obtain rfl:k=n:=by omega
   have hlen:(a5c (bl m) (ps.take k)).length=m.size:=by rw [b8z,a9z]
   have hmc:m.size≤capN:=by have:=hcap.out;omega
   have htk:ps.take k=ps:=List.take_of_length_le (by omega)
   go_wp2_with ((first|refine f2t ?_|((first|refine zrd ?_|(refine zst ?_;clear hF;(first|intro gN wN hF|intro wN hF|intro hF))|(refine zap ?_;clear hF;intro vN wN hF));refine zs ?_)))
   go_ret
   exact ⟨rfl,hF.bel⟩
theorem a8w (m:ByteArray) (A:Option Addr) (n c:Nat) (q:List Rq) (w:World) (hr:Rd w w.heap.size 4 A n c (rqs q)) (hm:m.size≤maxLen) (hn:n≤1000000) (hq:∀ r∈q,r.line<4294967296) :
  Calls Tryz.prog 173 #[.slice A n c,.string m] w fun e w'=>e = .returned (.string (ovS m (a3w q)))∧Bel w w':=by
 have hF:=St.start w [a1a 4 A n c (rqs q)] (fun d hd=>by obtain rfl:=List.mem_singleton.1 hd;exact hr)
 have hc1:=hr.le
 have hc2:=hr.mx
 unfold maxLen at hc2
 have hql:=hr.rqslen
 go_enter Tryz.func173,Tryz.ntmps173
 go_wp2_with (((first|refine zrd ?_|(refine zst ?_;clear hF;(first|intro gN wN hF|intro wN hF|intro hF))|(refine zap ?_;clear hF;intro vN wN hF));refine zs ?_))
 have hF:=hF.nil 109 2
 go_loopw [10,5] (fun ix x wr=>∃ k N:Nat,k≤n∧N≤k∧ix = .int .i64 (k:Int)∧St w [a1a 4 A n c (rqs q)] wr [.own x 109 2 N (pus (a3w (q.take k)))] [a1a 4 A n c (rqs q)]) (fun ix _ _=>n - (intOf ix).toNat)
 case atStart=>exact ⟨0,0,by omega,by omega,rfl,hF⟩
 case round=>
  obtain ⟨k,N,hk,hN,rfl,hF⟩:=hrel
  by_cases hkn:k<n
  ·obtain ⟨r,hu⟩:∃ r,q[k]?=some r:=⟨_,List.getElem?_eq_getElem (by omega)⟩
   by_cases h4:r.kind=4
   ·have hst:=Lib.hid (f9d hu h4)
    obtain ⟨rk,rl,rt,rd⟩:=r
    dsimp only at h4
    subst h4
    have happ:Hid (pus (a3w (q.take k))++[.int .u32 (rl:Int),.string rd]=pus (a3w (q.take (k+1)))):=Lib.hid (by rw [hst.out,c9b];rfl)
    clear hst
    go_wp2_with ((first|refine f2u ?_|((first|refine zrd ?_|(refine zst ?_;clear hF;(first|intro gN wN hF|intro wN hF|intro hF))|(refine zap ?_;clear hF;intro vN wN hF));refine zs ?_)))
    go_roundw
    case rel=>exact ⟨k+1,N+1,by omega,by omega,by go_num,by rw [← happ.out];exact hF.drop 0⟩
    case measure=>first|(simp [intOf];done)|(simp [intOf];omega)
   ·have hst:=Lib.hid (f9e hu h4)
    obtain ⟨rk,rl,rt,rd⟩:=r
    dsimp only at h4
    go_wp2_with ((first|refine f2v ?_|((first|refine zrd ?_|(refine zst ?_;clear hF;(first|intro gN wN hF|intro wN hF|intro hF))|(refine zap ?_;clear hF;intro vN wN hF));refine zs ?_)))
    go_roundw
    case rel=>exact ⟨k+1,N,by omega,by omega,by go_num,by rw [hst.out];exact hF.drop 0⟩
    case measure=>first|(simp [intOf];done)|(simp [intOf];omega)
  ·obtain rfl:k=n:=by omega
   rw [List.take_of_length_le (by omega)] at hF
   obtain ⟨A2,c2,rfl,hF⟩:=hF.freeze 0 at0
   (try simp only [zF] at hF)
   go_wp2_with ((first|(go_at_call 68;refine (c1g _ _ _ _ _ _ hF.rdA hm (g5m hq)).mono ?_;rintro e wN ⟨rfl,hb⟩;replace hF:=hF.grow hb;clear hb)|((first|refine zrd ?_|(refine zst ?_;clear hF;(first|intro gN wN hF|intro wN hF|intro hF))|(refine zap ?_;clear hF;intro vN wN hF));refine zs ?_)))
   go_ret
   exact ⟨rfl,hF.bel⟩
theorem g6x (m:ByteArray) (ways:Int) (A:Option Addr) (n c:Nat) (S:List Cs) (Aq:Option Addr) (nq cq:Nat) (q:List Rq) (w:World) (hr:RdS w w.heap.size A n c S) (hrq:Rd w w.heap.size 4 Aq nq cq (rqs q)) (hm:m.size≤maxLen) (ho:SOk S) (hn:n≤1000) (hws:∀ ws∈a1j S,ws.length≤1000) (hqn:nq≤1000000) (hq:∀ r∈q,r.line<4294967296) :
  Calls Tryz.prog 171 #[.agg #[.int .i64 ways,.slice A n c],.slice Aq nq cq,.string m] w fun e w'=>e = .returned (.string (ovS m (a3w q++a5y (a1j S))))∧Bel w w':=by
 have hF:=St.start w [a1a 1 A n c (csv S),a1l S,a1a 4 Aq nq cq (rqs q)] (fun d hd=>by
  rcases List.mem_cons.1 hd with rfl|hd
  ·exact hr.rd
  ·rcases List.mem_cons.1 hd with rfl|hd
   ·exact hr.sets
   ·obtain rfl:=List.mem_singleton.1 hd;exact hrq)
 have hsl:=hr.slen
 have hc1:=hr.rd.le
 have hc2:=hr.rd.mx
 unfold maxLen at hc2
 replace hws:=Lib.hid hws
 go_enter Tryz.func171,Tryz.ntmps171
 go_wp2_with (((first|refine zrd ?_|(refine zst ?_;clear hF;(first|intro gN wN hF|intro wN hF|intro hF))|(refine zap ?_;clear hF;intro vN wN hF));refine zs ?_))
 obtain ⟨gC,rfl⟩:=hF.names1
 have hF:=hF.nil 109 2
 go_loopw [15,7] (fun ix x wr=>∃ k N:Nat,k≤n∧N≤k * 1000∧ix = .int .i64 (k:Int)∧St w [a1a 1 A n c (csv S),a1l S,a1a 4 Aq nq cq (rqs q)] wr [.own x 109 2 N (pus (a5y ((a1j S).take k))),.blk gC 35 [.int .i64 ways,.slice A n c]] [a1a 1 A n c (csv S),a1l S,a1a 4 Aq nq cq (rqs q)]) (fun ix _ _=>n - (intOf ix).toNat)
 case atStart=>exact ⟨0,0,by omega,by omega,rfl,hF⟩
 case round=>
  obtain ⟨k,N,hk,hN,rfl,hF⟩:=hrel
  by_cases hkn:k<n
  ·obtain ⟨s,hs⟩:∃ s,S[k]?=some s:=⟨_,List.getElem?_eq_getElem (by omega)⟩
   obtain ⟨sA,m',sc,ws⟩:=s
   have hF:=hF.elemA hs
   simp only at hF
   have hse:=hF.rdA (sz:=3) (A:=sA) (n:=m') (c:=sc) (xs:=wys ws)
   have hm1:=hse.le
   have hm2:=hse.mx
   have hwl:=Lib.hid hse.wyslen
   have hset:=Lib.hid (g5n hs)
   have hm3:m'≤1000:=by rw [← hwl.out];exact hws.out ws (List.mem_of_getElem? hset.out)
   unfold maxLen at hm2
   clear hse
   go_wp2_with (((first|refine zrd ?_|(refine zst ?_;clear hF;(first|intro gN wN hF|intro wN hF|intro hF))|(refine zap ?_;clear hF;intro vN wN hF));refine zs ?_))
   try simp only [Nat.mul_one]
   go_loopw [21,7] (fun ix x wr=>∃ j N':Nat,j≤m'∧N'≤k * 1000+j∧ix = .int .i64 (j:Int)∧St w [a1a 1 A n c (csv S),a1l S,a1a 4 Aq nq cq (rqs q)] wr [.own x 109 2 N' (pus (a5y ((a1j S).take k)++a9d (ws.take j))),.blk gC 35 [.int .i64 ways,.slice A n c]] [a1a 3 sA m' sc (wys ws),a1a 1 A n c (csv S),a1l S,a1a 4 Aq nq cq (rqs q)]) (fun ix _ _=>m' - (intOf ix).toNat)
   case atStart=>exact ⟨0,N,by omega,by omega,rfl,by simp only [a9d,List.take_zero,List.map_nil,List.append_nil];exact hF⟩
   case round=>
    obtain ⟨j,N',hj,hN',rfl,hF⟩:=hrel
    by_cases hjm:j<m'
    ·obtain ⟨⟨ul,ud,ub⟩,hu⟩:∃ u,ws[j]?=some u:=⟨_,List.getElem?_eq_getElem (by have:=hwl.out;omega)⟩
     have happ:Hid (pus (a5y ((a1j S).take k)++a9d (ws.take j))++[.int .u32 (ul:Int),.string ub]=pus (a5y ((a1j S).take k)++a9d (ws.take (j+1)))):=Lib.hid (by rw [f9h hu,← List.append_assoc,c9b _ [_]];rfl)
     go_wp2_with ((first|refine f2w ?_|((first|refine zrd ?_|(refine zst ?_;clear hF;(first|intro gN wN hF|intro wN hF|intro hF))|(refine zap ?_;clear hF;intro vN wN hF));refine zs ?_)))
     go_roundw
     case rel=>exact ⟨j+1,N'+1,by omega,by omega,by go_num,by rw [← happ.out];exact hF.drop 0⟩
     case measure=>first|(simp [intOf];done)|(simp [intOf];omega)
    ·obtain rfl:j=m':=by omega
     rw [List.take_of_length_le (l:=ws) (by have:=hwl.out;omega),← f9g hset.out] at hF
     go_wp2_with (((first|refine zrd ?_|(refine zst ?_;clear hF;(first|intro gN wN hF|intro wN hF|intro hF))|(refine zap ?_;clear hF;intro vN wN hF));refine zs ?_))
     go_roundw
     case rel=>exact ⟨k+1,N',by omega,by omega,by go_num,hF.lessA _⟩
     case measure=>first|(simp [intOf];done)|(simp [intOf];omega)
  ·obtain rfl:k=n:=by omega
   rw [List.take_of_length_le (by rw [a3n];omega)] at hF
   obtain ⟨A2,c2,rfl,hF⟩:=hF.freeze 0 at0
   (try simp only [zF] at hF)
   go_wp2_with ((first|(go_at_call 173;refine (a8w _ _ _ _ _ _ hF.rdA hm hqn hq).mono ?_;rintro e wN ⟨rfl,hb⟩;replace hF:=hF.grow hb;clear hb)|(go_at_call 68;refine (c1g _ _ _ _ _ _ hF.rdA (by rw [a6p];exact hm) (g5o ho)).mono ?_;rintro e wN ⟨rfl,hb⟩;replace hF:=hF.grow hb;clear hb)|((first|refine zrd ?_|(refine zst ?_;clear hF;(first|intro gN wN hF|intro wN hF|intro hF))|(refine zap ?_;clear hF;intro vN wN hF));refine zs ?_)))
   go_ret
   exact ⟨by rw [d4m];rfl,hF.bel⟩
theorem g6y (m:ByteArray) (ways:Int) (A:Option Addr) (n c:Nat) (S:List Cs) (Aq:Option Addr) (nq cq:Nat) (q:List Rq) (As:Option Addr) (ns cs:Nat) (ss:List Pu) (w:World) (hr:RdS w w.heap.size A n c S) (hrq:Rd w w.heap.size 4 Aq nq cq (rqs q)) (hrs:Rd w w.heap.size 2 As ns cs (pus ss))
  (hm:m.size≤maxLen) (ho:SOk S) (hn:n≤1000) (hws:∀ ws∈a1j S,ws.length≤1000) (hqn:nq≤1000000) (hq:∀ r∈q,r.line<4294967296) (hss:∀ p∈ss,p.addr<4294967296) :
  Calls Tryz.prog 123 #[.slice As ns cs,.agg #[.int .i64 ways,.slice A n c],.slice Aq nq cq,.string m] w fun e w'=>e = .returned (.string (ovS m (a3w q++a5y (a1j S)++ss)))∧Bel w w':=by
 have hF:=St.start w [a1a 1 A n c (csv S),a1l S,a1a 4 Aq nq cq (rqs q),a1a 2 As ns cs (pus ss)] (fun d hd=>by
  rcases List.mem_cons.1 hd with rfl|hd
  ·exact hr.rd
  ·rcases List.mem_cons.1 hd with rfl|hd
   ·exact hr.sets
   ·rcases List.mem_cons.1 hd with rfl|hd
    ·exact hrq
    ·obtain rfl:=List.mem_singleton.1 hd;exact hrs)
 go_enter Tryz.func123,Tryz.ntmps123
 go_wp2_with ((first|(go_at_call 171;refine (g6x _ _ _ _ _ _ _ _ _ _ _ hF.rds hF.rdA hm ho hn hws hqn hq).mono ?_;rintro e wN ⟨rfl,hb⟩;replace hF:=hF.grow hb;clear hb)|(go_at_call 68;refine (c1g _ _ _ _ _ _ hF.rdA (by rw [a6p];exact hm) hss).mono ?_;rintro e wN ⟨rfl,hb⟩;replace hF:=hF.grow hb;clear hb)|((first|refine zrd ?_|(refine zst ?_;clear hF;(first|intro gN wN hF|intro wN hF|intro hF))|(refine zap ?_;clear hF;intro vN wN hF));refine zs ?_)))
 go_ret
 exact ⟨by rw [d4m];rfl,hF.bel⟩
theorem a9q (m:ByteArray) (x:Nat) (w:World) (hm:m.size≤maxLen) (hx:x<4294967296) :
  Calls Tryz.prog 172 #[.string m,.int .u32 (x:Int)] w fun e w'=>e = .returned (.string (b1k m x))∧Bel w w':=by
 have hF:=St.start w [] (fun d hd=>by cases hd)
 unfold maxLen at hm
 have HL:=Lib.hid (fun W=>a6u x W hx)
 have hout:=g5q (m:=m) (x:=x)
 have hin:=fun n=>g5r (m:=m) (x:=x) (n:=n)
 obtain ⟨lo,hlo⟩:∃ lo,x - x % 16=lo:=⟨_,rfl⟩
 rw [hlo] at HL hout hin
 have hlo2:lo<4294967296:=by omega
 clear hlo
 go_enter Tryz.func172,Tryz.ntmps172
 by_cases hlt:lo<m.size
 ·obtain ⟨N,hN⟩:∃ N,N=min (m.size - lo) 16:=⟨_,rfl⟩
  replace hin:=Lib.hid (hin N hlt hN)
  clear hout
  have hes:(m.extract lo m.size).size=m.size - lo:=by rw [c2x];omega
  have hle:lo≤m.size:=by omega
  have hN2:N≤(m.extract lo m.size).size:=by omega
  go_wp2_with ((first|(go_at_call 63;refine (HL.out _).mono ?_;rintro e wN ⟨rfl,d,rfl⟩;replace hF:=hF.grow (Bel.drewN _ d))|refine f2x ?_|((first|refine zrd ?_|(refine zst ?_;clear hF;(first|intro gN wN hF|intro wN hF|intro hF))|(refine zap ?_;clear hF;intro vN wN hF));refine zs ?_)))
  go_ret
  exact ⟨by rw [← hin.out,hN];rfl,hF.bel⟩
 ·replace hout:=Lib.hid (hout (by omega))
  clear hin
  go_wp2_with ((first|(go_at_call 63;refine (HL.out _).mono ?_;rintro e wN ⟨rfl,d,rfl⟩;replace hF:=hF.grow (Bel.drewN _ d))|((first|refine zrd ?_|(refine zst ?_;clear hF;(first|intro gN wN hF|intro wN hF|intro hF))|(refine zap ?_;clear hF;intro vN wN hF));refine zs ?_)))
  go_ret
  exact ⟨by rw [hout.out];rfl,hF.bel⟩
end
section
open Go.RowKit Go.Sort
theorem g6z (ways:Int) (A:Option Addr) (n c x:Nat) (data:ByteArray) (dirty:Bool) (S:List Cs) (k at':Nat) (ws:List Wy) (w:World) (hr:RdS w w.heap.size A n c S) (hx:x<4294967296) (hn:n≤1000) (hk:k<n) (hset:(a1j S)[k]?=some ws) (hws:ws.length≤900) (hfull:(ws.length:Int)≠ways)
  (HR:Hid (b2d 120 ways A n c S true)) (HF:Hid (a8v 80 ways A n c x S k at' false)) :
  Calls Tryz.prog 66 #[.agg #[.int .i64 ways,.slice A n c],.int .u32 (x:Int),.string data,.bool dirty] w fun e w'=>∃ y,e = .returned (.tuple #[y,c4k,.bool false])∧CRes w (a3k A n c S) ways y w' ((a1j S).set k (⟨x - x % 16,dirty,a8f data⟩::ws)):=by
 have hF:=St.start w _ (a6j hr)
 unfold a3k at hF
 obtain ⟨sA,m,sc,hS⟩:=b3m hset
 have hF:=hF.elem (List.Mem.tail _ (List.Mem.head _)) hS
 simp only at hF
 have hse:=(hF.rd (List.Mem.head _)).wyslen
 have hm1:=(hF.rd (List.Mem.head _)).le
 have hm2:=(hF.rd (List.Mem.head _)).mx
 unfold maxLen at hm2
 clear hset
 obtain ⟨d2,hd2⟩:∃ d2,a8f data=d2:=⟨_,rfl⟩
 rw [hd2]
 obtain ⟨nw,hnw⟩:∃ nw:Wy,nw=⟨x - x % 16,dirty,d2⟩:=⟨_,rfl⟩
 have hvn:(ws++[nw])[m]?=some nw:=by rw [List.getElem?_append_right (by omega)];simp [hse]
 have hfr:a3t (ws++[nw]) m nw=nw::ws:=by rw [← hse];exact d4t ws nw
 rw [← hnw]
 have hfb:((m:Int) == ways)=false:=by rw [beq_eq_false_iff_ne];omega
 unfold a8f at hd2
 go_enter Tryz.func66,Tryz.ntmps66
 go_upto_if 27 with (first|(go_at_call 120;refine (HR.out _ (a2t (hF.dat _ zdm) (hF.dat _ zdm))).mono ?_;rintro e wN ⟨rfl,hb⟩;replace hF:=hF.grow hb;clear hb)|(go_at_call 80;refine (HF.out _ (a2t (hF.dat _ zdm) (hF.dat _ zdm))).mono ?_;rintro e wN ⟨rfl,hb⟩;replace hF:=hF.grow hb;clear hb)|((first|refine zrd ?_|(refine zst ?_;clear hF;(first|intro gN wN hF|intro wN hF|intro hF))|(refine zap ?_;clear hF;intro vN wN hF));refine zs ?_))
 go_cut [2] (fun s wx=>s = .string d2∧wx=wN)
 case first=>
  by_cases h16:data.size=16
  ·rw [if_pos h16] at hd2
   subst hd2
   have hsz:((data.size:Int) != 16)=false:=by simp [h16]
   clear h16
   go_wp2
   go_meet
   exact ⟨rfl,rfl⟩
  ·rw [if_neg h16] at hd2
   subst hd2
   have hsz:((data.size:Int) != 16)=true:=by rw [bne_iff_ne];omega
   clear h16
   go_wp2
   go_meet
   exact ⟨rfl,rfl⟩
 case rest=>
  obtain ⟨rfl,rfl⟩:=hcut
  go_wp2_with ((first|(go_at_call 120;refine (HR.out _ (a2t (hF.dat _ zdm) (hF.dat _ zdm))).mono ?_;rintro e wN ⟨rfl,hb⟩;replace hF:=hF.grow hb;clear hb)|(go_at_call 80;refine (HF.out _ (a2t (hF.dat _ zdm) (hF.dat _ zdm))).mono ?_;rintro e wN ⟨rfl,hb⟩;replace hF:=hF.grow hb;clear hb)|((first|refine zrd ?_|(refine zst ?_;clear hF;(first|intro gN wN hF|intro wN hF|intro hF))|(refine zap ?_;clear hF;intro vN wN hF));refine zs ?_)))
  refine a1n (by kernel_rfl) hF [.blk _ 35 [.int .i64 ways,.slice A n c]] [a1a 3 sA m sc (wys ws),a1a 1 A n c (csv S),a1l S] (by ((repeat (first|exact a1f|refine a1m zdm ?_)) <;> exact a1f)) (by ((repeat (first|exact a1f|refine a1m zdm ?_)) <;> exact a1f)) ?_
  clear hF;intro hF hH
  refine zp 0 hH ?_
  refine a1c 1 hH ?_
  refine zk3 2 hH ?_
  refine zk1 3 hH ?_
  refine zk0 4 hH ?_
  refine zp 5 hH ?_
  refine zry 6 (fun K hK=>?_)
  go_wp2_with ((refine w_alloc rfl hF ?_;clear hF;intro gN wN hF);refine zs ?_)
  have hH:=hH.nextA hF;refine hK.out _ _ hH ?_;clear hK;refine zs ?_
  refine zry 7 (fun K hK=>?_)
  go_wp2_with (refine zwr ?_;clear hF;intro wN hF;(try refine zs ?_))
  have hH:=hH.nextA hF;refine hK.out _ _ hH ?_;clear hK;refine zs ?_
  refine a2a 8 hH ?_
  refine zrz ?_
  go_wp2_with ((first|(go_at_call 63;refine (a6u x _ hx).mono ?_;rintro e wN ⟨rfl,d,rfl⟩;replace hF:=hF.grow (Bel.drewN _ d))|(refine zg5 ?_;clear hF;intro gN wN hF)|((first|refine zrd ?_|(refine zst ?_;clear hF;(first|intro gN wN hF|intro wN hF|intro hF))|(refine zap ?_;clear hF;intro vN wN hF));refine zs ?_)))
  rw [show []++wys ws++[Value.int .u32 ((x - x % 16:Nat):Int),.bool dirty,.string d2]=wys (ws++[nw]) by rw [hnw];simp [wys,Wy.cells],show 0+m+1=m+1 by omega] at hF
  obtain ⟨A3,c3,rfl,hF⟩:=hF.freeze 0 at0
  (try simp only [zF] at hF)
  refine a1n (by kernel_rfl) hF [.blk _ 101 [.int .u32 0,.bool false,.string ⟨#[]⟩],.blk _ 35 [.int .i64 ways,.slice A n c]] [a1a 3 A3 (m+1) c3 (wys (ws++[nw])),a1a 3 sA m sc (wys ws),a1a 1 A n c (csv S),a1l S] (by ((repeat (first|exact a1f|refine a1m zdm ?_)) <;> exact a1f)) (by ((repeat (first|exact a1f|refine a1m zdm ?_)) <;> exact a1f)) ?_
  clear hF;intro hF hH
  refine zk0 0 hH ?_
  refine a1c 1 hH ?_
  refine a1c 2 hH ?_
  refine a1c 3 hH ?_
  refine zk3 4 hH ?_
  refine zk0 7 hH ?_
  refine a1c 8 hH ?_
  refine zry 5 (fun K hK=>?_)
  go_wp2_with ((first|(go_at_call 124;refine (a8u _ _ _ (ws++[nw]) _ nw _ (hF.rd zdm) (by omega) hvn).mono ?_;rintro e wN ⟨xF,rfl,hb,ho⟩;replace hF:=hF.pushOwn hb ho;clear hb ho;rw [hfr] at hF)|(go_at_call 125;obtain ⟨A2,c2,rfl,hF⟩:=hF.freeze 0 at0;(try simp only [List.eraseIdx_cons_zero] at hF);refine (a8e ways A n c S k _ _ _ (nw::ws) _ (a2t (hF.dat _ zdm) (hF.dat _ zdm)) hn hk (hF.dat _ zdm)).mono ?_;rintro e wN ⟨_,rfl,A',n',c',S',rfl,hO,hC⟩;replace hF:=hF.callA hO;clear hO)))
  have hH:=hH.nextA hF;refine hK.out _ _ hH ?_;clear hK;refine zs ?_
  refine zry 6 (fun K hK=>?_)
  go_wp2_with ((first|(go_at_call 124;refine (a8u _ _ _ (ws++[nw]) _ nw _ (hF.rd zdm) (by omega) hvn).mono ?_;rintro e wN ⟨xF,rfl,hb,ho⟩;replace hF:=hF.pushOwn hb ho;clear hb ho;rw [hfr] at hF)|(go_at_call 125;obtain ⟨A2,c2,rfl,hF⟩:=hF.freeze 0 at0;(try simp only [List.eraseIdx_cons_zero] at hF);refine (a8e ways A n c S k _ _ _ (nw::ws) _ (a2t (hF.dat _ zdm) (hF.dat _ zdm)) hn hk (hF.dat _ zdm)).mono ?_;rintro e wN ⟨_,rfl,A',n',c',S',rfl,hO,hC⟩;replace hF:=hF.callA hO;clear hO)))
  have hH:=hH.nextA hF;refine hK.out _ _ hH ?_;clear hK;refine zs ?_
  refine zry 9 (fun K hK=>?_)
  go_wp2_with (refine zwr ?_;clear hF;intro wN hF;(try refine zs ?_))
  have hH:=hH.nextA hF;refine hK.out _ _ hH ?_;clear hK;refine zs ?_
  refine zry 10 (fun K hK=>?_)
  go_wp2_with (refine zwr ?_;clear hF;intro wN hF;(try refine zs ?_))
  have hH:=hH.nextA hF;refine hK.out _ _ hH ?_;clear hK;refine zs ?_
  refine a2a 11 hH ?_
  refine zrz ?_
  go_wp2_with (((first|refine zrd ?_|(refine zst ?_;clear hF;(first|intro gN wN hF|intro wN hF|intro hF))|(refine zap ?_;clear hF;intro vN wN hF));refine zs ?_))
  ((try simp only [Exit.inBlock,Exit.then]);refine bodyPost_ret (b3e rfl hF) rfl ?_)
  exact ⟨_,rfl,A',n',c',S',rfl,hF.out (by ((repeat (first|exact a1f|refine a1m zdm ?_)) <;> exact a1f)),hC⟩
end
section
open Go.RowKit Wd
theorem g7a (op:Int) (w:World):Calls Tryz.prog 208 #[.int .i64 op] w fun e w'=>e = .returned (.bool (a6w op))∧w'=w:=by
 by_cases h1:op=1
 ·subst h1
  go_enter Tryz.func208,Tryz.ntmps208
  go_wp2
  go_ret
  exact ⟨rfl,rfl⟩
 have b1:(op == 1)=false:=by simpa using h1
 by_cases h2:op<11
 ·rw [show a6w op=false from by unfold a6w;simp;omega]
  exact b7f
 by_cases h3:op≤15
 ·rw [show a6w op=true from by unfold a6w;simp;omega]
  exact b7f
 by_cases h4:op<19
 ·rw [show a6w op=false from by unfold a6w;simp;omega]
  exact b7f
 by_cases h5:op≤27
 ·rw [show a6w op=true from by unfold a6w;simp;omega]
  exact b7f
 ·rw [show a6w op=false from by unfold a6w;simp;omega]
  exact b7f
theorem b7i (a b:Nat):((a:Int)+(b:Int)) % 4294967296=((a1k a b:Nat):Int):=by unfold a1k;omega
theorem add4_c (a:Nat):((a:Int)+4) % 4294967296=((a1k a 4:Nat):Int):=by unfold a1k;omega
theorem a4r (a b:Nat):a1k a b<4294967296:=Nat.mod_lt _ (by omega)
theorem g7b (i:Ins) (pc:Nat) {a b:Nat} (ha:a<4294967296) (hb:b<4294967296) (hi:i.imm<4294967296):a7n i pc a b<4294967296:=by
 unfold a7n
 have h1:=a4r pc i.imm
 have h2:=a4r pc 4
 split
 ·exact g4y _ _ _ ha hb
 split
 ·exact g6f _ ha hb
 split
 ·exact h1
 split
 ·exact h2
 split
 ·exact d4f ha hi
 ·exact d4f ha hb
theorem b7j (i:Ins) (pc a b:Nat) (w:World) (hi:okI i.op) (him:i.imm<4294967296) (ha:a<4294967296) (hb:b<4294967296) :
  Calls Tryz.prog 180 #[i.val,.int .u32 (pc:Int),.int .u32 (a:Int),.int .u32 (b:Int)] w fun x w'=>x = .returned (.int .u32 (a7n i pc a b:Int))∧Bel w w':=by
 have hF:=St.start w [] (fun d hd=>by cases hd)
 have HK:=Lib.hid (fun W=>a2o i W hi)
 have HI:=Lib.hid (fun W=>g7a i.op W)
 have hcl:i.val.cells=i.cells.toArray:=rfl
 have hV:=Lib.hid (show a7n i pc a b=if a1e i.op=1 then a5e i.op a b else if a1e i.op=2 then a4h i.op a b else if i.op=2 then a1k pc i.imm else if i.op=3∨i.op=4 then a1k pc 4
  else a1t i.op a (if a6w i.op=true then i.imm else b) from rfl)
 generalize a1e i.op=κ at *
 by_cases k1:κ=1
 ·subst k1
  go_enter Tryz.func180,Tryz.ntmps180
  exact c4m
 by_cases k2:κ=2
 ·subst k2
  go_enter Tryz.func180,Tryz.ntmps180
  exact c4m
 replace hV:=hV.out
 rw [if_neg k1,if_neg k2] at hV
 have b1:(κ == 1)=false:=by simpa using k1
 have b2:(κ == 2)=false:=by simpa using k2
 clear k1 k2
 by_cases o2:i.op=2
 ·have c2:(i.op == 2)=true:=by simpa using o2
  replace hV:=Lib.hid (hV.trans (if_pos o2))
  clear o2
  go_enter Tryz.func180,Tryz.ntmps180
  (go_wp2_with ((first|((refine w_box (cs:=i.cells) rfl hF rfl ?_);clear hF;intro gN wN hF;(try refine zs ?_))|(refine b5r ?_;clear hF;intro wN hF)|(go_at_call 206;refine (c4g _ _ _ _ ha hb).mono ?_;rintro x wN ⟨rfl,rfl⟩)|(go_at_call 207;refine (Div_any _ _ _ _ ha hb).mono ?_;rintro x wN ⟨rfl,hbel⟩;replace hF:=hF.grow hbel;clear hbel)|(go_at_call 208;refine (HI.out _).mono ?_;rintro x wN ⟨rfl,rfl⟩)|(go_at_call 209;refine (c4f _ _ _ _ ha (by assumption)).mono ?_;rintro x wN ⟨rfl,rfl⟩)|((first|refine zrd ?_|(refine zst ?_;clear hF;(first|intro gN wN hF|intro wN hF|intro hF))|(refine zap ?_;clear hF;intro vN wN hF));refine zs ?_))))
  go_ret
  exact ⟨a2m (by rw [hV.out];exact b7i _ _),hF.bel⟩
 rw [if_neg o2] at hV
 have c2:(i.op == 2)=false:=by simpa using o2
 clear o2
 by_cases o3:i.op=3
 ·have c3:(i.op == 3)=true:=by simpa using o3
  replace hV:=Lib.hid (hV.trans (if_pos (.inl o3)))
  clear o3
  exact d4v
 have c3:(i.op == 3)=false:=by simpa using o3
 by_cases o4:i.op=4
 ·have c4:(i.op == 4)=true:=by simpa using o4
  replace hV:=Lib.hid (hV.trans (if_pos (.inr o4)))
  clear o3 o4
  exact d4v
 have c4:(i.op == 4)=false:=by simpa using o4
 rw [if_neg (fun h=>h.elim o3 o4)] at hV
 clear o3 o4
 generalize a6w i.op=ib at *
 replace hV:=Lib.hid hV
 cases ib
 all_goals
  go_enter Tryz.func180,Tryz.ntmps180
  exact c4m
end
section
open Go.RowKit Wd
section
variable {P:Program} {ops:Array Oper} {rest:List Oper} {o:Oper} {a:Act} {Q:Exit→Act→World→Prop} {w0 w:World} {D0 D:List Da} {M:List Mu}
theorem w_ixA {t e:TypeId} {g n k:Nat} {x ix:Operand} {ki:IntKind} (ho:o.op = .indexAddr t x ix) (hx:a1b a x=some (.pointer (some ⟨g,0,none⟩))) (hk:a1b a ix=some (.int ki (k:Int))) (hu:P.underlying t=some (.array n e)) (hi:(P.info? e).map (·.size)=some 1) (h:wpList P ops Q rest (a.put o.dst (.pointer (some ⟨g,k,none⟩))) w) (hkn:k<n:=by (first|assumption|omega|exact Nat.zero_lt_of_lt (by assumption)|exact Nat.succ_pos _)) (hw:Region.wanted o (yielded ops a.tmps)=true:=by rfl) :
  wpList P ops Q (o::rest) a w:=by
 replace hk:=look_eval hk
 replace hx:=look_eval hx
 have hs:(sizeOf e).run P w = .ok 1 w:=by
  cases hq:P.info? e with
  | none=>simp [hq] at hi
  | some i=>
   have:i.size=1:=by simpa [hq] using hi
   simp [sizeOf,typeInfo,hq,this]
 have hrun:(Instr.indexAt t (.pointer (some ⟨g,0,none⟩)) (.int ki (k:Int))).run P w = .ok (.pointer (some ⟨g,k,none⟩)) w:=by
  simp [Instr.indexAt,run_underlying hu,asIntOf,hs,a4u,Instr.sureAddr,show (k:Int)<(n:Int) by omega]
  intro h;omega
 refine a2c hw fun K hK=>?_
 unfold Oper.wp execOp
 simp only [ho,hk,hx,hrun,Sem.run_bind,Sem.run_pure,Result.andThen_ok]
 exact hK _ _ h
end
theorem c1h (A:Option Addr) (n c:Nat) (q:List En) (regs:List Nat) (i reg:Int) (w:World) (hr:Rd w w.heap.size 17 A n c (ens q)) (hq:ensOk q) (hl:regs.length=32) (hi:okI i) (hg:okI reg) :
  Calls Tryz.prog 45 #[.slice A n c,.agg (u32v regs).toArray,.int .i64 i,.int .i64 reg] w fun e w'=>e = .returned (.tuple #[.int .u32 ((a4c q regs i reg).1:Int),.bool (a4c q regs i reg).2])∧Bel w w':=by
 have hF:=St.start w [a1a 17 A n c (ens q)] (fun d hd=>by obtain rfl:=List.mem_singleton.1 hd;exact hr)
 have hc1:=hr.le
 have hc2:=hr.mx
 unfold maxLen at hc2
 have hn:=hr.enslen
 have HM:=Lib.hid (fun W (h:Rd W W.heap.size 17 A n c (ens q))=>c3z A n c i reg q W h hi hg)
 have HS:=(show a4c q regs i reg=if reg=0 then (0,true) else if reg<0∨31<reg then (0,false) else if a3b q i reg<0 then (regs[reg.toNat]?.getD 0,true) else
  match q[(a3b q i reg).toNat]? with|some e=>if e.is=3∧e.halt=0 then (e.value,true) else (0,false)|none=>(0,false) from rfl)
 clear hr
 by_cases h0:reg=0
 ·subst h0
  rw [if_pos rfl] at HS
  rw [HS]
  clear HS
  exact b3n
 rw [if_neg h0] at HS
 have b0:(reg == 0)=false:=by simpa using h0
 by_cases h1:reg<0
 ·rw [if_pos (.inl h1)] at HS
  rw [HS]
  clear HS h0
  exact b3n
 by_cases h2:31<reg
 ·rw [if_pos (.inr h2)] at HS
  rw [HS]
  clear HS h0
  exact b3n
 rw [if_neg (by omega)] at HS
 obtain ⟨r,rfl⟩:=Int.eq_ofNat_of_zero_le (show 0≤reg by omega)
 have hlt:=@b9j q i (r:Int)
 obtain ⟨mk,hmk⟩:∃ mk,a3b q i (r:Int)=mk:=⟨_,rfl⟩
 rw [hmk] at HM HS hlt
 clear hmk h0
 by_cases hm:mk<0
 ·rw [if_pos hm,Int.toNat_natCast] at HS
  obtain ⟨x,hx⟩:∃ x,regs[r]?=some x:=⟨_,List.getElem?_eq_getElem (by omega)⟩
  have hreg:(u32v regs)[r]?=some (.int .u32 (x:Int)):=by simp [u32v,hx]
  rw [hx] at HS
  rw [HS]
  clear HS hx hlt
  exact b3n
 rw [if_neg hm] at HS
 obtain ⟨m,rfl⟩:=Int.eq_ofNat_of_zero_le (show 0≤mk by omega)
 obtain ⟨m1,m2⟩:=hlt (by omega)
 have hmn:m<n:=by omega
 obtain ⟨e,hu⟩:∃ e,q[m]?=some e:=⟨_,List.getElem?_eq_getElem (by omega)⟩
 rw [Int.toNat_natCast,hu] at HS
 dsimp only at HS
 obtain ⟨no,pc,⟨op,rd,rs1,rs2,imm⟩,guess,is,left,value,next,addr,halt,took,known,filled⟩:=e
 dsimp only at HS
 clear m1 m2 hm hlt
 by_cases h3:is=3
 ·subst h3
  by_cases h4:halt=0
  ·subst h4
   rw [if_pos ⟨rfl,rfl⟩] at HS
   rw [HS]
   clear HS
   exact b3n
  ·rw [if_neg (fun h=>h4 h.2)] at HS
   have b4:(halt == 0)=false:=by simpa using h4
   rw [HS]
   clear HS h4
   exact b3n
 ·rw [if_neg (fun h=>h3 h.1)] at HS
  have b3:(is == 3)=false:=by simpa using h3
  rw [HS]
  clear HS h3
  exact b3n
theorem d4z (A:Option Addr) (n c:Nat) (q:List En) (regs:List Nat) (k:Nat) (w:World) (hr:Rd w w.heap.size 17 A n c (ens q)) (hq:ensOk q) (hl:regs.length=32) (hk:k<n) :
  Calls Tryz.prog 16 #[.slice A n c,.agg (u32v regs).toArray,.int .i64 (k:Int)] w fun e w'=>e = .returned (.tuple #[.int .u32 ((a5g q regs k).1:Int),.int .u32 ((a5g q regs k).2.1:Int),.bool (a5g q regs k).2.2])∧Bel w w':=by
 have hF:=St.start w [a1a 17 A n c (ens q)] (fun d hd=>by obtain rfl:=List.mem_singleton.1 hd;exact hr)
 have hc1:=hr.le
 have hc2:=hr.mx
 unfold maxLen at hc2
 have hn:=hr.enslen
 clear hr
 obtain ⟨e,hu⟩:∃ e,q[k]?=some e:=⟨_,List.getElem?_eq_getElem (by omega)⟩
 have ho:=hq e (List.mem_of_getElem? hu)
 have hB:a5g q regs k=((a4c q regs k e.inst.rs1).1,(a4c q regs k e.inst.rs2).1,(a4c q regs k e.inst.rs1).2 && (a4c q regs k e.inst.rs2).2):=by unfold a5g;rw [hu]
 have H1:=Lib.hid (fun W (h:Rd W W.heap.size 17 A n c (ens q))=>c1h A n c q regs (k:Int) e.inst.rs1 W h hq hl ⟨by omega,by omega⟩ ho.rs1)
 have H2:=Lib.hid (fun W (h:Rd W W.heap.size 17 A n c (ens q))=>c1h A n c q regs (k:Int) e.inst.rs2 W h hq hl ⟨by omega,by omega⟩ ho.rs2)
 rw [hB]
 clear hB
 obtain ⟨no,pc,⟨op,rd,rs1,rs2,imm⟩,guess,is,left,value,next,addr,halt,took,known,filled⟩:=e
 have HRe:=Lib.hid (fun W=>b7c ⟨op,rd,rs1,rs2,imm⟩ W)
 dsimp only at H1 H2 HRe
 generalize a4c q regs k rs1=p1 at *
 generalize a4c q regs k rs2=p2 at *
 obtain ⟨a1,b1⟩:=p1
 obtain ⟨a2,b2⟩:=p2
 dsimp only at H1 H2 ⊢
 cases b1
 all_goals
  go_enter Tryz.func16,Tryz.ntmps16
  go_wp2_with ((try refine zs ?_);(first|refine f3w ?_|(refine f3x ?_;clear hF;(first|intro gN wN hF|intro wN hF|intro hF))|(go_at_call 45;have h1:=H1.out _ hF.rdA;(with_reducible refine h1.mono ?_);rintro x wN ⟨rfl,hb⟩;replace hF:=hF.grow hb;clear hb h1)|(go_at_call 45;have h2:=H2.out _ hF.rdA;(with_reducible refine h2.mono ?_);rintro x wN ⟨rfl,hb⟩;replace hF:=hF.grow hb;clear hb h2)|(refine a1d ?_;clear hF;intro vN wN hF)))
  go_returns
  exact ⟨rfl,hF.bel⟩
end
section
open Go.RowKit Go.Sort
def COk (C:List (List Wy)):Prop:=∀ ws∈C,∀ v∈ws,v.line<4294967296∧v.data.size≤maxLen
theorem COk.sok {S:List Cs} (h:COk (a1j S)):SOk S:=fun s hs v hv=>h s.ws (List.mem_map.2 ⟨s,hs,rfl⟩) v hv
theorem COk.set {C:List (List Wy)} (h:COk C) (k:Nat) {ws:List Wy} (hw:∀ v∈ws,v.line<4294967296∧v.data.size≤maxLen):COk (C.set k ws):=fun us hu v hv=>by
 rcases List.mem_or_eq_of_mem_set hu with hu|rfl
 ·exact h us hu v hv
 ·exact hw v hv
theorem COk.at_ {C:List (List Wy)} (h:COk C) {k:Nat} {ws:List Wy} (hw:C[k]?=some ws):∀ v∈ws,v.line<4294967296∧v.data.size≤maxLen:=h ws (List.mem_of_getElem? hw)
def c1i (ws:List Wy) (l i:Nat) (b:Bool):Prop :=
 (b=true ∧ ∃ v,At ws l i v ∧ ∀ j<i,∀ u,ws[j]?=some u→u.line≠l)∨(b=false∧i=0∧a9y ws l)
inductive FindR (ways:Int) (C:List (List Wy)) (x k i:Nat) (b:Bool):Prop
 | no (h:¬ RightP ways C) (hk:k=0) (hi:i=0) (hb:b=false)
 | yes (h:RightP ways C) (hk:x / 16 % C.length=k) (ws:List Wy) (hw:C[k]?=some ws) (hs:c1i ws (x - x % 16) i b)
theorem RightP.set_at {ways:Int} {C:List (List Wy)} (h:RightP ways C) (x:Nat):∃ ws,C[x / 16 % C.length]?=some ws :=
 ⟨_,List.getElem?_eq_getElem (Nat.mod_lt _ (by rcases h.hn with h|h|h <;> omega))⟩
theorem FindR.line {ways:Int} {C:List (List Wy)} {x k i:Nat} {b:Bool} (h:FindR ways C x k i b):FindR ways C (x - x % 16) k i b:=by
 cases h with
 | no h hk hi hb=>exact .no h hk hi hb
 | yes h hk ws hw hs=>exact .yes h (by rw [← hk];congr 1;omega) ws hw (by rwa [show x - x % 16 - (x - x % 16) % 16=x - x % 16 by omega])
theorem FindR.at_ {ways:Int} {C:List (List Wy)} {x k i:Nat} (h:FindR ways C x k i true):RightP ways C∧x / 16 % C.length=k ∧ ∃ ws v,C[k]?=some ws∧ws[i]?=some v∧v.line=x - x % 16∧(ws.length:Int)≤ways:=by
 cases h with
 | no h hk hi hb=>cases hb
 | yes h hk ws hw hs=>
  rcases hs with ⟨_,v,ha,_⟩|⟨hb,_⟩
  ·exact ⟨h,hk,ws,v,hw,ha.is,ha.line,(h.hs k ws hw).1⟩
  ·cases hb
inductive TouchR (ways:Int) (C:List (List Wy)) (x:Nat) (C':List (List Wy)):Prop
 | no (k i:Nat) (h:FindR ways C x k i false) (he:C'=C)
 | yes (k i:Nat) (h:FindR ways C x k i true) (ws:List Wy) (v:Wy) (hw:C[k]?=some ws) (hv:ws[i]?=some v) (he:C'=C.set k (a3t ws i v))
inductive PutR (ways:Int) (C:List (List Wy)) (x:Nat) (data:ByteArray) (dirty:Bool) (C':List (List Wy)) (gone:Wy) (went:Bool):Prop
 | no (h:¬ RightP ways C) (he:C'=C) (hg:gone=⟨0,false,⟨#[]⟩⟩) (hb:went=false)
 | hit (k i:Nat) (h:FindR ways C x k i true) (ws:List Wy) (v:Wy) (hw:C[k]?=some ws) (hv:ws[i]?=some v)
   (he:C'=C.set k (a3t ws i ⟨v.line,v.dirty || dirty,if data.size=16 then data else v.data⟩)) (hg:gone=⟨0,false,⟨#[]⟩⟩) (hb:went=false)
 | room (k i:Nat) (hR:RightP ways C) (h:FindR ways C x k i false) (ws:List Wy) (hw:C[k]?=some ws) (hl:(ws.length:Int)<ways)
   (he:C'=C.set k (⟨x - x % 16,dirty,a8f data⟩::ws)) (hg:gone=⟨0,false,⟨#[]⟩⟩) (hb:went=false)
 | full (k i:Nat) (hR:RightP ways C) (h:FindR ways C x k i false) (ws:List Wy) (hw:C[k]?=some ws) (hl:(ws.length:Int)=ways) (l:Nat) (hl1:ws.length=l+1) (hgv:ws[l]?=some gone)
   (he:C'=C.set k (⟨x - x % 16,dirty,a8f data⟩::ws.take l)) (hb:went=true)
theorem FindR.set_ {ways:Int} {C:List (List Wy)} {x k i:Nat} {b:Bool} (h:FindR ways C x k i b) (hR:RightP ways C):x / 16 % C.length=k ∧ ∃ ws,C[k]?=some ws∧(ws.length:Int)≤ways∧c1i ws (x - x % 16) i b:=by
 cases h with
 | no h hk hi hb=>exact absurd hR h
 | yes h hk ws hw hs=>exact ⟨hk,ws,hw,(h.hs k ws hw).1,hs⟩
section
variable {ways:Int} {A:Option Addr} {n c x:Nat} {S:List Cs}
theorem CRes.same {w w':World} {D0:List Da} {A:Option Addr} {n c:Nat} {S:List Cs} (hr:RdS w w.heap.size A n c S) (hb:Bel w w') (h1:a1a 1 A n c (csv S)∈D0) (h2:a1l S∈D0):CRes w D0 ways (.agg #[.int .i64 ways,.slice A n c]) w' (a1j S) :=
 ⟨A,n,c,S,rfl,⟨hb,a6j (hr.bel hb),fun d hd=>by
  rcases List.mem_cons.1 hd with rfl|hd
  ·exact From.self h1
  ·obtain rfl:=List.mem_singleton.1 hd
   exact From.self h2⟩,rfl⟩
theorem CRes.sameC {w w':World} {A:Option Addr} {n c:Nat} {S:List Cs} (hr:RdS w w.heap.size A n c S) (hb:Bel w w'):CRes w (a3k A n c S) ways (.agg #[.int .i64 ways,.slice A n c]) w' (a1j S) :=
 CRes.same hr hb (List.Mem.head _) (List.Mem.tail _ (List.Mem.head _))
theorem c4p {W:World} (h:RdS W W.heap.size A n c S):(a1j S).length=n:=by rw [a3n];exact h.slen
theorem a7d (hx:x<4294967296) (ho:SOk S) {k i:Nat} {b:Bool} (h:FindR ways (a1j S) x k i b):a8v 80 ways A n c x S k i b:=fun W hr=>by
 cases h with
 | no h hk hi hb=>subst hk hi hb;exact g3c ways A n c S x W hr ho h
 | yes h hk ws hw hs=>rw [c4p hr] at hk;exact g3d ways A n c S x W hr ho hx h k hk ws hw i b hs
theorem a8g (ho:SOk S) {b:Bool} (hb:b=true↔RightP ways (a1j S)):b2d 120 ways A n c S b:=fun W hr=>c3x ways A n c S W hr ho b hb
theorem b2e {p:Prop} (h:p):true=true↔p:=⟨fun _=>h,fun _=>rfl⟩
theorem noR {p:Prop} (h:¬ p):false=true↔p:=⟨fun e=>(by cases e),fun e=>absurd e h⟩
theorem b2f {ways:Int} {C:List (List Wy)} (h:RightP ways C) {ws:List Wy} (hl:(ws.length:Int)≤ways):ws.length≤2:=by have:=h.hw;omega
theorem b3o {W:World} (hr:RdS W W.heap.size A n c S) (h:RightP ways (a1j S)):n≤1000:=by have:=h.hn;rw [c4p hr] at this;omega
theorem b3p {W:World} (hr:RdS W W.heap.size A n c S) {k:Nat} {ws:List Wy} (hw:(a1j S)[k]?=some ws):k<n:=by have:=(List.getElem?_eq_some_iff.1 hw).1;rwa [c4p hr] at this
theorem d5a {C':List (List Wy)} (hx:x<4294967296) (ho:SOk S) (h:TouchR ways (a1j S) x C') (w:World) (hr:RdS w w.heap.size A n c S) :
  Calls Tryz.prog 84 #[.agg #[.int .i64 ways,.slice A n c],.int .u32 (x:Int)] w fun e w'=>∃ y,e = .returned y∧CRes w (a3k A n c S) ways y w' C':=by
 cases h with
 | no k i h he=>
  subst he
  refine (g6b ways A n c x S k i w hr (Lib.hid (a7d hx ho h))).mono ?_
  rintro e w' ⟨rfl,hb⟩
  exact ⟨_,rfl,CRes.sameC hr hb⟩
 | yes k i h ws v hw hv he=>
  subst he
  obtain ⟨hR,_,ws',v',hw',_,_,hl⟩:=h.at_
  rw [hw] at hw';injection hw' with hw';subst hw'
  exact g6c ways A n c x S k i ws v w hr (b3o hr hR) (b3p hr hw) hw (by have:=b2f hR hl;omega) hv (Lib.hid (a7d hx ho h))
theorem a8x {data:ByteArray} {dirty:Bool} {C':List (List Wy)} {gone:Wy} {went:Bool} (hx:x<4294967296) (ho:SOk S) (h:PutR ways (a1j S) x data dirty C' gone went) (w:World) (hr:RdS w w.heap.size A n c S) :
  Calls Tryz.prog 66 #[.agg #[.int .i64 ways,.slice A n c],.int .u32 (x:Int),.string data,.bool dirty] w fun e w'=>∃ y,e = .returned (.tuple #[y,gone.val,.bool went])∧CRes w (a3k A n c S) ways y w' C':=by
 cases h with
 | no h he hg hb=>
  subst he hg hb
  refine (g6p ways A n c x data dirty S w hr (Lib.hid (a8g ho (noR h)))).mono ?_
  rintro e w' ⟨rfl,hb⟩
  exact ⟨_,rfl,CRes.sameC hr hb⟩
 | hit k i h ws v hw hv he hg hb=>
  subst he hg hb
  obtain ⟨hR,hk,ws',v',hw',hv',hvl,hl⟩:=h.at_
  rw [hw] at hw';injection hw' with hw';subst hw'
  exact g6q ways A n c x data dirty S k i ws v w hr (b3o hr hR) (b3p hr hw) hw (by have:=b2f hR hl;omega) hv (Lib.hid (a8g ho (b2e hR))) (Lib.hid (a7d hx ho h))
 | room k i hR h ws hw hl he hg hb=>
  subst he hg hb
  exact g6z ways A n c x data dirty S k i ws w hr hx (b3o hr hR) (b3p hr hw) hw (by have:=b2f hR (by omega:(ws.length:Int)≤ways);omega) (by omega) (Lib.hid (a8g ho (b2e hR))) (Lib.hid (a7d hx ho h))
 | full k i hR h ws hw hl l hl1 hgv he hb=>
  subst he hb
  exact g6o ways A n c x data dirty S k i ws w hr hx (b3o hr hR) (b3p hr hw) hw (by have:=b2f hR (by omega:(ws.length:Int)≤ways);omega) hl l hl1 gone hgv (Lib.hid (a8g ho (b2e hR))) (Lib.hid (a7d hx ho h))
theorem g7c {ws:List Wy} {l k:Nat} (h:a9y ws l):a9y (ws.take k) l:=fun v hv=>h v (List.mem_of_mem_take hv)
end
end
end Go.Proofs.YtgnomadgnciifaaGreatDoor
