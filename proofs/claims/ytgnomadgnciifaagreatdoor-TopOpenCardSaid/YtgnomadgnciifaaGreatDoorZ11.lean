/- . -/
import Derived.Test.YtgnomadgnciifaaGreatDoorZ8
import Derived.WalkMore
set_option linter.unusedVariables false
set_option linter.unusedSimpArgs false
set_option linter.unusedSectionVars false
set_option maxRecDepth 100000
set_option maxHeartbeats 16000000
namespace Go.Proofs.YtgnomadgnciifaaGreatDoor
theorem d5y {p:Prop} (h:p:=by
 go_wp2_with ((try refine zs ?_);(first|refine a3d ?_|(refine a8k ?_;clear hF;(first|intro gN wN hF|intro wN hF|intro hF))|(refine a8b rfl hF rfl ?_;clear hF;intro gM wN hF hgM hD)|(refine a8t (t:=195) rfl hF rfl rfl Tryz.underlying195 (by decide) (by (first|exact Wtd.of_none rfl|exact Wtd.of_some rfl rfl)) ?_;intro cc hc0 hcN hc1 hc2;(try refine zs ?_);(try have hcd:decide (0<cc)=true:=by simp at hc1 hc2;simp;omega);(try have hcd:decide (0<cc)=false:=by simp at hc1 hc2;simp;omega))|(refine a1d ?_;clear hF;intro vN wN hF)))
 ((try rw [Exit.noGoto_ret]);go_ret;exact ⟨_,rfl,hF.bel,by rw [← hm.out];exact hF.ownAt at0⟩)):p:=h
theorem c4v {p:Prop} (h:p:=by
 go_enter Tryz.func134,Tryz.ntmps134
 go_wp2
 go_ret
 exact ⟨rfl,Bel.refl _⟩):p:=h
section
open Go.RowKit Go.Maps
theorem g8q (k:Int) (w:World):Calls Tryz.prog 134 #[.int .i64 k] w fun e w'=>e = .returned (.int .i64 (a5s k))∧Bel w w':=by
 by_cases h2:k=2
 ·subst h2
  exact c4v
 by_cases h3:k=3
 ·subst h3
  exact c4v
 by_cases h4:k=4
 ·subst h4
  exact c4v
 have hu:a5s k=0:=by simp [a5s,h2,h3,h4]
 have b2:(k == 2)=false:=by simpa using h2
 have b3:(k == 3)=false:=by simpa using h3
 have b4:(k == 4)=false:=by simpa using h4
 rw [hu]
 clear h2 h3 h4 hu
 go_enter Tryz.func134,Tryz.ntmps134
 go_wp2
 go_ret
 exact ⟨rfl,Bel.refl _⟩
theorem g8r (k:Int):a5s k=0∨a5s k=1∨a5s k=2:=by
 unfold a5s
 repeat' split
 all_goals simp
section
variable {width:Int} {kinds:List Int} {can:List Bool} {k:Nat} {n:Int} {d m:Bool}
theorem g8s (h:width≤n) (l:List Bool):a3m width kinds l k n d m=[]:=by cases l <;> simp [a3m,h]
theorem g8t (h:¬ width≤n) (hc:can[k]?=some false):a3m width kinds (can.drop k) k n d m=a3m width kinds (can.drop (k+1)) (k+1) n d m:=by
 obtain ⟨hl,e⟩:=List.getElem?_eq_some_iff.1 hc
 rw [List.drop_eq_getElem_cons hl,e,a3m]
 simp [h]
theorem d5z (h:¬ width≤n) (hc:can[k]?=some true) {x:Int} (hx:kinds[k]?=some x) (hu:(a5s x=1∧d=true)∨(a5s x=2∧m=true)):a3m width kinds (can.drop k) k n d m=a3m width kinds (can.drop (k+1)) (k+1) n d m:=by
 obtain ⟨hl,e⟩:=List.getElem?_eq_some_iff.1 hc
 rw [List.drop_eq_getElem_cons hl,e,a3m,hx]
 simp only [if_neg h,Option.getD_some,if_pos hu]
 simp
theorem c4w (h:¬ width≤n) (hc:can[k]?=some true) {x:Int} (hx:kinds[k]?=some x) (hu:¬ ((a5s x=1∧d=true)∨(a5s x=2∧m=true))):a3m width kinds (can.drop k) k n d m=(k:Int)::a3m width kinds (can.drop (k+1)) (k+1) (n+1) (d || decide (a5s x=1)) (m || decide (a5s x=2)):=by
 obtain ⟨hl,e⟩:=List.getElem?_eq_some_iff.1 hc
 rw [List.drop_eq_getElem_cons hl,e,a3m,hx]
 simp only [if_neg h,Option.getD_some,if_neg hu]
 simp
theorem g8u {l:List Bool} (h:l.length≤k):a3m width kinds (l.drop k) k n d m=[]:=by rw [List.drop_of_length_le h];rfl
end
theorem g8v {l:List Int} {k:Nat} {x:Int} (h:l[k]?=some x):(a1i l)[k * 1]?=some (.int .i64 x):=by rw [Nat.mul_one];exact b1i h
theorem g8w {l:List Bool} {k:Nat} {x:Bool} (h:l[k]?=some x):(bls l)[k * 1]?=some (.bool x):=by rw [Nat.mul_one];exact g6w h
theorem g8x (width:Int) (busy:Bool) (A:Option Addr) (n c:Nat) (kinds:List Int) (A2:Option Addr) (c2:Nat) (can:List Bool) (w:World) (hr:Rd w w.heap.size 1 A n c (a1i kinds)) (hr2:Rd w w.heap.size 1 A2 n c2 (bls can)) (hn:n≤1000) (hw:okI width) :
  Calls Tryz.prog 76 #[.int .i64 width,.bool busy,.slice A n c,.slice A2 n c2] w fun e w'=>∃ v,e = .returned v∧Bel w w'∧w'.ownsRow w.heap.size 3 1 v (a3m width kinds can 0 0 busy false).length (a1i (a3m width kinds can 0 0 busy false)):=by
 have hF:=St.start w [a1a 1 A n c (a1i kinds),a1a 1 A2 n c2 (bls can)] (fun d hd=>by
  rcases List.mem_cons.1 hd with rfl|hd
  ·exact hr
  ·obtain rfl:=List.mem_singleton.1 hd;exact hr2)
 have hkl:=hr.i64slen
 have hcl:=hr2.blslen
 clear hr hr2
 obtain ⟨L,hL⟩:∃ L,a3m width kinds can 0 0 busy false=L:=⟨_,rfl⟩
 rw [hL]
 replace hL:=Lib.hid hL
 replace hw:=Lib.hid hw
 go_enter Tryz.func76,Tryz.ntmps76
 go_wp2_with ((try refine zs ?_);(first|refine a3d ?_|(refine a8k ?_;clear hF;(first|intro gN wN hF|intro wN hF|intro hF))|(refine a8b rfl hF rfl ?_;clear hF;intro gM wN hF hgM hD)|(refine a8t (t:=195) rfl hF rfl rfl Tryz.underlying195 (by decide) (by (first|exact Wtd.of_none rfl|exact Wtd.of_some rfl rfl)) ?_;intro cc hc0 hcN hc1 hc2;(try refine zs ?_);(try have hcd:decide (0<cc)=true:=by simp at hc1 hc2;simp;omega);(try have hcd:decide (0<cc)=false:=by simp at hc1 hc2;simp;omega))|(refine a1d ?_;clear hF;intro vN wN hF)))
 go_step3
 cases busy
 all_goals
  go_upto_region 1 with ((try refine zs ?_);(first|refine a3d ?_|(refine a8k ?_;clear hF;(first|intro gN wN hF|intro wN hF|intro hF))|(refine a8b rfl hF rfl ?_;clear hF;intro gM wN hF hgM hD)|(refine a8t (t:=195) rfl hF rfl rfl Tryz.underlying195 (by decide) (by (first|exact Wtd.of_none rfl|exact Wtd.of_some rfl rfl)) ?_;intro cc hc0 hcN hc1 hc2;(try refine zs ?_);(try have hcd:decide (0<cc)=true:=by simp at hc1 hc2;simp;omega);(try have hcd:decide (0<cc)=false:=by simp at hc1 hc2;simp;omega))|(refine a1d ?_;clear hF;intro vN wN hF)))
  rename_i K0 hK0
  refine wp_region_lit ?_
  refine a8b rfl hF rfl ?_
  clear hF;intro gM wN hF hgM hD
  (try refine zs ?_)
  go_wp2_with ((try refine zs ?_);(first|refine a3d ?_|(refine a8k ?_;clear hF;(first|intro gN wN hF|intro wN hF|intro hF))|(refine a8b rfl hF rfl ?_;clear hF;intro gM wN hF hgM hD)|(refine a8t (t:=195) rfl hF rfl rfl Tryz.underlying195 (by decide) (by (first|exact Wtd.of_none rfl|exact Wtd.of_some rfl rfl)) ?_;intro cc hc0 hcN hc1 hc2;(try refine zs ?_);(try have hcd:decide (0<cc)=true:=by simp at hc1 hc2;simp;omega);(try have hcd:decide (0<cc)=false:=by simp at hc1 hc2;simp;omega))|(refine a1d ?_;clear hF;intro vN wN hF)))
  go_step3
  go_wp2_with ((try refine zs ?_);(first|refine a3d ?_|(refine a8k ?_;clear hF;(first|intro gN wN hF|intro wN hF|intro hF))|(refine a8b rfl hF rfl ?_;clear hF;intro gM wN hF hgM hD)|(refine a8t (t:=195) rfl hF rfl rfl Tryz.underlying195 (by decide) (by (first|exact Wtd.of_none rfl|exact Wtd.of_some rfl rfl)) ?_;intro cc hc0 hcN hc1 hc2;(try refine zs ?_);(try have hcd:decide (0<cc)=true:=by simp at hc1 hc2;simp;omega);(try have hcd:decide (0<cc)=false:=by simp at hc1 hc2;simp;omega))|(refine a1d ?_;clear hF;intro vN wN hF)))
  (try simp only [Bool.false_or,Bool.true_or,decide_true,Int.reduceEq,decide_false,Bool.or_false,Nat.zero_add] at hF)
  have hF:=hF.nil 3 1
  go_loopw [20,10] (fun ix v wr=>∃ (k N m:Nat) (acc:List Int) (d mm:Bool),k≤n∧N≤k+1∧Hid (m=acc.length)∧m≤k∧ix = .int .i64 (k:Int)∧Hid (acc++a3m width kinds (can.drop k) k (m:Int) d mm=L)∧St w [a1a 1 A n c (a1i kinds),a1a 1 A2 n c2 (bls can)] wr [.own v 3 1 m (a1i acc)] [b2c gM N d mm,a1a 1 A n c (a1i kinds),a1a 1 A2 n c2 (bls can)]) (fun ix _ _=>n - (intOf ix).toNat)
  case atStart=>exact ⟨0,_,0,[],_,_,by omega,by omega,Lib.hid rfl,by omega,rfl,hL,hF⟩
  case round=>
   clear hF hL
   obtain ⟨k,N,m,acc,d,mm,hk,hN,hm,hmk,rfl,hL,hF⟩:=hrel
   obtain ⟨Av,cv,rfl,_,_⟩:=Rd.of_own' (hF.ownAt at0)
   by_cases hkn:k<n
   ·obtain ⟨b,hb⟩:∃ b,can[k]?=some b:=⟨_,List.getElem?_eq_getElem (by omega)⟩
    obtain ⟨x,hx⟩:∃ x,kinds[k]?=some x:=⟨_,List.getElem?_eq_getElem (by omega)⟩
    have hbe:=g8w hb
    have hxe:=g8v hx
    by_cases hwm:width≤(m:Int)
    ·have hdw:decide (width≤(m:Int))=true:=by simpa using hwm
     have hLL:=hL.out
     rw [g8s hwm,List.append_nil] at hLL
     subst hLL
     clear hwm hb hx hL
     exact d5y
    ·have hdw:decide (width≤(m:Int))=false:=by simpa using hwm
     have hwm':=Lib.hid hwm
     clear hwm
     cases b
     ·have hL2:=hL.out
      rw [g8t hwm'.out hb] at hL2
      replace hL2:=Lib.hid hL2
      clear hb hx hL
      go_wp2_with ((try refine zs ?_);(first|refine a3d ?_|(refine a8k ?_;clear hF;(first|intro gN wN hF|intro wN hF|intro hF))|(refine a8b rfl hF rfl ?_;clear hF;intro gM wN hF hgM hD)|(refine a8t (t:=195) rfl hF rfl rfl Tryz.underlying195 (by decide) (by (first|exact Wtd.of_none rfl|exact Wtd.of_some rfl rfl)) ?_;intro cc hc0 hcN hc1 hc2;(try refine zs ?_);(try have hcd:decide (0<cc)=true:=by simp at hc1 hc2;simp;omega);(try have hcd:decide (0<cc)=false:=by simp at hc1 hc2;simp;omega))|(refine a1d ?_;clear hF;intro vN wN hF)))
      go_roundw
      case rel=>exact ⟨k+1,N,m,acc,d,mm,by omega,by omega,hm,by omega,by go_num,hL2,hF⟩
      case measure=>first|(simp [intOf];done)|(simp [intOf];omega)
     ·have HU:=Lib.hid (fun W=>g8q x W)
      obtain ⟨u,hu⟩:∃ u,a5s x=u:=⟨_,rfl⟩
      rw [hu] at HU
      rcases g8r x with h0|h0|h0
      ·obtain rfl:u=0:=by omega
       have hL2:=hL.out
       rw [c4w hwm'.out hb hx (by rw [hu];omega),hu] at hL2
       simp only [Int.reduceEq,decide_false,Bool.or_false] at hL2
       (rw [List.append_cons,show ((m:Int)+1)=((m+1:Nat):Int) by omega] at hL2;(replace hL2:=Lib.hid hL2);clear hb hx hL hu h0;go_wp2_with ((try refine zs ?_);(first|refine a3d ?_|(refine a8k ?_;clear hF;(first|intro gN wN hF|intro wN hF|intro hF))|(refine a8b rfl hF rfl ?_;clear hF;intro gM wN hF hgM hD)|(refine a8t (t:=195) rfl hF rfl rfl Tryz.underlying195 (by decide) (by (first|exact Wtd.of_none rfl|exact Wtd.of_some rfl rfl)) ?_;intro cc hc0 hcN hc1 hc2;(try refine zs ?_);(try have hcd:decide (0<cc)=true:=by simp at hc1 hc2;simp;omega);(try have hcd:decide (0<cc)=false:=by simp at hc1 hc2;simp;omega))|(refine a1d ?_;clear hF;intro vN wN hF)));go_roundw;(try simp only [Int.reduceEq,decide_false,decide_true,Bool.or_false,Bool.or_true] at hF);(try rw [show ([Value.int .i64 (k:Int)]:List Value)=a1i [(k:Int)] from rfl,← b4z] at hF))
       case rel=>exact ⟨k+1,N+1,m+1,acc++[(k:Int)],d,mm,by omega,by omega,Lib.hid (by rw [List.length_append,← hm.out];rfl),by omega,by go_num,hL2,hF⟩
       case measure=>first|(simp [intOf];done)|(simp [intOf];omega)
      ·obtain rfl:u=1:=by omega
       cases d
       ·have hL2:=hL.out
        rw [c4w hwm'.out hb hx (by rw [hu];simp),hu] at hL2
        simp only [Int.reduceEq,decide_false,decide_true,Bool.or_false,Bool.or_true] at hL2
        (rw [List.append_cons,show ((m:Int)+1)=((m+1:Nat):Int) by omega] at hL2;(replace hL2:=Lib.hid hL2);clear hb hx hL hu h0;go_wp2_with ((try refine zs ?_);(first|refine a3d ?_|(refine a8k ?_;clear hF;(first|intro gN wN hF|intro wN hF|intro hF))|(refine a8b rfl hF rfl ?_;clear hF;intro gM wN hF hgM hD)|(refine a8t (t:=195) rfl hF rfl rfl Tryz.underlying195 (by decide) (by (first|exact Wtd.of_none rfl|exact Wtd.of_some rfl rfl)) ?_;intro cc hc0 hcN hc1 hc2;(try refine zs ?_);(try have hcd:decide (0<cc)=true:=by simp at hc1 hc2;simp;omega);(try have hcd:decide (0<cc)=false:=by simp at hc1 hc2;simp;omega))|(refine a1d ?_;clear hF;intro vN wN hF)));go_roundw;(try simp only [Int.reduceEq,decide_false,decide_true,Bool.or_false,Bool.or_true] at hF);(try rw [show ([Value.int .i64 (k:Int)]:List Value)=a1i [(k:Int)] from rfl,← b4z] at hF))
        case rel=>exact ⟨k+1,N+1,m+1,acc++[(k:Int)],true,mm,by omega,by omega,Lib.hid (by rw [List.length_append,← hm.out];rfl),by omega,by go_num,hL2,hF⟩
        case measure=>first|(simp [intOf];done)|(simp [intOf];omega)
       ·have hL2:=hL.out
        rw [d5z hwm'.out hb hx (.inl ⟨hu,rfl⟩)] at hL2
        ((replace hL2:=Lib.hid hL2);clear hb hx hL hu h0;go_wp2_with ((try refine zs ?_);(first|refine a3d ?_|(refine a8k ?_;clear hF;(first|intro gN wN hF|intro wN hF|intro hF))|(refine a8b rfl hF rfl ?_;clear hF;intro gM wN hF hgM hD)|(refine a8t (t:=195) rfl hF rfl rfl Tryz.underlying195 (by decide) (by (first|exact Wtd.of_none rfl|exact Wtd.of_some rfl rfl)) ?_;intro cc hc0 hcN hc1 hc2;(try refine zs ?_);(try have hcd:decide (0<cc)=true:=by simp at hc1 hc2;simp;omega);(try have hcd:decide (0<cc)=false:=by simp at hc1 hc2;simp;omega))|(refine a1d ?_;clear hF;intro vN wN hF)));go_roundw)
        case rel=>exact ⟨k+1,N,m,acc,true,mm,by omega,by omega,hm,by omega,by go_num,hL2,hF⟩
        case measure=>first|(simp [intOf];done)|(simp [intOf];omega)
      ·obtain rfl:u=2:=by omega
       cases mm
       ·have hL2:=hL.out
        rw [c4w hwm'.out hb hx (by rw [hu];simp),hu] at hL2
        simp only [Int.reduceEq,decide_false,decide_true,Bool.or_false,Bool.or_true] at hL2
        (rw [List.append_cons,show ((m:Int)+1)=((m+1:Nat):Int) by omega] at hL2;(replace hL2:=Lib.hid hL2);clear hb hx hL hu h0;go_wp2_with ((try refine zs ?_);(first|refine a3d ?_|(refine a8k ?_;clear hF;(first|intro gN wN hF|intro wN hF|intro hF))|(refine a8b rfl hF rfl ?_;clear hF;intro gM wN hF hgM hD)|(refine a8t (t:=195) rfl hF rfl rfl Tryz.underlying195 (by decide) (by (first|exact Wtd.of_none rfl|exact Wtd.of_some rfl rfl)) ?_;intro cc hc0 hcN hc1 hc2;(try refine zs ?_);(try have hcd:decide (0<cc)=true:=by simp at hc1 hc2;simp;omega);(try have hcd:decide (0<cc)=false:=by simp at hc1 hc2;simp;omega))|(refine a1d ?_;clear hF;intro vN wN hF)));go_roundw;(try simp only [Int.reduceEq,decide_false,decide_true,Bool.or_false,Bool.or_true] at hF);(try rw [show ([Value.int .i64 (k:Int)]:List Value)=a1i [(k:Int)] from rfl,← b4z] at hF))
        case rel=>exact ⟨k+1,N+1,m+1,acc++[(k:Int)],d,true,by omega,by omega,Lib.hid (by rw [List.length_append,← hm.out];rfl),by omega,by go_num,hL2,hF⟩
        case measure=>first|(simp [intOf];done)|(simp [intOf];omega)
       ·have hL2:=hL.out
        rw [d5z hwm'.out hb hx (.inr ⟨hu,rfl⟩)] at hL2
        ((replace hL2:=Lib.hid hL2);clear hb hx hL hu h0;go_wp2_with ((try refine zs ?_);(first|refine a3d ?_|(refine a8k ?_;clear hF;(first|intro gN wN hF|intro wN hF|intro hF))|(refine a8b rfl hF rfl ?_;clear hF;intro gM wN hF hgM hD)|(refine a8t (t:=195) rfl hF rfl rfl Tryz.underlying195 (by decide) (by (first|exact Wtd.of_none rfl|exact Wtd.of_some rfl rfl)) ?_;intro cc hc0 hcN hc1 hc2;(try refine zs ?_);(try have hcd:decide (0<cc)=true:=by simp at hc1 hc2;simp;omega);(try have hcd:decide (0<cc)=false:=by simp at hc1 hc2;simp;omega))|(refine a1d ?_;clear hF;intro vN wN hF)));go_roundw)
        case rel=>exact ⟨k+1,N,m,acc,d,true,by omega,by omega,hm,by omega,by go_num,hL2,hF⟩
        case measure=>first|(simp [intOf];done)|(simp [intOf];omega)
   ·obtain rfl:k=n:=by omega
    have hLL:=hL.out
    rw [g8u (by omega),List.append_nil] at hLL
    subst hLL
    clear hL
    exact d5y
end
end Go.Proofs.YtgnomadgnciifaaGreatDoor
