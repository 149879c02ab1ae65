/- . -/
import Derived.Test.YtgnomadgnciifaaGreatDoorZ10
set_option linter.all false
set_option maxRecDepth 100000
set_option maxHeartbeats 16000000
namespace Go.Proofs.YtgnomadgnciifaaGreatDoor
variable {p:Prop}
open Go.Proofs.Tryz
def qt (h:p:=by
 (go_wp2_with ((try refine zs ?_);(first|refine ot ?_|(refine Ug ?_;clear E;intro Z J E)|(go_at_call 56;refine (HR.out _).mono ?_;rintro x J ⟨rfl,hd⟩;replace E:=E.grow (af.ofDrew hd);clear hd)|(refine aq ?_;clear E;intro vN J E))));((try simp only [Exit.inBlock,Exit.then]);refine bc (eL F E) F ?_)
 exact ⟨rfl,E.bel⟩):=h
def vO (h:p:=by
 go_enter func121,ntmps121;(go_wp2_with ((first|(refine xY ?_;clear E;intro J E)|(go_at_call 169;refine (z.out _).mono ?_;rintro x J ⟨rfl,hd⟩;replace E:=E.grow (af.ofDrew hd);clear hd)|(go_at_call 170;refine (oW _ _ _ bI O).mono ?_;rintro x J ⟨rfl,hd⟩;replace E:=E.grow (af.ofDrew hd);clear hd)|((refine du (v:=.agg #[I op,I rd,I rs1,I rs2,U (imm:Int)]) (n:=5) F E F ?_ (hn:=ce F));(try refine zs ?_))|((first|refine aL ?_|(refine am ?_;clear E;intro Z J E));refine zs ?_))));go_ret
 exact ⟨rfl,E.bel⟩):=h
def KF (h:p:=by
 rw [Y aF];by_cases kW:ws=0
 .subst kW
  unfold En.val;go_enter func64,ntmps64;exact qt
 .rw [aa kW]
  unfold En.val;go_enter func64,ntmps64
  exact qt):=h
section
open Go.RowKit Wd
def IW {op b}:iI op b<4294967296:=by
 unfold iI;split
 .omega
 .rename_i h
  have hz:=t0 op;have hj:dl (bl b)<4294967296:=tS (by rw [gy];omega);split
  .exact Eo _ hj
  split
  .exact Eo _ hj
  .exact hj
def R6 (op:Int) (b:ByteArray) (w:World) (hi:cQ op) (hs:b.size<=maxLen) :Ca 121 #[I op,.string b] w (RB w (U (iI op b:Int))):=by
 have E:=St.start w [] zN;have HK:=V (λW=>ec ⟨op,0,0,0,0⟩ W hi);have HZ:=V (λW=>mE ⟨op,0,0,0,0⟩ W);unfold Ins.val at HK HZ;dsimp only at HK HZ;have D:=t0 op;by_cases h3:ae op=3
 .rw [h3] at HK
  by_cases hz:(b.size:Int)=aU op
  .have C:b.size<=4:=by omega
   have z:=V (λW=>LW b W C);have hL:iI op b=if op=11 then cJ (dl b.data.toList) 8 else if op=12 then cJ (dl b.data.toList) 16 else dl b.data.toList:=by
    unfold iI;rw [Y (by simp [h3,hz])];rfl
   have hj:dl b.data.toList<4294967296:=tS (by simpa using C);rw [<- hz] at HZ;generalize dl b.data.toList=j at *;clear h3 hz;by_cases o1:op=11
   .rw [hL,aa o1]
    subst o1;clear hL;exact vO
   by_cases o2:op=12
   .rw [hL,Y o1,aa o2]
    subst o2;clear hL o1;exact vO
   .rw [hL,Y o1,Y o2]
    have b1:(op == 11)=false:=by simpa using o1
    have b2:(op == 12)=false:=by simpa using o2
    clear hL o1 o2;exact vO
  .rw [show iI op b=0 from by unfold iI;rw [aa (.inr hz)]]
   generalize aU op=sz at *;clear h3;exact vO
 .rw [show iI op b=0 from by unfold iI;rw [aa (.inl h3)]]
  generalize ae op=κ at *;exact vO
def SP (x s):(⟨(bytesL x s).toArray⟩:ByteArray).size=s:=by simp [ByteArray.size,qE]
def OO (x:Nat) (s:Int) (w:World) (hx:x<4294967296) (hs:0<=s/\s<=4) :Ca 128 #[U (x:Int),I s] w (RB w (U (nE x s:Int))):=by
 have E:=St.start w [] zN;obtain ⟨n,rfl⟩:=jS hs.1;have hn:n<=4:=by omega
 have HB:=V (λW=>Bytes_any x n W hx hn);have z:=V (λW=>LW ⟨(bytesL x n).toArray⟩ W (by rw [SP];exact hn));go_enter func128,ntmps128;go_wp2_with ((first|(refine TB ?_;clear E;intro J E)|(go_at_call 169;refine (z.out _).mono ?_;rintro x J ⟨rfl,hd⟩;replace E:=E.grow (af.ofDrew hd);clear hd)|((first|refine aL ?_|(refine am ?_;clear E;intro Z J E));refine zs ?_)));go_ret;exact ⟨dI (by simp [nE]),E.bel⟩
def Oi (x:Nat) {s:Int} (hs:0<=s/\s<=4):nE x s<4294967296:=tS (by rw [qE];omega)
def BT (e b w)(hi:cQ e.inst.op)(hs:b.size<=maxLen):Ca 64 #[e.val,.string b] w (RB w ((gc e b).val)):=by
 have E:=St.start w [] zN;obtain ⟨no,pc,⟨op,rd,rs1,rs2,imm⟩,guess,is,left,value,next,addr,halt,took,known,filled⟩:=e;have HK:=V (λW=>ec ⟨op,rd,rs1,rs2,imm⟩ W hi);have HW:=V (λW=>lX ⟨op,rd,rs1,rs2,imm⟩ W);have HL:=V (λW=>R6 op b W hi hs);have hT:gc ⟨no,pc,⟨op,rd,rs1,rs2,imm⟩,guess,is,left,value,next,addr,halt,took,known,filled⟩ b=if ae op≠3\/known=false\/(is≠0/\is≠2) then ⟨no,pc,⟨op,rd,rs1,rs2,imm⟩,guess,is,left,value,next,addr,halt,took,known,filled⟩
  else ⟨no,pc,⟨op,rd,rs1,rs2,imm⟩,guess,1,1,if bp ⟨op,rd,rs1,rs2,imm⟩≠0 then iI op b else 0,next,addr,halt,took,known,filled⟩:=rfl
 rw [hT];clear hT;dsimp only at HK;generalize ae op=κ at *;generalize bp ⟨op,rd,rs1,rs2,imm⟩=ws at *;generalize iI op b=lv at *;unfold Ins.val at *;by_cases h3:κ=3
 .subst h3
  cases known
  .rw [aa aF]
   unfold En.val;go_enter func64,ntmps64;exact qt
  .by_cases h0:is=0
   .subst h0
    exact KF
   by_cases h2:is=2
   .subst h2
    exact KF
   .rw [aa (by simp [h0,h2])]
    unfold En.val;have qK:(is != 0)=true:=by simpa using h0
    have hn2:(is != 2)=true:=by simpa using h2
    replace qK:=V qK;replace hn2:=V hn2;go_enter func64,ntmps64;go_upto_region 1 with (((first|refine aL ?_|(refine am ?_;clear E;intro Z J E));refine zs ?_));go_wp2_with ((try simp only [qK.out,hn2.out]);(try refine zs ?_);(first|((refine fj F F F ?_);refine zs ?_)|(go_at_call 39;refine aG E (HK.out _) ?_;clear E;intro J E)|((refine du (v:=.agg #[I op,I rd,I rs1,I rs2,U (imm:Int)]) (n:=5) F E F ?_ (hn:=ce F));(try refine zs ?_))|((first|refine aL ?_|(refine am ?_;clear E;intro Z J E));refine zs ?_)));((try simp only [Exit.inBlock,Exit.then]);refine bc (eL F E) F ?_);exact ⟨rfl,E.bel⟩
 .rw [aa (.inl h3)]
  unfold En.val;go_enter func64,ntmps64;exact qt
def Zq (e:En) (b:Nat) (w:World) (hi:cQ e.inst.op) (hb:b<4294967296) :Ca 70 #[e.val,U (b:Int)] w (RB w ((jm e b).val)):=by
 have E:=St.start w [] zN;obtain ⟨no,pc,⟨op,rd,rs1,rs2,imm⟩,guess,is,left,value,next,addr,halt,took,known,filled⟩:=e;have HK:=V (λW=>ec ⟨op,rd,rs1,rs2,imm⟩ W hi);have HZ:=V (λW=>mE ⟨op,rd,rs1,rs2,imm⟩ W);have HO:=V (λW=>OO b (aU op) W hb (t0 op));have hT:jm ⟨no,pc,⟨op,rd,rs1,rs2,imm⟩,guess,is,left,value,next,addr,halt,took,known,filled⟩ b=if ae op≠4\/known=false\/is≠0 then ⟨no,pc,⟨op,rd,rs1,rs2,imm⟩,guess,is,left,value,next,addr,halt,took,known,filled⟩
  else ⟨no,pc,⟨op,rd,rs1,rs2,imm⟩,guess,3,left,nE b (aU op),next,addr,halt,took,known,filled⟩:=rfl
 rw [hT];clear hT;dsimp only at HK HZ;generalize ae op=κ at *;generalize aU op=sz at *;generalize nE b sz=lv at *;unfold Ins.val at *;by_cases h3:κ=4
 .subst h3
  cases known
  .rw [aa aF]
   unfold En.val;go_enter func70,ntmps70;exact qt
  .by_cases h0:is=0
   .subst h0
    rw [Y aF];unfold En.val;go_enter func70,ntmps70;exact qt
   .rw [aa (.inr (.inr h0))]
    unfold En.val;go_enter func70,ntmps70;exact qt
 .rw [aa (.inl h3)]
  unfold En.val;go_enter func70,ntmps70;exact qt
end
end Go.Proofs.YtgnomadgnciifaaGreatDoor
