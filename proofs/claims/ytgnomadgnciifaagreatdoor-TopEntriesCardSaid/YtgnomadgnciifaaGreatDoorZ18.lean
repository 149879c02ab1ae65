/- . -/
import Derived.Test.YtgnomadgnciifaaGreatDoorZ10
set_option linter.all false
set_option maxRecDepth 100000
set_option maxHeartbeats 16000000
namespace Go.Proofs.YtgnomadgnciifaaGreatDoor
variable {p:Prop}
open Go.Proofs.Tryz
def AK (h:p:=by
 (go_wp2_with ((first|(refine Kg ?_;clear E;intro J E)|(go_at_call 181;refine (HT.out _).mono ?_;rintro x J ⟨rfl,rfl⟩)|((refine du (v:=.agg #[I op,I rd,I rs1,I rs2,U (imm:Int)]) (n:=5) F E F ?_ (hn:=ce F));(try refine zs ?_))|((first|refine aA ?_|(refine am ?_;clear E;intro Z J E));refine zs ?_))));((try simp only [Exit.inBlock,Exit.then]);refine bc (eL F E) F ?_)
 exact ⟨by first|rfl|rw [<- h4],E.bel⟩):=h
def Ak (h:p:=by
 rw [z];have h4:=wY pc;dsimp only at HK;rw [hk] at HK;generalize ay pc 4=p4 at *;generalize jw ⟨op,rd,rs1,rs2,imm⟩ pc a b=v at *;generalize eJ op a b=tk at *;generalize bp ⟨op,rd,rs1,rs2,imm⟩=ws at *;unfold En.val;unfold Ins.val at *;clear z hk;cases wr
 .obtain rfl:ws=0:=by simpa using it
  clear it;go_enter func137,ntmps137;exact AK
 .have kW:¬ ws=0:=by simpa using it
  clear it;go_enter func137,ntmps137
  exact AK):=h
def K8 (h:p:=by
 (go_wp2_with ((first|(refine Kg ?_;clear E;intro J E)|(go_at_call 181;refine (HT.out _).mono ?_;rintro x J ⟨rfl,rfl⟩)|((refine du (v:=.agg #[I op,I rd,I rs1,I rs2,U (imm:Int)]) (n:=5) F E F ?_ (hn:=ce F));(try refine zs ?_))|((first|refine aA ?_|(refine am ?_;clear E;intro Z J E));refine zs ?_))));((try simp only [Exit.inBlock,Exit.then]);refine bc (eL F E) F ?_)
 exact ⟨rfl,E.bel⟩):=h
def yQ (h:p:=by
 cases wr
 .have kW:bp ⟨op,rd,rs1,rs2,imm⟩=0:=by simpa using it
  simp [dX,hk,kW]
 .have kW:¬ bp ⟨op,rd,rs1,rs2,imm⟩=0:=by simpa using it
  simp [dX,hk,kW]):=h
section
open Go.RowKit Wd
section
variable (no:Int) (pc:Nat) (op rd rs1 rs2:Int) (imm:Nat) (guess:Nat) (is left:Int) (value next addr:Nat) (halt took:Int) (known filled:Bool)
def h8v (a b:Nat) (w:World) (hi:cQ op) (h:¬ is=0\/ae op=3\/ae op=4) :Ca 137 #[(⟨no,pc,⟨op,rd,rs1,rs2,imm⟩,guess,is,left,value,next,addr,halt,took,known,filled⟩:En).val,U (a:Int),U (b:Int)] w (RB w ((⟨no,pc,⟨op,rd,rs1,rs2,imm⟩,guess,is,left,value,next,addr,halt,took,known,filled⟩:En).val)):=by
 have E:=St.start w [] zN;have HK:=V (λW=>ec ⟨op,rd,rs1,rs2,imm⟩ W hi);dsimp only at HK;unfold En.val;generalize ae op=κ at *;by_cases h1:is=0
 .subst h1
  replace h:κ=3\/κ=4:=h.resolve_left (λh=>h F);rcases h with rfl|rfl
  all_goals
   go_enter func137,ntmps137;exact K8
 .clear h
  go_enter func137,ntmps137;exact K8
def Tk (a b:Nat) (w:World) (hi:cQ op) (iq:imm<4294967296) (ha:a<4294967296) (hb:b<4294967296) (hk:ae op=0) (wr:Bool) (it:(bp ⟨op,rd,rs1,rs2,imm⟩ == 0) = !wr) :Ca 137 #[(⟨no,pc,⟨op,rd,rs1,rs2,imm⟩,guess,0,left,value,next,addr,halt,took,known,filled⟩:En).val,U (a:Int),U (b:Int)] w (RB w ((dX ⟨no,pc,⟨op,rd,rs1,rs2,imm⟩,guess,0,left,value,next,addr,halt,took,known,filled⟩ a b).val)):=by
 have E:=St.start w [] zN;have HK:=V (λW=>ec ⟨op,rd,rs1,rs2,imm⟩ W hi);have HW:=V (λW=>lX ⟨op,rd,rs1,rs2,imm⟩ W);have HV:=V (λW=>xL ⟨op,rd,rs1,rs2,imm⟩ pc a b W hi iq ha hb);have HT:=V (λW=>Au op a b W ha hb);have z:dX ⟨no,pc,⟨op,rd,rs1,rs2,imm⟩,guess,0,left,value,next,addr,halt,took,known,filled⟩ a b=⟨no,pc,⟨op,rd,rs1,rs2,imm⟩,guess,1,if (0:Int)=1 then 3 else if (0:Int)=2 then eJ op a b else 1,if wr then jw ⟨op,rd,rs1,rs2,imm⟩ pc a b else 0,ay pc 4,addr,halt,if (0:Int)=2 then eJ op a b else took,known,filled⟩:=by
  exact yQ
 exact Ak
def SQ (a b:Nat) (w:World) (hi:cQ op) (iq:imm<4294967296) (ha:a<4294967296) (hb:b<4294967296) (hk:ae op=1) (wr:Bool) (it:(bp ⟨op,rd,rs1,rs2,imm⟩ == 0) = !wr) :Ca 137 #[(⟨no,pc,⟨op,rd,rs1,rs2,imm⟩,guess,0,left,value,next,addr,halt,took,known,filled⟩:En).val,U (a:Int),U (b:Int)] w (RB w ((dX ⟨no,pc,⟨op,rd,rs1,rs2,imm⟩,guess,0,left,value,next,addr,halt,took,known,filled⟩ a b).val)):=by
 have E:=St.start w [] zN;have HK:=V (λW=>ec ⟨op,rd,rs1,rs2,imm⟩ W hi);have HW:=V (λW=>lX ⟨op,rd,rs1,rs2,imm⟩ W);have HV:=V (λW=>xL ⟨op,rd,rs1,rs2,imm⟩ pc a b W hi iq ha hb);have HT:=V (λW=>Au op a b W ha hb);have z:dX ⟨no,pc,⟨op,rd,rs1,rs2,imm⟩,guess,0,left,value,next,addr,halt,took,known,filled⟩ a b=⟨no,pc,⟨op,rd,rs1,rs2,imm⟩,guess,1,if (1:Int)=1 then 3 else if (1:Int)=2 then eJ op a b else 1,if wr then jw ⟨op,rd,rs1,rs2,imm⟩ pc a b else 0,ay pc 4,addr,halt,if (1:Int)=2 then eJ op a b else took,known,filled⟩:=by
  exact yQ
 exact Ak
def U3 (a b:Nat) (w:World) (hi:cQ op) (iq:imm<4294967296) (ha:a<4294967296) (hb:b<4294967296) (hk:ae op=2) (wr:Bool) (it:(bp ⟨op,rd,rs1,rs2,imm⟩ == 0) = !wr) :Ca 137 #[(⟨no,pc,⟨op,rd,rs1,rs2,imm⟩,guess,0,left,value,next,addr,halt,took,known,filled⟩:En).val,U (a:Int),U (b:Int)] w (RB w ((dX ⟨no,pc,⟨op,rd,rs1,rs2,imm⟩,guess,0,left,value,next,addr,halt,took,known,filled⟩ a b).val)):=by
 have E:=St.start w [] zN;have HK:=V (λW=>ec ⟨op,rd,rs1,rs2,imm⟩ W hi);have HW:=V (λW=>lX ⟨op,rd,rs1,rs2,imm⟩ W);have HV:=V (λW=>xL ⟨op,rd,rs1,rs2,imm⟩ pc a b W hi iq ha hb);have HT:=V (λW=>Au op a b W ha hb);have z:dX ⟨no,pc,⟨op,rd,rs1,rs2,imm⟩,guess,0,left,value,next,addr,halt,took,known,filled⟩ a b=⟨no,pc,⟨op,rd,rs1,rs2,imm⟩,guess,1,if (2:Int)=1 then 3 else if (2:Int)=2 then eJ op a b else 1,if wr then jw ⟨op,rd,rs1,rs2,imm⟩ pc a b else 0,ay pc 4,addr,halt,if (2:Int)=2 then eJ op a b else took,known,filled⟩:=by
  exact yQ
 exact Ak
def Yk (a b:Nat) (w:World) (hi:cQ op) (iq:imm<4294967296) (ha:a<4294967296) (hb:b<4294967296) (hk:ae op=6) (wr:Bool) (it:(bp ⟨op,rd,rs1,rs2,imm⟩ == 0) = !wr) :Ca 137 #[(⟨no,pc,⟨op,rd,rs1,rs2,imm⟩,guess,0,left,value,next,addr,halt,took,known,filled⟩:En).val,U (a:Int),U (b:Int)] w (RB w ((dX ⟨no,pc,⟨op,rd,rs1,rs2,imm⟩,guess,0,left,value,next,addr,halt,took,known,filled⟩ a b).val)):=by
 have E:=St.start w [] zN;have HK:=V (λW=>ec ⟨op,rd,rs1,rs2,imm⟩ W hi);have HW:=V (λW=>lX ⟨op,rd,rs1,rs2,imm⟩ W);have HV:=V (λW=>xL ⟨op,rd,rs1,rs2,imm⟩ pc a b W hi iq ha hb);have HT:=V (λW=>Au op a b W ha hb);have z:dX ⟨no,pc,⟨op,rd,rs1,rs2,imm⟩,guess,0,left,value,next,addr,halt,took,known,filled⟩ a b=⟨no,pc,⟨op,rd,rs1,rs2,imm⟩,guess,1,if (6:Int)=1 then 3 else if (6:Int)=2 then eJ op a b else 1,if wr then jw ⟨op,rd,rs1,rs2,imm⟩ pc a b else 0,ay pc 4,addr,halt,if (6:Int)=2 then eJ op a b else took,known,filled⟩:=by
  exact yQ
 exact Ak
def h9a (a b:Nat) (w:World) (hi:cQ op) (iq:imm<4294967296) (ha:a<4294967296) (hb:b<4294967296) (hk:ae op=5) (wr:Bool) (it:(bp ⟨op,rd,rs1,rs2,imm⟩ == 0) = !wr) :Ca 137 #[(⟨no,pc,⟨op,rd,rs1,rs2,imm⟩,guess,0,left,value,next,addr,halt,took,known,filled⟩:En).val,U (a:Int),U (b:Int)] w (RB w ((dX ⟨no,pc,⟨op,rd,rs1,rs2,imm⟩,guess,0,left,value,next,addr,halt,took,known,filled⟩ a b).val)):=by
 have E:=St.start w [] zN;have HK:=V (λW=>ec ⟨op,rd,rs1,rs2,imm⟩ W hi);have HW:=V (λW=>lX ⟨op,rd,rs1,rs2,imm⟩ W);have HV:=V (λW=>xL ⟨op,rd,rs1,rs2,imm⟩ pc a b W hi iq ha hb);have HG:=V (λW=>E' ⟨op,rd,rs1,rs2,imm⟩ pc a b W ha hb);obtain ⟨tb,C⟩:∃ tb,decide (gH ⟨op,rd,rs1,rs2,imm⟩ pc a b % 4=0)=tb:=⟨_,rfl⟩;have z:dX ⟨no,pc,⟨op,rd,rs1,rs2,imm⟩,guess,0,left,value,next,addr,halt,took,known,filled⟩ a b=if tb then ⟨no,pc,⟨op,rd,rs1,rs2,imm⟩,guess,1,1,if wr then jw ⟨op,rd,rs1,rs2,imm⟩ pc a b else 0,gH ⟨op,rd,rs1,rs2,imm⟩ pc a b,addr,halt,took,known,filled⟩
   else ⟨no,pc,⟨op,rd,rs1,rs2,imm⟩,guess,1,1,0,ay pc 4,addr,3,took,known,filled⟩:=by
  cases wr
  .have kW:bp ⟨op,rd,rs1,rs2,imm⟩=0:=by simpa using it
   cases tb
   .have:=of_decide_eq_false C
    simp [dX,hk,kW,this]
   .have:=of_decide_eq_true C
    simp [dX,hk,kW,this]
  .have kW:¬ bp ⟨op,rd,rs1,rs2,imm⟩=0:=by simpa using it
   cases tb
   .have:=of_decide_eq_false C
    simp [dX,hk,kW,this]
   .have:=of_decide_eq_true C
    simp [dX,hk,kW,this]
 rw [z];rw [C] at HG;have h4:=wY pc;dsimp only at HK;rw [hk] at HK;generalize ay pc 4=p4 at *;generalize jw ⟨op,rd,rs1,rs2,imm⟩ pc a b=v at *;generalize gH ⟨op,rd,rs1,rs2,imm⟩ pc a b=nx at *;generalize bp ⟨op,rd,rs1,rs2,imm⟩=ws at *;unfold En.val;unfold Ins.val at *;clear z hk C;cases wr
 .obtain rfl:ws=0:=by simpa using it
  clear it;cases tb
  all_goals
   go_enter func137,ntmps137;exact AK
 .have kW:¬ ws=0:=by simpa using it
  clear it;cases tb
  all_goals
   go_enter func137,ntmps137;exact AK
end
def Ws {e a b}(h:¬ e.is=0\/ae e.inst.op=3\/ae e.inst.op=4):dX e a b=e:=by
 unfold dX;rw [aa h]
def Y5 (e:En) (a b:Nat) (w:World) (hi:cQ e.inst.op) (iq:e.inst.imm<4294967296) (ha:a<4294967296) (hb:b<4294967296) :Ca 137 #[e.val,U (a:Int),U (b:Int)] w (RB w ((dX e a b).val)):=by
 by_cases h:¬ e.is=0\/ae e.inst.op=3\/ae e.inst.op=4
 .rw [Ws h]
  obtain ⟨no,pc,⟨op,rd,rs1,rs2,imm⟩,guess,is,left,value,next,addr,halt,took,known,filled⟩:=e;exact h8v _ _ _ _ _ _ _ _ _ _ _ _ _ _ _ _ _ a b w hi h
 .obtain ⟨no,pc,⟨op,rd,rs1,rs2,imm⟩,guess,is,left,value,next,addr,halt,took,known,filled⟩:=e
  dsimp only at hi iq h;obtain rfl:is=0:=Classical.byContradiction λk=>h (.inl k)
  have it:(bp ⟨op,rd,rs1,rs2,imm⟩ == 0) = !(!(bp ⟨op,rd,rs1,rs2,imm⟩ == 0)):=by simp
  rcases wJ op with hk|hk|hk|hk|hk|hk|hk
  .exact Tk _ _ _ _ _ _ _ _ _ _ _ _ _ _ _ _ a b w hi iq ha hb hk _ it
  .exact SQ _ _ _ _ _ _ _ _ _ _ _ _ _ _ _ _ a b w hi iq ha hb hk _ it
  .exact U3 _ _ _ _ _ _ _ _ _ _ _ _ _ _ _ _ a b w hi iq ha hb hk _ it
  .exact absurd (.inr (.inl hk)) h
  .exact absurd (.inr (.inr hk)) h
  .exact h9a _ _ _ _ _ _ _ _ _ _ _ _ _ _ _ _ a b w hi iq ha hb hk _ it
  .exact Yk _ _ _ _ _ _ _ _ _ _ _ _ _ _ _ _ a b w hi iq ha hb hk _ it
end
end Go.Proofs.YtgnomadgnciifaaGreatDoor
