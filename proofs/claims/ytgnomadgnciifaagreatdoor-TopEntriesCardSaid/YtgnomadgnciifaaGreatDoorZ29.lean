/- . -/
import Derived.Test.YtgnomadgnciifaaGreatDoorZ10
set_option linter.all false
set_option maxRecDepth 100000
set_option maxHeartbeats 16000000
namespace Go.Proofs.YtgnomadgnciifaaGreatDoor
variable {p:Prop}
open Go.Proofs.Tryz
def GJ (h:p:=by
 clear it;go_enter func14,ntmps14;go_upto_region 6 with (((first|refine aA ?_|(refine am ?_;clear E;intro Z J E));refine zs ?_));refine bA aj E _ _ (λ_ h=>h) (λ_ h=>h) ?_;clear E;intro E z;refine az 0 z ?_;refine lW 1 z ?_;refine az 2 z ?_;refine lW 3 z ?_
 first|(refine eu (i:=4) F (rL F F F) z ?_;refine zs ?_)|(refine eu (i:=4) F (sb F F F) z ?_;refine zs ?_)|refine zp 4 z ?_
 refine az 5 z ?_;refine lW 6 z ?_;refine wpAnyH_ready (rs:=[7,9]) aj aF (dK F (λK X=>?_) (dK F (λK X=>?_) AllReadyH.nil))
 .go_wp2_with ((refine IE ?_;clear E;intro J E))
  have z:=z.nextA E;refine X.out _ _ z ?_;clear X;refine zs ?_;refine zp 8 z ?_;refine aB 9 (λK X=>?_);go_wp2_with ((refine bK F E ?_;clear E;intro Z J E);refine zs ?_);have z:=z.nextA E;refine X.out _ _ z ?_;clear X;refine zs ?_;refine aB 10 (λK X=>?_);go_wp2_with (refine iP ?_;clear E;intro J E;(try refine zs ?_));have z:=z.nextA E;refine X.out _ _ z ?_;clear X;refine zs ?_;refine bt ?_;((go_wp2_with ((first|(refine xY ?_;clear E;intro J E)|((refine du (v:=.agg #[I op,I rd,I rs1,I rs2,U (imm:Int)]) (n:=5) F E F ?_ (hn:=ce F));(try refine zs ?_))|((first|refine aA ?_|(refine am ?_;clear E;intro Z J E));refine zs ?_))));((try simp only [Exit.inBlock,Exit.then]);refine bc (eL F E) F ?_);exact ⟨by first|rfl|rw [hw4],E.bel⟩)
 .go_wp2_with ((refine bK F E ?_;clear E;intro Z J E);refine zs ?_)
  have z:=z.nextA E;refine X.out _ _ z ?_;clear X;refine zs ?_;refine aB 7 (λK X=>?_);go_wp2_with ((refine IE ?_;clear E;intro J E));have z:=z.nextA E;refine X.out _ _ z ?_;clear X;refine zs ?_;refine zp 8 z ?_;refine aB 10 (λK X=>?_);go_wp2_with (refine iP ?_;clear E;intro J E;(try refine zs ?_));have z:=z.nextA E;refine X.out _ _ z ?_;clear X;refine zs ?_;refine bt ?_
  ((go_wp2_with ((first|(refine xY ?_;clear E;intro J E)|((refine du (v:=.agg #[I op,I rd,I rs1,I rs2,U (imm:Int)]) (n:=5) F E F ?_ (hn:=ce F));(try refine zs ?_))|((first|refine aA ?_|(refine am ?_;clear E;intro Z J E));refine zs ?_))));((try simp only [Exit.inBlock,Exit.then]);refine bc (eL F E) F ?_);exact ⟨by first|rfl|rw [hw4],E.bel⟩)):=h
def sY (h:p:=by
 have hw4:IntKind.u32.wrap ((pc:Int)+4)=((ay pc 4:Nat):Int):=by rw [IntKind.wrap_u32'];exact wY pc
 dsimp only at HK HZ;rw [hk] at HK;generalize ay pc 4=p4 at *;generalize aU op=sz at *;generalize bp ⟨op,rd,rs1,rs2,imm⟩=ws at *;unfold En.val Stp.val;unfold Ins.val at *;clear hk;cases wr
 .obtain rfl:ws=0:=by simpa using it
  exact GJ
 .have kW:¬ ws=0:=by simpa using it
  exact GJ):=h
def C8 (h:p:=by
 go_enter func14,ntmps14;(go_wp2_with ((first|(refine xY ?_;clear E;intro J E)|((refine du (v:=.agg #[I op,I rd,I rs1,I rs2,U (imm:Int)]) (n:=5) F E F ?_ (hn:=ce F));(try refine zs ?_))|((first|refine aA ?_|(refine am ?_;clear E;intro Z J E));refine zs ?_))));((try simp only [Exit.inBlock,Exit.then]);refine bc (eL F E) F ?_)
 exact ⟨rfl,E.bel⟩):=h
section
open Go.RowKit Wd
section
variable (no:Int) (pc:Nat) (op rd rs1 rs2:Int) (imm:Nat) (guess:Nat) (is left:Int) (value next addr:Nat) (halt took:Int) (known filled:Bool)
def Ro (w)(h:¬ halt=0):Ca 14 #[(⟨no,pc,⟨op,rd,rs1,rs2,imm⟩,guess,is,left,value,next,addr,halt,took,known,filled⟩:En).val] w (RB w ((aY ⟨no,pc,⟨op,rd,rs1,rs2,imm⟩,guess,is,left,value,next,addr,halt,took,known,filled⟩).val)):=by
 have E:=St.start w [] zN;have hT:aY ⟨no,pc,⟨op,rd,rs1,rs2,imm⟩,guess,is,left,value,next,addr,halt,took,known,filled⟩=⟨pc,pc,0,0,if halt=4\/halt=5 then addr else 0,0,false,halt,0⟩:=by simp [aY,h]
 rw [hT];clear hT;unfold En.val Stp.val;dsimp only;by_cases h4:halt=4
 .subst h4
  exact C8
 by_cases h5:halt=5
 .subst h5
  exact C8
 .rw [Y (λk=>k.elim h4 h5)]
  have b4:(halt == 4)=false:=by simpa using h4
  have b5:(halt == 5)=false:=by simpa using h5
  exact C8
def rQ (wr:Bool) (ws:Int) (C:bp ⟨op,rd,rs1,rs2,imm⟩=ws) (it:(ws == 0) = !wr) (κ:Int) (hk:ae op=κ) (n4:Nat) (hn:ay pc 4=n4) (sz:Int) (hz:aU op=sz) :aY ⟨no,pc,⟨op,rd,rs1,rs2,imm⟩,guess,is,left,value,next,addr,0,took,known,filled⟩ = ⟨pc,if κ=5 then next else n4,ws,if κ=4 then value else if wr then value else 0,if κ=4\/κ=3 then addr else 0,if κ=4\/κ=3 then sz else 0,decide (κ=4),0,if κ=2 then took else 0⟩:=by
 subst C hk hn hz;have kW:(bp ⟨op,rd,rs1,rs2,imm⟩≠0)=(wr=true):=by
  cases wr
  .have:bp ⟨op,rd,rs1,rs2,imm⟩=0:=by simpa using it
   simp [this]
  .have:¬ bp ⟨op,rd,rs1,rs2,imm⟩=0:=by simpa using it
   simp [this]
 unfold aY;dsimp only;rcases wJ op with hk|hk|hk|hk|hk|hk|hk <;> simp [hk,kW]
def UX (w)(hi:cQ op)(hk:ae op=0)(wr)(it:(bp ⟨op,rd,rs1,rs2,imm⟩ == 0) = !wr):Ca 14 #[(⟨no,pc,⟨op,rd,rs1,rs2,imm⟩,guess,is,left,value,next,addr,0,took,known,filled⟩:En).val] w (RB w ((aY ⟨no,pc,⟨op,rd,rs1,rs2,imm⟩,guess,is,left,value,next,addr,0,took,known,filled⟩).val)):=by
 have E:=St.start w [] zN;have HK:=V (λW=>ec ⟨op,rd,rs1,rs2,imm⟩ W hi);have HW:=V (λW=>lX ⟨op,rd,rs1,rs2,imm⟩ W);have HZ:=V (λW=>mE ⟨op,rd,rs1,rs2,imm⟩ W);rw [rQ no pc op rd rs1 rs2 imm guess is left value next addr took known filled wr _ rfl it 0 hk _ rfl _ rfl];exact sY
def Ql (w)(hi:cQ op)(hk:ae op=1)(wr)(it:(bp ⟨op,rd,rs1,rs2,imm⟩ == 0) = !wr):Ca 14 #[(⟨no,pc,⟨op,rd,rs1,rs2,imm⟩,guess,is,left,value,next,addr,0,took,known,filled⟩:En).val] w (RB w ((aY ⟨no,pc,⟨op,rd,rs1,rs2,imm⟩,guess,is,left,value,next,addr,0,took,known,filled⟩).val)):=by
 have E:=St.start w [] zN;have HK:=V (λW=>ec ⟨op,rd,rs1,rs2,imm⟩ W hi);have HW:=V (λW=>lX ⟨op,rd,rs1,rs2,imm⟩ W);have HZ:=V (λW=>mE ⟨op,rd,rs1,rs2,imm⟩ W);rw [rQ no pc op rd rs1 rs2 imm guess is left value next addr took known filled wr _ rfl it 1 hk _ rfl _ rfl];exact sY
def VQ (w)(hi:cQ op)(hk:ae op=2)(wr)(it:(bp ⟨op,rd,rs1,rs2,imm⟩ == 0) = !wr):Ca 14 #[(⟨no,pc,⟨op,rd,rs1,rs2,imm⟩,guess,is,left,value,next,addr,0,took,known,filled⟩:En).val] w (RB w ((aY ⟨no,pc,⟨op,rd,rs1,rs2,imm⟩,guess,is,left,value,next,addr,0,took,known,filled⟩).val)):=by
 have E:=St.start w [] zN;have HK:=V (λW=>ec ⟨op,rd,rs1,rs2,imm⟩ W hi);have HW:=V (λW=>lX ⟨op,rd,rs1,rs2,imm⟩ W);have HZ:=V (λW=>mE ⟨op,rd,rs1,rs2,imm⟩ W);rw [rQ no pc op rd rs1 rs2 imm guess is left value next addr took known filled wr _ rfl it 2 hk _ rfl _ rfl];exact sY
def O5 (w)(hi:cQ op)(hk:ae op=3)(wr)(it:(bp ⟨op,rd,rs1,rs2,imm⟩ == 0) = !wr):Ca 14 #[(⟨no,pc,⟨op,rd,rs1,rs2,imm⟩,guess,is,left,value,next,addr,0,took,known,filled⟩:En).val] w (RB w ((aY ⟨no,pc,⟨op,rd,rs1,rs2,imm⟩,guess,is,left,value,next,addr,0,took,known,filled⟩).val)):=by
 have E:=St.start w [] zN;have HK:=V (λW=>ec ⟨op,rd,rs1,rs2,imm⟩ W hi);have HW:=V (λW=>lX ⟨op,rd,rs1,rs2,imm⟩ W);have HZ:=V (λW=>mE ⟨op,rd,rs1,rs2,imm⟩ W);rw [rQ no pc op rd rs1 rs2 imm guess is left value next addr took known filled wr _ rfl it 3 hk _ rfl _ rfl];exact sY
def TX (w)(hi:cQ op)(hk:ae op=4)(wr)(it:(bp ⟨op,rd,rs1,rs2,imm⟩ == 0) = !wr):Ca 14 #[(⟨no,pc,⟨op,rd,rs1,rs2,imm⟩,guess,is,left,value,next,addr,0,took,known,filled⟩:En).val] w (RB w ((aY ⟨no,pc,⟨op,rd,rs1,rs2,imm⟩,guess,is,left,value,next,addr,0,took,known,filled⟩).val)):=by
 have E:=St.start w [] zN;have HK:=V (λW=>ec ⟨op,rd,rs1,rs2,imm⟩ W hi);have HW:=V (λW=>lX ⟨op,rd,rs1,rs2,imm⟩ W);have HZ:=V (λW=>mE ⟨op,rd,rs1,rs2,imm⟩ W);rw [rQ no pc op rd rs1 rs2 imm guess is left value next addr took known filled wr _ rfl it 4 hk _ rfl _ rfl];exact sY
def Yp (w)(hi:cQ op)(hk:ae op=5)(wr)(it:(bp ⟨op,rd,rs1,rs2,imm⟩ == 0) = !wr):Ca 14 #[(⟨no,pc,⟨op,rd,rs1,rs2,imm⟩,guess,is,left,value,next,addr,0,took,known,filled⟩:En).val] w (RB w ((aY ⟨no,pc,⟨op,rd,rs1,rs2,imm⟩,guess,is,left,value,next,addr,0,took,known,filled⟩).val)):=by
 have E:=St.start w [] zN;have HK:=V (λW=>ec ⟨op,rd,rs1,rs2,imm⟩ W hi);have HW:=V (λW=>lX ⟨op,rd,rs1,rs2,imm⟩ W);have HZ:=V (λW=>mE ⟨op,rd,rs1,rs2,imm⟩ W);rw [rQ no pc op rd rs1 rs2 imm guess is left value next addr took known filled wr _ rfl it 5 hk _ rfl _ rfl];exact sY
def UI (w)(hi:cQ op)(hk:ae op=6)(wr)(it:(bp ⟨op,rd,rs1,rs2,imm⟩ == 0) = !wr):Ca 14 #[(⟨no,pc,⟨op,rd,rs1,rs2,imm⟩,guess,is,left,value,next,addr,0,took,known,filled⟩:En).val] w (RB w ((aY ⟨no,pc,⟨op,rd,rs1,rs2,imm⟩,guess,is,left,value,next,addr,0,took,known,filled⟩).val)):=by
 have E:=St.start w [] zN;have HK:=V (λW=>ec ⟨op,rd,rs1,rs2,imm⟩ W hi);have HW:=V (λW=>lX ⟨op,rd,rs1,rs2,imm⟩ W);have HZ:=V (λW=>mE ⟨op,rd,rs1,rs2,imm⟩ W);rw [rQ no pc op rd rs1 rs2 imm guess is left value next addr took known filled wr _ rfl it 6 hk _ rfl _ rfl];exact sY
end
end
end Go.Proofs.YtgnomadgnciifaaGreatDoor
