/- . -/
import Derived.Test.YtgnomadgnciifaaGreatDoorZ10
set_option linter.all false
set_option maxRecDepth 100000
set_option maxHeartbeats 16000000
namespace Go.Proofs.YtgnomadgnciifaaGreatDoor
open Go.Proofs.Tryz
def Nn {p:Prop} (h:p:=by
 rcases hk with rfl|rfl
 all_goals
  unfold En.val;go_enter func135,ntmps135;go_upto_region 5 with ((try refine zs ?_);(first|refine ot ?_|(refine oE ?_;clear E;intro Z J E)|(refine aq ?_;clear E;intro vN J E)));refine bA aj E _ _ (λ_ h=>h) (λ_ h=>h) ?_;clear E;intro E z;refine an 0 z ?_;refine az 1 z ?_;refine lW 2 z ?_;refine az 3 z ?_;refine lW 4 z ?_;refine aB 5 (λK X=>?_);go_wp2_with ((first|(refine uB ?_;clear E;intro J E)|(go_at_call 56;refine (HR.out _).mono ?_;rintro x J ⟨rfl,hd⟩;replace E:=E.grow (af.ofDrew hd);clear hd)));have z:=z.nextA E;refine X.out _ _ z ?_;clear X;refine zs ?_;refine aB 6 (λK X=>?_);go_wp2_with ((first|(refine uB ?_;clear E;intro J E)|(go_at_call 56;refine (HR.out _).mono ?_;rintro x J ⟨rfl,hd⟩;replace E:=E.grow (af.ofDrew hd);clear hd)));have z:=z.nextA E;refine X.out _ _ z ?_;clear X;refine zs ?_;refine bt ?_
  ((go_wp2_with ((try refine zs ?_);(first|refine ot ?_|(refine oE ?_;clear E;intro Z J E)|(refine aq ?_;clear E;intro vN J E))));(((try simp only [Exit.inBlock,Exit.then]);refine bc (eL F E) F ?_);exact ⟨by first|rfl|rw [hw4]|rw [<- h4],E.bel⟩))):p:=h
def CC {p:Prop} (h:p:=by
 go_enter func135,ntmps135;(go_wp2_with ((try refine zs ?_);(first|refine ot ?_|(refine oE ?_;clear E;intro Z J E)|(refine aq ?_;clear E;intro vN J E))))
 (((try simp only [Exit.inBlock,Exit.then]);refine bc (eL F E) F ?_);exact ⟨by first|rfl|rw [hw4]|rw [<- h4],E.bel⟩)):p:=h
section
open Go.RowKit Wd
def h9p (e:En) (size a:Nat) (w:World) (hi:cQ e.inst.op) (iq:e.inst.imm<4294967296) (hs:size<=9223372036854775807) (ha:a<4294967296) :Ca 135 #[e.val,I (size:Int),U (a:Int)] w (RB w ((eo e size a).val)):=by
 have E:=St.start w [] zN;obtain ⟨no,pc,⟨op,rd,rs1,rs2,imm⟩,guess,is,left,value,next,addr,halt,took,known,filled⟩:=e;dsimp only at hi iq;have C:=t0 op;have HK:=V (λW=>ec ⟨op,rd,rs1,rs2,imm⟩ W hi);have HZ:=V (λW=>mE ⟨op,rd,rs1,rs2,imm⟩ W);have HR:=V (λW=>Me.memRight_any size (ay a imm) (aU op) W hs (iU _ _) ⟨by omega,by omega⟩);have hT:eo ⟨no,pc,⟨op,rd,rs1,rs2,imm⟩,guess,is,left,value,next,addr,halt,took,known,filled⟩ size a=if (ae op≠3/\ae op≠4)\/is≠0\/known=true then ⟨no,pc,⟨op,rd,rs1,rs2,imm⟩,guess,is,left,value,next,addr,halt,took,known,filled⟩
  else if Me.right size (ay a imm) (aU op)=true then ⟨no,pc,⟨op,rd,rs1,rs2,imm⟩,guess,is,left,value,next,ay a imm,halt,took,true,filled⟩
  else ⟨no,pc,⟨op,rd,rs1,rs2,imm⟩,guess,3,left,value,next,ay a imm,if ae op=4 then 5 else 4,took,known,filled⟩:=rfl
 rw [hT];clear hT;dsimp only at HK HZ;have h4:=wB a imm;have hw4:IntKind.u32.wrap ((a:Int)+(imm:Int))=((ay a imm:Nat):Int):=by rw [IntKind.wrap_u32'];exact wB a imm
 generalize Me.right size (ay a imm) (aU op)=rb at *;generalize ay a imm=ad at *;generalize ae op=κ at *;generalize aU op=sz at *;unfold Ins.val at *;by_cases hk:κ=3\/κ=4
 .by_cases h0:is=0
  .subst h0
   cases known
   .rw [Y (by rcases hk with rfl|rfl <;> simp)]
    cases rb
    .rw [Y aF]
     exact Nn
    .rw [aa F]
     exact Nn
   .rw [aa (.inr (.inr F))]
    rcases hk with rfl|rfl
    all_goals
     unfold En.val;exact CC
  .rw [aa (.inr (.inl h0))]
   rcases hk with rfl|rfl
   all_goals
    unfold En.val;exact CC
 .have h3:¬ κ=3:=λh=>hk (.inl h)
  have h5:¬ κ=4:=λh=>hk (.inr h)
  rw [aa (.inl ⟨h3,h5⟩)];clear hk;unfold En.val;exact CC
end
end Go.Proofs.YtgnomadgnciifaaGreatDoor
