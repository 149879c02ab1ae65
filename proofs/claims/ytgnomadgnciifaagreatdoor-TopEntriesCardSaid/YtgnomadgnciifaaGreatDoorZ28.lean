/- . -/
import Derived.Test.YtgnomadgnciifaaGreatDoorZ16
set_option linter.all false
set_option maxRecDepth 100000
set_option maxHeartbeats 16000000
namespace Go.Proofs.YtgnomadgnciifaaGreatDoor
open Go.Proofs.Tryz
def qY {p:Prop} (h:p:=by
 clear h2 G;replace hb:=V hb;go_upto_region 13 with ((try refine zs ?_);(first|(go_at_call 106;refine (HH.out _).mono ?_;rintro x J ⟨rfl,rfl⟩)|(go_at_call 148;refine (DH _ _ _ _ _ bI (vy _) O O).mono ?_;rintro x J ⟨rfl,hd⟩;replace E:=E.grow (af.ofDrew hd);clear hd)|refine YN ?_|(refine bJ ?_;clear E;intro Z J E)|(refine aq ?_;clear E;intro vN J E)));cases b
 .skip
  refine bA aj E _ _ (λ_ h=>h) (λ_ h=>h) ?_;clear E;intro E C;refine az 0 C ?_;refine cX 1 C ?_;refine an 2 C ?_;refine cX 4 C ?_;refine aB 3 (λK X=>?_);go_wp2_with ((go_at_call 149;refine E.cB (CQ _ _ _ H) ?_;clear E;intro J E));have C:=C.nextA E;refine X.out _ _ C ?_;clear X;refine zs ?_;refine IC 5 C ?_;refine bt ?_;(go_wp2_with ((try refine zs ?_);(first|refine ov ?_|(refine bJ ?_;clear E;intro Z J E)|(refine aq ?_;clear E;intro vN J E)));go_returns;first|exact ⟨_,rfl,E.bel⟩|exact ⟨⟨_,rfl⟩,E.bel⟩|exact ⟨rfl,E.bel⟩)
 .skip
  refine bA aj E _ _ (λ_ h=>h) (λ_ h=>h) ?_;clear E;intro E C;refine az 0 C ?_;refine cX 1 C ?_;refine an 2 C ?_;refine cX 4 C ?_;refine aB 3 (λK X=>?_);go_wp2_with ((go_at_call 149;refine E.cB (CQ _ _ _ H) ?_;clear E;intro J E));have C:=C.nextA E;refine X.out _ _ C ?_;clear X;refine zs ?_;refine IC 5 C ?_;refine bt ?_
  (go_wp2_with ((try refine zs ?_);(first|refine ov ?_|(refine bJ ?_;clear E;intro Z J E)|(refine aq ?_;clear E;intro vN J E)));go_returns;first|exact ⟨_,rfl,E.bel⟩|exact ⟨⟨_,rfl⟩,E.bel⟩|exact ⟨rfl,E.bel⟩)):p:=h
section
open Go.RowKit Wd
section
variable {P:Program} {ops:Array Oper} {rest:List Oper} {o:Oper} {a:Act} {Q:Exit->Act->World->Prop}
def XT {S:World->Prop} {x y:Operand} {t t':TypeId} {p q r:Nat} (ho:o.op = .binOp .shr t x y t') (hx:ac a x=some (U (p:Int))) (hy:ac a y=some (I (q:Int))) (hr:Hid (p / 2 ^ q=r):=by assumption) (hq:q<=32:=by omega) (hw:Region.wanted o (yielded ops a.tmps)=true:=by rfl) :YieldsIf P ops S o (U (r:Int)) a:=cg hw λw=>by
 replace hx:=ap hx;replace hy:=ap hy;rw [<- hr.out,<- E3];unfold execOp;simp only [ho,hx,hy];go_simp
def Tu {S:World->Prop} {x y:Operand} {t t':TypeId} {p q r:Nat} (ho:o.op = .binOp .or t x y t') (hx:ac a x=some (U (p:Int))) (hy:ac a y=some (U (q:Int))) (hr:Hid (bits .or .u32 (p:Int) (q:Int)=(r:Int)):=by assumption) (hw:Region.wanted o (yielded ops a.tmps)=true:=by rfl) :YieldsIf P ops S o (U (r:Int)) a:=cg hw λw=>by
 replace hx:=ap hx;replace hy:=ap hy;rw [<- hr.out];unfold execOp;simp only [ho,hx,hy];go_simp
def Uq {w:World} {src dst:TypeId} {x:Operand} {p:Int} (ho:o.op = .convert src dst x) (hx:ac a x=some (I p)) (hs:P.underlying src=some (.int .i64)) (hd:P.underlying dst=some (.int .u32)) (h:wpList P ops Q rest (a.put o.dst (U ((un p:Nat):Int))) w) (hw:Region.wanted o (yielded ops a.tmps)=true:=by rfl):wpList P ops Q (o::rest) a w:=by
 replace hx:=ap hx;refine cI hw λK X=>?_
 have ip:(execOp a.eval o).run P w = .ok (.value (U ((un p:Nat):Int))) w:=by
  unfold execOp;simp only [ho,hx];simp [convert,eH hs,eH hd,B7,IntKind.wrap_u32',go_sem]
 unfold Oper.wp;rw [ip];exact X _ _ h
end
def i1t {x}(hx:x<4294967296){l:List (Int × Int)}(h:tN l):(jy x l).1<4294967296:=by
 have:=(Na hx h _ (aM _)).1
 rwa [lK] at this
def ZV (i:Ins)(w)(hf:aI i.op=0):Ca 89 #[i.val] w (RB w (.tuple #[U 0,I 1])):=by
 have E:=St.start w [] zN;obtain ⟨op,rd,rs1,rs2,imm⟩:=i;have R:=V (λW=>by have:=mN op W;rw [m8] at this;dsimp only at hf;rwa [hf] at this:∀ W,Ca 107 #[I op] W λe w'=>e = .returned (I 0)/\w'=W);unfold Ins.val;go_enter func89,ntmps89;go_wp2_with ((first|(go_at_call 107;refine (R.out _).mono ?_;rintro x J ⟨rfl,rfl⟩)|((first|refine aA ?_|(refine am ?_;clear E;intro Z J E));refine zs ?_)));go_returns;exact ⟨rfl,E.bel⟩
def YO (k:Nat) (rd rs1 rs2:Int) (imm:Nat) (w:World) (hk:k<49) (hf:¬ aI (k:Int)=0) (iq:imm<4294967296) (hr:Rd w w.heap.size 1 (some ⟨0,0,none⟩) 49 49 (ai ci)) :Ca 89 #[(⟨(k:Int),rd,rs1,rs2,imm⟩:Ins).val] w λe w'=>∃ x,e = .returned (.tuple #[U ((x:Nat):Int),I (if eO (bn (k:Int) (fk ⟨(k:Int),rd,rs1,rs2,imm⟩)) ⟨(k:Int),rd,rs1,rs2,imm⟩ then 0 else 1)])/\af w w':=by
 have E:=St.start w [ab 1 (some ⟨0,0,none⟩) 49 49 (ai ci)] (zC hr zN);clear hr;have R:=V (λW=>by have:=mN (k:Int) W;rwa [m8] at this:∀ W,Ca 107 #[I (k:Int)] W λe w'=>e = .returned (I (aI (k:Int)))/\w'=W);have HN:=V (λW=>Tv (aI (k:Int)) W (xD _));have HH:=V (λW=>h2x (aI (k:Int)) W (xD _));have aO:(av (aI (k:Int))).2<=12:=by
  rcases xD (k:Int) with h|h|h|h|h|h|h|h|h <;> rw [h] <;> decide
 have hq:imm / 2 ^ (av (aI (k:Int))).2<4294967296:=fJ (kK _ _) iq;have ak:=V (λW A c (h:Rd W W.heap.size 2 A (av (aI (k:Int))).1.length c (dk (dQ (av (aI (k:Int))).1)))=>Yc A c (imm / 2 ^ (av (aI (k:Int))).2) (av (aI (k:Int))).1 W h (jJ _) hq);have al:=i1t hq (jJ (aI (k:Int)));have aD:=JA k;have hc:=Il hk;have aE:=u32_or_nat (ci[k]?.getD 0) (jy (imm / 2 ^ (av (aI (k:Int))).2) (av (aI (k:Int))).1).1 aD al;have D:ci[k]?.getD 0 ||| (jy (imm / 2 ^ (av (aI (k:Int))).2) (av (aI (k:Int))).1).1<4294967296:=Nat.or_lt_two_pow (n:=32) aD al
 have hE:fk ⟨(k:Int),rd,rs1,rs2,imm⟩=(let w0:=ci[k]?.getD 0 ||| (jy (imm / 2 ^ (av (aI (k:Int))).2) (av (aI (k:Int))).1).1
  let w1:=if (cH (aI (k:Int))).1 then aw w0 7 5 (un rd) else w0
  let w2:=if (cH (aI (k:Int))).2.1 then aw w1 15 5 (un rs1) else w1
  if (cH (aI (k:Int))).2.2 then aw w2 20 5 (un rs2) else w2):=rfl
 rw [hE];clear hE
 obtain ⟨z,hz⟩:∃ z,(if eO (bn (k:Int) (let w0:=ci[k]?.getD 0 ||| (jy (imm / 2 ^ (av (aI (k:Int))).2) (av (aI (k:Int))).1).1
  let w1:=if (cH (aI (k:Int))).1 then aw w0 7 5 (un rd) else w0
  let w2:=if (cH (aI (k:Int))).2.1 then aw w1 15 5 (un rs1) else w1
  if (cH (aI (k:Int))).2.2 then aw w2 20 5 (un rs2) else w2)) ⟨(k:Int),rd,rs1,rs2,imm⟩ then (0:Int) else 1)=z:=⟨_,rfl⟩
 rw [hz];generalize ci[k]?.getD 0 ||| (jy (imm / 2 ^ (av (aI (k:Int))).2) (av (aI (k:Int))).1).1=w0 at *
 generalize (jy (imm / 2 ^ (av (aI (k:Int))).2) (av (aI (k:Int))).1).1=sc at *;generalize ci[k]?.getD 0=c0 at *;generalize aF:(av (aI (k:Int))).1=L at *;generalize aH:(av (aI (k:Int))).2=low at *;generalize (cH (aI (k:Int))).1=h1 at *;generalize (cH (aI (k:Int))).2.1=h2 at *;generalize (cH (aI (k:Int))).2.2=h3 at *;generalize aI (k:Int)=f at *;obtain ⟨im2,ad⟩:∃ im2,imm / 2 ^ low=im2:=⟨_,rfl⟩;rw [ad] at ak hq;have aP:=V ad;clear ad aF aH;generalize L.length=ln at *;have G:=V hz;clear hz;have aR:=V aE;clear aE;have s1:∀ v,aw w0 7 5 v<4294967296:=λv=>mM 7 5 v D
 have s2:∀ x v,x<4294967296->aw x 15 5 v<4294967296:=λx v h=>mM 15 5 v h
 have s3:∀ x v,x<4294967296->aw x 20 5 v<4294967296:=λx v h=>mM 20 5 v h
 have S:=V (And.intro s1 (And.intro s2 s3));clear s1 s2 s3;unfold Ins.val;go_enter func89,ntmps89;go_upto_region 5 with ((try refine zs ?_);(first|(go_at_call 107;refine (R.out _).mono ?_;rintro x J ⟨rfl,rfl⟩)|(go_at_call 146;refine (HN.out _).mono ?_;rintro x J ⟨A,c,rfl,hO⟩;replace E:=E.call1A hO V9;clear hO)|refine ov ?_|(refine bJ ?_;clear E;intro Z J E)|(refine aq ?_;clear E;intro vN J E)));refine bA aj E _ _ (λ_ h=>h) (λ_ h=>h) ?_;clear E;intro E C;refine az 0 C ?_;refine cX 1 C ?_;refine Ex 2 C ?_;refine cX 3 C ?_;refine az 4 C ?_;refine cX 5 C ?_;refine an 6 C ?_;refine UJ 7 C ?_;refine an 8 C ?_;refine aB 9 (λK X=>?_);go_wp2_with ((go_at_call 147;refine E.cB (ak.out _ _ _ E.rdA) ?_;clear E;intro J E));have C:=C.nextA E;refine X.out _ _ C ?_;clear X;refine zs ?_;refine g9d 10 C ?_;refine cA 11 C ?_;refine bt ?_;have v1:=S.out.1 (un rd);have v2:=S.out.2.1 w0 (un rs1) D;have v3:=S.out.2.1 _ (un rs1) v1;cases h1 <;> cases h2 <;> cases h3
 .have H:w0<4294967296:=by repeat (first|exact D|refine mM _ _ _ ?_)
  have h2:(if eO (bn (k:Int) (w0)) ⟨(k:Int),rd,rs1,rs2,imm⟩ then (0:Int) else 1)=z:=G.out;obtain ⟨b,hb⟩:∃ b,(!(eO (bn (k:Int) (w0)) ⟨(k:Int),rd,rs1,rs2,imm⟩))=b:=⟨_,rfl⟩;obtain rfl:z=if b then 1 else 0:=by rw [<- h2,<- hb];cases eO (bn (k:Int) (w0)) ⟨(k:Int),rd,rs1,rs2,imm⟩ <;> rfl
  exact qY
 .have H:aw w0 20 5 (un rs2)<4294967296:=by repeat (first|exact D|refine mM _ _ _ ?_)
  have h2:(if eO (bn (k:Int) (aw w0 20 5 (un rs2))) ⟨(k:Int),rd,rs1,rs2,imm⟩ then (0:Int) else 1)=z:=G.out;obtain ⟨b,hb⟩:∃ b,(!(eO (bn (k:Int) (aw w0 20 5 (un rs2))) ⟨(k:Int),rd,rs1,rs2,imm⟩))=b:=⟨_,rfl⟩;obtain rfl:z=if b then 1 else 0:=by rw [<- h2,<- hb];cases eO (bn (k:Int) (aw w0 20 5 (un rs2))) ⟨(k:Int),rd,rs1,rs2,imm⟩ <;> rfl
  exact qY
 .have H:aw w0 15 5 (un rs1)<4294967296:=by repeat (first|exact D|refine mM _ _ _ ?_)
  have h2:(if eO (bn (k:Int) (aw w0 15 5 (un rs1))) ⟨(k:Int),rd,rs1,rs2,imm⟩ then (0:Int) else 1)=z:=G.out;obtain ⟨b,hb⟩:∃ b,(!(eO (bn (k:Int) (aw w0 15 5 (un rs1))) ⟨(k:Int),rd,rs1,rs2,imm⟩))=b:=⟨_,rfl⟩;obtain rfl:z=if b then 1 else 0:=by rw [<- h2,<- hb];cases eO (bn (k:Int) (aw w0 15 5 (un rs1))) ⟨(k:Int),rd,rs1,rs2,imm⟩ <;> rfl
  exact qY
 .have H:aw (aw w0 15 5 (un rs1)) 20 5 (un rs2)<4294967296:=by repeat (first|exact D|refine mM _ _ _ ?_)
  have h2:(if eO (bn (k:Int) (aw (aw w0 15 5 (un rs1)) 20 5 (un rs2))) ⟨(k:Int),rd,rs1,rs2,imm⟩ then (0:Int) else 1)=z:=G.out;obtain ⟨b,hb⟩:∃ b,(!(eO (bn (k:Int) (aw (aw w0 15 5 (un rs1)) 20 5 (un rs2))) ⟨(k:Int),rd,rs1,rs2,imm⟩))=b:=⟨_,rfl⟩;obtain rfl:z=if b then 1 else 0:=by rw [<- h2,<- hb];cases eO (bn (k:Int) (aw (aw w0 15 5 (un rs1)) 20 5 (un rs2))) ⟨(k:Int),rd,rs1,rs2,imm⟩ <;> rfl
  exact qY
 .have H:aw w0 7 5 (un rd)<4294967296:=by repeat (first|exact D|refine mM _ _ _ ?_)
  have h2:(if eO (bn (k:Int) (aw w0 7 5 (un rd))) ⟨(k:Int),rd,rs1,rs2,imm⟩ then (0:Int) else 1)=z:=G.out;obtain ⟨b,hb⟩:∃ b,(!(eO (bn (k:Int) (aw w0 7 5 (un rd))) ⟨(k:Int),rd,rs1,rs2,imm⟩))=b:=⟨_,rfl⟩;obtain rfl:z=if b then 1 else 0:=by rw [<- h2,<- hb];cases eO (bn (k:Int) (aw w0 7 5 (un rd))) ⟨(k:Int),rd,rs1,rs2,imm⟩ <;> rfl
  exact qY
 .have H:aw (aw w0 7 5 (un rd)) 20 5 (un rs2)<4294967296:=by repeat (first|exact D|refine mM _ _ _ ?_)
  have h2:(if eO (bn (k:Int) (aw (aw w0 7 5 (un rd)) 20 5 (un rs2))) ⟨(k:Int),rd,rs1,rs2,imm⟩ then (0:Int) else 1)=z:=G.out;obtain ⟨b,hb⟩:∃ b,(!(eO (bn (k:Int) (aw (aw w0 7 5 (un rd)) 20 5 (un rs2))) ⟨(k:Int),rd,rs1,rs2,imm⟩))=b:=⟨_,rfl⟩;obtain rfl:z=if b then 1 else 0:=by rw [<- h2,<- hb];cases eO (bn (k:Int) (aw (aw w0 7 5 (un rd)) 20 5 (un rs2))) ⟨(k:Int),rd,rs1,rs2,imm⟩ <;> rfl
  exact qY
 .have H:aw (aw w0 7 5 (un rd)) 15 5 (un rs1)<4294967296:=by repeat (first|exact D|refine mM _ _ _ ?_)
  have h2:(if eO (bn (k:Int) (aw (aw w0 7 5 (un rd)) 15 5 (un rs1))) ⟨(k:Int),rd,rs1,rs2,imm⟩ then (0:Int) else 1)=z:=G.out;obtain ⟨b,hb⟩:∃ b,(!(eO (bn (k:Int) (aw (aw w0 7 5 (un rd)) 15 5 (un rs1))) ⟨(k:Int),rd,rs1,rs2,imm⟩))=b:=⟨_,rfl⟩;obtain rfl:z=if b then 1 else 0:=by rw [<- h2,<- hb];cases eO (bn (k:Int) (aw (aw w0 7 5 (un rd)) 15 5 (un rs1))) ⟨(k:Int),rd,rs1,rs2,imm⟩ <;> rfl
  exact qY
 .have H:aw (aw (aw w0 7 5 (un rd)) 15 5 (un rs1)) 20 5 (un rs2)<4294967296:=by repeat (first|exact D|refine mM _ _ _ ?_)
  have h2:(if eO (bn (k:Int) (aw (aw (aw w0 7 5 (un rd)) 15 5 (un rs1)) 20 5 (un rs2))) ⟨(k:Int),rd,rs1,rs2,imm⟩ then (0:Int) else 1)=z:=G.out;obtain ⟨b,hb⟩:∃ b,(!(eO (bn (k:Int) (aw (aw (aw w0 7 5 (un rd)) 15 5 (un rs1)) 20 5 (un rs2))) ⟨(k:Int),rd,rs1,rs2,imm⟩))=b:=⟨_,rfl⟩;obtain rfl:z=if b then 1 else 0:=by rw [<- h2,<- hb];cases eO (bn (k:Int) (aw (aw (aw w0 7 5 (un rd)) 15 5 (un rs1)) 20 5 (un rs2))) ⟨(k:Int),rd,rs1,rs2,imm⟩ <;> rfl
  exact qY
end
end Go.Proofs.YtgnomadgnciifaaGreatDoor
