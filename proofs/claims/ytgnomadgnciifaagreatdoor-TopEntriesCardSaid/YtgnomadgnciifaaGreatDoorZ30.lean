/- . -/
import Derived.Test.YtgnomadgnciifaaGreatDoorZ28
import Derived.Test.YtgnomadgnciifaaGreatDoorZ29
import Derived.Test.YtgnomadgnciifaaGreatDoorZ26
set_option linter.all false
set_option maxRecDepth 100000
set_option maxHeartbeats 16000000
namespace Go.Proofs.YtgnomadgnciifaaGreatDoor
open Go.Proofs.Tryz
def M9 {p:Prop} (h:p:=by
 go_enter func67,ntmps67;go_upto_region 1 with ((try refine zs ?_);(first|refine fa ?_|(refine bJ ?_;clear E;intro Z J E)|(refine aq ?_;clear E;intro vN J E)));refine mA [37,41] aj E _ _ (λ_ h=>h) (λ_ h=>h) ?_;clear E;intro E G;refine cZ 0 G ?_;(refine oA (i:=1) F (yW F F) (λ_=>G) ?_);refine zs ?_
 refine cZ 2 G ?_;refine zq 3 G ?_;refine bi 4 G ?_;refine bi 5 G ?_;refine lE 6 G ?_;refine cZ 7 G ?_;refine zq 8 G ?_;refine bi 9 G ?_;refine bi 10 G ?_;refine lE 11 G ?_;refine cZ 12 G ?_;refine zq 13 G ?_;refine bi 14 G ?_;refine bi 15 G ?_;refine lE 16 G ?_;refine cZ 17 G ?_;refine cZ 18 G ?_;refine zq 19 G ?_;refine bi 20 G ?_;refine bi 21 G ?_;refine lE 22 G ?_;refine cZ 23 G ?_;refine zq 24 G ?_;refine bi 25 G ?_;refine bi 26 G ?_;refine lE 27 G ?_;refine ev (rs:=[28]) aj aF (et F (λK X=>?_) dH.nil);go_wp2_with ((first|(refine tv ?_;clear E;intro J E)|(go_at_call 126;refine (HB.out _ E.rds E.rdA).mono ?_;rintro x J ⟨_,_,rfl,A1,n1,c1,S1,A2,c2,rfl,rfl,L,hC⟩;replace E:=E.call3A L;clear L)|(refine jd F E F F ?_ (i8:=by (try simp only [cw]);rw [bM];exact ce F);clear E;intro J E;(try simp only [fL,jr] at E);refine zs ?_)|(refine bz F E F F ?_ (iv:=by (try simp only [iJ]);rw [bM];decide);clear E;intro J E;(try simp only [zF] at E);refine zs ?_)|((first|refine aL ?_|(refine am ?_;clear E;intro Z J E));refine zs ?_)));have G:=aO G E;refine X.out _ _ (λ_=>G) ?_;clear X;refine zs ?_;refine ev (rs:=[29]) aj aF (et F (λK X=>?_) dH.nil);go_wp2_with ((first|(refine tv ?_;clear E;intro J E)|(go_at_call 126;refine (HB.out _ E.rds E.rdA).mono ?_;rintro x J ⟨_,_,rfl,A1,n1,c1,S1,A2,c2,rfl,rfl,L,hC⟩;replace E:=E.call3A L;clear L)|(refine jd F E F F ?_ (i8:=by (try simp only [cw]);rw [bM];exact ce F);clear E;intro J E;(try simp only [fL,jr] at E);refine zs ?_)|(refine bz F E F F ?_ (iv:=by (try simp only [iJ]);rw [bM];decide);clear E;intro J E;(try simp only [zF] at E);refine zs ?_)|((first|refine aL ?_|(refine am ?_;clear E;intro Z J E));refine zs ?_)));have G:=aO G E;refine X.out _ _ (λ_=>G) ?_;clear X;refine zs ?_;refine cZ 30 G ?_;refine zq 31 G ?_;(refine oA (i:=32) (v:=?_) F ?_ (λ_=>G) ?_;rotate_left;(first|exact nJ kH ax|(refine cg ax ?_;intro w;go_simp;done)|(refine cg ax ?_;intro w;go_simp;with_reducible rfl)|(refine cg ax ?_;intro w;simp only [Wy.cells];go_simp;with_reducible rfl));(try refine zs ?_));(refine oA (i:=33) (v:=?_) F ?_ (λ_=>G) ?_;rotate_left;(first|exact nJ kH ax|(refine cg ax ?_;intro w;go_simp;done)|(refine cg ax ?_;intro w;go_simp;with_reducible rfl)|(refine cg ax ?_;intro w;simp only [Wy.cells];go_simp;with_reducible rfl));(try refine zs ?_));refine zq 34 G ?_;refine bi 35 G ?_;refine bi 36 G ?_;refine ev (rs:=[37]) aj aF (et F (λK X=>?_) dH.nil);go_wp2_with ((first|(refine tv ?_;clear E;intro J E)|(go_at_call 126;refine (HB.out _ E.rds E.rdA).mono ?_;rintro x J ⟨_,_,rfl,A1,n1,c1,S1,A2,c2,rfl,rfl,L,hC⟩;replace E:=E.call3A L;clear L)|(refine jd F E F F ?_ (i8:=by (try simp only [cw]);rw [bM];exact ce F);clear E;intro J E;(try simp only [fL,jr] at E);refine zs ?_)|(refine bz F E F F ?_ (iv:=by (try simp only [iJ]);rw [bM];decide);clear E;intro J E;(try simp only [zF] at E);refine zs ?_)|((first|refine aL ?_|(refine am ?_;clear E;intro Z J E));refine zs ?_)));(try clear G);refine X.out _ _ (jO 37 F aj) ?_;clear X;refine zs ?_
 (refine oA (i:=38) (v:=?_) F ?_ (jO 37 F aj) ?_;rotate_left;(first|exact nJ kH ax|(refine cg ax ?_;intro w;go_simp;done)|(refine cg ax ?_;intro w;go_simp;with_reducible rfl)|(refine cg ax ?_;intro w;simp only [Wy.cells];go_simp;with_reducible rfl));(try refine zs ?_));(first|refine oA (i:=39) F (vZ F F) (jO 37 F aj) ?_|refine oA (i:=39) F (vE F F) (jO 37 F aj) ?_);refine zs ?_
 (first|refine oA (i:=40) F (vZ F F) (jO 37 F aj) ?_|refine oA (i:=40) F (vE F F) (jO 37 F aj) ?_);refine zs ?_
 refine ev (rs:=[41]) aj aF (et F (λK X=>?_) dH.nil);go_wp2_with ((first|(refine tv ?_;clear E;intro J E)|(go_at_call 126;refine (HB.out _ E.rds E.rdA).mono ?_;rintro x J ⟨_,_,rfl,A1,n1,c1,S1,A2,c2,rfl,rfl,L,hC⟩;replace E:=E.call3A L;clear L)|(refine jd F E F F ?_ (i8:=by (try simp only [cw]);rw [bM];exact ce F);clear E;intro J E;(try simp only [fL,jr] at E);refine zs ?_)|(refine bz F E F F ?_ (iv:=by (try simp only [iJ]);rw [bM];decide);clear E;intro J E;(try simp only [zF] at E);refine zs ?_)|((first|refine aL ?_|(refine am ?_;clear E;intro Z J E));refine zs ?_)));(try clear G);refine X.out _ _ (jO 37 F aj) ?_;clear X;refine zs ?_
 (refine oA (i:=42) F (Hj F F) (jO 37 F aj) ?_);refine zs ?_
 refine mJ aj ?_ _
 ((have aX:C'.length=n1:=by rw [<- hC,jN];exact (E.rds (A:=A1) (n:=n1) (c:=c1) (S:=S1)).slen);subst aX;(first|rw [vR (k:=k) (s:=s) S1 C' k.dways F,tG q' F] at E|rw [tG (k:=k) (s:=s) q' F,vR S1 C' k.dways F] at E);go_wp2_with ((try refine zs ?_);(first|refine fa ?_|(refine LU ?_;clear E;intro Z J E)|(refine aq ?_;clear E;intro vN J E)));go_end0;(try rw [KD] at E);refine ⟨⟨_,rfl⟩,My.mk A1 c1 S1 A2 c2 (by rw [ac.out];exact hC) ?_⟩;(rw [ac.out]);refine E.lessD ?_;(simp only [kD,zL]);((repeat (refine eZ au ?_));exact λd h=>by (repeat (first|exact h|refine eI _ ?_))))):p:=h
def GP {p:Prop} (h:p:=by
 go_wp2_with ((try refine zs ?_);(first|refine fa ?_|(go_at_call 141;refine E.cB (P5 _ _ _ _ _ E.rdA) ?_;clear E;intro J E)|(refine bJ ?_;clear E;intro Z J E)|(refine aq ?_;clear E;intro vN J E)));go_ret
 exact ⟨by rw [hR.out];rfl,⟨E⟩⟩):p:=h
section
open Go.RowKit Wd
def i2e (i:Ins) (w:World) (iq:i.imm<4294967296) (hr:Rd w w.heap.size 1 (some ⟨0,0,none⟩) 49 49 (ai ci)) :Ca 89 #[i.val] w λe w'=>∃ x,e = .returned (.tuple #[U ((x:Nat):Int),I (if kG i then 0 else 1)])/\af w w':=by
 by_cases hf:aI i.op=0
 .refine (ZV i w hf).mono ?_
  rintro e w' ⟨rfl,hb⟩;exact ⟨0,by rw [show kG i=false from by simp [kG,hf]];rfl,hb⟩
 .obtain ⟨op,rd,rs1,rs2,imm⟩:=i
  dsimp only at hf iq;have h1:¬ (op<1\/48<op):=λh=>hf (by unfold aI;rw [aa h])
  obtain ⟨k,rfl⟩:=jS (show 0<=op by omega);refine (YO k rd rs1 rs2 imm w O hf iq hr).mono ?_;rintro e w' ⟨x,rfl,hb⟩;refine ⟨x,?_,hb⟩;rw [show kG ⟨(k:Int),rd,rs1,rs2,imm⟩=eO (bn (k:Int) (fk ⟨(k:Int),rd,rs1,rs2,imm⟩)) ⟨(k:Int),rd,rs1,rs2,imm⟩ from by simp [kG,hf]]
end
section
open Go.RowKit Wd
structure em where
 latA:Option Addr
 latC:Nat
 tapeA:Option Addr
 tapeC:Nat
 progA:Option Addr
 progC:Nat
 feA:Option Addr
 feC:Nat
 robA:Option Addr
 robC:Nat
 stA:Option Addr
 stC:Nat
 dA:Option Addr
 dC:Nat
 dS:List Cs
 wA:Option Addr
 wC:Nat
 wS:List Cs
 busA:Option Addr
 busC:Nat
 slA:Option Addr
 slC:Nat
 rtA:Option Addr
 rtC:Nat
 reA:Option Addr
 reC:Nat
 feO:Bool
 stO:Bool
 reO:Bool
def rg (l:List Nat) (i:Nat):Value:=U ((l[i]?.getD 0:Nat):Int)
def ao (k:ak) (s:em):List Value:=[I k.conf.mode,I k.conf.width,I k.conf.rob,I k.conf.queue,I k.conf.stores,I k.conf.slots,I k.conf.sets,I k.conf.ways,.slice s.latA k.conf.lat.length s.latC,.bool k.conf.tables,.slice s.tapeA k.conf.tape.length s.tapeC,.slice s.progA k.prog.length s.progC,I k.cycle,rg k.regs 0,rg k.regs 1,rg k.regs 2,rg k.regs 3,rg k.regs 4,rg k.regs 5,rg k.regs 6,rg k.regs 7,rg k.regs 8,rg k.regs 9,rg k.regs 10,rg k.regs 11,rg k.regs 12,rg k.regs 13,rg k.regs 14,rg k.regs 15,rg k.regs 16,rg k.regs 17,rg k.regs 18,rg k.regs 19,rg k.regs 20,rg k.regs 21,rg k.regs 22,rg k.regs 23,rg k.regs 24,rg k.regs 25,rg k.regs 26,rg k.regs 27,rg k.regs 28,rg k.regs 29,rg k.regs 30,rg k.regs 31,U (k.fetch:Int),.bool k.stop,.slice s.feA k.fetched.length s.feC,.slice s.robA k.rob.length s.robC,I k.next,.slice s.stA k.stores.length s.stC,I k.dways,.slice s.dA k.data.length s.dC,I k.wways,.slice s.wA k.words.length s.wC,.slice s.busA k.bus.length s.busC,I k.asked,I k.guessed,.string k.mem,.slice s.slA k.guess.slots.length s.slC,U (k.guess.hist:Int),.slice s.rtA k.guess.rets.length s.rtC,I k.halt,.slice s.reA k.retired.length s.reC]
def bM (k s):(ao k s).length=64:=rfl
def ku (k s):∀ u∈ao k s,u.oneCell'=true:=by
 unfold ao
 repeat (first|exact uu|refine wm F ?_)
def kD (k:ak) (s:em):List Da:=[ab 1 s.latA k.conf.lat.length s.latC (aE k.conf.lat),ab 1 s.tapeA k.conf.tape.length s.tapeC (ai k.conf.tape),ab 1 s.progA k.prog.length s.progC (ai k.prog),tu s.feO 2 s.feA k.fetched.length s.feC (jF k.fetched),tu s.stO 2 s.stA k.stores.length s.stC (bD k.stores),ab 1 s.dA k.data.length s.dC (cj s.dS),cR s.dS,ab 1 s.wA k.words.length s.wC (cj s.wS),cR s.wS,ab 4 s.busA k.bus.length s.busC (bg k.bus),ab 2 s.slA k.guess.slots.length s.slC (eQ k.guess.slots),ab 1 s.rtA k.guess.rets.length s.rtC (ai k.guess.rets),tu s.reO 9 s.reA k.retired.length s.reC (gU k.retired),eG]
section
variable {k:ak} {s:em}
def GC (x:Nat):(ao k s).set 45 (U (x:Int))=ao { k with fetch:=x } s:=rfl
def Be (x):(ao k s).set 46 (.bool x)=ao { k with stop:=x } s:=rfl
def Py (x:Int):(ao k s).set 49 (I x)=ao { k with next:=x } s:=rfl
def ML (x:Int):(ao k s).set 12 (I x)=ao { k with cycle:=x } s:=rfl
def KD (x:Int):(ao k s).set 56 (I x)=ao { k with asked:=x } s:=rfl
def OL (x:Int):(ao k s).set 57 (I x)=ao { k with guessed:=x } s:=rfl
def RN (x):(ao k s).set 58 (.string x)=ao { k with mem:=x } s:=rfl
def Tn (x:Int):(ao k s).set 62 (I x)=ao { k with halt:=x } s:=rfl
def ve {A n c}(q)(h:q.length=n):(ao k s).set 47 (.slice A n c)=ao { k with fetched:=q } { s with feA:=A,feC:=c }:=by subst h;rfl
def xh {A n c}(q)(h:q.length=n):(ao k s).set 48 (.slice A n c)=ao { k with rob:=q } { s with robA:=A,robC:=c }:=by subst h;rfl
def Aj {A n c}(q)(h:q.length=n):(ao k s).set 50 (.slice A n c)=ao { k with stores:=q } { s with stA:=A,stC:=c }:=by subst h;rfl
def tG {A n c}(q)(h:q.length=n):(ao k s).set 55 (.slice A n c)=ao { k with bus:=q } { s with busA:=A,busC:=c }:=by subst h;rfl
def Ep {A n c}(q)(h:q.length=n):(ao k s).set 63 (.slice A n c)=ao { k with retired:=q } { s with reA:=A,reC:=c }:=by subst h;rfl
def vR {A:Option Addr} {n c:Nat} (S:List Cs) (C:List (List Wy)) (w:Int) (h:C.length=n):spl (ao k s) 51 [I w,.slice A n c]=ao { k with dways:=w,data:=C } { s with dA:=A,dC:=c,dS:=S }:=by subst h;rfl
def I7 {A:Option Addr} {n c:Nat} (S:List Cs) (C:List (List Wy)) (w:Int) (h:C.length=n):spl (ao k s) 53 [I w,.slice A n c]=ao { k with wways:=w,words:=C } { s with wA:=A,wC:=c,wS:=S }:=by subst h;rfl
def i2j {As Ar:Option Addr} {ns cs h nr cr:Nat} (g:Gu) (h1:g.slots.length=ns) (h2:g.hist=h) (h3:g.rets.length=nr):spl (ao k s) 59 [.slice As ns cs,U (h:Int),.slice Ar nr cr]=ao { k with guess:=g } { s with slA:=As,slC:=cs,rtA:=Ar,rtC:=cr }:=by subst h1 h2 h3;rfl
def LN (l)(h:l.length=32):ai l=[rg l 0,rg l 1,rg l 2,rg l 3,rg l 4,rg l 5,rg l 6,rg l 7,rg l 8,rg l 9,rg l 10,rg l 11,rg l 12,rg l 13,rg l 14,rg l 15,rg l 16,rg l 17,rg l 18,rg l 19,rg l 20,rg l 21,rg l 22,rg l 23,rg l 24,rg l 25,rg l 26,rg l 27,rg l 28,rg l 29,rg l 30,rg l 31]:=by
 match l,h with
 | [a0,a1,a2,a3,a4,a5,a6,a7,a8,a9,a10,a11,a12,a13,a14,a15,a16,a17,a18,a19,a20,a21,a22,a23,a24,a25,a26,a27,a28,a29,a30,a31],_=>rfl
def i2k (l)(h:l.length=32):spl (ao k s) 13 (ai l)=ao { k with regs:=l } s:=by
 rw [qF _ _ _ (by rw [lY,h,bM];omega),lY,h,LN l h];rfl
def Xk (h:k.regs.length=32):((ao k s).drop 13).take 32=ai k.regs:=by rw [LN _ h];rfl
end
end
section
open Go.RowKit Wd
def MB (e w)(hi:cQ e.inst.op):Ca 14 #[e.val] w (RB w ((aY e).val)):=by
 obtain ⟨no,pc,⟨op,rd,rs1,rs2,imm⟩,guess,is,left,value,next,addr,halt,took,known,filled⟩:=e;by_cases h:halt=0
 .subst h
  obtain ⟨wr,it⟩:∃ wr,(bp ⟨op,rd,rs1,rs2,imm⟩ == 0) = !wr:=⟨!(bp ⟨op,rd,rs1,rs2,imm⟩ == 0),by simp⟩;rcases wJ op with hk|hk|hk|hk|hk|hk|hk
  .exact UX no pc op rd rs1 rs2 imm guess is left value next addr took known filled w hi hk wr it
  .exact Ql no pc op rd rs1 rs2 imm guess is left value next addr took known filled w hi hk wr it
  .exact VQ no pc op rd rs1 rs2 imm guess is left value next addr took known filled w hi hk wr it
  .exact O5 no pc op rd rs1 rs2 imm guess is left value next addr took known filled w hi hk wr it
  .exact TX no pc op rd rs1 rs2 imm guess is left value next addr took known filled w hi hk wr it
  .exact Yp no pc op rd rs1 rs2 imm guess is left value next addr took known filled w hi hk wr it
  .exact UI no pc op rd rs1 rs2 imm guess is left value next addr took known filled w hi hk wr it
 .exact Ro no pc op rd rs1 rs2 imm guess is left value next addr halt took known filled w h
def KOk.conf_lat {B k}(h:KOk B k):k.asked<=1000000/\0<=k.asked:=⟨qp h.asked.2 h.bound,h.asked.1⟩
def Ay (c:Cf) (n:Int):0<=kC c n/\kC c n<=8:=by
 unfold kC;split
 .omega
 .cases h:(bf c).lat[(max n 0 % (bf c).lat.length).toNat]? with
  | none=>simp
  | some x=>
   have hm:x∈(bf c).lat:=aQ h;simp only [bf,fQ] at hm;obtain ⟨y,_,rfl⟩:=hm;simp only [tn];unfold bE;split <;> omega
def kJ {w0 w:World} {D0 D:List Da} {M:List Mu} {g:Nat} {k:ak} {s:em} {B:Int} (hk:KOk B k) (kind:Int) (line:Nat) (data:ByteArray)(E:St w0 D0 w (.blk g 81 (ao k s)::M) (kD k s++D)) :Ca 83 #[.pointer (some ⟨g,0,none⟩),I kind,U (line:Int),.string data] w λx w'=>(∃ y,x = .returned y) /\ ∃ A2 c2,St w0 D0 w' (.blk g 81 (ao (fy k kind line data) { s with busA:=A2,busC:=c2 })::M) (kD (fy k kind line data) { s with busA:=A2,busC:=c2 }++D):=by
 have ha:=hk.conf_lat;have hl:=Ay k.conf k.asked;have HL:=V (λ(W:World) (h1:Rd W W.heap.size 1 s.latA k.conf.lat.length s.latC (aE k.conf.lat)) (h2:Rd W W.heap.size 1 s.tapeA k.conf.tape.length s.tapeC (ai k.conf.tape))=>IQ k.conf s.latA s.latC s.tapeA s.tapeC k.asked W pB h1 h2);have HP:=V (λ(W:World) (h:Rd W W.heap.size 4 s.busA k.bus.length s.busC (bg k.bus))=>LI s.busA k.bus.length s.busC k.bus kind line (kC k.conf k.asked) data W h Bz O);(simp only [kD,zL] at E);go_enter func83,ntmps83;go_upto_region 0 with ((try refine zs ?_);(first|refine fa ?_|(refine bJ ?_;clear E;intro Z J E)|(refine aq ?_;clear E;intro vN J E)));refine mA [24] aj E _ _ (λ_ h=>h) (λ_ h=>h) ?_;clear E;intro E G;refine cZ 0 G ?_;refine cZ 1 G ?_;refine zq 2 G ?_;refine bi 3 G ?_;refine bi 4 G ?_;refine lE 5 G ?_;refine cZ 6 G ?_;refine cZ 7 G ?_;refine cZ 8 G ?_;refine zq 9 G ?_;refine bi 10 G ?_;refine bi 11 G ?_;refine lE 12 G ?_;refine cZ 13 G ?_;refine zq 14 G ?_;refine bi 15 G ?_;refine bi 16 G ?_;refine lE 17 G ?_;refine cZ 19 G ?_;refine ev (rs:=[18]) aj aF (et F (λK X=>?_) dH.nil);go_wp2_with ((first|(refine tv ?_;clear E;intro J E)|(go_at_call 142;refine (HP.out _ E.rdA).mono ?_;rintro x J ⟨A2,c2,rfl,L⟩;replace E:=E.call1A L;clear L)|(refine bz F E F F ?_ (iv:=by rw [bM];decide);clear E;intro J E;(try simp only [zF] at E);refine zs ?_)|((first|refine aL ?_|(refine am ?_;clear E;intro Z J E));refine zs ?_)));have G:=aO G E;refine X.out _ _ (λ_=>G) ?_;clear X;refine zs ?_;refine ev (rs:=[20]) aj aF (et F (λK X=>?_) dH.nil);go_wp2_with ((first|(refine tv ?_;clear E;intro J E)|(go_at_call 142;refine (HP.out _ E.rdA).mono ?_;rintro x J ⟨A2,c2,rfl,L⟩;replace E:=E.call1A L;clear L)|(refine bz F E F F ?_ (iv:=by rw [bM];decide);clear E;intro J E;(try simp only [zF] at E);refine zs ?_)|((first|refine aL ?_|(refine am ?_;clear E;intro Z J E));refine zs ?_)));have G:=aO G E;refine X.out _ _ (λ_=>G) ?_;clear X;refine zs ?_;refine zq 21 G ?_;refine bi 22 G ?_;refine bi 23 G ?_;refine ev (rs:=[24]) aj aF (et F (λK X=>?_) dH.nil);go_wp2_with ((first|(refine tv ?_;clear E;intro J E)|(go_at_call 142;refine (HP.out _ E.rdA).mono ?_;rintro x J ⟨A2,c2,rfl,L⟩;replace E:=E.call1A L;clear L)|(refine bz F E F F ?_ (iv:=by rw [bM];decide);clear E;intro J E;(try simp only [zF] at E);refine zs ?_)|((first|refine aL ?_|(refine am ?_;clear E;intro Z J E));refine zs ?_)));(try clear G);refine X.out _ _ (jO 24 F aj) ?_;clear X;refine zs ?_
 refine mJ aj ?_ _
 ((rw [tG (k:=k) (q:=k.bus++[⟨kind,line,max (kC k.conf k.asked) 1,data⟩]) aF] at E);go_wp2_with ((try refine zs ?_);(first|refine fa ?_|(refine LU ?_;clear E;intro Z J E)|(refine aq ?_;clear E;intro vN J E)));go_end0;(rw [KD] at E);refine ⟨⟨_,rfl⟩,A2,c2,E.lessD ?_⟩;(simp only [kD,fy,DU,zL,ea,ft,uf]);((repeat (refine eZ au ?_));exact λd h=>by (repeat (first|exact h|refine eI _ ?_))))
inductive My (w0:World) (D0 D:List Da) (M:List Mu) (g:Nat) (k:ak) (s:em) (line:Nat) (w':World):Prop
 | mk (A1:Option Addr) (c1:Nat) (S1:List Cs) (A2:Option Addr) (c2:Nat) (hC:aZ S1=(jA k line).data)
  (E:St w0 D0 w' (.blk g 81 (ao (jA k line) { s with dA:=A1,dC:=c1,dS:=S1,busA:=A2,busC:=c2 })::M) (kD (jA k line) { s with dA:=A1,dC:=c1,dS:=S1,busA:=A2,busC:=c2 }++D))
def JJ {w0 w:World} {D0 D:List Da} {M:List Mu} {g:Nat} {k:ak} {s:em} {B:Int} (hk:KOk B k) (hD:aZ s.dS=k.data) (line:Nat) (a':line<4294967296)(E:St w0 D0 w (.blk g 81 (ao k s)::M) (kD k s++D)) :Ca 67 #[.pointer (some ⟨g,0,none⟩),U (line:Int)] w λx w'=>(∃ y,x = .returned y)/\My w0 D0 D M g k s line w':=by
 have ha:=hk.conf_lat;have hl:=Ay k.conf k.asked;have HL:=V (λ(W:World) (h1:Rd W W.heap.size 1 s.latA k.conf.lat.length s.latC (aE k.conf.lat)) (h2:Rd W W.heap.size 1 s.tapeA k.conf.tape.length s.tapeC (ai k.conf.tape))=>IQ k.conf s.latA s.latC s.tapeA s.tapeC k.asked W pB h1 h2);have hR:=Dd k.dways k.data k.bus k.mem line (kC k.conf k.asked);obtain ⟨C',q',b,hb⟩:∃ C' q' b,nS k.dways k.data k.bus k.mem line (kC k.conf k.asked)=(C',q',b):=⟨_,_,_,rfl⟩;have ac:=V (show jA k line={ k with data:=C',bus:=q',asked:=if b=true then k.asked+1 else k.asked } by unfold jA;dsimp only;rw [hb]);rw [hb] at hR;dsimp only at hR;have HB:=V (λ(W:World) (h1:bT W W.heap.size s.dA k.data.length s.dC s.dS) (h2:Rd W W.heap.size 4 s.busA k.bus.length s.busC (bg k.bus))=>PP h1 h2 hD hR hk.dok a' (by have:=hk.mem;unfold maxLen;omega) Bz (λr hr=>(hk.bus r hr).1) O);replace hR:=V hR;clear hb;(simp only [kD,zL] at E);cases b
 .simp only [Y (show ¬ (false=true) by decide)] at ac
  exact M9
 .simp only [aa F] at ac
  exact M9
def Xx (m:ByteArray) (a:Nat) (k:Int) (w:World) (hn:m.size<=9223372036854775807) (ha:a<4294967296) (hk:0<=k/\k<=9223372036854775807) :Ca 122 #[.string m,U (a:Int),I k] w λe w'=>(∃ y:Int,e = .returned (.tuple #[.string (fT m a k),I y]))/\af w w':=by
 have hr:dc m.size a k=Me.right m.size a k:=by
  rw [oT,Me.right_iff];simp [dc]
 unfold fT;cases h:Me.right m.size a k
 .rw [hr,h]
  refine (Me.Read_no m a k w hn ha O h).mono ?_;rintro e w' ⟨rfl,d,rfl⟩;exact ⟨⟨1,by simp⟩,af.drewN _ d⟩
 .rw [hr,h,aa F]
  obtain ⟨n,rfl⟩:∃ n:Nat,k=(n:Int):=⟨k.toNat,by omega⟩;refine (Me.Read_yes m a n w hn ha O h).mono ?_;rintro e w' ⟨rfl,d,rfl⟩;exact ⟨⟨0,rfl⟩,af.drewN _ d⟩
structure DW (c:Cf):Prop where
 mode:0<=c.mode/\c.mode<=2
 width:1<=c.width/\c.width<=2
 rob:2<=c.rob/\c.rob<=8
 queue:1<=c.queue/\c.queue<=4
 stores:1<=c.stores/\c.stores<=4
 slots:2<=c.slots/\c.slots<=6
 sets:1<=c.sets/\c.sets<=4
 ways:1<=c.ways/\c.ways<=2
 lat:c.lat.length<=64
 tape:c.tape.length<=64
def ru {c}(h:qc c=true):DW c:=by
 simp only [qc,mt,fi,iA] at h;obtain ⟨_,h0,h1,h2,h3,h4,h5,h6,_,h7,h8,h9⟩:=h;exact ⟨h0,h1,h2,h3,h4,h5,h6,h7,h8,h9⟩
def KOk.cf {B k}(h:KOk B k):DW k.conf:=ru h.conf
inductive Kept (w0:World) (D0 D:List Da) (M:List Mu) (g:Nat) (k:ak) (s:em) (w':World):Prop
 | mk (E:St w0 D0 w' (.blk g 81 (ao k s)::M) (kD k s++D))
def lI {w0 w D0 D M g k s B}(hk:KOk B k)(first)(E:St w0 D0 w (.blk g 81 (ao k s)::M) (kD k s++D)):Ca 82 #[.pointer (some ⟨g,0,none⟩),.bool first] w λx w'=>x = .returned (.bool (mw k first))/\Kept w0 D0 D M g k s w':=by
 have bb:=hk.cf.slots;have hR:Hid (mw k first=if first=true then decide ((rX k.bus:Int)<k.conf.slots) else decide ((rX k.bus:Int)<k.conf.slots - 1)):=V F;(simp only [kD,zL] at E);cases first
 .go_enter func82,ntmps82
  exact GP
 .go_enter func82,ntmps82
  exact GP
def PH {m ways A n c S Aq nq cq q As ns cs ss C w}(hr:bT w w.heap.size A n c S)(bd:Rd w w.heap.size 4 Aq nq cq (bg q))(be:Rd w w.heap.size 2 As ns cs (bD ss))(hC:aZ S=C)(hR:bj ways C)(j1:fX C)(hm:m.size<=256)(j0:nq<=1000000)(hq:∀ r∈q,r.line<4294967296)(bh:∀ p∈ss,p.addr<4294967296):Ca 123 #[.slice As ns cs,.agg #[I ways,.slice A n c],.slice Aq nq cq,.string m] w (RB w (.string (mX m (bZ q++dY C++ss)))):=by
 subst hC;obtain ⟨h1,h2⟩:=R4 hR;exact Zt m ways A n c S Aq nq cq q As ns cs ss w hr bd be eT j1.sok (by rw [jN,hr.slen] at h1;exact h1) h2 j0 hq bh
def um {w0 w D0 D M g k s B}(hk:KOk B k)(hD:aZ s.dS=k.data)(j4:s.stO=false)(e)(he:cC e)(E:St w0 D0 w (.blk g 81 (ao k s)::M) (kD k s++D)):Ca 65 #[.pointer (some ⟨g,0,none⟩),e.val] w λx w'=>x = .returned (.string (kO k e))/\Kept w0 D0 D M g k s w':=by
 have hm:=hk.mem;have bk:(cF k).size=k.mem.size:=zf _ _;have hR:Hid (kO k e=fT (cF k) e.addr (aU e.inst.op)):=V F
 have HA:=V (λ(W:World) (h1:bT W W.heap.size s.dA k.data.length s.dC s.dS) (h2:Rd W W.heap.size 4 s.busA k.bus.length s.busC (bg k.bus)) (h3:Rd W W.heap.size 2 s.stA k.stores.length s.stC (bD k.stores))=>show Ca 123 #[.slice s.stA k.stores.length s.stC,.agg #[I k.dways,.slice s.dA k.data.length s.dC],.slice s.busA k.bus.length s.busC,.string k.mem] W (λe w'=>e = .returned (.string (cF k))/\af W w') from
  PH h1 h2 h3 hD hk.data hk.dok hm Bz (λr hr=>(hk.bus r hr).1) (λp hp=>(hk.st p hp).1))
 have Bt:=V (λW=>mE e.inst W);have jT:=V (λW=>Xx (cF k) e.addr (aU e.inst.op) W O he.a (by have:=uj e.inst.op;omega));generalize cF k=V' at HA jT hR;obtain ⟨no,pc,⟨op,rd,rs1,rs2,imm⟩,guess,is,left,value,next,addr,halt,took,known,filled⟩:=e;unfold En.val;unfold Ins.val at Bt;dsimp only at Bt jT hR ⊢;clear bk he;simp only [kD,j4,bO,zL] at E;go_enter func65,ntmps65;go_upto_region 1 with ((try refine zs ?_);(first|refine fa ?_|(refine bJ ?_;clear E;intro Z J E)|(refine aq ?_;clear E;intro vN J E)));refine bA aj E _ _ (λ_ h=>h) (λ_ h=>h) ?_;clear E;intro E G;refine an 0 G ?_;refine zp 1 G ?_;refine az 2 G ?_;refine az 3 G ?_;refine fC 4 G ?_;refine an 5 G ?_;refine zp 6 G ?_;refine az 7 G ?_;refine az 8 G ?_;refine fC 9 G ?_;refine an 10 G ?_;refine zp 11 G ?_;refine az 12 G ?_;refine az 13 G ?_;refine fC 14 G ?_;refine an 15 G ?_;refine zp 16 G ?_;refine az 17 G ?_;refine az 18 G ?_;refine fC 19 G ?_;refine az 21 G ?_;refine fC 22 G ?_;refine az 23 G ?_;refine fC 24 G ?_;refine aB 20 (λK X=>?_);go_wp2_with ((first|(refine CT ?_;clear E;intro J E)|(go_at_call 122;refine (jT.out _).mono ?_;rintro x J ⟨⟨ye,rfl⟩,hb⟩;replace E:=E.grow hb;clear hb)));have G:=aO G E;refine X.out _ _ G ?_;clear X;refine zs ?_;refine aB 25 (λK X=>?_);go_wp2_with ((first|(refine CT ?_;clear E;intro J E)|(go_at_call 122;refine (jT.out _).mono ?_;rintro x J ⟨⟨ye,rfl⟩,hb⟩;replace E:=E.grow hb;clear hb)));have G:=aO G E;refine X.out _ _ G ?_;clear X;refine zs ?_;refine aB 26 (λK X=>?_);go_wp2_with ((first|(refine CT ?_;clear E;intro J E)|(go_at_call 122;refine (jT.out _).mono ?_;rintro x J ⟨⟨ye,rfl⟩,hb⟩;replace E:=E.grow hb;clear hb)));have G:=aO G E;refine X.out _ _ G ?_;clear X;refine zs ?_;refine an 27 G ?_;refine zp 28 G ?_;refine zp 29 G ?_;refine cA 30 G ?_;refine cA 31 G ?_;refine bt ?_;(go_wp2;go_ret;replace E:=E.drop 0;exact ⟨by rw [hR.out];rfl,⟨by simp only [kD,j4,bO,zL];exact E⟩⟩)
end
section
open Go.RowKit Wd
section
variable {B B':Int} {k:ak}
def KOk.up (h:KOk B k) (h1:B<=B') (h2:B'<=1000000):KOk B' k :=
 { h with cyc:=⟨h.cyc.1,qp h.cyc.2 h1⟩,next:=⟨h.next.1,qp h.next.2 h1⟩,buslen:=qp h.buslen h1,asked:=⟨h.asked.1,qp h.asked.2 h1⟩,guessed:=⟨h.guessed.1,qp h.guessed.2 h1⟩,retlen:=qp h.retlen h1,bound:=h2 }
def KOk.ask (h : KOk B k) (h2 : B + 1 <= 1000000) (kind : Int) {line : Nat} {data : ByteArray} (hl : line < 4294967296) (hd : data.size <= maxLen) : KOk (B + 1) (fy k kind line data) := by
  have hu := h.up (B' := B + 1) O h2;have bl := Ay k.conf k.asked;have ha := h.asked;have hbl := h.buslen;unfold fy DU
  exact { hu with
    asked := ⟨by show 0 <= k.asked + 1; omega, by show k.asked + 1 <= B + 1; omega⟩
    buslen := by show ((k.bus ++ [_]).length : Int) <= B + 1; rw [ea, mO]; omega
    bus := λr hr => by
      rcases dv.1 hr with hr | hr
      . exact h.bus r hr
      . obtain rfl := dm.1 hr; exact ⟨hl, hd⟩
    left := λr hr => by
      rcases dv.1 hr with hr | hr
      . exact h.left r hr
      . obtain rfl := dm.1 hr; dsimp only; omega }
def Mb (ways:Int) (C:List (List Wy)) (q:List Rq) (m:ByteArray) (x:Nat) (left:Int):(nS ways C q m x left).2.1=q \/ ∃ l d,(nS ways C q m x left).2.1=q++[⟨4,l,max left 1,d⟩]/\(nS ways C q m x left).2.2=true:=by
 unfold nS;split
 .exact .inl F
 .split
  .exact .inl F
  .dsimp only
   split
   .exact .inr ⟨_,_,rfl,rfl⟩
   .exact .inl F
def KOk.bring (h : KOk B k)(h2 : B + 1 <= 1000000){line}(hl : line < 4294967296): KOk (B + 1) (jA k line) := by
  have hu := h.up (B' := B + 1) O h2;have bl := Ay k.conf k.asked;have ha := h.asked;have hbl := h.buslen;have hm := h.mem;have hR := Dd k.dways k.data k.bus k.mem line (kC k.conf k.asked);have hq := Mb k.dways k.data k.bus k.mem line (kC k.conf k.asked);have h3 := hR.right h.data;have h4 := hR.cok h.dok hl (by rw [gy]; unfold maxLen; omega);have h5 := hR.qok h.dok h.bus;have h6 := hR.qlen;unfold jA;dsimp only;generalize nS k.dways k.data k.bus k.mem line (kC k.conf k.asked) = r at *
  exact { hu with
    data := h3
    dok := h4
    bus := h5
    buslen := by show ((r.2.1.length : Nat) : Int) <= B + 1; omega
    asked := by
      show 0 <= (if r.2.2 = true then k.asked + 1 else k.asked) /\ (if r.2.2 = true then k.asked + 1 else k.asked) <= B + 1;split <;> omega
    left := λx hx => by
      have m9 : x ∈ r.2.1 := hx;rcases hq with hq | ⟨l, d, hq, _⟩
      . rw [hq] at m9; exact h.left x m9
      . rw [hq] at m9
        rcases dv.1 m9 with m9 | m9
        . exact h.left x m9
        . obtain rfl := dm.1 m9; dsimp only; omega }
def Wl {q}(hb:∀ r∈q,r.line<4294967296/\r.data.size<=maxLen)(hl:∀ r∈q,-9223372036854775807<=r.left/\r.left<=9223372036854775807):(bU q).1.length<=q.length/\(∀ r∈(bU q).1,r.line<4294967296/\r.data.size<=maxLen) /\ ∀ r∈(bU q).1,-9223372036854775807<=r.left/\r.left<=9223372036854775807:=by
 cases q with
 | nil=>exact ⟨aM _,hb,hl⟩
 | cons r q=>
  have h0:=hl r (ee ..);by_cases h:0<r.left - 1
  .have e:bU (r::q)=({ r with left:=r.left - 1 }::q,none):=aa h
   rw [e];refine ⟨aM _,λx hx=>?_,λx hx=>?_⟩
   .rcases bB.1 hx with rfl|hx
    .exact hb r (ee ..)
    .exact hb x (ez _ hx)
   .rcases bB.1 hx with rfl|hx
    .dsimp only;omega
    .exact hl x (ez _ hx)
  .have e:bU (r::q)=(q,some { r with left:=r.left - 1 }):=Y h
   rw [e];exact ⟨Nat.le_succ _,λx hx=>hb x (ez _ hx),λx hx=>hl x (ez _ hx)⟩
def KOk.tick (h:KOk B k):KOk B { k with bus:=(bU k.bus).1 }:=by
 have h1:=Wl h.bus h.left;have h2:=h.buslen;exact { h with bus:=h1.2.1,left:=h1.2.2,buslen:=by show (((bU k.bus).1.length:Nat):Int)<=B;have:=h1.1;omega }
def GZ {q d}(h:(bU q).2=some d):∃ r∈q,d.line=r.line/\d.data=r.data/\d.kind=r.kind:=by
 cases q with
 | nil=>cases h
 | cons r q=>
  by_cases h0:0<r.left - 1
  .rw [show bU (r::q)=({ r with left:=r.left - 1 }::q,none) from aa h0] at h
   cases h
  .rw [show bU (r::q)=(q,some { r with left:=r.left - 1 }) from Y h0] at h
   injection h with h;subst h;exact ⟨r,ee ..,rfl,rfl,rfl⟩
def KOk.ticks (h:KOk B k) (h2:B+1<=1000000):KOk (B+1) (dr k):=by
 have h1:=h.tick;have hu:=h1.up (B':=B+1) O h2;unfold dr;dsimp only;cases ht:(bU k.bus).2 with
 | none=>exact hu
 | some d=>
  obtain ⟨r,hr,e1,e2,_⟩:=GZ ht;have hd:=h.bus r hr;rw [<- e1,<- e2] at hd;dsimp only;split
  .exact { hu with rob:=h1.rob.map λe he=>Yj he,roblen:=by show (k.rob.map _).length<=16;rw [gq];exact h.roblen }
  .split
   .have hp:=Es k.wways k.words d.line ⟨#[]⟩ false
    exact { hu with words:=hp.right h.words,wok:=hp.cok h.wok hd.1 ag }
   .split
    .exact h1.bring h2 hd.1
    .split
     .exact { hu with mem:=by show (dZ k.mem _).size<=256;rw [show (dZ k.mem [⟨d.line,d.data⟩]).size=k.mem.size from zf _ _];exact h.mem }
     .exact hu
def Te {regs:List Nat} {q:List En} (i:Nat) (h:dp q):dp (storeAt regs q i)/\(storeAt regs q i).length=q.length:=by
 unfold storeAt;split
 .exact ⟨h,rfl⟩
 .rename_i e he
  split
  .exact ⟨h,rfl⟩
  .split
   .exact ⟨h.set (UY (h e (aQ he))) i,cw ..⟩
   .exact ⟨h,rfl⟩
def DM {regs}:∀ (l:List Nat) {q:List En},dp q->dp (l.foldl (storeAt regs) q)/\(l.foldl (storeAt regs) q).length=q.length
 | [],q,h=>⟨h,rfl⟩
 | i::l,q,h=>by
  have h1:=Te (regs:=regs) i h;have h2:=DM (regs:=regs) l h1.1;exact ⟨h2.1,h2.2.trans h1.2⟩
def KOk.works (h:KOk B k):KOk B (bQ k):=by
 have h1:dp (k.rob.map goE):=h.rob.map λe he=>FR he
 have h2:=DM (regs:=k.regs) (List.range (k.rob.map goE).length) h1;have h3:(kp k.regs (k.rob.map goE)).length=k.rob.length:=h2.2.trans (gq ..);have h4:dp (kp k.regs (k.rob.map goE)):=h2.1;have hn:=h.roblen;unfold bQ;split
 .exact h
 .dsimp only
  generalize kp k.regs (k.rob.map goE)=q at *;have hq:KOk B { k with rob:=q }:={ h with rob:=h4,roblen:=by show q.length<=16;omega };split
  .exact hq
  .split
   .exact hq
   .rename_i i _ _ e he
    have H:=h4 e (aQ he);have hi:=(aK.1 he).1;have c1:dp (jk q i e):=(h4.take i).app (Th H);have c2:(jk q i e).length<=16:=by unfold jk;rw [ea,cK,mO];omega
    exact { h with fetch:=H.n,felen:=by show ([]:List Fe).length<=16;decide,fe:=λf hf=>(by cases hf),rob:=c1,roblen:=c2 }
def KG {e}(h:cC e):(aY e).pc<4294967296/\(aY e).next<4294967296/\(aY e).value<4294967296/\(aY e).addr<4294967296:=by
 have hp:=h.p;have hn:=h.n;have hv:=h.v;have ha:=h.a;have Q:=iU e.pc 4;unfold aY;split
 .refine ⟨hp,hp,by dsimp only;omega,?_⟩
  dsimp only;split <;> omega
 .split
  .exact ⟨hp,Q,hv,ha⟩
  .dsimp only
   have ad:(if bp e.inst≠0 then e.value else 0)<4294967296:=by split <;> omega
   split
   .exact ⟨hp,Q,ad,ha⟩
   .split
    .exact ⟨hp,Q,ad,by dsimp only;omega⟩
    .split
     .exact ⟨hp,hn,ad,by dsimp only;omega⟩
     .exact ⟨hp,Q,ad,by dsimp only;omega⟩
def QX {g:Gu}{pc next i}(h:ky g=true)(hs:∀ s∈g.slots,zr s)(hr:∀ x∈g.rets,x<4294967296)(hp:pc<4294967296)(hn:next<4294967296):ky (gw g pc next i)=true/\(∀ s∈(gw g pc next i).slots,zr s) /\ ∀ x∈(gw g pc next i).rets,x<4294967296:=by
 unfold gw;split
 .exact ⟨h,hs,hr⟩
 .have hg:=h
  simp only [ky,fi,iA] at hg;obtain ⟨h1,h2,h3⟩:=hg;have Q:=iU pc 4;refine ⟨?_,λs hm=>?_,λx hx=>?_⟩
  .simp only [ky,fi,iA,cw]
   refine ⟨h1,dy _ O,?_⟩
   repeat' split
   all_goals ((try simp only [nX,ea,mO,cK]);(try simp only [ea,mO] at *);omega)
  .rcases po hm with hm|rfl
   .exact hs s hm
   .exact ⟨hp,hn⟩
  .dsimp only at hx
   have al:∀ y∈g.rets++[ay pc 4],y<4294967296:=λy hy=>by
    rcases dv.1 hy with hy|hy
    .exact hr y hy
    .obtain rfl:=dm.1 hy;exact Q
   split at hx
   .split at hx
    .exact al x (sU hx)
    .exact al x hx
   .split at hx
    .exact hr x (jE hx)
    .exact hr x hx
def Bw (v:Nat) (n:Int):(fU v n).size=n.toNat:=by
 show (bytesL v n.toNat).toArray.size=n.toNat;rw [m5,qE]
def Xd {regs s}(hl:regs.length=32)(h:∀ x∈regs,x<4294967296)(hv:s.value<4294967296):(eU regs s).length=32 /\ ∀ x∈eU regs s,x<4294967296:=by
 unfold eU;split
 .refine ⟨by rw [cw];exact hl,λx hx=>?_⟩
  rcases po hx with hx|rfl
  .exact h x hx
  .exact hv
 .exact ⟨hl,h⟩
def Xf {e}(h:cC e): -9223372036854775808<=(aY e).halt/\(aY e).halt<=9223372036854775807:=by
 have hh:=h.2.2.2.2.2.2.2.2.2.1;unfold aY;dsimp only
 repeat' split
 all_goals (first|exact hh|(dsimp only;omega))
def KOk.retire (h : KOk B k) (h2 : B + 2 <= 1000000) : KOk (B + 2) (dw k).1 := by
  have hu := h.up (B' := B + 2) O h2;have hn := h.roblen;have hrl := h.retlen;have bb := h.stlen;have iy := h.cf.stores;unfold dw;split
  . exact hu
  . split
    . exact hu
    . rename_i e r eF
      have he := h.rob e (by rw [eF]; exact ee ..);have ht := KG he;have bm := Xf he;have bo : dp r := λx hx => h.rob x (by rw [eF]; exact ez _ hx)
      have bq : r.length <= 16 := by rw [eF, ft] at hn; omega
      have ap : ∀ s : Stp, ((k.retired ++ [s]).length : Int) <= B + 1 := λs => by rw [ea, mO]; omega
      split
      . exact hu
      . dsimp only
        split
        . exact { hu with retlen := qp (ap _) O, halt := bm, rob := λx hx => (by cases hx), roblen := by show ([] : List En).length <= 16; decide, felen := by show ([] : List Fe).length <= 16; decide, fe := λf hf => (by cases hf) }
        . split
          . exact hu
          . rename_i ij
            generalize aY e = s at *;have ha := Xd (regs := k.regs) (s := s) h.rlen h.regs ht.2.2.1;have hg := QX (g := k.guess) (pc := s.pc) (next := s.next) (i := e.inst) h.guess h.slots h.rets ht.1 ht.2.1;have br := h.up (B' := B + 1) O O;have hk1 : KOk (B + 1) { k with retired := k.retired ++ [s] } := { br with retlen := ap s };obtain ⟨k2, R, e1, e2, e3⟩ : ∃ k2, KOk (B + 1) k2 /\ k2 = (if gx s = true then { ({ k with retired := k.retired ++ [s] } : ak) with stores := k.stores ++ [⟨s.addr, fU s.value s.size⟩] } else { k with retired := k.retired ++ [s] }) /\ k2.regs = k.regs /\ k2.guess = k.guess := by
              refine ⟨_, ?_, rfl, ?_, ?_⟩
              . split
                . rename_i hsb
                  simp only [gx, fi, iA] at hsb;have hlt : (k.stores.length : Int) < k.conf.stores := by
                    rcases Int.lt_or_le (k.stores.length : Int) k.conf.stores with h | h
                    . exact h
                    . exact absurd ⟨hsb.1, h⟩ ij
                  exact { hk1 with
                    stlen := by show (k.stores ++ [_]).length <= 16; rw [ea, mO]; omega
                    st := λp hp => by
                      rcases dv.1 hp with hp | hp
                      . exact h.st p hp
                      . obtain rfl := dm.1 hp
                        exact ⟨ht.2.2.2, by show (fU s.value s.size).size <= 4; rw [Bw]; omega⟩ }
                . exact hk1
              . split <;> rfl
              . split <;> rfl
            rw [<- e1];obtain ⟨k3, bs, e4, e5, e6⟩ : ∃ k3, KOk (B + 2) k3 /\ k3 = (if ae e.inst.op = 3 then jA k2 s.addr else k2) /\ k3.regs = k.regs /\ k3.guess = k.guess := by
              refine ⟨_, ?_, rfl, ?_, ?_⟩
              . split
                . have := R.bring O ht.2.2.2
                  rwa [show B + 1 + 1 = B + 2 by omega] at this
                . exact R.up O h2
              . split
                . exact e2
                . exact e2
              . split
                . exact e3
                . exact e3
            rw [<- e4];rw [<- e5] at ha;rw [<- e6] at hg;exact { bs with regs := ha.2, rlen := ha.1, guess := hg.1, slots := hg.2.1, rets := hg.2.2, rob := bo, roblen := bq }
def MW {f:ak->ak × Bool} {c:Nat} (hf:∀ (B:Int) (k:ak),KOk B k->B+c<=1000000->KOk (B+c) (f k).1):∀ (n:Nat) {B:Int} {k:ak},KOk B k->B+c * n<=1000000->KOk (B+c * n) (gr f n k)
 | 0,B,k,h,hb=>by simpa [gr] using h
 | n+1,B,k,h,hb=>by
  have e:(c:Int) * ((n+1:Nat):Int)=c+c * n:=by rw [Int.natCast_add,Int.mul_add];simp;omega
  rw [e] at hb ⊢;have hc:(0:Int)<=(c:Int) * (n:Int):=Int.mul_nonneg O O;have h1:=hf B k h O;unfold gr;split
  .have:=MW hf n h1 O
   rwa [show B+c+c * n=B+(c+c * n) by omega] at this
  .exact h1.up O O
def Co {q regs i reg}(hq:dp q)(hr:∀ x∈regs,x<4294967296):(eg q regs i reg).1<4294967296:=by
 unfold eg;split
 .dsimp only;omega
 .split
  .dsimp only;omega
  .split
   .dsimp only
    cases h:regs[reg.toNat]? with
    | none=>simp
    | some x=>exact hr x (aQ h)
   .split
    .rename_i e he
     split
     .exact (hq e (aQ he)).v
     .dsimp only;omega
    .dsimp only;omega
def Oa {q regs i}(hq:dp q)(hr:∀ x∈regs,x<4294967296):(eC q regs i).1<4294967296/\(eC q regs i).2.1<4294967296:=by
 unfold eC;split
 .exact ⟨Co hq hr,Co hq hr⟩
 .exact ⟨by dsimp only;omega,by dsimp only;omega⟩
def KOk.setRob (h:KOk B k) {e:En} (he:cC e) (i:Nat):KOk B { k with rob:=k.rob.set i e } :=
 { h with rob:=h.rob.set he i,roblen:=by show (k.rob.set i e).length<=16;rw [cw];exact h.roblen }
def tI {x}(h:x<4294967296):dL x<4294967296:=by unfold dL;omega
def KOk.load (h:KOk B k) (h2:B+1<=1000000) (i:Nat):KOk (B+1) (fN k i):=by
 have hu:=h.up (B':=B+1) O h2;unfold fN;split
 .exact hu
 .rename_i e he
  have H:=h.rob e (aQ he);dsimp only;split
  .exact hu
  .split
   .exact hu.setRob (EC H) i
   .split
    .exact hu
    .split
     .exact hu.setRob (EC H) i
     .split
      .exact hu.setRob (Gf H) i
      .split
       .have hk:=h.ask h2 1 (line:=dL e.addr) (data:=⟨#[]⟩) (tI H.a) ag
        exact hk.setRob (Gf H) i
       .exact hu
def KOk.start (h:KOk B k) (h2:B+1<=1000000) (i:Nat):KOk (B+1) (startK k i):=by
 have hu:=h.up (B':=B+1) O h2;have hb:=Oa (i:=i) h.rob h.regs;unfold startK;split
 .exact hu
 .rename_i e he
  have H:=h.rob e (aQ he);dsimp only;split
  .exact hu.setRob (DN H) i
  .split
   .exact (h.setRob (DN H) i).load h2 i
   .exact hu.setRob (SC H hb.1 hb.2) i
def xp {width:Int} {kinds:List Int}:∀ (cs:List Bool) (i:Nat) (n:Int) (d m:Bool),((eK width kinds cs i n d m).length:Int)<=max (width - n) 0
 | [],_,_,_,_=>by simp [eK];omega
 | c::r,i,n,d,m=>by
  unfold eK;split
  .simp;omega
  .split
   .exact xp r (i+1) n d m
   .dsimp only
    split
    .exact xp r (i+1) n d m
    .have:=xp (width:=width) (kinds:=kinds) r (i+1) (n+1) (d || decide (kS (kinds[i]?.getD 0)=1)) (m || decide (kS (kinds[i]?.getD 0)=2))
     rw [ft];omega
def GG : ∀ (l:List Int) {B:Int} {k:ak},KOk B k->B+l.length<=1000000->KOk (B+l.length) (l.foldl (λk i=>startK k i.toNat) k)
 | [],B,k,h,hb=>by simpa using h
 | i::l,B,k,h,hb=>by
  rw [ft] at hb ⊢;have h1:=h.start O i.toNat;have:=GG l h1 O;rw [qX]
  rwa [show B+1+(l.length:Int)=B+((l.length+1:Nat):Int) by omega] at this
def KOk.starts (h:KOk B k) (h2:B+2<=1000000):KOk (B+2) (dJ k):=by
 have hw:=h.cf.width;have hp:=xp (width:=k.conf.width) (kinds:=zK k) (tC k) 0 0 (wj k) false;unfold dJ;split
 .exact h.up O h2
 .exact (GG _ h O).up O h2
def KOk.enter (h : KOk B k) (h2 : B + 1 <= 1000000) : KOk (B + 1) (iC k).1 := by
  have hu := h.up (B' := B + 1) O h2;have hn := h.next
  have hc := h.cf.rob;unfold iC;split
  . exact hu
  . rename_i hlt
    split
    . exact hu
    . rename_i f r hf
      have bu := h.fe f (by rw [hf]; exact ee ..);have hb := h.bound;have jx := h.felen
      exact { hu with
        rob := h.rob.app (Z3 O bu)
        roblen := by show (k.rob ++ [_]).length <= 16; rw [ea, mO]; omega
        next := ⟨by show 0 <= k.next + 1; omega, by show k.next + 1 <= B + 1; omega⟩
        felen := by show r.length <= 16; rw [hf, ft] at jx; omega
        fe := λx hx => h.fe x (by rw [hf]; exact ez _ hx) }
def R0 {g:Gu}{pc i}(hs:∀ s∈g.slots,zr s)(hr:∀ x∈g.rets,x<4294967296):oz g pc i<4294967296:=by
 have Q:=iU pc 4;unfold oz;split
 .exact Q
 .split
  .cases h:g.rets[g.rets.length - 1]? with
   | none=>simp
   | some x=>exact hr x (aQ h)
  .dsimp only
   split
   .cases h:g.slots[lx g pc]? with
    | none=>simp [s0]
    | some x=>exact (hs x (aQ h)).2
   .exact Q
def QH {c n pc}(ht:∀ x∈c.tape,x<4294967296):ra c n pc<4294967296:=by
 unfold ra;split
 .exact iU _ _
 .cases h:(bf c).tape[(max n 0 % (bf c).tape.length).toNat]? with
  | none=>simp
  | some x=>
   have hm:x∈(bf c).tape:=aQ h;exact ht x (jE hm)
def KOk.behind (h:KOk B k) (h2:B+1<=1000000) (w:Nat):(dG k w).1<4294967296/\KOk (B+1) (dG k w).2/\(dG k w).2.fetched=k.fetched:=by
 have hu:=h.up (B':=B+1) O h2;have Q:=iU k.fetch 4;have hg:=h.guessed;unfold dG;split
 .exact ⟨Q,hu,rfl⟩
 .split
  .exact ⟨Q,hu,rfl⟩
  .split
   .exact ⟨R0 h.slots h.rets,hu,rfl⟩
   .exact ⟨QH h.tape,{ hu with guessed:=⟨by show 0<=k.guessed+1;omega,by show k.guessed+1<=B+1;omega⟩ },rfl⟩
def KOk.fetch1 (h:KOk B k) (h2:B+1<=1000000):KOk (B+1) (iX k).1:=by
 have hu:=h.up (B':=B+1) O h2;have hq:=h.cf.queue;have hf:=h.fetch;have Q:=iU k.fetch 4;unfold iX;split
 .exact hu
 .rename_i ij
  have jx:k.fetched.length<=4:=by
   rcases qg 4 k.fetched.length with h|h
   .exact absurd (Or.inr O) ij
   .exact h
  have av:∀ x:Fe,uk x->(∀ f∈k.fetched++[x],uk f)/\(k.fetched++[x]).length<=16:=λx hx=>⟨λf hm=>by
   rcases dv.1 hm with hm|hm
   .exact h.fe f hm
   .obtain rfl:=dm.1 hm;exact hx,by rw [ea,mO];omega⟩
  split
  .have:=av ⟨k.fetch,ay k.fetch 4⟩ ⟨hf,Q⟩
   exact { hu with fe:=this.1,felen:=this.2 }
  .rename_i w _
   dsimp only;split
   .split
    .exact h.ask h2 2 (tI hf) ag
    .exact hu
   .have ht:=yr k.wways k.words (dL k.fetch)
    have hk1:KOk B { k with words:=me k.wways k.words (dL k.fetch) }:={ h with words:=ht.right h.words,wok:=ht.cok h.wok };have hb:=hk1.behind h2 w;have:=av ⟨k.fetch,(dG { k with words:=me k.wways k.words (dL k.fetch) } w).1⟩ ⟨hf,hb.1⟩;generalize dG { k with words:=me k.wways k.words (dL k.fetch) } w=r at *;exact { hb.2.1 with fetch:=hb.1,fe:=by show ∀ f∈r.2.fetched++[_],uk f;rw [hb.2.2];exact this.1,felen:=by show (r.2.fetched++[_]).length<=16;rw [hb.2.2];exact this.2 }
def Dg {ws:List Wy}{i j:Nat}{v x}(hv:ws[i]?=some v)(hx:(ws.set i ⟨v.line,false,v.data⟩)[j]?=some x):∃ y,ws[j]?=some y/\y.line=x.line/\y.data=x.data:=by
 by_cases hij:i=j
 .subst hij
  rw [jQ (aK.1 hv).1] at hx;injection hx with hx;subst hx;exact ⟨v,hv,rfl,rfl⟩
 .rw [mS hij] at hx
  exact ⟨x,hx,rfl,rfl⟩
def sa.right {ways C C' x}(h:sa ways C x C')(hR:bj ways C):bj ways C':=by
 cases h with
 | no k i h he=>subst he;exact hR
 | yes k i h ws v hw hv he=>
  subst he;have hs:=hR.hs k ws hw;refine hR.set_ ⟨by rw [cw];exact hs.1,λj y hy=>?_⟩;obtain ⟨z,hz,e1,e2⟩:=Dg hv hy;have:=hs.2 j z hz;unfold qO at this ⊢;rw [e1,e2] at this;refine ⟨this.1,this.2.1,this.2.2.1,λl hl u hu=>?_⟩;obtain ⟨u',bw,e3,_⟩:=Dg hv hu;rw [<- e3];exact this.2.2.2 l hl u' bw
def sa.cok {ways C C' x}(h:sa ways C x C')(ho:fX C):fX C':=by
 cases h with
 | no k i h he=>subst he;exact ho
 | yes k i h ws v hw hv he=>
  subst he;have bx:=ho.at_ hw;refine ho.set k λu hu=>?_
  obtain ⟨j,hj⟩:=oh.1 hu;obtain ⟨z,hz,e1,e2⟩:=Dg hv hj;have:=bx z (aQ hz)
  rwa [e1,e2] at this
def Mn {ways C}(ho:fX C)(h:(eR ways C).2=true):(eR ways C).1.line<4294967296/\(eR ways C).1.data.size<=maxLen:=by
 unfold eR at *;split at h
 .rename_i hr
  rw [aa hr];split at h
  .rename_i v hv
   obtain ⟨ws,hw,hm⟩:=vH.1 (List.mem_of_find?_eq_some hv);exact ho ws hw v hm
  .cases h
 .cases h
def KE (ways:Int) (ss:List Pu) (C:List (List Wy)):(∀ p∈(ff ways ss C).1,p∈ss)/\(ff ways ss C).1.length<=ss.length:=by
 unfold ff;split
 .exact ⟨λp h=>h,aM _⟩
 .split
  .exact ⟨λp h=>ez _ h,Nat.le_succ _⟩
  .exact ⟨λp h=>h,aM _⟩
def Tp {k2}(R:KOk (B+1) k2)(h2:B+2<=1000000):KOk (B+2) (if k2.stores≠[]\/k2.halt=0 then k2 else
  if (eR k2.dways k2.data).2=true/\(eR k2.dways k2.data).1.data.size≠0 then { fy k2 4 (eR k2.dways k2.data).1.line (eR k2.dways k2.data).1.data with data:=pg k2.dways k2.data (eR k2.dways k2.data).1.line } else k2):=by
 split
 .exact R.up O h2
 .split
  .rename_i hy
   have aw:=Mn R.dok hy.1;have hc:=yN k2.dways k2.data (eR k2.dways k2.data).1.line;have ha:=R.ask O 4 aw.1 aw.2;rw [show B+1+1=B+2 by omega] at ha;exact { ha with data:=hc.right R.data,dok:=hc.cok R.dok }
  .exact R.up O h2
def KOk.drains (h:KOk B k) (h2:B+2<=1000000):KOk (B+2) (lu k):=by
 have hd:=Df k.dways k.stores k.data;have hs:=KE k.dways k.stores k.data;have ij:=h.stlen;have hk1:KOk B { k with stores:=(ff k.dways k.stores k.data).1,data:=(ff k.dways k.stores k.data).2.1 } :=
  { h with stlen:=iG hs.2 ij,st:=λp hp=>h.st p (hs.1 p hp),data:=hd.right h.data,dok:=hd.cok h.dok }
 unfold lu;refine Tp ?_ h2;split
 .rename_i p r hb hp
  have bC:=hk1.st p (by rw [hp];exact ee ..);split
  .exact hk1.ask O 3 (tI bC.1) ag
  .exact hk1.up O O
 .exact hk1.up O O
def KOk.iter {f:ak->ak × Bool} (c:Nat) (hf:∀ (B:Int) (k:ak),KOk B k->B+c<=1000000->KOk (B+c) (f k).1) (h:KOk B k) {n:Nat} (hn:n<=2) (h2:B+2 * c<=1000000):KOk (B+2 * c) (gr f n k):=by
 have hc:(c:Int) * (n:Int)<=2 * c:=by
  have:c * n<=c * 2:=Nat.mul_le_mul_left c hn;have h3:((c * n:Nat):Int)<=((c * 2:Nat):Int):=by omega
  rw [m0,m0] at h3;omega
 exact (MW hf n h O).up O h2
def KOk.step (h:KOk B k) (h2:B+20<=1000000):KOk (B+20) (fB k):=by
 unfold fB;split
 .have hw:=h.cf.width
  have hc:=h.cyc;have hu:=h.up (B':=B+1) O O;have h0:KOk (B+1) { k with cycle:=k.cycle+1 }:={ hu with cyc:=⟨by show 0<=k.cycle+1;omega,by show k.cycle+1<=B+1;omega⟩ };have h3:=(h0.ticks O).works;generalize bQ (dr { k with cycle:=k.cycle+1 })=k3 at *;have h4:KOk (B+6) (eA k3):=by
   have bF:=h3.cf.width;have:=h3.iter 2 (f:=dw) (λB k h hb=>h.retire hb) (n:=k3.conf.width.toNat) O O;exact this.up O O
  have h5:=h4.starts O;generalize dJ (eA k3)=k5 at *;have h6:KOk (B+10) (fP k5):=by
   have bG:=h5.cf.width;unfold fP;split
   .exact h5.up O O
   .exact (h5.iter 1 (f:=iC) (λB k h hb=>h.enter hb) (n:=k5.conf.width.toNat) O O).up O O
  generalize fP k5=k6 at *;have h7:KOk (B+12) (fo k6):=by
   have bL:=h6.cf.width;unfold fo;split
   .exact h6.up O O
   .exact (h6.iter 1 (f:=iX) (λB k h hb=>h.fetch1 hb) (n:=k6.conf.width.toNat) O O).up O O
  exact (h7.drains O).up O h2
 .exact h.up O h2
end
end
section
open Go.RowKit Wd
def pW {a b n}(h:a<=b):a<=bE a b n/\bE a b n<=b:=by
 unfold bE;split <;> omega
def zw (c):qc (bf c)=true:=by
 have h1:=pW (a:=0) (b:=2) (n:=c.mode) O;have h2:=pW (a:=1) (b:=2) (n:=c.width) O;have h3:=pW (a:=2) (b:=8) (n:=c.rob) O;have h4:=pW (a:=1) (b:=4) (n:=c.queue) O;have h5:=pW (a:=1) (b:=4) (n:=c.stores) O;have h6:=pW (a:=2) (b:=6) (n:=c.slots) O;have h7:=pW (a:=1) (b:=4) (n:=c.sets) O;have h8:=pW (a:=1) (b:=2) (n:=c.ways) O;have h9:=B1 c;have hl:(bf c).lat.all (mt 1 8)=true:=by
  rw [uS];intro x hx;simp only [bf,fQ] at hx;obtain ⟨y,_,rfl⟩:=hx;have:=pW (a:=1) (b:=8) (n:=y) O;simp only [mt,fi,iA];exact this
 have hs:1<=(bf c).sets/\(bf c).sets<=4/\(bf c).sets≠3:=by
  show 1<=(if bE 1 4 c.sets=3 then 2 else bE 1 4 c.sets)/\_<=(4:Int)/\_;dsimp only [bf];split <;> omega
 unfold qc;rw [hl];simp only [mt,kb,fi,iA];exact ⟨h1,h2,h3,h4,h5,h6,⟨hs.1,hs.2.1⟩,hs.2.2,h8,h9.1,h9.2⟩
def BX {c}(h:DW c)(h3:c.sets≠3):bj c.ways (List.replicate c.sets.toNat []):=by
 have h1:=h.sets;have h2:=h.ways;refine ⟨by rw [qj];omega,by omega,λk s hs=>?_⟩;obtain rfl:s=[]:=qN (aQ hs);exact ⟨by simp;omega,λi v hv=>by simp at hv⟩
def Hu (n:Nat):fX (List.replicate n []):=λws hw v hv=>by
 obtain rfl:=qN hw;cases hv
def LZ {c prog m}(ht : ∀ x ∈ c.tape, x < 4294967296)(hp : ∀ x ∈ prog, x < 4294967296): KOk 1 (gm c prog m) := by
  have hr := zw c;have hb := ru hr;have h3 : (bf c).sets ≠ 3 := by
    dsimp only [bf];split <;> omega
  have hm : (ou m).size <= 256 := by
    show (Me.cleanL m.data.toList).toArray.size <= 256;rw [m5];rw [Me.cleanL_len];have := Me.cleanN_cases (min 256 m.data.toList.length);omega
  exact {
    conf := hr
    tape := λx hx => ht x (jE hx)
    plen := by show (prog.take 64).length <= 64; rw [cK]; omega
    prog := λx hx => hp x (jE hx)
    cyc := by show (0 : Int) <= 0 /\ (0 : Int) <= 1; omega
    rlen := qj ..
    regs := λx hx => by rw [qN hx]; omega
    fetch := by show 0 < 4294967296; omega
    felen := by show 0 <= 16; omega
    fe := λf hf => by cases hf
    roblen := by show 0 <= 16; omega
    rob := λf hf => by cases hf
    next := by show (0 : Int) <= 1 /\ (1 : Int) <= 1; omega
    stlen := by show 0 <= 16; omega
    st := λp hp => by cases hp
    data := BX hb h3
    dok := Hu _
    words := BX hb h3
    wok := Hu _
    buslen := by show (0 : Int) <= 1; omega
    bus := λr hr => by cases hr
    left := λr hr => by cases hr
    asked := by show (0 : Int) <= 0 /\ (0 : Int) <= 1; omega
    guessed := by show (0 : Int) <= 0 /\ (0 : Int) <= 1; omega
    mem := hm
    guess := by show ky wP = true; decide
    slots := λs hs => by rw [qN hs]; exact ⟨by show 0 < 4294967296; omega, by show 0 < 4294967296; omega⟩
    rets := λx hx => by cases hx
    halt := by show (-9223372036854775808 : Int) <= 0 /\ (0 : Int) <= 9223372036854775807; omega
    retlen := by show (0 : Int) <= 1; omega
    bound := by omega }
end
section
open Go.RowKit Wd
def aP (P:En->Prop) (q:List En):Prop:=∀ e∈q,P e
structure mV (P:En->Prop):Prop where
 go:∀ e,P e->P (goE e)
 take:∀ e b,P e->P (gc e b)
 fill:∀ e,P e->P { e with filled:=true }
 start:∀ e a b,P e->P (dX e a b)
 addr:∀ e n a,P e->P (eo e n a)
 store:∀ e b,P e->P (jm e b)
 cut:∀ e,P e->P { e with guess:=e.next }
 bus:∀ e,P e->P { e with is:=2 }
structure EP (P:En->Prop):Prop extends mV P where
 enter:∀ no f prog,P (dh no f prog)
section
variable {P:En->Prop} {q:List En} {k:ak}
def aP.map {f:En->En} (h:aP P q) (hf:∀ e,P e->P (f e)):aP P (q.map f):=λr hr=>by
 obtain ⟨e,he,rfl⟩:=fQ.1 hr;exact hf e (h e he)
def aP.set {e:En} (h:aP P q) (he:P e) (i:Nat):aP P (q.set i e):=λr hr=>by
 rcases po hr with h1|rfl
 .exact h r h1
 .exact he
def aP.app {e}(h:aP P q)(he:P e):aP P (q++[e]):=λr hr=>by
 rcases dv.1 hr with h1|h1
 .exact h r h1
 .obtain rfl:=dm.1 h1;exact he
def mV.filled (C:mV P) (k:ak) (x:Nat) (e:En) (h:P e):P (fH k x e):=by
 unfold fH;split
 .exact C.take _ _ (C.fill _ h)
 .exact h
def aP.ticks (C:mV P) (h:aP P k.rob):aP P (dr k).rob:=by
 unfold dr;dsimp only;cases (bU k.bus).2 with
 | none=>exact h
 | some d=>
  dsimp only;split
  .exact h.map λe he=>C.filled _ _ e he
  .split
   .exact h
   .split
    .exact h
    .split
     .exact h
     .exact h
def PE (C:mV P) {regs:List Nat} (i:Nat) (h:aP P q):aP P (storeAt regs q i):=by
 unfold storeAt;split
 .exact h
 .rename_i e he
  split
  .exact h
  .split
   .exact h.set (C.store _ _ (h e (aQ he))) i
   .exact h
def Fl (C:mV P){regs}:∀ (l:List Nat) {q:List En},aP P q->aP P (l.foldl (storeAt regs) q)
 | [],q,h=>h
 | i::l,q,h=>Fl C l (PE C i h)
def aP.works (C:mV P) (h:aP P k.rob):aP P (bQ k).rob:=by
 have h4:aP P (kp k.regs (k.rob.map goE)):=Fl C _ (h.map C.go);unfold bQ;split
 .exact h
 .dsimp only
  generalize kp k.regs (k.rob.map goE)=q at *;split
  .exact h4
  .split
   .exact h4
   .rename_i i _ _ e he
    exact aP.app (λr hr=>h4 r (jE hr)) (C.cut _ (h4 e (aQ he)))
def aP.retire (h:aP P k.rob):aP P (dw k).1.rob:=by
 unfold dw;split
 .exact h
 .split
  .exact h
  .rename_i e r eF
   have hr:aP P r:=λx hx=>h x Bn
   split
   .exact h
   .dsimp only
    split
    .exact λx hx=>(by cases hx)
    .split
     .exact h
     .exact hr
def aP.load (C:mV P) (h:aP P k.rob) (i:Nat):aP P (fN k i).rob:=by
 unfold fN;split
 .exact h
 .rename_i e he
  have H:=h e (aQ he);dsimp only;split
  .exact h
  .split
   .exact h.set (C.take _ _ H) i
   .split
    .exact h
    .split
     .exact h.set (C.take _ _ H) i
     .split
      .exact h.set (C.bus _ H) i
      .split
       .exact h.set (C.bus _ H) i
       .exact h
def aP.start (C:mV P) (h:aP P k.rob) (i:Nat):aP P (startK k i).rob:=by
 unfold startK;split
 .exact h
 .rename_i e he
  have H:=h e (aQ he);dsimp only;split
  .exact h.set (C.addr _ _ _ H) i
  .split
   .exact aP.load (k:={ k with rob:=k.rob.set i (eo e k.mem.size (eC k.rob k.regs i).1) }) C (h.set (C.addr _ _ _ H) i) i
   .exact h.set (C.start _ _ _ H) i
def JV (C:mV P):∀ (l:List Int) {k:ak},aP P k.rob->aP P (l.foldl (λk i=>startK k i.toNat) k).rob
 | [],k,h=>h
 | i::l,k,h=>JV C l (h.start C i.toNat)
def aP.starts (C:mV P) (h:aP P k.rob):aP P (dJ k).rob:=by
 unfold dJ;split
 .exact h
 .exact JV C _ h
def aP.enter1 (he:∀ no f,P (dh no f k.prog)) (h:aP P k.rob):aP P (iC k).1.rob:=by
 unfold iC;split
 .exact h
 .split
  .exact h
  .exact h.app (he _ _)
def WQ (k:ak) (w:Nat):(dG k w).2.rob=k.rob:=by
 unfold dG
 repeat' split
 all_goals rfl
def i2y (k):(iX k).1.rob=k.rob:=by
 unfold iX;split
 .rfl
 .split
  .rfl
  .dsimp only
   split
   .split
    .rfl
    .rfl
   .exact WQ _ _
def yO (k):(lu k).rob=k.rob:=by
 unfold lu;dsimp only
 repeat' split
 all_goals rfl
def Eu {f:ak->ak × Bool} (hf:∀ k,aP P k.rob->aP P (f k).1.rob):∀ (n:Nat) {k:ak},aP P k.rob->aP P (gr f n k).rob
 | 0,k,h=>h
 | n+1,k,h=>by
  unfold gr;split
  .exact Eu hf n (hf k h)
  .exact hf k h
def aP.retires (h:aP P k.rob):aP P (eA k).rob:=Eu (λk h=>h.retire) _ h
def T7 (k):(iC k).1.prog=k.prog:=by
 unfold iC
 repeat' split
 all_goals rfl
def Md {prog:List Nat} (he:∀ no f,P (dh no f prog)):∀ (n:Nat) {k:ak},k.prog=prog->aP P k.rob->aP P (gr iC n k).rob
 | 0,k,_,h=>h
 | n+1,k,hp,h=>by
  unfold gr;split
  .exact Md he n ((T7 k).trans hp) (h.enter1 (by rw [hp];exact he))
  .exact h.enter1 (by rw [hp];exact he)
def aP.enters (he:∀ no f,P (dh no f k.prog)) (h:aP P k.rob):aP P (fP k).rob:=by
 unfold fP;split
 .exact h
 .exact Md he _ F h
def aP.fetches (h:aP P k.rob):aP P (fo k).rob:=by
 unfold fo;split
 .exact h
 .exact Eu (λk h=>by rw [i2y];exact h) _ h
def aP.drains (h:aP P k.rob):aP P (lu k).rob:=by rw [yO];exact h
def aP.step0 (C:mV P) (h:aP P k.rob) (he:∀ no f,P (dh no f (dJ (eA (bQ (dr { k with cycle:=k.cycle+1 })))).prog)):aP P (fB k).rob:=by
 unfold fB;split
 .have h0:aP P ({ k with cycle:=k.cycle+1 }:ak).rob:=h
  exact ((((((h0.ticks C).works C).retires).starts C).enters he).fetches).drains
 .exact h
def aP.step (C:EP P) (h:aP P k.rob):aP P (fB k).rob:=h.step0 C.tomV (λ_ _=>C.enter _ _ _)
end
def Hw : EP (λe=>l9 e.left) where
 go e h:=by
  unfold goE l9 at *
  repeat' split
  all_goals (first|omega|(dsimp only at *;omega))
 take e b h:=by
  unfold gc l9 at *
  repeat' split
  all_goals (first|omega|(dsimp only at *;omega))
 fill e h:=h
 start e a b h:=by
  have ht:=ID e.inst.op a b;unfold dX l9 at *;dsimp only
  repeat' split
  all_goals (first|omega|(dsimp only at *;omega))
 addr e n a h:=by
  unfold eo l9 at *
  repeat' split
  all_goals (first|omega|(dsimp only at *;omega))
 store e b h:=by
  unfold jm l9 at *
  repeat' split
  all_goals (first|omega|(dsimp only at *;omega))
 cut e h:=h
 bus e h:=h
 enter no f prog:=by
  unfold dh l9;dsimp only
  repeat' split
  all_goals (first|omega|(dsimp only;omega))
end
section
open Go.RowKit Wd
def tE (i:Ins):Prop:=(0<=i.rs1/\i.rs1<=31)/\(0<=i.rs2/\i.rs2<=31)
def Qz (e):(goE e).inst=e.inst:=by
 unfold goE
 repeat' split
 all_goals rfl
def Mj (e b):(gc e b).inst=e.inst:=by
 unfold gc
 repeat' split
 all_goals rfl
def Si (e a b):(dX e a b).inst=e.inst:=by
 unfold dX;dsimp only
 repeat' split
 all_goals rfl
def xV (e n a):(eo e n a).inst=e.inst:=by
 unfold eo
 repeat' split
 all_goals rfl
def Re (e:En) (b:Nat):(jm e b).inst=e.inst:=by
 unfold jm
 repeat' split
 all_goals rfl
def Sh (k:ak) (x:Nat) (e:En):(fH k x e).inst=e.inst:=by
 unfold fH;split
 .exact Mj _ _
 .rfl
def Bj (w:Nat) (a:Int):aV w a 5<32:=by
 unfold aV;split
 .exact fJ Nat.and_le_right ag
 .omega
def Ej {b:Bool} {x:Nat} (h:x<32):0<=(if b=true then (x:Int) else 0)/\(if b=true then (x:Int) else 0)<=31:=by
 cases b
 .simp
 .rw [aa F];omega
def Nv {w i}(h:df w=some i):tE i:=by
 unfold df at h;split at h
 .injection h with h
  subst h;exact ⟨Ej (Bj _ _),Ej (Bj _ _)⟩
 .cases h
def ZA (no:Int) (f:Fe) (prog:List Nat):tE (dh no f prog).inst:=by
 have hz:tE lF:=by unfold lF tE;dsimp only;omega
 unfold dh;dsimp only;split
 .exact hz
 .split
  .exact hz
  .rename_i i hd
   have:=Nv hd
   repeat' split
   all_goals exact this
def fY (q:List En):Prop:=∀ e∈q,tE e.inst
def fY.map {q}{f:En->En}(h:fY q)(hf:∀ e,(f e).inst=e.inst):fY (q.map f):=λr hr=>by
 obtain ⟨e,he,rfl⟩:=fQ.1 hr;rw [hf];exact h e he
def fY.set {q:List En} {e:En} (h:fY q) (he:tE e.inst) (i:Nat):fY (q.set i e):=λr hr=>by
 rcases po hr with h1|rfl
 .exact h r h1
 .exact he
def fY.app {q e}(h:fY q)(he:tE e.inst):fY (q++[e]):=λr hr=>by
 rcases dv.1 hr with h1|h1
 .exact h r h1
 .obtain rfl:=dm.1 h1;exact he
def NN {regs:List Nat} {q:List En} (i:Nat) (h:fY q):fY (storeAt regs q i):=by
 unfold storeAt;split
 .exact h
 .rename_i e he
  split
  .exact h
  .split
   .exact h.set (by rw [Re];exact h e (aQ he)) i
   .exact h
def LB {regs}:∀ (l:List Nat) {q:List En},fY q->fY (l.foldl (storeAt regs) q)
 | [],q,h=>h
 | i::l,q,h=>LB (regs:=regs) l (NN i h)
def uO (k:ak) (s:em) (A:Option Addr) (c:Nat):em:={ s with robA:=A,robC:=c,feC:=k.fetched.length,stC:=k.stores.length,busC:=k.bus.length,reC:=k.retired.length }
inductive NQ (w0:World) (D0 D:List Da) (M:List Mu) (g:Nat) (k:ak) (s:em) (w':World):Prop
 | mk (A:Option Addr) (c:Nat) (hc:k.rob.length<=c) (hm:c<=maxLen) (E:St w0 D0 w' (.blk g 81 (ao k (uO k s A c)) :: .row A 54 (ens k.rob)::M) (kD k (uO k s A c)++D))
def Sz {w0 w D0 D M g k s B}(hk:KOk B k)(aD:s.feO=false)(aH:s.stO=false)(aR:s.reO=false)(E:St w0 D0 w (.blk g 81 (ao k s)::M) (ab 17 s.robA k.rob.length s.robC (ens k.rob)::(kD k s++D))):Ca 30 #[.pointer (some ⟨g,0,none⟩)] w λx w'=>(∃ y,x = .returned y)/\NQ w0 D0 D M g k s w':=by
 have HC:=V (λ(W:World) (h:Rd W W.heap.size 17 s.robA k.rob.length s.robC (ens k.rob))=>Ty s.robA k.rob.length s.robC k.rob W h (by have:=hk.roblen;omega));simp only [kD,aD,aH,aR,bO,zL] at E;have r1:=E.rdA (A:=s.feA) (n:=k.fetched.length) (c:=s.feC) (sz:=2) (xs:=jF k.fetched);have r2:=E.rdA (A:=s.stA) (n:=k.stores.length) (c:=s.stC) (sz:=2) (xs:=bD k.stores);have r3:=E.rdA (A:=s.busA) (n:=k.bus.length) (c:=s.busC) (sz:=4) (xs:=bg k.bus);have r4:=E.rdA (A:=s.reA) (n:=k.retired.length) (c:=s.reC) (sz:=9) (xs:=gU k.retired);have H1:=V (λW=>VW s.feA k.fetched.length s.feC W r1.le r1.mx);have H2:=V (λW=>i1f s.stA k.stores.length s.stC W r2.le r2.mx);have H3:=V (λW=>Xj s.busA k.bus.length s.busC W r3.le r3.mx);have H4:=V (λW=>Vw s.reA k.retired.length s.reC W r4.le r4.mx);have l1:=r1.len;have l2:=r2.len;have l3:=r3.len;have l4:=r4.len;replace l1:=V l1;replace l2:=V l2;replace l3:=V l3;replace l4:=V l4;clear r1 r2 r3 r4;go_enter func30,ntmps30;go_wp2_with ((try refine zs ?_);(first|(go_at_call 57;refine (HC.out _ E.rdA).mono ?_;rintro x J ⟨v,rfl,hb,ho⟩;replace E:=E.pushOwn hb ho;clear hb ho;obtain ⟨A1,c1,rfl,hc1,aN,ic⟩:=E.ownRow aC;clear E;have E:=ic;clear ic;(try simp only [zF] at E))|(refine OP ?_;clear E;intro Z J E)|refine nB ?_|(refine aq ?_;clear E;intro vN J E)));go_end0;replace E:=E.swap;rw [xh (k:=k) (s:=s) k.rob F,ve k.fetched F,Aj k.stores F,tG k.bus F,Ep k.retired F] at E;replace E:=E.clip (sz:=2) (A:=s.feA) (n:=k.fetched.length) (c:=s.feC) (xs:=jF k.fetched) (N:=k.fetched.length) au (aM _);rw [cD (Nat.le_of_eq l1.out)] at E;replace E:=E.clip (sz:=2) (A:=s.stA) (n:=k.stores.length) (c:=s.stC) (xs:=bD k.stores) (N:=k.stores.length) au (aM _);rw [cD (Nat.le_of_eq l2.out)] at E;replace E:=E.clip (sz:=4) (A:=s.busA) (n:=k.bus.length) (c:=s.busC) (xs:=bg k.bus) (N:=k.bus.length) au (aM _);rw [cD (Nat.le_of_eq l3.out)] at E;replace E:=E.clip (sz:=9) (A:=s.reA) (n:=k.retired.length) (c:=s.reC) (xs:=gU k.retired) (N:=k.retired.length) au (aM _);rw [cD (Nat.le_of_eq l4.out)] at E;refine ⟨⟨_,rfl⟩,NQ.mk _ _ hc1 aN (E.lessD ?_)⟩;simp only [kD,uO,aD,aH,aR,bO,zL];exact lN
end
end Go.Proofs.YtgnomadgnciifaaGreatDoor
