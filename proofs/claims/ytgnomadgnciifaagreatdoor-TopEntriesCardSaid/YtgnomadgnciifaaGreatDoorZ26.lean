/- . -/
import Derived.Test.YtgnomadgnciifaaGreatDoorZ25
import Derived.Test.YtgnomadgnciifaaGreatDoorZ19
import Derived.Test.YtgnomadgnciifaaGreatDoorZ20
import Derived.Lib.LazyBuf
set_option linter.all false
set_option maxRecDepth 100000
set_option maxHeartbeats 16000000
namespace Go.Proofs.YtgnomadgnciifaaGreatDoor
open Go.Proofs.Tryz
def AY {p:Prop} (h:p:=by
 go_wp2_with ((try refine zs ?_);(first|refine Ti ?_|(refine bJ ?_;clear E;intro Z J E)|(refine aq ?_;clear E;intro vN J E)));go_ret
 exact ⟨rfl,E.bel⟩):p:=h
section
open Go.RowKit Wd
def uj (op:Int):0<=aU op/\aU op<=4:=by
 unfold aU
 repeat' split
 all_goals omega
def ID (op:Int) (a b:Nat) : -40<=eJ op a b/\eJ op a b<=40:=by
 unfold eJ;have h1:=tw 32 (aR op a);have h2:=tw 32 (aR op b)
 repeat' split
 all_goals omega
def cC.upd {e f}(h:cC e)(iz:f.no=e.no)(hpc:f.pc=e.pc)(hi:f.inst=e.inst)(hg:f.guess<4294967296)(gY:0<=f.is/\f.is<=9223372036854775807\/f.is=e.is)(hl : I6 f.left)(hv:f.value<4294967296)(hn:f.next<4294967296)(ha:f.addr<4294967296)(hh:0<=f.halt/\f.halt<=100\/f.halt=e.halt)(ht : -40<=f.took/\f.took<=40\/f.took=e.took):cC f:=by
 obtain ⟨h1,h2,h3,h4,h5,R,h7,h8,h9,G,H,_⟩:=h;refine ⟨by rw [iz];exact h1,by rw [hpc];exact h2,by rw [hi];exact h3,hg,?_,hl,hv,hn,ha,?_,?_,di,di⟩
 .rcases gY with h|h
  .omega
  .rw [h];exact h5
 .rcases hh with h|h
  .omega
  .rw [h];exact G
 .rcases ht with h|h
  .omega
  .rw [h];exact H
def cC.l {e}(h:cC e): I6 e.left:=h.2.2.2.2.2.1
def cC.g {e}(h:cC e):e.guess<4294967296:=h.2.2.2.1
def cC.v {e}(h:cC e):e.value<4294967296:=h.2.2.2.2.2.2.1
def cC.n {e}(h:cC e):e.next<4294967296:=h.2.2.2.2.2.2.2.1
def cC.a {e}(h:cC e):e.addr<4294967296:=h.2.2.2.2.2.2.2.2.1
def cC.p {e}(h:cC e):e.pc<4294967296:=h.2.1
def cC.imm {e}(h:cC e):e.inst.imm<4294967296:=h.2.2.1.2.2.2.2
def FR {e}(h:cC e):cC (goE e):=by
 have hl:=h.l;unfold goE;split
 .exact h
 .split
  ·(refine h.upd F F F ?_ ?_ ?_ ?_ ?_ ?_ ?_ ?_ <;> first|exact h.g|exact h.v|exact h.n|exact h.a|exact h.l|exact .inr F|exact .inl ag|exact iU _ _|exact uV _ _ _ _|(dsimp only;omega))
  ·(refine h.upd F F F ?_ ?_ ?_ ?_ ?_ ?_ ?_ ?_ <;> first|exact h.g|exact h.v|exact h.n|exact h.a|exact h.l|exact .inr F|exact .inl ag|exact iU _ _|exact uV _ _ _ _|(dsimp only;omega))
def EC {e b}(h:cC e):cC (gc e b):=by
 unfold gc;split
 .exact h
 .have hv:(if bp e.inst≠0 then iI e.inst.op b else 0)<4294967296:=by
   split
   .exact IW
   .omega
  refine h.upd F F F h.g (.inl jc) jc hv h.n h.a (.inr F) (.inr F)
def SC {e a b}(h:cC e)(ha:a<4294967296)(hb:b<4294967296):cC (dX e a b):=by
 have hv:(if bp e.inst≠0 then jw e.inst e.pc a b else 0)<4294967296:=by
  split
  .exact G5 _ _ ha hb h.imm
  .omega
 have ht:=ID e.inst.op a b;unfold dX;split
 .exact h
 .dsimp only
  split
  .exact h.upd F F F h.g (.inl jc) jc hv (iU _ _) h.a (.inr F) (.inr F)
  .split
   .exact h.upd F F F h.g (.inl jc) jc hv (iU _ _) h.a (.inr F) (.inl ht)
   .split
    .split
     .exact h.upd F F F h.g (.inl jc) jc hv (uV _ _ _ _) h.a (.inr F) (.inr F)
     .exact h.upd F F F h.g (.inl jc) jc jc (iU _ _) h.a (.inl jc) (.inr F)
    .exact h.upd F F F h.g (.inl jc) jc hv (iU _ _) h.a (.inr F) (.inr F)
def DN {e n a}(h:cC e):cC (eo e n a):=by
 unfold eo;split
 .exact h
 .split
  .exact h.upd F F F h.g (.inr F) h.l h.v h.n (iU _ _) (.inr F) (.inr F)
  .refine h.upd F F F h.g (.inl jc) h.l h.v h.n (iU _ _) (.inl ?_) (.inr F)
   dsimp only;split <;> decide
def UY {e b}(h:cC e):cC (jm e b):=by
 unfold jm;split
 .exact h
 .exact h.upd F F F h.g (.inl jc) h.l (Oi _ (uj _)) h.n h.a (.inr F) (.inr F)
def Th {e}(h:cC e):cC { e with guess:=e.next }:=h.upd F F F h.n (.inr F) h.l h.v h.n h.a (.inr F) (.inr F)
def Gf {e}(h:cC e):cC { e with is:=2 }:=h.upd F F F h.g (.inl jc) h.l h.v h.n h.a (.inr F) (.inr F)
def NG {e}(h:cC e):cC { e with filled:=true }:=h.upd F F F h.g (.inr F) h.l h.v h.n h.a (.inr F) (.inr F)
def Yj {k x e}(h:cC e):cC (fH k x e):=by
 unfold fH;split
 .exact EC (NG h)
 .exact h
def Di {b:Bool} {x:Nat} (h:x<4294967296) : -9223372036854775808<=(if b=true then (x:Int) else 0)/\(if b=true then (x:Int) else 0)<=9223372036854775807:=by
 cases b
 .simp
 .rw [aa F];omega
def i1b {p:Prop}[Decidable p]{x y}(hx:x<4294967296)(hy:y<4294967296):(if p then x else y)<4294967296:=by split <;> assumption
def WP (op:Int) (w:Nat) (ho : I6 op):tj (bn op w):=by
 have h1:=fh w 7 5;have h2:=fh w 15 5;have h3:=fh w 20 5;unfold bn;dsimp only;refine ⟨ho,?_,?_,?_,?_⟩
 .exact Di h1
 .exact Di h2
 .exact Di h3
 .exact i1b (dy _ O) (Eo _ (dy _ O))
def Ko (w:Nat):∀ (n op k:Nat),js w n op=some k->op<=k/\k<op+n
 | 0,op,k,h=>by cases h
 | n+1,op,k,h=>by
  unfold js at h;split at h
  .injection h with h;omega
  .have:=Ko w n (op+1) k h;omega
def uP {w i}(h:df w=some i):tj i/\1<=i.op/\i.op<=48:=by
 unfold df at h;split at h
 .rename_i op ho
  injection h with h;subst h;have:=Ko _ _ _ _ ho;refine ⟨WP _ _ O,?_,?_⟩
  .show (1:Int)<=(op:Int);omega
  .show (op:Int)<=48;omega
 .cases h
def Ic : tj lF:=by unfold lF tj;dsimp only;omega
def Z3 {no f prog}(hn : I6 no)(hf:uk f):cC (dh no f prog):=by
 have hi:∀ {i:Ins} {h s:Int},tj i->0<=h/\h<=100->0<=s/\s<=100->cC ⟨no,f.pc,i,f.guess,s,0,0,0,0,h,0,false,false⟩:=λhi hh hs=>
  ⟨hn,hf.1,hi,hf.2,by dsimp only;omega,by dsimp only;omega,by dsimp only;omega,by dsimp only;omega,by dsimp only;omega,by dsimp only;omega,by dsimp only;omega,di,di⟩
 unfold dh;dsimp only;split
 .exact hi Ic ag ag
 .split
  .exact hi Ic ag ag
  .rename_i i hd
   have:=(uP hd).1;split
   .exact hi this ag ag
   .split
    .exact hi this ag ag
    .exact hi this ag ag
def dp.map {q}{f:En->En}(h:dp q)(hf:∀ e,cC e->cC (f e)):dp (q.map f):=λr hr=>by
 obtain ⟨e,he,rfl⟩:=fQ.1 hr;exact hf e (h e he)
def dp.set {q:List En} {e:En} (h:dp q) (he:cC e) (i:Nat):dp (q.set i e):=λr hr=>by
 rcases po hr with h1|rfl
 .exact h r h1
 .exact he
def dp.app {q e}(h:dp q)(he:cC e):dp (q++[e]):=λr hr=>by
 rcases dv.1 hr with h1|h1
 .exact h r h1
 .obtain rfl:=dm.1 h1;exact he
structure KOk (B:Int) (k:ak):Prop where
 conf:qc k.conf=true
 tape:∀ x∈k.conf.tape,x<4294967296
 plen:k.prog.length<=64
 prog:∀ x∈k.prog,x<4294967296
 cyc:0<=k.cycle/\k.cycle<=B
 rlen:k.regs.length=32
 regs:∀ x∈k.regs,x<4294967296
 fetch:k.fetch<4294967296
 felen:k.fetched.length<=16
 fe:∀ f∈k.fetched,uk f
 roblen:k.rob.length<=16
 rob:dp k.rob
 next:0<=k.next/\k.next<=B
 stlen:k.stores.length<=16
 st:∀ p∈k.stores,p.addr<4294967296/\p.data.size<=4
 data:bj k.dways k.data
 dok:fX k.data
 words:bj k.wways k.words
 wok:fX k.words
 buslen:(k.bus.length:Int)<=B
 bus:∀ r∈k.bus,r.line<4294967296/\r.data.size<=maxLen
 left:∀ r∈k.bus,-9223372036854775807<=r.left/\r.left<=9223372036854775807
 asked:0<=k.asked/\k.asked<=B
 guessed:0<=k.guessed/\k.guessed<=B
 mem:k.mem.size<=256
 guess:ky k.guess=true
 slots:∀ s∈k.guess.slots,zr s
 rets:∀ x∈k.guess.rets,x<4294967296
 halt : I6 k.halt
 retlen:(k.retired.length:Int)<=B
 bound:B<=1000000
def VW (A n c w)(hc:n<=c)(hm:c<=maxLen):Ca 58 #[.slice A n c] w (RB w (.slice A n n)):=by
 unfold maxLen at hm;have E:=St.start w [] zN;go_enter func58,ntmps58;exact AY
def i1f (A n c w)(hc:n<=c)(hm:c<=maxLen):Ca 59 #[.slice A n c] w (RB w (.slice A n n)):=by
 unfold maxLen at hm;have E:=St.start w [] zN;go_enter func59,ntmps59;exact AY
def Xj (A n c w)(hc:n<=c)(hm:c<=maxLen):Ca 60 #[.slice A n c] w (RB w (.slice A n n)):=by
 unfold maxLen at hm;have E:=St.start w [] zN;go_enter func60,ntmps60;exact AY
def Vw (A n c w)(hc:n<=c)(hm:c<=maxLen):Ca 61 #[.slice A n c] w (RB w (.slice A n n)):=by
 unfold maxLen at hm;have E:=St.start w [] zN;go_enter func61,ntmps61;exact AY
def Ty (A n c q w)(hr:Rd w w.heap.size 17 A n c (ens q))(hn:n<=1000):Ca 57 #[.slice A n c] w λe w'=>∃ v,e = .returned v/\af w w'/\w'.ownsRow w.heap.size 54 17 v n (ens q):=by
 have E:=St.start w [ab 17 A n c (ens q)] (zC hr zN);have hc1:=hr.le;have aN:=hr.mx;unfold maxLen at aN;cases A with
 | none=>
  have heq:=λ(W:World)=>run_eql_slice_nil (P:=Tryz.prog) W 31 54 none n c underlying31
  have h0:n=0:=by
   rcases lh n with h|h
   .exact h
   .obtain ⟨g,f,e,_⟩:=hr.at_ h;cases e
  have hq:ens q=[]:=rC (by rw [hr.len,h0]);subst h0;rw [hq] at E ⊢;clear hr;go_enter func57,ntmps57;go_wp2_with ((try refine zs ?_);(first|refine nB ?_|(refine bJ ?_;clear E;intro Z J E)|(refine aq ?_;clear E;intro vN J E)));go_ret;exact ⟨_,rfl,E.bel,by simp,.inl ⟨rfl,rfl⟩⟩
 | some b=>
  have heq:=λ(W:World)=>run_eql_slice_nil (P:=Tryz.prog) W 31 54 (some b) n c underlying31
  clear hr;go_enter func57,ntmps57;go_wp2_with ((try refine zs ?_);(first|refine nB ?_|(refine bJ ?_;clear E;intro Z J E)|(refine aq ?_;clear E;intro vN J E)));go_ret;refine ⟨_,rfl,E.bel,?_⟩;have:=E.ownAt aC
  rwa [jR,kR] at this
def PS (A:Option Addr) (n c:Nat) (q:List En) (no:Int) (f:Fe) (Ap:Option Addr) (np cp:Nat) (prog:List Nat) (w:World) (hr:Rd w w.heap.size 17 A n c (ens q)) (hp:Rd w w.heap.size 1 Ap np cp (ai prog)) (hc:Rd w w.heap.size 1 (some ⟨0,0,none⟩) 49 49 (ai ci))(z:n<=1000) (hf:uk f) (L:∀ x∈prog,x<4294967296) :Ca 78 #[.slice A n c,I no,f.val,.slice Ap np cp] w λx w'=>∃ v,x = .returned v/\af w w'/\w'.ownsRow w.heap.size 54 17 v (n+1) (ens (q++[dh no f prog])):=by
 have E:=St.start w [ab 17 A n c (ens q),ab 1 Ap np cp (ai prog),eG] (zC hr (zC hp (zC hc zN)));have j0:=V hr.enslen;obtain ⟨pc,gs⟩:=f;have hpc:pc<4294967296:=hf.1;have iO:=λ(W:World) (h:Rd W W.heap.size 1 Ap np cp (ai prog))=>Ld Ap np cp prog pc W h hpc
 have hED:dh no ⟨pc,gs⟩ prog=match eE prog pc with
  | none=>⟨no,pc,lF,gs,3,0,0,0,0,1,0,false,false⟩
  | some w=>match df w with
   | none=>⟨no,pc,lF,gs,3,0,0,0,0,2,0,false,false⟩
   | some i=>if i.op=47 then ⟨no,pc,i,gs,3,0,0,0,0,6,0,false,false⟩ else if i.op=48 then ⟨no,pc,i,gs,3,0,0,0,0,7,0,false,false⟩ else ⟨no,pc,i,gs,0,0,0,0,0,0,0,false,false⟩:=rfl
 cases hx:eE prog pc with
 | none=>
  rw [hx] at iO hED;have dz:=λ(W:World) (h:Rd W W.heap.size 1 (some ⟨0,0,none⟩) 49 49 (ai ci))=>B3 0 W O h
  have h0:df 0=none:=by decide +kernel
  rw [h0] at dz;exact h8s A n c q no pc gs Ap np cp prog w z hr.le j0 E _ 0 0 20 0 0 0 0 hED (V iO) (V dz)
 | some x=>
  rw [hx] at iO hED;have Q:x<4294967296:=by
   unfold eE at hx;split at hx
   .exact L x (aQ hx)
   .cases hx
  have dz:=λ(W:World) (h:Rd W W.heap.size 1 (some ⟨0,0,none⟩) 49 49 (ai ci))=>B3 x W Q h
  cases hd:df x with
  | none=>
   rw [hd] at dz;simp only [hd] at hED;exact Qy A n c q no pc gs Ap np cp prog w z hr.le j0 E _ x 0 0 0 0 0 hED (V iO) (V dz)
  | some i=>
   rw [hd] at dz;simp only [hd] at hED;obtain ⟨op,rd,rs1,rs2,imm⟩:=i;dsimp only at hED;by_cases C:op=47
   .subst C
    rw [aa F] at hED;exact Yn A n c q no pc gs Ap np cp prog w z hr.le j0 E _ x rd rs1 rs2 imm hED (V iO) (V dz)
   .rw [Y C] at hED
    by_cases D:op=48
    .subst D
     rw [aa F] at hED;exact TR A n c q no pc gs Ap np cp prog w z hr.le j0 E _ x rd rs1 rs2 imm hED (V iO) (V dz)
    .rw [Y D] at hED
     exact VN A n c q no pc gs Ap np cp prog w z hr.le j0 E _ x op rd rs1 rs2 imm C D hED (V iO) (V dz)
def V2 (A n c l w)(hr:Rd w w.heap.size 1 A n c (ai l))(hn:n<=1000):Ca 25 #[.slice A n c] w λe w'=>∃ v,e = .returned v/\af w w'/\w'.ownsRow w.heap.size 28 1 v n (ai l):=by
 have E:=St.start w [ab 1 A n c (ai l)] (zC hr zN);have hc1:=hr.le;have aN:=hr.mx;unfold maxLen at aN;cases A with
 | none=>
  have heq:=λ(W:World)=>run_eql_slice_nil (P:=Tryz.prog) W 23 28 none n c underlying23
  have h0:n=0:=by
   rcases lh n with h|h
   .exact h
   .obtain ⟨g,f,e,_⟩:=hr.at_ h;cases e
  have hq:ai l=[]:=rC (by rw [hr.len,h0]);subst h0;rw [hq] at E ⊢;clear hr;go_enter func25,ntmps25;go_wp2_with ((try refine zs ?_);(first|refine ov ?_|(refine bJ ?_;clear E;intro Z J E)|(refine aq ?_;clear E;intro vN J E)));go_ret;exact ⟨_,rfl,E.bel,by simp,.inl ⟨rfl,rfl⟩⟩
 | some b=>
  have heq:=λ(W:World)=>run_eql_slice_nil (P:=Tryz.prog) W 23 28 (some b) n c underlying23
  clear hr;go_enter func25,ntmps25;go_wp2_with ((try refine zs ?_);(first|refine ov ?_|(refine bJ ?_;clear E;intro Z J E)|(refine aq ?_;clear E;intro vN J E)));go_ret;refine ⟨_,rfl,E.bel,?_⟩;have:=E.ownAt aC
  rwa [jR,kR] at this
end
end Go.Proofs.YtgnomadgnciifaaGreatDoor
