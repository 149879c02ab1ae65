/- . -/
import Derived.Test.YtgnomadgnciifaaGreatDoorZ3
import Derived.RangeFuncNested
import Derived.RangeFuncBound
import Derived.RangeFuncCalls
import Derived.RangeFuncLeaves
import Derived.WalkKit
import Derived.TacticsInMore
import Derived.OrdersIn
import Derived.Shelf.Abstract
import Derived.Shelf.RegionOpen
import Derived.OwnWalkIn
import Derived.LoopNIn
import Derived.LoopIn
import Derived.Maps.OwnOps
import Derived.Maps.Views
set_option linter.all false
set_option maxRecDepth 100000
set_option maxHeartbeats 16000000
namespace Go.Proofs.YtgnomadgnciifaaGreatDoor
variable {p:Prop}
open Go.Proofs.Tryz
def pL (h:p:=by
 (go_wp2_with ((try refine zs ?_);(first|refine Vl ?_|(go_at_call 215;(have hX:=bk.out);(with_reducible refine (hX _).mono ?_);clear hX;rintro x J ⟨rfl,hb⟩;replace E:=E.grow hb;clear hb)|(go_at_call 215;(have hX:=bm.out);(with_reducible refine (hX _).mono ?_);clear hX;rintro x J ⟨rfl,hb⟩;replace E:=E.grow hb;clear hb)));go_ret;exact ⟨rfl,E.bel⟩)):=h
def IM (h:p:=by
 have hj0:(0:Int)<=(j:Int):=by omega
 have hjm2:(m:Int)<=(sc:Int):=by omega
 go_upto_region 16 with (fail);have mi:=((iu.out.bel sD).to (Nat.le_of_lt re));rw [Ef] at mi;rcases V8 (ws.take j) v.line with nC|⟨i,u,ha,hf⟩
 .have Ch:=V (λW (hw:af W2 W)=>CR _ j sc (ws.take j) v.line W (mi.bel hw) 0 false (.inr ⟨rfl,rfl,nC⟩))
  replace nC:=V nC;replace mi:=V mi;replace cY:=V cY;replace hkk:=V hkk;refine wp_region_quiet_below aj aj ?_;(repeat (go_big_quiet_step ((go_at_call 140;exact ti (Ch.out _ (rD _ _ _))))));(refine wpQuiet_nil ?_;intro wq bN;obtain ⟨⟨dq,osq⟩,pC⟩:=bN;subst pC);go_wp2;go_roundw;case rel=>exact ⟨j+1,by omega,by go_num,λi hi v' eM=>(SG hin.out eY.out cY.out hkk.out hsz.out nC.out i hi v' eM),sD.trans (rD _ _ _)⟩
  case measure=>exact zM
 .have Ch:=V (λW (hw:af W2 W)=>CR _ j sc (ws.take j) v.line W (mi.bel hw) i true (.inl ⟨rfl,u,ha,hf⟩))
  have qI:=V (yn.out (Wt ha));replace hf:=V hf;replace mi:=V mi;replace ha:=V ha;replace cY:=V cY;replace hkk:=V hkk;refine wp_region_quiet_below aj aj ?_;(repeat (go_big_quiet_step ((go_at_call 140;exact ti (Ch.out _ (rD _ _ _))))));(refine wpQuiet_nil ?_;intro wq bN;obtain ⟨⟨dq,osq⟩,pC⟩:=bN;subst pC);go_wp2;go_ret
  exact ⟨qD vS,ii.out.trans (lz.trans (sD.trans (rD _ _ _)))⟩):=h
def KH (h:p:=by
 cases h1:(rd == 1)
 .obtain rfl:b=false:=by rw [<- hb];simpa using h1
  clear hb;go_enter func131,ntmps131;go_wp2;go_ret;exact ⟨rfl,af.alloc _ _⟩
 .obtain rfl:b=true:=by rw [<- hb];simpa using h1
  clear hb;go_enter func131,ntmps131;go_wp2;go_ret
  exact ⟨rfl,af.alloc _ _⟩):=h
def x5 (h:p:=by
 replace hx:=ap hx;replace hy:=ap hy;unfold execOp;simp only [ho,hx,hy]
 go_simp):=h
def yZ (h:p:=by
 clear hb;go_enter func132,ntmps132;go_wp2;go_ret
 exact ⟨rfl,af.alloc _ _⟩):=h
def JG (h:p:=by
 replace hs:=ap hs;replace hx:=ap hx;unfold Oper.wp execOp;simp only [ho,resolve,invoke,builtin,bC,bL,bG,nj,kg,mf,hs,hx,ip]
 exact hk):=h
def Ix (h:p:=by
 go_wp2;refine bc (v:=I (-1)) ?_ F ⟨by rw [HM.out],(af.alloc _ _).trans (af.alloc _ _)⟩
 simp [results,Tryz.f108,go_sem]):=h
def G4 (h:p:=by
 rw [aa hw];unfold Oper.wpIn;refine ⟨λf hf=>(by rw [bn] at hf;cases hf),?_⟩;rw [Oper.semAt_plain Y' _ _ hnd,ip]
 exact X _ _ h):=h
section
open Go Go.RowKit
section
variable {P:Program} {ops:Array Oper} {Q:Exit->Act->World->Prop} {a:Act} {w:World} {o:Oper} {l n:Nat}
def ug (o:Oper):Bool:=match o.op with | .defer _=>false|_=>true
def Zz (h:ug o=true):∀ c,o.op ≠ .defer c:=λc e=>by unfold ug at h;rw [e] at h;cases h
def Wh {K:Act->World->Prop} (hd:∀ c,o.op ≠ .defer c) (h:o.wp P a w K Q):o.wpIn (Fence.wide.inRound l) n P a w K Q:=by
 unfold Oper.wpIn;refine ⟨λ_ _=>di,?_⟩;rw [Oper.semAt_eq _ _ _ hd];unfold Oper.wp at h;generalize (execOp a.eval o).run P w=r at h ⊢;have iz:∀ {p:Prop},(Fence.wide.inRound l).depth.isSome=true->p:=λ{p} h=>by simp [Fence.wide,Fence.inRound] at h
 cases r with
 | ok x w'=>
  cases x <;> simp only [Oper.upon,Oper.uponIn] at h ⊢ <;>
   first
    | exact h
    | exact ⟨iz,CallsIn.inRound l (callsIn_wide.2 h)⟩
    | exact ⟨iz,λc cs _=>let ⟨v,w'',r,s⟩:=h c cs;⟨v,w'',r,stepsIn_wide.2 s⟩⟩
 | halt x w'=>cases x <;> simp only [Oper.upon,Oper.uponIn] at h ⊢ <;> exact h
def X9 {i}{K:Act->World->Prop}(iz:¬ LetsOut Q)(hd:ops.all ug=true)(h:wpOp P ops Q i K a w):wpOpIn (Fence.wide.inRound l) n P ops Q i K a w:=by
 unfold wpOp at h;unfold wpOpIn;split
 .rename_i ho;simpa only [ho] using h
 .rename_i o ho
  simp only [ho] at h;have b7:ug o=true:=by
   obtain ⟨hi,rfl⟩:=wR.1 ho;exact Array.all_eq_true.1 hd i hi
  split
  .rename_i hw
   simp only [hw,if_true] at h;rcases h with h|h
   .exact Wh (Zz b7) h
   .exact absurd h.2 iz
  .rename_i hw
   simp only [hw] at h;exact ⟨λ_ _=>di,h⟩
def Gz {md:Region.Mode} (iz:¬ LetsOut Q) (hd:ops.all ug=true):∀ (fuel:Nat) (i9:Array Bool) (a:Act) (w:World),wpAny P md ops Q fuel i9 a w->wpAnyIn (Fence.wide.inRound l) n P md ops Q fuel i9 a w
 | 0,_,_,_,h=>h
 | fuel+1,i9,a,w,h=>⟨h.1,λi hi=>X9 iz hd (wpOp_mono (λa w h=>h) (h.2 i hi)) |> wpOpIn_mono λa w h=>Gz iz hd fuel _ a w h⟩
def h1i {id w0 D0 D M}(iz:¬ LetsOut Q)(hd:ops.all ug=true)(hm:P.follows .mixedOrders=true)(E:St w0 D0 w M D)(Mr Dr)(hM:∀ m∈Mr,m∈M)(hD:∀ d∈Dr,d∈D)(h:St w0 D0 w.drew M D->fR w0.heap.size Mr Dr w.drew->wpAnyH P .any ops Q (fR w0.heap.size Mr Dr) ops.size (Array.replicate ops.size false) a w.drew):(Code.region id ops true).wpIn (Fence.wide.inRound l) n P Q a w :=
 wpIn_region_any hm (Gz iz hd _ _ _ _ (wpAny_of_held _ _ _ _ (h (E.grow (af.drew w)) ((E.grow (af.drew w)).hold hM hD))))
def N2 (B:Nat) (W:World):Da where
 ok w:=KeepsFrom B W w
 bl g:=B<=g /\ ∃ o,W.heap[g]?=some o/\o.isCells=false
 keep {w w'} hk hs h:=⟨iG h.size hs,λk o hB av ho=>(hk k ⟨hB,o,av,ho⟩).trans (h.same k o hB av ho)⟩
 lt {w} h g hg:=by
  obtain ⟨_,o,ho,_⟩:=hg;exact so (wR.1 ho).1 h.size
def St.keeps {w0:World} {D0 D:List Da} {M:List Mu} (h:St w0 D0 w M D) (B:Nat) (hB:w0.heap.size<=B):St w0 D0 w M (N2 B w::D):=by
 refine ⟨h.bel,h.mu,h.apart,λd hd=>?_,λd hd i m hm g hg bo=>?_,λd hd=>?_⟩
 .rcases bB.1 hd with rfl|hd
  .exact KeepsFrom.refl B w
  .exact h.dat d hd
 .rcases bB.1 hd with rfl|hd
  .obtain ⟨_,o,ho,hc⟩:=bo
   have a5:=h.mu i m hm;have jb:∀ g t cs,Bk w g t cs -> ∃ o,w.heap[g]?=some o/\o.isCells=true:=λg t cs hb=>by obtain ⟨r,hr,_⟩:=hb;exact ⟨_,hr,rfl⟩
   have:∃ o,w.heap[g]?=some o/\o.isCells=true:=by
    cases m with
    | blk g' t cs=>simp only [Mu.bl,dF] at hg;subst hg;exact jb _ _ _ a5.1
    | own v e sz n xs=>
     rcases a5.2 with ⟨rfl,_⟩|⟨g',cap,cur,rfl,_,h1,_⟩
     .simp [Mu.bl,Value.ownBlock] at hg
     .simp only [Mu.bl,Value.ownBlock,dF] at hg
      subst hg;exact ⟨_,h1,rfl⟩
    | row A t xs=>
     simp only [Mu.bl] at hg;split at hg
     .rename_i hx
      obtain ⟨g',pre,post,rfl,hb,_⟩:=a5 hx;simp only [dB,dF] at hg;subst hg;exact jb _ _ _ hb
     .cases hg
   obtain ⟨o',aR,wT⟩:=this;rw [ho] at aR;injection aR with aR;subst aR;rw [hc] at wT;cases wT
  .exact h.sep d hd i m hm g hg bo
 .rcases bB.1 hd with rfl|hd
  .exact From.new λg hg=>iG hB hg.1
  .exact h.src d hd
def St.kept {w0 W D0 D M B}(h:St w0 D0 w M D)(hd:N2 B W∈D):KeepsFrom B W w:=h.dat _ hd
def St.adopt {w0 w' D0 D M}(h:St w0 D0 w M D)(hb:af w w'){g t cs}(hk:Bk w' g t cs)(hg:w.heap.size<=g):St w0 D0 w' (.blk g t cs::M) D :=
 h.push _ (lV hb none) ⟨hk,iG h.bel.size hg⟩ λg' R=>by simp only [Mu.bl,dF] at R;omega
end
end
section
open Go.RowKit
def jU (op:Int):Int :=
 if op<1\/48<op then 0 else if op<=2 then 6 else if op=3 then 7 else if op=4 then 2 else if op<=10 then 5 else if op<=15 then 2 else if op<=18 then 4 else if op<=24 then 2 else if op<=27 then 3 else if op<=45 then 1 else 8
def IL (op:Int):(op<1/\jU op=0/\hZ op=false)\/(1<=op/\op<=2/\jU op=6/\hZ op=true)\/(op=3/\jU op=7/\hZ op=true)\/(op=4/\jU op=2/\hZ op=true)\/(5<=op/\op<=10/\jU op=5/\hZ op=false) \/ (11<=op/\op<=15/\jU op=2/\hZ op=true)\/(16<=op/\op<=18/\jU op=4/\hZ op=false)\/(19<=op/\op<=24/\jU op=2/\hZ op=true)\/(25<=op/\op<=27/\jU op=3/\hZ op=true)\/(28<=op/\op<=45/\jU op=1/\hZ op=true) \/ (46<=op/\op<=48/\jU op=8/\hZ op=false)\/(49<=op/\jU op=0/\hZ op=false):=by
 have key:∀ v b,((jU op=v/\hZ op=b)↔(jU op=v/\hZ op=b)):=λ_ _=>Iff.rfl
 have hb:∀ (h:(1<=op/\op<=4)\/(11<=op/\op<=15)\/(19<=op/\op<=45)),hZ op=true:=λh=>by
  unfold hZ;rcases h with h|h|h <;> simp [h]
 have hn:∀ (h:¬ ((1<=op/\op<=4)\/(11<=op/\op<=15)\/(19<=op/\op<=45))),hZ op=false:=λh=>by
  unfold hZ;rw [dg (λk=>h (.inl k)),dg (λk=>h (.inr (.inl k))),dg (λk=>h (.inr (.inr k)))];rfl
 unfold jU;by_cases h1:op<1
 .exact .inl ⟨h1,by rw [aa O],hn O⟩
 refine .inr ?_;by_cases h2:op<=2
 .exact .inl ⟨by omega,h2,by rw [Y O,aa h2],hb O⟩
 refine .inr ?_;by_cases h3:op=3
 .subst h3;exact .inl ⟨rfl,rfl,rfl⟩
 refine .inr ?_;by_cases h4:op=4
 .subst h4;exact .inl ⟨rfl,rfl,rfl⟩
 refine .inr ?_;by_cases h5:op<=10
 .exact .inl ⟨by omega,h5,by rw [Y O,Y O,Y h3,Y h4,aa h5],hn O⟩
 refine .inr ?_;by_cases h6:op<=15
 .exact .inl ⟨by omega,h6,by rw [Y O,Y O,Y h3,Y h4,Y h5,aa h6],hb O⟩
 refine .inr ?_;by_cases h7:op<=18
 .exact .inl ⟨by omega,h7,by rw [Y O,Y O,Y h3,Y h4,Y h5,Y h6,aa h7],hn O⟩
 refine .inr ?_;by_cases h8:op<=24
 .exact .inl ⟨by omega,h8,by rw [Y O,Y O,Y h3,Y h4,Y h5,Y h6,Y h7,aa h8],hb O⟩
 refine .inr ?_;by_cases h9:op<=27
 .exact .inl ⟨by omega,h9,by rw [Y O,Y O,Y h3,Y h4,Y h5,Y h6,Y h7,Y h8,aa h9],hb O⟩
 refine .inr ?_;by_cases a6:op<=45
 .exact .inl ⟨by omega,a6,by rw [Y O,Y O,Y h3,Y h4,Y h5,Y h6,Y h7,Y h8,Y h9,aa a6],hb O⟩
 refine .inr ?_;by_cases b8:op<=48
 .exact .inl ⟨by omega,b8,by rw [Y O,Y O,Y h3,Y h4,Y h5,Y h6,Y h7,Y h8,Y h9,Y a6],hn O⟩
 exact .inr ⟨by omega,by rw [aa O],hn O⟩
def mN (op:Int) (w:World) :Ca 107 #[I op] w λe w'=>e = .returned (I (jU op))/\w'=w:=by
 rcases IL op with ⟨h1,hk,_⟩|⟨h1,h2,hk,_⟩|⟨rfl,hk,_⟩|⟨rfl,hk,_⟩|⟨h1,h2,hk,_⟩|⟨h1,h2,hk,_⟩|⟨h1,h2,hk,_⟩|⟨h1,h2,hk,_⟩|⟨h1,h2,hk,_⟩|⟨h1,h2,hk,_⟩|⟨h1,h2,hk,_⟩|⟨h1,hk,_⟩
 all_goals
  rw [hk];clear hk;go_enter func107,ntmps107;go_wp2;go_ret;exact ⟨rfl,rfl⟩
def h1j (op:Int) (w:World) :Ca 106 #[I (jU op)] w λe w'=>(∃ b c,e = .returned (.tuple #[.bool (hZ op),b,c]))/\w'=w:=by
 rcases IL op with ⟨_,hk,hb⟩|⟨_,_,hk,hb⟩|⟨_,hk,hb⟩|⟨_,hk,hb⟩|⟨_,_,hk,hb⟩|⟨_,_,hk,hb⟩|⟨_,_,hk,hb⟩|⟨_,_,hk,hb⟩|⟨_,_,hk,hb⟩|⟨_,_,hk,hb⟩|⟨_,_,hk,hb⟩|⟨_,hk,hb⟩
 all_goals
  rw [hk,hb];clear hk hb;go_enter func106,ntmps106;go_wp2;go_returns;exact ⟨⟨_,_,rfl⟩,rfl⟩
def lX (i w):Ca 43 #[i.val] w (RB w (I (bp i))):=by
 obtain ⟨op,rd,rs1,rs2,imm⟩:=i;unfold Ins.val bp;simp only;have HF:=V (λW=>mN op W);have HH:=V (λW=>h1j op W);generalize jU op=f at *;generalize hZ op=h at *;cases h
 all_goals
  go_enter func43,ntmps43;go_wp2_with ((first|(go_at_call 107;refine (HF.out _).mono ?_;rintro x w1 ⟨rfl,rfl⟩)|(go_at_call 106;refine (HH.out _).mono ?_;rintro x w1 ⟨⟨b,c,rfl⟩,rfl⟩)));go_returns;exact ⟨rfl,af.alloc _ _⟩
def xB (i:Ins)(w):Ca 17 #[i.val] w (RB w (.tuple #[I i.rs1,I i.rs2])):=by
 obtain ⟨op,rd,rs1,rs2,imm⟩:=i;unfold Ins.val;go_enter func17,ntmps17;go_wp2;go_region;go_wp2;go_returns;exact ⟨rfl,(af.alloc _ _).trans (af.drew _)⟩
end
section
open Go.RowKit Wd
def Gc (o:Option Nat):Int:=match o with|some x=>(x:Int)|none=>0
def Ld (A:Option Addr) (n c:Nat) (zs:List Nat) (pc:Nat) (w:World) (hr:Rd w w.heap.size 1 A n c (ai zs)) (hp:pc<4294967296) :Ca 79 #[.slice A n c,U (pc:Int)] w (RB w (.tuple #[U (Gc (eE zs pc)),.bool (eE zs pc).isSome])):=by
 have hl:=hr.u32vlen;by_cases h:pc % 4=0/\pc / 4<zs.length
 .refine (Me.Fetch_yes A n c w.heap.size zs pc w hr hp h.1 h.2).mono ?_
  rintro e w' ⟨rfl,hd⟩;refine ⟨?_,af.ofDrew hd⟩;unfold eE;rw [aa h.1,ba h.2];rfl
 .refine (Me.Fetch_no A n c w.heap.size zs pc w hr hp O).mono ?_
  rintro e w' ⟨rfl,hd⟩;refine ⟨?_,af.ofDrew hd⟩;have:eE zs pc=none:=by
   unfold eE;by_cases h4:pc % 4=0
   .rw [aa h4,nc O]
   .rw [Y h4]
  rw [this];rfl
end
section
open Go.RowKit
section
variable {P:Program} {ops:Array Oper} {rest:List Oper} {o:Oper} {a:Act} {Q:Exit->Act->World->Prop} {w:World} {S:World->Prop}
def FT {s f off:Nat} {x:Operand} {cs:List Value} {v:Value} (ho:o.op = .field s x f) (hx:ac a x=some (.agg cs.toArray)) (hT:UC P s f off) (h:wpList P ops Q rest (a.put o.dst v) w) (hv:cs[off]?=some v:=by exact rfl) (hw:Region.wanted o (yielded ops a.tmps)=true:=by rfl):wpList P ops Q (o::rest) a w:=by
 replace hx:=ap hx;obtain ⟨fs,fl,hu,hf,rfl,⟨d,hd,cM,_⟩⟩:=hT;refine cI hw λK X=>?_
 have hagg:(isAgg fl.type).run P w = .ok false w:=by
  unfold isAgg;rw [bC,eH hd w];cases d <;> simp_all
 have hp:(part fl.type cs.toArray fl.offset).run P w = .ok v w:=by
  unfold part;rw [bC,hagg];simp [bG,hv]
 have ip:(Instr.field s (.agg cs.toArray) f).run P w = .ok v w:=by
  unfold Instr.field;rw [bC,eH hu w];simp [bG,hf,asAgg,hp]
 unfold Oper.wp execOp;simp only [ho,hx,ip,bC,bL,bG];exact X _ _ h
def VG {x y t t' p q r}(ho:o.op = .binOp .sub t x y t')(hx:ac a x=some (I p))(hy:ac a y=some (I q))(hr:p - q=r)(h1 : -9223372036854775808<=r)(h2:r<=9223372036854775807):(execOp a.eval o).run P w = .ok (.value (I r)) w:=by
 replace hx:=ap hx;replace hy:=ap hy;subst hr;unfold execOp;have cP:IntKind.i64.wrap (p - q)=p - q:=by simp only [IntKind.wrap,IntKind.bits,IntKind.signed];simp;omega
 simp only [ho,hx,hy];go_simp
def CA {x y:Operand} {t t':TypeId} {p q r:Int} (ho:o.op = .binOp .sub t x y t') (hx:ac a x=some (I p)) (hy:ac a y=some (I q)) (hr:p - q=r:=by assumption) (h1 : -9223372036854775808<=r:=by omega) (h2:r<=9223372036854775807:=by omega) (hw:Region.wanted o (yielded ops a.tmps)=true:=by rfl) :YieldsIf P ops S o (I r) a:=cg hw λw=>VG ho hx hy hr h1 h2
end
end
section
open Go.RowKit
section
variable {P:Program} {ops:Array Oper} {rest:List Oper} {o:Oper} {a:Act} {Q:Exit->Act->World->Prop} {w0 w:World} {D0 D:List Da} {M:List Mu} {S:World->Prop}
def Mw {w t ty e z sz bytes}(ht:bF P t e z sz bytes){A n xs}(hx:Rd w w.heap.size sz A n n xs){g m us}(hu:∀ j u,us[j]?=some u->w.cell? ⟨g,j,none⟩=some u)(hl:us.length=m * sz)(h0:0<m)(hm:n+m<=9223372036854775807)(bq:(n+m) * bytes<=140737488355328):∃ v' w',(Builtin.append_ #[t,t] ty #[.slice A n n,.slice (some ⟨g,0,none⟩) m m]).run P w = .ok v' w'/\w'.ownsRow w.heap.size e sz v' (n+m) (xs++us)/\w.grownBy w' none:=by
 obtain ⟨br,a7,b9,hsz⟩:=ht;obtain ⟨i,hi,hz,rfl,rfl⟩:=info_parts a7;have bs:∀ j u,us[j]?=some u->w.cell? ((⟨g,0,none⟩:Addr).add j)=some u:=λj u h=>by rw [kv,jR];exact hu j u h
 have il:(xs++us).length=(n+m) * i.size:=by rw [ea,hx.len,hl,oa]
 have h63:n+m<=maxLen:=by unfold maxLen;omega
 have grown:(w.drew.alloc (.cells (xs.toArray++us.toArray++Builtin.zeroCells z.cells (grownCap w (n+m) n e - (n+m))) e)).ownsRow w.heap.size e i.size
    (.slice (some ⟨w.heap.size,0,none⟩) (n+m) (grownCap w (n+m) n e)) (n+m) (xs++us) /\
   w.grownBy (w.drew.alloc (.cells (xs.toArray++us.toArray++Builtin.zeroCells z.cells (grownCap w (n+m) n e - (n+m))) e)) none:=by
  have b':=grownCap_ge w (n+m) n e;have ca:grownCap w (n+m) n e<=maxLen:=grownCap_le_maxLen w (n+m) n e h63;refine ⟨⟨il,.inr ⟨w.heap.size,_,_,rfl,aM _,qW w.drew _,b',ca,?_,?_⟩⟩,⟨rfl,rfl,rfl,by simp,λk hk _=>Go.heap_alloc_old w.drew _ hk⟩⟩
  .simp only [Array.size_append,m5,size_zeroCells,b9,hx.len,hl,<- oa]
   congr 1;omega
  .simp only [Array.toList_append,lc]
   rw [<- lc,<- il];exact List.take_left
 cases A with
 | none=>
  obtain rfl:n=0:=by
   rcases lh n with h|h
   .exact h
   .obtain ⟨g',f,e',_⟩:=hx.at_ h
    cases e'
  obtain rfl:xs=[]:=rC (by simpa using hx.len);have hr:=run_append_nil (P:=P) w t ty e i z br hi hz ⟨g,0,none⟩ m m us hl bs h0 O (by have hb:=bq;simp only [jR] at hb;omega);simp only [jR,kR,Array.empty_append] at grown ⊢;exact ⟨_,_,hr,grown.1,grown.2⟩
 | some b=>
  have holds:∀ j v,xs[j]?=some v->w.cell? (b.add j)=some v:=by
   intro j v hj;have h1:=(aK.1 hj).1;rw [hx.len] at h1;have hn:0<n:=by
    rcases lh n with h|h
    .subst h;omega
    .exact h
   obtain ⟨g',f,e',_,hc⟩:=hx.at_ hn;injection e' with e';subst e';rw [kv];exact hc j v hj
  have hr:=run_append_grow (P:=P) w t ty e i z br hi hz b n n xs hx.len holds ⟨g,0,none⟩ m m us hl bs O O (K5 O bq);exact ⟨_,_,hr,grown.1,grown.2⟩
def tU {t e:TypeId} {s x:Operand} {z:Value} {sz bytes:Nat} {A:Option Addr} {n g m j:Nat} {us xs:List Value} {M':List Mu} (ho:o.op = .call { callee:=.builtin .append,args:=#[s,x],argTypes:=#[t,t] }) (E:St w0 D0 w M D)(hs:ac a s=some (.slice A n n)) (hx:ac a x=some (.slice (some ⟨g,0,none⟩) m m)) (h:∀ v' w',St w0 D0 w' (.own v' e sz (n+m) (xs++us)::M') D->wpList P ops Q rest (a.put o.dst v') w') (ig:o.guard=none:=by rfl) (ht:bF P t e z sz bytes:=by exact fS _ _ _ _ _ rfl)(hd:ab sz A n n xs∈D:=by exact au) (hj:M[j]?=some (.own (.slice (some ⟨g,0,none⟩) m m) e sz m us):=by exact fd) (h0:0<m:=by (first|assumption|omega|exact mT bI|exact ng _))(h63:(n+m) * bytes<=140737488355328:=by omega) (hm:n+m<=9223372036854775807:=by omega) (hM:M.eraseIdx j=M':=by first|(simp only [zF];exact rfl)|(simp only [zF];done)|exact rfl):wpList P ops Q (o::rest) a w:=by
 subst hM;have ir:=E.ownAt hj;obtain ⟨v',w',ip,aV,hg⟩:=Mw (ty:=o.type) ht (E.rd hd) (λj' u hu=>E.ownCell hj j' u hu) ir.1 h0 hm h63;have H:=(E.drop j).pushOwn (M:=M.eraseIdx j) ⟨hg.os,hg.tape,hg.output,hg.size,λk hk=>hg.block k hk aF⟩ aV;refine kr ig λK X=>?_
 have hk:=X _ _ (h v' w' H);exact JG
def JP {w:World} {t e:TypeId} {z:Value} {sz bytes:Nat} (ht:bF P t e z sz bytes) {A:Option Addr} {n c N:Nat} {ki kj:IntKind} (hN:N<=c) :(Instr.sliceAt t (.slice A n c) none (some (.int ki (N:Int))) (some (.int kj (N:Int)))).run P w = .ok (.slice A N N) w:=by
 obtain ⟨hu,hi,_,_⟩:=ht;have hs:(sizeOf e).run P w = .ok sz w:=by
  cases hq:P.info? e with
  | none=>simp [hq] at hi
  | some i=>
   simp only [hq,dB,dF,pf] at hi;simp [sizeOf,typeInfo,hq,hi.2.1]
 have h1:(0:Int)<=(N:Int)/\(N:Int)<=(c:Int):=by omega
 have ha:∀ b:Addr,b.add 0=b:=λb=>by unfold Addr.add;simp
 have hel:P.elem t=e:=by simp [Program.elem,hu]
 have h2:(Instr.slice t (.slice A n c) none (some (.int ki (N:Int))) (some (.int kj (N:Int)))).run P w = .ok (.slice A N N) w:=by
  simp [Instr.slice,Instr.sliceBounds,Instr.sliceBound,eH hu,asIntOf,hs,h1,ha];intro h;omega
 rw [run_sliceAt_slice (P:=P) (w:=w) t _ _ _ _ nK];exact h2
def TC {t e:TypeId} {x y y':Operand} {A:Option Addr} {n c N:Nat} {ki kj:IntKind} {z:Value} {sz bytes:Nat} (ho:o.op = .slice t x none (some y) (some y')) (hx:ac a x=some (.slice A n c)) (hy:ac a y=some (.int ki (N:Int))) (al:ac a y'=some (.int kj (N:Int)))(ht:bF P t e z sz bytes:=by exact fS _ _ _ _ _ rfl) (hw:Region.wanted o (yielded ops a.tmps)=true:=by rfl) (hN:N<=c:=by (first|assumption|omega)):YieldsIf P ops S o (.slice A N N) a:=by
 replace hx:=ap hx;replace hy:=ap hy;replace al:=ap al;refine cg hw λw=>?_
 unfold execOp;simp only [ho,hx,hy,al,dB,ma,JP ht hN,bC,bL,bG]
def Vr {t e:TypeId} {x y y':Operand} {A:Option Addr} {n c N:Nat} {ki kj:IntKind} {z:Value} {sz bytes:Nat} (ho:o.op = .slice t x none (some y) (some y')) (hx:ac a x=some (.slice A n c)) (hy:ac a y=some (.int ki (N:Int))) (al:ac a y'=some (.int kj (N:Int)))(h:wpList P ops Q rest (a.put o.dst (.slice A N N)) w) (ht:bF P t e z sz bytes:=by exact fS _ _ _ _ _ rfl) (hw:Region.wanted o (yielded ops a.tmps)=true:=by rfl) (hN:N<=c:=by (first|assumption|omega)):wpList P ops Q (o::rest) a w:=by
 replace hx:=ap hx;replace hy:=ap hy;replace al:=ap al;refine cI hw λK X=>?_
 unfold Oper.wp execOp;simp only [ho,hx,hy,al,dB,ma,JP ht hN,bC,bL,bG];exact X _ _ h
def St.clip (h:St w0 D0 w M D){sz n c N A xs}(hd:ab sz A n c xs∈D)(hN:N<=n):St w0 D0 w M (ab sz A N N (xs.take (N * sz))::D):=by
 have hr:=h.rd hd;refine h.part (ab sz A N N (xs.take (N * sz))) ?_ λg hg=>⟨_,hd,by obtain ⟨hn,p⟩:=hg;exact ⟨by omega,p⟩⟩
 have h2:=hr.to hN;exact ⟨h2.len,aM _,by have:=hr.le;have:=hr.mx;omega,h2.at_⟩
end
end
section
open Go.RowKit
def v5 {x}(h0:0<=x)(h1:x<18446744073709551616):IntKind.u64.wrap x=x:=by
 simp only [IntKind.wrap,IntKind.bits,IntKind.signed];simp;omega
section
variable {P:Program} {ops:Array Oper} {rest:List Oper} {o:Oper} {a:Act} {Q:Exit->Act->World->Prop} {w:World} {S:World->Prop}
def VL {src dst:TypeId} {x:Operand} {p:Nat} (ho:o.op = .convert src dst x) (hx:ac a x=some (U (p:Int))) (hp:p<4294967296) (hs:P.underlying src=some (.int .u32)) (hd:P.underlying dst=some (.int .u64)):(execOp a.eval o).run P w = .ok (.value (.int .u64 (p:Int))) w:=by
 replace hx:=ap hx;unfold execOp;simp only [ho,hx];simp [convert,eH hs,eH hd,v5 (x:=(p:Int)) O O,go_sem]
def rS {src dst:TypeId} {x:Operand} {p:Nat} (ho:o.op = .convert src dst x) (hx:ac a x=some (U (p:Int))) (hs:P.underlying src=some (.int .u32)) (hd:P.underlying dst=some (.int .u64)) (h:wpList P ops Q rest (a.put o.dst (.int .u64 (p:Int))) w) (hp:p<4294967296:=by (first|assumption|omega)) (hw:Region.wanted o (yielded ops a.tmps)=true:=by rfl):wpList P ops Q (o::rest) a w:=by
 refine cI hw λK X=>?_
 unfold Oper.wp;rw [VL ho hx hp hs hd];exact X _ _ h
def Qx {x y t t' k p q}(ho:o.op = .binOp .lss t x y t')(hx:ac a x=some (.int k p))(hy:ac a y=some (.int k q)):(execOp a.eval o).run P w = .ok (.value (.bool (decide (p<q)))) w:=by
 exact x5
def cT {x y:Operand} {t t':TypeId} {k:IntKind} {p q:Int} {b:Bool} (ho:o.op = .binOp .lss t x y t') (hx:ac a x=some (.int k p)) (hy:ac a y=some (.int k q)) (h:wpList P ops Q rest (a.put o.dst (.bool b)) w) (hb:Hid (decide (p<q)=b):=by with_reducible assumption) (hw:Region.wanted o (yielded ops a.tmps)=true:=by rfl):wpList P ops Q (o::rest) a w:=by
 have G:=hb.out;subst G;refine cI hw λK X=>?_
 unfold Oper.wp;rw [Qx ho hx hy];exact X _ _ h
def OS {x y t t' k p q}(ho:o.op = .binOp .leq t x y t')(hx:ac a x=some (.int k p))(hy:ac a y=some (.int k q)):(execOp a.eval o).run P w = .ok (.value (.bool (decide (p<=q)))) w:=by
 exact x5
def Sw {x y:Operand} {t t':TypeId} {k:IntKind} {p q:Int} {b:Bool} (ho:o.op = .binOp .leq t x y t') (hx:ac a x=some (.int k p)) (hy:ac a y=some (.int k q)) (h:wpList P ops Q rest (a.put o.dst (.bool b)) w) (hb:Hid (decide (p<=q)=b):=by with_reducible assumption) (hw:Region.wanted o (yielded ops a.tmps)=true:=by rfl):wpList P ops Q (o::rest) a w:=by
 have G:=hb.out;subst G;refine cI hw λK X=>?_
 unfold Oper.wp;rw [OS ho hx hy];exact X _ _ h
def H8 {x y t t' k p q}(ho:o.op = .binOp .gtr t x y t')(hx:ac a x=some (.int k p))(hy:ac a y=some (.int k q)):(execOp a.eval o).run P w = .ok (.value (.bool (decide (q<p)))) w:=by
 exact x5
def fM {x y:Operand} {t t':TypeId} {k:IntKind} {p q:Int} {b:Bool} (ho:o.op = .binOp .gtr t x y t') (hx:ac a x=some (.int k p)) (hy:ac a y=some (.int k q)) (h:wpList P ops Q rest (a.put o.dst (.bool b)) w) (hb:Hid (decide (q<p)=b):=by with_reducible assumption) (hw:Region.wanted o (yielded ops a.tmps)=true:=by rfl):wpList P ops Q (o::rest) a w:=by
 have G:=hb.out;subst G;refine cI hw λK X=>?_
 unfold Oper.wp;rw [H8 ho hx hy];exact X _ _ h
def MT {x y:Operand} {t t':TypeId} {k:IntKind} {p q:Int} {b:Bool} (ho:o.op = .binOp .gtr t x y t') (hx:ac a x=some (.int k p)) (hy:ac a y=some (.int k q)) (hb:Hid (decide (q<p)=b):=by with_reducible assumption) (hw:Region.wanted o (yielded ops a.tmps)=true:=by rfl):YieldsIf P ops S o (.bool b) a :=
 cg hw λw=>by rw [<- hb.out];exact H8 ho hx hy
def JC {x y t t' k p q}(ho:o.op = .binOp .geq t x y t')(hx:ac a x=some (.int k p))(hy:ac a y=some (.int k q)):(execOp a.eval o).run P w = .ok (.value (.bool (decide (q<=p)))) w:=by
 exact x5
def fw {x y:Operand} {t t':TypeId} {k:IntKind} {p q:Int} {b:Bool} (ho:o.op = .binOp .geq t x y t') (hx:ac a x=some (.int k p)) (hy:ac a y=some (.int k q)) (h:wpList P ops Q rest (a.put o.dst (.bool b)) w) (hb:Hid (decide (q<=p)=b):=by with_reducible assumption) (hw:Region.wanted o (yielded ops a.tmps)=true:=by rfl):wpList P ops Q (o::rest) a w:=by
 have G:=hb.out;subst G;refine cI hw λK X=>?_
 unfold Oper.wp;rw [JC ho hx hy];exact X _ _ h
def qf {x y:Operand} {t t':TypeId} {k:IntKind} {p q:Int} {b:Bool} (ho:o.op = .binOp .geq t x y t') (hx:ac a x=some (.int k p)) (hy:ac a y=some (.int k q)) (hb:Hid (decide (q<=p)=b):=by with_reducible assumption) (hw:Region.wanted o (yielded ops a.tmps)=true:=by rfl):YieldsIf P ops S o (.bool b) a :=
 cg hw λw=>by rw [<- hb.out];exact JC ho hx hy
def FQ {x y t t' k p q}(ho:o.op = .binOp .eql t x y t')(hx:ac a x=some (.int k p))(hy:ac a y=some (.int k q)):(execOp a.eval o).run P w = .ok (.value (.bool (decide (p=q)))) w:=by
 replace hx:=ap hx;replace hy:=ap hy;unfold execOp;simp only [ho,hx,hy];by_cases h:p=q
 .subst h
  go_simp
 .rw [dg h]
  go_simp
def OA {x y t t' k p q}(ho:o.op = .binOp .neq t x y t')(hx:ac a x=some (.int k p))(hy:ac a y=some (.int k q)):(execOp a.eval o).run P w = .ok (.value (.bool (decide (¬ p=q)))) w:=by
 replace hx:=ap hx;replace hy:=ap hy;unfold execOp;simp only [ho,hx,hy];by_cases h:p=q
 .subst h
  go_simp
 .rw [cU h]
  go_simp
def co {x y:Operand} {t t':TypeId} {k:IntKind} {p q:Int} {b:Bool} (ho:o.op = .binOp .eql t x y t') (hx:ac a x=some (.int k p)) (hy:ac a y=some (.int k q)) (h:wpList P ops Q rest (a.put o.dst (.bool b)) w) (hb:Hid (decide (p=q)=b):=by with_reducible assumption) (hw:Region.wanted o (yielded ops a.tmps)=true:=by rfl):wpList P ops Q (o::rest) a w:=by
 have G:=hb.out;subst G;refine cI hw λK X=>?_
 unfold Oper.wp;rw [FQ ho hx hy];exact X _ _ h
def tW {x y:Operand} {t t':TypeId} {k:IntKind} {p q:Int} {b:Bool} (ho:o.op = .binOp .eql t x y t') (hx:ac a x=some (.int k p)) (hy:ac a y=some (.int k q)) (hb:Hid (decide (p=q)=b):=by with_reducible assumption) (hw:Region.wanted o (yielded ops a.tmps)=true:=by rfl):YieldsIf P ops S o (.bool b) a :=
 cg hw λw=>by rw [<- hb.out];exact FQ ho hx hy
def dU {x y:Operand} {t t':TypeId} {k:IntKind} {p q:Int} {b:Bool} (ho:o.op = .binOp .neq t x y t') (hx:ac a x=some (.int k p)) (hy:ac a y=some (.int k q)) (h:wpList P ops Q rest (a.put o.dst (.bool b)) w) (hb:Hid (decide (¬ p=q)=b):=by with_reducible assumption) (hw:Region.wanted o (yielded ops a.tmps)=true:=by rfl):wpList P ops Q (o::rest) a w:=by
 have G:=hb.out;subst G;refine cI hw λK X=>?_
 unfold Oper.wp;rw [OA ho hx hy];exact X _ _ h
end
end
section
open Go.RowKit
def tu (o:Bool) (sz:Nat) (A:Option Addr) (n c:Nat) (xs:List Value):Da:=match o with
 | false=>ab sz A n c xs
 | true=>ab 1 none 0 0 []
def rY (o:Bool) (t:TypeId) (sz:Nat) (A:Option Addr) (n c:Nat) (xs:List Value):Mu:=match o with
 | false=>.row none t []
 | true=>.own (.slice A n c) t sz n xs
def bO {sz n c A xs}:tu false sz A n c xs=ab sz A n c xs:=rfl
def ES {sz n c A xs}:tu true sz A n c xs=ab 1 none 0 0 []:=rfl
def yI {sz n c t A xs}:rY false t sz A n c xs = .row none t []:=rfl
def Qc {sz n c t A xs}:rY true t sz A n c xs = .own (.slice A n c) t sz n xs:=rfl
section
variable {P:Program} {ops:Array Oper} {rest:List Oper} {o:Oper} {a:Act} {Q:Exit->Act->World->Prop} {w0 w:World} {D0 D:List Da} {M:List Mu}
def St.nothing (h:St w0 D0 w M D):St w0 D0 w M (ab 1 none 0 0 []::D) :=
 h.part _ ⟨rfl,aM _,by unfold maxLen;omega,λhn=>absurd hn O⟩ λg hg=>by obtain ⟨hn,_⟩:=hg;omega
def lR {t e:TypeId} {s x:Operand} {z:Value} {sz bytes:Nat} {A:Option Addr} {n c g m j i:Nat} {b:Bool} {us xs:List Value} {M':Option Addr->Nat->List Mu} (ho:o.op = .call { callee:=.builtin .append,args:=#[s,x],argTypes:=#[t,t] }) (E:St w0 D0 w M D)(hs:ac a s=some (.slice A n c)) (hx:ac a x=some (.slice (some ⟨g,0,none⟩) m m)) (h:∀ A' c' w',St w0 D0 w' (M' A' c') (ab 1 none 0 0 []::D)->wpList P ops Q rest (a.put o.dst (.slice A' (n+m) c')) w')(hi:M[i]?=some (rY b e sz A n c xs)) (hj:M[j]?=some (.own (.slice (some ⟨g,0,none⟩) m m) e sz m us)) (hij:i≠j) (cb:b=false->c=n)(ig:o.guard=none:=by rfl) (ht:bF P t e z sz bytes:=by exact fS _ _ _ _ _ rfl) (hd:tu b sz A n c xs∈D:=by exact au) (h1:∀ u∈us,ls M u:=by exact qP) (h0:0<m:=by (first|assumption|omega|exact mT bI|exact ng _))(h63:(n+m) * bytes<=140737488355328:=by omega) (hm:n+m<=9223372036854775807:=by omega) (hM:∀ A' c',(M.set i (Mu.own (.slice A' (n+m) c') e sz (n+m) (xs++us))).eraseIdx j=M' A' c':=by first|(simp only [zF];exact λ_ _=>rfl)|(simp only [zF];done)|exact λ_ _=>rfl):wpList P ops Q (o::rest) a w:=by
 cases b with
 | true=>
  rw [Qc] at hi;refine oq (M':=λv'=>(M.set i (Mu.own v' e sz (n+m) (xs++us))).eraseIdx j) ho E hs hx ?_ ig ht hj hi h1 h63 hm (λ_=>rfl);intro v' w' H;have hil:i<M.length:=(aK.1 hi).1;have a8:∃ i':Nat,((M.set i (Mu.own v' e sz (n+m) (xs++us))).eraseIdx j)[i']?=some (Mu.own v' e sz (n+m) (xs++us)):=by
   rcases Nat.lt_or_gt_of_ne hij with h|h
   .exact ⟨i,by rw [sy,aa h,jQ hil]⟩
   .exact ⟨i - 1,by rw [sy,Y O,show i - 1+1=i by omega,jQ hil]⟩
  obtain ⟨i',a8⟩:=a8;obtain ⟨g',cap,rfl,h2,h3⟩:=H.ownSome a8 O;exact h _ _ _ (by rw [<- hM];exact H.nothing)
 | false=>
  rw [yI] at hi;rw [bO] at hd;obtain rfl:=cb F;have ir:=E.ownAt hj;obtain ⟨v',w',ip,aV,hg⟩:=Mw (ty:=o.type) ht (E.rd hd) (λj' u hu=>E.ownCell hj j' u hu) ir.1 h0 hm h63;have hb0:(Mu.row none e []).bl=none:=by simp [Mu.bl]
  have H:=E.upd i _ (.own v' e sz (c+m) (xs++us)) hi (by rw [hb0];exact hg) (NT aV E.bel.size) λg R=>.inr (World.ownsRow.lt aV g R).1
  have hil:i<M.length:=(aK.1 hi).1;obtain ⟨g',cap,rfl,h2,h3⟩:=H.ownSome (i:=i) (jQ hil) O;replace H:=H.drop j;rw [hM] at H;refine kr ig λK X=>?_
  have hk:=X _ _ (h _ _ w' H.nothing);exact JG
def St.apEnd (h:St w0 D0 w M D){i b t sz A n c xs}(hi:M[i]?=some (rY b t sz A n c xs))(hd:tu b sz A n c xs∈D):St w0 D0 w (M.eraseIdx i) (ab sz A n c xs::D):=by
 cases b with
 | false=>
  refine (h.drop i).lessD (D':=ab sz A n c xs::D) ?_;intro d cf;rcases bB.1 cf with rfl|h1
  .exact hd
  .exact h1
 | true=>
  obtain ⟨A',c',e,h'⟩:=h.freeze i hi;injection e with e1 e2 e3;subst e1 e3;exact h'
end
end
section
open Go.RowKit Wd
instance slsRows : Rows eQ Sl.cells 2:=⟨λ_=>rfl,λ_=>rfl,Sl.one,by decide⟩
instance slsOne (q:List Sl):gQ (eQ q):=⟨Lj q⟩
instance slOne (r:Sl):gQ r.cells:=⟨r.one⟩
def gv (As:Option Addr) (ns cs:Nat) (h:Nat) (Ar:Option Addr) (nr cr:Nat):Value:=.agg #[.slice As ns cs,U (h:Int),.slice Ar nr cr]
def Qu (i w):Ca 131 #[i.val] w (RB w (.bool (tL i))):=by
 obtain ⟨op,rd,rs1,rs2,imm⟩:=i;obtain ⟨b,hb⟩:∃ b,tL ⟨op,rd,rs1,rs2,imm⟩=b:=⟨_,rfl⟩;rw [hb];simp only [tL] at hb;unfold Ins.val;by_cases h3:op=3
 .subst h3
  exact KH
 .by_cases h4:op=4
  .subst h4
   exact KH
  .obtain rfl:b=false:=by rw [<- hb];simp [h3,h4]
   have b3:(op == 3)=false:=by simpa using h3
   have b4:(op == 4)=false:=by simpa using h4
   clear hb h3 h4;go_enter func131,ntmps131;go_wp2;go_ret;exact ⟨rfl,af.alloc _ _⟩
def Jc (i w):Ca 132 #[i.val] w (RB w (.bool (qe i))):=by
 obtain ⟨op,rd,rs1,rs2,imm⟩:=i;obtain ⟨b,hb⟩:∃ b,qe ⟨op,rd,rs1,rs2,imm⟩=b:=⟨_,rfl⟩;rw [hb];simp only [qe] at hb;unfold Ins.val;cases h4:(op == 4)
 .obtain rfl:b=false:=by rw [<- hb];simp at h4;simp [h4]
  exact yZ
 .cases h0:(rd == 0)
  .obtain rfl:b=false:=by rw [<- hb];simp at h0;simp [h0]
   exact yZ
  .cases h1:(rs1 == 1)
   .obtain rfl:b=false:=by rw [<- hb];simp at h1;simp [h1]
    exact yZ
   .obtain rfl:b=true:=by rw [<- hb];simp at h0 h1 h4;simp [h0,h1,h4]
    exact yZ
def FP (As Ar:Option Addr) (ns cs h nr cr pc:Nat) (sl:List Sl) (rets:List Nat) (w:World) (hp:pc<4294967296) (hh:h<4294967296) :Ca 130 #[gv As ns cs h Ar nr cr,U (pc:Int)] w (RB w (I ((lx ⟨sl,h,rets⟩ pc:Nat):Int))):=by
 have hx:=u32_xor_nat (pc / 4) h O hh;have hs:lx ⟨sl,h,rets⟩ pc=(pc / 4 ^^^ h) % 8:=rfl;have hc:(((pc / 4:Nat):Int))=(pc:Int) / 4:=by omega
 rw [hc] at hx;rw [hs];clear hs hc;generalize pc / 4 ^^^ h=x at *;unfold gv;go_enter func130,ntmps130;go_wp2;go_ret;exact ⟨xl O,af.alloc _ _⟩
def ym (As Ar cs h nr cr w)(h1:h<8)(h2:nr<=4):Ca 55 #[gv As 8 cs h Ar nr cr] w (RB w (.bool true)):=by
 have hd:decide ((nr:Int)<=4)=true:=by simp;omega
 unfold gv;go_enter func55,ntmps55;go_wp2;go_ret;exact ⟨rfl,af.alloc _ _⟩
end
section
open Go.RowKit Go.Sort
def kP (S:List Cs):Prop:=∀ s∈S,∀ v∈s.ws,v.line<4294967296/\v.data.size<=maxLen
def Zu (n:Nat) (ways:Int) :((n=1\/n=2\/n=4)/\(ways=1\/ways=2)) \/ (((n:Int) != 1)=true/\((n:Int) != 2)=true/\((n:Int) != 4)=true /\ ¬ (n=1\/n=2\/n=4)) \/ ((n=1\/n=2\/n=4)/\(ways != 1)=true/\(ways != 2)=true /\ ¬ (ways=1\/ways=2)):=by
 by_cases hn:n=1\/n=2\/n=4
 .by_cases hw:ways=1\/ways=2
  .exact .inl ⟨hn,hw⟩
  .exact .inr (.inr ⟨hn,by simp;omega,by simp;omega,hw⟩)
 .exact .inr (.inl ⟨by simp;omega,by simp;omega,by simp;omega,hn⟩)
def h1t (ways:Int) (A:Option Addr) (n c:Nat) (w:World) (hc:n<=c) (hm:c<=maxLen) (h:¬ ((n=1\/n=2\/n=4)/\(ways=1\/ways=2))) :Ca 120 #[.agg #[I ways,.slice A n c]] w (RB w (.bool false)):=by
 unfold maxLen at hm;rcases Zu n ways with h'|⟨b1,b2,b3,_⟩|⟨hn,b1,b2,_⟩
 .exact absurd h' h
 .clear h
  go_enter func120,ntmps120;go_wp2;go_ret;exact ⟨rfl,af.alloc _ _⟩
 .clear h
  rcases hn with rfl|rfl|rfl
  all_goals
   go_enter func120,ntmps120;go_wp2;go_ret;exact ⟨rfl,af.alloc _ _⟩
def Wt {n k j i ws v u}(ha:At (ws.take j) v.line i u):¬ qO n k ws j v:=by
 intro h;have hi:=(aK.1 ha.is).1;rw [cK] at hi;have hu:=ha.is;rw [kF,aa O] at hu;exact h.2.2.2 i O u hu ha.line
def SG {n k j ws v}(hin:∀ i<j,∀ v,ws[i]?=some v->qO n k ws i v)(eY:ws[j]?=some v)(cY:v.line % 16=0)(hkk:v.line / 16 % n=k)(hsz:v.data.size=0\/v.data.size=16)(nC:pP (ws.take j) v.line):∀ i<j+1,∀ v,ws[i]?=some v->qO n k ws i v:=by
 intro i hi v' eM;rcases qg i j with h|h
 .exact hin i h v' eM
 .obtain rfl:i=j:=by omega
  rw [eY] at eM;injection eM with eM;subst eM;refine ⟨cY,hkk,hsz,λl hl u hu=>nC u ?_⟩;rw [oh];exact ⟨l,by rw [kF,aa hl];exact hu⟩
def Q0 (ways:Int) (A:Option Addr) (n c:Nat) (S:List Cs) (w:World) (hr:bT w w.heap.size A n c S) (ho:kP S) (hn:n=1\/n=2\/n=4) (hw:ways=1\/ways=2) (b:Bool) (hb:b=true ↔ ∀ k s,(aZ S)[k]?=some s->lP n ways k s) :Ca 120 #[.agg #[I ways,.slice A n c]] w (RB w (.bool b)):=by
 have hc1:=hr.rd.le;have aN:=hr.rd.mx;unfold maxLen at aN;have Hb:=V hb;have Ho:=V ho;have ch:=V hr.slen;clear hb ho;go_enter func120,ntmps120;go_upto_region 2 with (fail);go_cut [32] (λs wx=>s = .bool false/\wx=w.alloc (.cells #[I ways,.slice A n c] 35));case first=>
  rcases hn with rfl|rfl|rfl <;> rcases hw with rfl|rfl <;> (go_wp2;go_meet;exact ⟨rfl,rfl⟩)
 case rest=>
  obtain ⟨rfl,rfl⟩:=hcut;have jZ:=Bk.new' w 35 [I ways,.slice A n c] w.heap.size F;have ii:=af.alloc w (.cells [Value.int .i64 ways,.slice A n c].toArray 35);revert jZ ii;generalize w.alloc _=W0;intro jZ ii;have cw0:=jZ.cell_of 0 _ F;have cw1:=jZ.cell_of 1 _ F;replace ii:=V ii;replace hr:=hr.bel ii.out;go_wp2;replace hn:=V hn;replace hw:=V hw;go_loopw [36] (λi wr=>∃ k:Nat,k<=n/\i = I (k:Int)/\(∀ k'<k,∀ s,(aZ S)[k']?=some s->lP n ways k' s)/\af W0 wr) (λi _=>n - (intOf i).toNat);case atStart=>exact ⟨0,by omega,rfl,λk' h=>absurd h O,af.refl W0⟩
  case round=>
   obtain ⟨k,hk,rfl,hall,lz⟩:=hrel;replace hall:=V hall;by_cases ik:k<n
   .obtain ⟨hl,g0,o0,rfl,ci,iy,iu⟩:=(hr.bel lz).at_ ik
    have j4:=Ho.out _ (wQ hl);have an:=EO hl;obtain ⟨s,hs⟩:∃ s,S[k]'hl=s:=⟨_,rfl⟩;rw [hs] at iy iu j4 an;clear hs;obtain ⟨sA,m,sc,ws⟩:=s;simp only at iy iu j4 an;replace an:=V an;replace j4:=V j4;have cS:=iu.le;have ck:=iu.mx;unfold maxLen at ck;have kh:=V iu.wyslen;have cw0':=lz.cell_of cw0;have cw1':=lz.cell_of cw1;by_cases il:(m:Int)<=ways
    .have hd:decide (ways<(m:Int))=false:=by simpa using il
     obtain ⟨wo,rfl⟩:∃ wo:World,wo=wr:=⟨_,rfl⟩;have cX:=iu;replace iu:=V iu;replace il:=V il;go_wp2;go_loopw [48] (λi wr=>∃ j:Nat,j<=m/\i = I (j:Int)/\(∀ i<j,∀ v,ws[i]?=some v->qO n k ws i v)/\af wo wr) (λi _=>m - (intOf i).toNat);case atStart=>exact ⟨0,by omega,rfl,λi h=>absurd h O,af.refl wo⟩
     case round=>
      obtain ⟨j,hj,rfl,hin,aX⟩:=hrel;replace hin:=V hin;by_cases re:j<m
      .obtain ⟨aY,g,o,rfl,hg,jH⟩:=(iu.out.bel aX).wyselem re
       have eY:ws[j]?=some (ws[j]'aY):=ba aY;have bt:=j4.out _ (wQ aY);obtain ⟨v,hv⟩:∃ v,ws[j]'aY=v:=⟨_,rfl⟩;rw [hv] at jH eY bt;clear hv;replace jH:=V jH;replace eY:=V eY;obtain ⟨a9,cl⟩:=bt;unfold maxLen at cl;have yn:Hid (¬ qO n k ws j v->b=false):=by
        show ¬ qO n k ws j v->b=false;intro iz;cases aH:b
        .rfl
        .exact absurd ((Hb.out.1 aH k _ an.out).2 j v eY.out) iz
       go_upto_region 12 with ((first|refine Xz ?_|(refine vw ax 101 (.tmp 7) (.tmp 52) ax wr.heap.size v.cells ax ax 101 uq ?_ F w9 v.one ?_;exact Bk.new wr _ uq;intro w1 hk1 cW bu aw;clear cW bu)));go_frame;have cm:=((jZ.bel lz).bel aX).bel (aw _ (af.alloc _ _) (aM _));have aJ:=aX.trans (aw _ (af.alloc _ _) (aM _));replace aw:=V aw;have d0:=hk1.cell_of 0 _ F;have D0:=λd os=>cell_regrown d0 d os
       have LC:=V (cm.inClass (P:=Tryz.prog) (ty:=35) Mi);by_cases cY:v.line % 16=0
       .have L:∀ W,Ca 63 #[U (v.line:Int)] W (RB W (U (v.line:Int))):=by
         intro W;have:=mh v.line W a9;rw [cY,Nat.sub_zero] at this;exact this.mono λe w' ⟨he,d,hd⟩=>⟨he,by rw [hd];exact af.drewN _ _⟩
        replace L:=V L;have aI:=V (λW=>II ways (some ⟨g0,o0,none⟩) n c v.line W hn.out a9);by_cases hkk:v.line / 16 % n=k
        .rw [hkk] at aI
         refine wp_region_quiet_below aj aj ?_;(repeat (first|(go_big_quiet_want;refine H0 35 (.tmp 1) ax w.heap.size ax _ LC.out _ F ?_;go_frame;go_big_quiet_on)|go_big_quiet_step ((first|(go_at_call 63;exact ti (L.out _))|(go_at_call 139;exact ti (aI.out _))))));(refine wpQuiet_nil ?_;intro wq bN;obtain ⟨⟨dq,osq⟩,pC⟩:=bN;subst pC);have bb:=rD w1 dq osq;have a0:=hk1.bel bb;have sD:=aJ.trans bb;clear LC D0 d0;revert a0 sD;clear bb;generalize grow (redrawn w1 dq) osq=W2;intro a0 sD;have e0:=a0.cell_of 0 _ F;have e2:=a0.cell_of 2 _ F;have E0:=λd os=>cell_regrown e0 d os
         by_cases hsz:v.data.size=0\/v.data.size=16
         .have cn:(((v.data.size:Int) != 0)=false)\/(((v.data.size:Int) != 0)=true/\((v.data.size:Int) != 16)=false):=by
           rcases hsz with h|h
           .exact .inl (by rw [h];rfl)
           .exact .inr ⟨by rw [h];rfl,by rw [h];rfl⟩
          replace hsz:=V hsz;rcases cn with z1|⟨z1,z2⟩
          .have cp:(j:Int)<=(m:Int):=by omega
           exact IM
          .have cp:(j:Int)<=(m:Int):=by omega
           exact IM
         .have z1:((v.data.size:Int) != 0)=true:=by rw [bne_iff_ne];omega
          have z2:((v.data.size:Int) != 16)=true:=by rw [bne_iff_ne];omega
          have qI:=V (yn.out λhw=>hsz hw.2.2.1);clear hsz E0;go_wp2;go_ret;exact ⟨qD vS,ii.out.trans (lz.trans sD)⟩
        .have qI:=V (yn.out λhw=>hkk hw.2.1)
         obtain ⟨t,ht⟩:∃ t,v.line / 16 % n=t:=⟨_,rfl⟩;rw [ht] at aI hkk;have sD:((t:Int) != (k:Int))=true:=by rw [bne_iff_ne];omega
         clear hkk ht;refine wp_region_quiet_below aj aj ?_;(repeat (first|(go_big_quiet_want;refine H0 35 (.tmp 1) ax w.heap.size ax _ LC.out _ F ?_;go_frame;go_big_quiet_on)|go_big_quiet_step ((first|(go_at_call 63;exact ti (L.out _))|(go_at_call 139;exact ti (aI.out _))))));(refine wpQuiet_nil ?_;intro wq bN;obtain ⟨⟨dq,osq⟩,pC⟩:=bN;subst pC);go_wp2;go_ret;exact ⟨qD vS,ii.out.trans (lz.trans (aJ.trans (rD _ _ _)))⟩
       .have L:∀ W,Ca 63 #[U (v.line:Int)] W (RB W (U ((v.line - v.line % 16:Nat):Int))):=by
         intro W;exact (mh v.line W a9).mono λe w' ⟨he,d,hd⟩=>⟨he,by rw [hd];exact af.drewN _ _⟩
        have hnl:(((v.line - v.line % 16:Nat):Int) != (v.line:Int))=true:=by rw [bne_iff_ne];omega
        have qI:=V (yn.out λhw=>cY hw.1);have aI:Hid True:=V di;revert L hnl;generalize v.line - v.line % 16=lo;intro L hnl;replace L:=V L;clear cY;refine wp_region_quiet_below aj aj ?_
        repeat (go_big_quiet_step ((go_at_call 63;exact ti (L.out _))))
        (refine wpQuiet_nil ?_;intro wq bN;obtain ⟨⟨dq,osq⟩,pC⟩:=bN;subst pC);go_wp2;go_ret;exact ⟨qD vS,ii.out.trans (lz.trans (aJ.trans (rD _ _ _)))⟩
      .obtain rfl:j=m:=by omega
       go_wp2;go_roundw;case rel=>
        refine ⟨k+1,by omega,by go_num,λk' av s aO=>?_,lz.trans aX⟩;rcases qg k' k with h|h
        .exact hall.out k' h s aO
        .obtain rfl:k'=k:=by omega
         have e:=an.out;rw [aO] at e;injection e with e;subst e;exact ⟨by rw [kh.out];exact il.out,λi v hv=>hin.out i (by have:=(aK.1 hv).1;have:=kh.out;omega) v hv⟩
       case measure=>exact zM
    .have hd:decide (ways<(m:Int))=true:=by simpa using il
     have qI:Hid (b=false):=by
      show b=false;cases aH:b
      .rfl
      .exact absurd ((Hb.out.1 aH k _ an.out).1) (by rw [kh.out];exact il)
     clear il;go_wp2;go_ret;exact ⟨qD vS,ii.out.trans lz⟩
   .obtain rfl:k=n:=by omega
    have cq:Hid (b=true):=V (Hb.out.2 λk' s av=>hall.out k' (by have:=(aK.1 av).1;rw [jN] at this;have:=ch.out;omega) s av);go_wp2;go_ret;exact ⟨qD (by rw [cq.out]),ii.out.trans lz⟩
def EN (ways:Int) (A:Option Addr) (n c:Nat) (S:List Cs) (w:World) (hr:bT w w.heap.size A n c S) (ho:kP S) (b:Bool) (hb:b=true↔bj ways (aZ S)) :Ca 120 #[.agg #[I ways,.slice A n c]] w (RB w (.bool b)):=by
 have hl:(aZ S).length=n:=by rw [jN,hr.slen]
 by_cases h:(n=1\/n=2\/n=4)/\(ways=1\/ways=2)
 .refine Q0 ways A n c S w hr ho h.1 h.2 b ⟨λe=>?_,λe=>?_⟩
  .have:=(hb.1 e).hs
   rwa [hl] at this
  .exact hb.2 ⟨by rw [hl];exact h.1,h.2,by rw [hl];exact e⟩
 .obtain rfl:b=false:=by
   cases aH:b
   .rfl
   .have:=hb.1 aH
    exact absurd ⟨by have:=this.hn;rwa [hl] at this,this.hw⟩ h
  exact h1t ways A n c w hr.rd.le hr.rd.mx h
end
section
open Go.RowKit Go.Shelf
attribute [local go_sem] Oper.semAt_some
section
variable {Y':Fence} {nf:Nat} {P:Program} {ops:Array Oper} {rest:List Oper} {o:Oper} {a:Act} {w:World} {Q:Exit->Act->World->Prop}
def Ie {v w'}(hw:Region.wanted o (yielded ops a.tmps)=true)(bn:o.about P w a.eval=none)(hnd:∀ c,o.op ≠ .defer c)(ip:(execOp a.eval o).run P w = .ok (.value v) w')(h:wpListIn Y' nf P ops Q rest (a.put o.dst v) w'):wpListIn Y' nf P ops Q (o::rest) a w:=by
 refine wpListIn_step λK X=>?_
 exact G4
def Ys {w'}(hw:Region.wanted o (yielded ops a.tmps)=true)(bn:o.about P w a.eval=none)(hnd:∀ c,o.op ≠ .defer c)(ip:(execOp a.eval o).run P w = .ok .skip w')(h:wpListIn Y' nf P ops Q rest (a.put o.dst undef) w'):wpListIn Y' nf P ops Q (o::rest) a w:=by
 refine wpListIn_step λK X=>?_
 exact G4
def Vf (hw:Region.wanted o (yielded ops a.tmps)=true)(ty x)(ho:o.op = .load ty x)(g off)(hx:a.eval x = .pointer (some ⟨g,off,none⟩))(cs:List Value)(v)(hv:v = .agg cs.toArray)(hc:∀ j u,cs[j]?=some u->w.cell? ⟨g,off+j,none⟩=some u)(ht:cO P ty cs.length)(h:wpListIn Y' nf P ops Q rest (a.put o.dst v) w):wpListIn Y' nf P ops Q (o::rest) a w:=by
 subst hv;refine Ie hw (by simp [Oper.about,ho]) CX ?_ h;unfold execOp;simp only [ho,hx,Instr.loadAt,Instr.sureAddr,bC,bL,bG,zy w g off ty cs hc ht]
def M0 (hw:Region.wanted o (yielded ops a.tmps)=true) (ty:TypeId) (x y:Operand) (ho:o.op = .store ty x y) (g:Nat) (cs:List Value) (hx:a.eval x = .pointer (some ⟨g,0,none⟩)) (hy:a.eval y = .agg cs.toArray)(t:TypeId) (old:List Value) (hg:Bk w g t old) (hold:old.length=cs.length) (ht:cO P ty cs.length) (h1:∀ u∈cs,u.oneCell'=true)(h:∀ w',Bk w' g t cs->w'.heap.size=w.heap.size->(∀ k,k≠g->w'.heap[k]?=w.heap[k]?)->(∀ b:World,af b w->b.heap.size<=g->af b w')->wpListIn Y' nf P ops Q rest (a.put o.dst undef) w'):wpListIn Y' nf P ops Q (o::rest) a w:=by
 obtain ⟨d,hu,hd,hi⟩:=ht
 have ij:=run_storeCells_cells (P:=P) g 0 cs 0 w (λj hj=>by
  rw [hg.cell,show 0+0+j=j by omega,ba O];rfl) (λj hj=>by
  rw [show 0+0+j=j by omega];exact hg.frozen O) h1
 obtain ⟨k1,k2⟩:=hg.setCells cs 0;have ip:(storeVar ty ⟨g,0,none⟩ (.agg cs.toArray)).run P w = .ok () (w.setCells g 0 cs):=by
  cases hq:P.info? ty with
  | none=>simp [hq] at hi
  | some i=>
   have hs:i.size=cs.length:=by simpa [hq] using hi
   simp [storeVar,sizeOf,typeInfo,hq,Value.cells,hs,ij]
 have e:spl old 0 cs=cs:=by rw [qF _ _ _ O];simp [hold]
 rw [e] at k1;refine Ys (w':=w.setCells g 0 cs) hw (by simp [Oper.about,ho]) CX ?_ (h _ k1 ?_ (λk hk=>?_) (λb hb cZ=>hb.grown k2 λk hk=>by injection hk with hk;omega))
 .unfold execOp
  simp only [ho,hx,hy,Instr.storeAt,Instr.sureAddr,bC,bL,bG,ip]
 .clear ij k1 k2 ip
  have:∀ (l:List Value) (o:Nat) (W:World),(W.setCells g o l).heap.size=W.heap.size:=by
   intro l
   induction l with
   | nil=>intro o W;rfl
   | cons v r ih=>intro o W;rw [World.setCells,ih];simp [World.setCell]
  exact this cs 0 w
 .clear ij k1 k2 ip
  have:∀ (l:List Value) (o:Nat) (W:World),(W.setCells g o l).heap[k]?=W.heap[k]?:=by
   intro l
   induction l with
   | nil=>intro o W;rfl
   | cons v r ih=>intro o W;rw [World.setCells,ih];exact pU W _ v k hk
  exact this cs 0 w
def ZW (ig:o.guard=none)(x y ts)(ho:o.op = .call { callee:=.builtin .min,args:=#[x,y],argTypes:=ts })(k k' p q N)(hx:a.eval x = .int k p)(hy:a.eval y = .int k' q)(hN:N=if q<p then q else p)(h:wpListIn Y' nf P ops Q rest (a.put o.dst (.int k N)) w):wpListIn Y' nf P ops Q (o::rest) a w:=by
 refine Ie (by simp [Region.wanted,ig]) (by simp [Oper.about,ho,resolve,Target.leads,bL]) CX ?_ h;have ip:=λts t=>run_min_int2 (P:=P) w ts t k k' p q
 unfold execOp;simp only [ho,resolve,invoke,builtin,bC,bL,bG,nj,kg,mf,hx,hy,ip];rw [<- hN]
end
def sL {W W1:World} (h:af W W1) (B:Nat):KeepsFrom B W W1:=⟨h.size,λk o _ hk _=>(h.block k (wR.1 hk).1).trans hk⟩
def ld (q:List En):Nat->List (Nat × En)
 | 0=>[]
 | k+1=>match q[k]? with
  | some e=>(k,e)::ld q k
  | none=>[]
def DB {q k e}(h:q[k]?=some e):ld q (k+1)=(k,e)::ld q k:=by simp [ld,h]
def Je {q reg}:∀ {n:Nat},n<=q.length->(∀ p∈ld q n,bp p.2.inst≠reg)->iY q reg n = -1
 | 0,_,_=>rfl
 | n+1,hn,h=>by
  obtain ⟨e,he⟩:∃ e,q[n]?=some e:=⟨_,ba O⟩;rw [DB he] at h;have h0:=h (n,e) (ee ..);unfold iY;simp only [he,Y h0];exact Je O λp hp=>h p (ez _ hp)
def IA {q reg}{last:Nat × En}{rest:List (Nat × En)}:∀ {n:Nat} {ini:List (Nat × En)},n<=q.length->ld q n=ini++last::rest->(∀ p∈ini,bp p.2.inst≠reg)->bp last.2.inst=reg->iY q reg n=(last.1:Int)
 | 0,ini,_,h,_,_=>by simp [ld] at h
 | n+1,ini,hn,h,hi,hl=>by
  obtain ⟨e,he⟩:∃ e,q[n]?=some e:=⟨_,ba O⟩;rw [DB he] at h;unfold iY;simp only [he];cases ini with
  | nil=>
   rw [kR] at h;injection h with h1 h2;subst h1;rw [aa hl]
  | cons x ini=>
   rw [oZ] at h;injection h with h1 h2;subst h1;rw [Y (hi _ (ee ..))];exact IA O h2 (λp hp=>hi p (ez _ hp)) hl
def X3 (nf:Nat) (A:Option Addr) (n c:Nat) (i:Int) (w:World) :CallsIn Fence.wide nf Tryz.prog 163 #[.slice A n c,I i] w λe w'=>e = .returned (.func (.func 200) #[] #[.pointer (some ⟨w.heap.size+1,0,none⟩),.pointer (some ⟨w.heap.size,0,none⟩)])/\w'=(w.alloc (.cells #[.slice A n c] 31)).alloc (.cells #[I i] 3):=by
 refine callsIn_of_wp func163 F di ?_ F;simp only [ntmps163,m5,ft,uf,Nat.reduceAdd,Nat.reduceSub,xg,wv,vV,xx,kR,oZ];gi_wp2;go_ret;exact ⟨rfl,rfl⟩
def SJ (nf l Bi Bs n₀:Nat) (hn:1<=nf) (A:Option Addr) (n c:Nat) (i M:Int) (q:List En) (a1:Bi<n₀) (a2:Bs<n₀) (hi : I6 i) (hM:M=if (n:Int)<i then (n:Int) else i) (X' Jx:List (Nat × En)->World->Prop)(hY:∀ pre x W,X' pre W->pre.length<n->YieldAt Fence.wide (nf - 1) Tryz.prog l #[I (x.1:Int),x.2.val] W λe W'=>
   (e = .returned (.bool true)/\X' (pre++[x]) W'/\Below n₀ W W')\/(e = .returned (.bool false)/\Jx (pre++[x]) W'))
  (W:World) (iy:W.cell? ⟨Bs,0,none⟩=some (.slice A n c)) (a3:W.cell? ⟨Bi,0,none⟩=some (I i)) (hr:Rd W n₀ 17 A n c (ens q)) (h0:X' [] W) :
  CallsIn Fence.wide nf Tryz.prog 200 #[.func (.yield l) #[] #[],.pointer (some ⟨Bi,0,none⟩),.pointer (some ⟨Bs,0,none⟩)] W λe W'=>(∃ v,e = .returned v) /\
   ((∃ ys,ys=ld q M.toNat/\X' ys W')\/(∃ pre,pre <+: ld q M.toNat/\Jx pre W')):=by
 have c5:=hr.enslen;have hc1:=hr.le;have aN:=hr.mx;unfold maxLen at aN;have bw:M<=(n:Int):=by rw [hM];split <;> omega
 have hM2 : -9223372036854775808<=M:=by rw [hM];split <;> omega
 replace hM:=V hM;replace hr:=V hr;refine callsIn_of_wp func200 F di ?_ F;simp only [ntmps200,m5,ft,uf,Nat.reduceAdd,Nat.reduceSub,xg,wv,vV,xx,kR,oZ];gi_wp2_with (refine ZW F _ _ _ ax _ _ _ _ M ax ax hM.out ?_);gi_loopw [4] (λx wr=>∃ (kk:Int) (pre:List (Nat × En)),x = I kk/\kk<=(n:Int) /\ -9223372036854775808<=kk/\ld q M.toNat=pre++ld q kk.toNat/\pre.length+kk.toNat<=n/\X' pre wr/\Below n₀ W wr)
  (λx _=>(intOf x).toNat)
 case atStart=>exact ⟨M,[],rfl,bw,hM2,rfl,by simp;omega,h0,qa _ _⟩
 case round=>
  obtain ⟨kk,pre,rfl,hk1,c6,j2,il,bx,a4⟩:=hrel;by_cases eW:0<kk
  .obtain ⟨m,rfl⟩:∃ m:Nat,kk=(m:Int)+1:=⟨(kk - 1).toNat,by omega⟩
   have ct:m<n:=by omega
   have bA:((m:Int)+1).toNat=m+1:=by omega
   rw [bA] at j2 il;obtain ⟨e,he⟩:∃ e,q[m]?=some e:=⟨_,ba O⟩;rw [DB he] at j2;obtain ⟨hl,g,off,rfl,hg,jH⟩:=(hr.out.below a4).enselem ct;have bE:q[m]'hl=e:=by rw [ba hl] at he;exact Option.some.inj he
   rw [bE] at jH;replace jH:=V jH;have c7:=(a4.cell (p:=⟨Bs,0,none⟩) a2).trans iy;have c8:=(a4.cell (p:=⟨Bi,0,none⟩) a1).trans a3;obtain ⟨fn,tmps,assign,body,hy,hR⟩:=hY pre (m,e) wr bx O;dsimp only at hy;replace j2:=V j2;replace he:=V he;clear iy a3 bA hM bE;gi_wp2_with (refine Vf F 54 (.tmp 19) ax g (off+m * 17) ax e.cells e.val F jH.out vo ?_);refine hR.mono ?_;rintro e W3 (⟨rfl,cx,cy⟩|⟨rfl,cz⟩)
   .gi_wp2
    go_roundw;case rel=>exact ⟨(m:Int),pre++[(m,_)],by go_num,by omega,by omega,by rw [j2.out];simp,by simp;omega,cx,a4.trans cy⟩
    case measure=>exact zM
   .gi_wp2
    refine bc (kw F _ _ _) F ?_;exact ⟨⟨_,rfl⟩,.inr ⟨_,by rw [j2.out];exact ⟨ld q m,by simp⟩,cz⟩⟩
  .have hz:kk.toNat=0:=by omega
   rw [hz] at j2;replace j2:=V (show pre=ld q M.toNat by rw [j2];simp [ld]);gi_wp2;go_end0;exact ⟨⟨_,rfl⟩,.inl (by rw [<- j2.out];exact bx)⟩
def Ww (nf:Nat) (hn:1<=nf) (Bi Bs:Nat) (A:Option Addr) (n c:Nat) (i M:Int) (q:List En) (w0:World) (a1:Bi<w0.heap.size) (a2:Bs<w0.heap.size) (hi : I6 i) (hM:M=if (n:Int)<i then (n:Int) else i)(iy:w0.cell? ⟨Bs,0,none⟩=some (.slice A n c)) (a3:w0.cell? ⟨Bi,0,none⟩=some (I i)) (hr:Rd w0 w0.heap.size 17 A n c (ens q)) :SeqStopsK Fence.wide nf Tryz.prog 200 #[.pointer (some ⟨Bi,0,none⟩),.pointer (some ⟨Bs,0,none⟩)] (λx:Nat × En=>#[I (x.1:Int),x.2.val]) (Below w0.heap.size) (λys=>ys=ld q M.toNat) (λpre=>pre <+: ld q M.toNat) n w0:=λl X' Jx W hW _ _ hY h0=>
 SJ nf l Bi Bs w0.heap.size hn A n c i M q a1 a2 hi hM X' Jx hY W ((hW.cell (p:=⟨Bs,0,none⟩) a2).trans iy) ((hW.cell (p:=⟨Bi,0,none⟩) a1).trans a3) (hr.below hW) h0
def Tb (A n c i reg q w)(hr:Rd w w.heap.size 17 A n c (ens q))(hi : I6 i)(h1:1<=reg)(h2:reg<=31):CallsIn Fence.wide 9 Tryz.prog 108 #[.slice A n c,I i,I reg] w λe w'=>e = .returned (I (dM q i reg))/\Below w.heap.size w w':=by
 obtain ⟨M,hM⟩:∃ M,M=if (n:Int)<i then (n:Int) else i:=⟨_,rfl⟩
 have hMt:M.toNat=(min i q.length).toNat:=by rw [hr.enslen,hM];split <;> omega
 refine callsIn_of_wp_marks func108 F di ?_ F;simp only [ntmps108,m5,ft,uf,Nat.reduceAdd,Nat.reduceSub,xg,wv,vV,xx,kR,oZ];gi_wp2_with (refine ⟨di,?_⟩;gi_at_call 163;refine (X3 _ _ _ _ _ _).mono ?_;rintro e w' ⟨rfl,rfl⟩);have ak:Below w.heap.size w ((((w.alloc (.cells #[I reg] 3)).alloc (.cells #[I 0] 3)).alloc (.cells #[.slice A n c] 31)).alloc (.cells #[I i] 3)) :=
  ((((qa _ w).alloc (aM _) _).alloc aF _).alloc eX _).alloc eX _
 have k1:=(((Bk.new w 3 [I reg]).bel (af.alloc _ (.cells #[I 0] 3))).bel (af.alloc _ (.cells #[.slice A n c] 31))).bel (af.alloc _ (.cells #[I i] 3));have k2:=((Bk.new (w.alloc (.cells #[I reg] 3)) 3 [I 0]).bel (af.alloc _ (.cells #[.slice A n c] 31))).bel (af.alloc _ (.cells #[I i] 3));have k3:=(Bk.new ((w.alloc (.cells #[I reg] 3)).alloc (.cells #[I 0] 3)) 31 [.slice A n c]).bel (af.alloc _ (.cells #[I i] 3));have k4:=Bk.new (((w.alloc (.cells #[I reg] 3)).alloc (.cells #[I 0] 3)).alloc (.cells #[.slice A n c] 31)) 3 [I i];simp only [World.size_alloc] at k1 k2 k3 k4;have hsz:((((w.alloc (.cells #[I reg] 3)).alloc (.cells #[I 0] 3)).alloc (.cells #[.slice A n c] 31)).alloc (.cells #[I i] 3)).heap.size=w.heap.size+4:=by simp
 obtain ⟨W0,az⟩:∃ W0,(((w.alloc (.cells #[I reg] 3)).alloc (.cells #[I 0] 3)).alloc (.cells #[.slice A n c] 31)).alloc (.cells #[I i] 3)=W0:=⟨_,rfl⟩;rw [az] at ak hsz ⊢;replace k1:Bk W0 w.heap.size 3 [I reg]:=by rw [<- az];exact k1
 replace k2:Bk W0 (w.heap.size+1) 3 [I 0]:=by rw [<- az];exact k2
 replace k3:Bk W0 (w.heap.size+1+1) 31 [.slice A n c]:=by rw [<- az];exact k3
 replace k4:Bk W0 (w.heap.size+1+1+1) 3 [I i]:=by rw [<- az];exact k4
 clear az;have cA:=(hr.below ak).more ak.size;have hnl:=hr.enslen;refine wpIn_rangeFunc_ownH (P:=Tryz.prog) (F:=Fence.wide) (n:=9) F O (gf:=200) (lb:=#[.pointer (some ⟨w.heap.size+1+1+1,0,none⟩),.pointer (some ⟨w.heap.size+1+1,0,none⟩)]) F di (enters_of func200 aj F)
  (Ww 8 O _ _ A n c i M q W0 O O hi hM (k3.cell 0) (k4.cell 0) cA) belowK_t (belowK_b (aM _)) (qa _ _) (λ_=>rfl)
  (λpre W=>(∀ p∈pre,bp p.2.inst≠reg)/\Below W0.heap.size W0 W)
  (λc pre W=>(c = .ret /\ ∃ ini last,pre=ini++[last]/\(∀ p∈ini,bp p.2.inst≠reg)/\bp last.2.inst=reg/\W.cell? ⟨w.heap.size+1,0,none⟩=some (I (last.1:Int)))/\Below w.heap.size w W)
  (OwnFrom.and (ownFrom_pure _ _) (ownFrom_below (aM _) (aM _)))
  (λc=>OwnFrom.and (Own.from (λs A B row hs hg hr=>by obtain ⟨hc,ini,last,e1,e2,e3,e4⟩:=hs;exact ⟨hc,ini,last,e1,e2,e3,cell_kept e4 hg hr⟩) _) (ownFrom_below (aM _) O))
  ⟨by simp,qa _ _⟩
  (λx a' W=>∃ Bx,W0.heap.size<=Bx/\Bk W Bx 54 x.2.cells/\a'={ tmps:=#[.slice A n c,I i,I reg,undef,undef,.pointer (some ⟨w.heap.size,0,none⟩),.pointer (some ⟨w.heap.size+1,0,none⟩),I (x.1:Int),.pointer (some ⟨Bx,0,none⟩),I reg,.bool (decide (reg<1)),.bool (decide (reg<1)),I reg,.bool (decide (31<reg)),.bool (decide (reg<1) || decide (31<reg)),.slice A n c,I i,.func (.func 200) #[] #[.pointer (some ⟨w.heap.size+1+1+1,0,none⟩),.pointer (some ⟨w.heap.size+1+1,0,none⟩)],I (x.1:Int),x.2.val,undef,undef,undef,undef,undef,undef],defers:=[] })
  (λx a' _ U' T' row hs hg hr=>by
   obtain ⟨Bx,h1,h2,h3⟩:=hs;refine ⟨Bx,h1,h2.grown hg (λe=>?_),h3⟩;obtain ⟨_,o,ho,hc⟩:=hr _ e.symm;obtain ⟨r,bJ,_⟩:=h2;rw [ho] at bJ;cases bJ
   cases hc)
  ?assign ?body ?done ?stop
 case assign=>
  rintro l pre x W K ⟨hp,hB⟩ X;gi_wp2_with (refine M0 F 54 (.tmp 8) (.tmp 19) ax W.heap.size x.2.cells ax ax 54 tP ?_ F vo x.2.one ?_;exact Bk.new W _ tP;intro w1 hk1 cW bu aw);have ii:af W w1:=aw _ (af.alloc _ _) (aM _);exact X _ _ (sL ii _) (ii.mono hB.size) ⟨hp,hB.trans (ii.mono hB.size)⟩ ⟨_,hB.size,hk1,rfl⟩
 case body=>
  rintro l pre ⟨k,e⟩ a' W hl ⟨r,hr⟩ ⟨hp,hB⟩ ⟨Bx,c9,bX,rfl⟩ hlt;have c0:=bX.cell 2;have c1:=bX.cell 3;have c2:=bX.cell 4;have c3:=bX.cell 5;have c4:=bX.cell 6;have cr:W.cell? ⟨w.heap.size,0,none⟩=some (I reg):=(hB.cell (p:=⟨w.heap.size,0,none⟩) jc).trans (k1.cell 0);have cv:W.cell? ⟨w.heap.size+1,0,none⟩=some (I 0):=(hB.cell (p:=⟨w.heap.size+1,0,none⟩) jc).trans (k2.cell 0);have fv:W.frozen? ⟨w.heap.size+1,0,none⟩=false:=(hB.frozen (p:=⟨w.heap.size+1,0,none⟩) jc).trans (k2.frozen (i:=0) aF);have da:Tryz.prog.follows .mixedOrders=true:=by kernel_rfl
  dsimp only [En.cells,List.getElem?_cons_succ,List.getElem?_cons_zero] at c0 c1 c2 c3 c4;have HW:=V (λW=>lX e.inst W);unfold Ins.val at HW;have bQ:W0.heap.size<=W.heap.size:=hB.size;by_cases hw:bp e.inst=reg
  .have HP:=V hp
   clear hp;gi_wp2;gi_region_with_o (refine ⟨di,?_⟩;gi_at_call 43;refine (CallsIn.inRound l (callsIn_wide.2 (HW.out _))).mono ?_;rintro e w1 ⟨rfl,aJ⟩;have cr1:=aJ.cell_of cr;have cv1:=aJ.cell_of cv;have fv1:=(aJ.frozen (p:=⟨w.heap.size+1,0,none⟩) (lU _ _ cv)).trans fv);all_goals gi_wp2
   all_goals (try go_bits)
   all_goals
    have ii:af W w1:=by first|exact aJ|exact (af.drew _).trans aJ
    exact ⟨(sL ii _).trans ((KeepsOthers.setCell _ _ _).from _),⟨rfl,pre,(k,e),rfl,HP.out,hw,zB _ _ _ (by rw [cv1];rfl)⟩,((ak.trans (hB.mono ak.size)).trans (ii.mono (iG ak.size bQ))).setCell (p:=⟨w.heap.size+1,0,none⟩) aF _⟩
  .have HP:=V hp
   clear hp;gi_wp2;gi_region_with_o (refine ⟨di,?_⟩;gi_at_call 43;refine (CallsIn.inRound l (callsIn_wide.2 (HW.out _))).mono ?_;rintro e w1 ⟨rfl,aJ⟩;have cr1:=aJ.cell_of cr);all_goals gi_wp2
   all_goals (try go_bits)
   all_goals
    have ii:af W w1:=by first|exact aJ|exact (af.drew _).trans aJ
    have hb2:Below W0.heap.size W w1:=ii.mono bQ;exact ⟨sL ii _,hb2,λp hp=>(dv.1 hp).elim (HP.out p) (λh=>by rw [dm.1 h];exact hw),hB.trans hb2⟩
 case done=>
  rintro D ys W hD rfl ⟨hp,hB⟩ X;have cv:W.cell? ⟨w.heap.size+1,0,none⟩=some (I 0):=(hB.cell (p:=⟨w.heap.size+1,0,none⟩) jc).trans (k2.cell 0);have fv:W.frozen? ⟨w.heap.size+1,0,none⟩=false:=(hB.frozen (p:=⟨w.heap.size+1,0,none⟩) jc).trans (k2.frozen (i:=0) aF);have HM:=V (show dM q i reg = -1 by rw [dM,Y O,<- hMt];exact Je O hp);clear hp;gi_wp2;have bd:=(KeepsOthers.setCell W ⟨w.heap.size+1,0,none⟩ (I (-1))).same D _ X F;refine ⟨by simp,.inl ⟨_,_,rfl,run_takeDeferred bd,?_⟩⟩;have be:=cell_kept (zB W ⟨w.heap.size+1,0,none⟩ (I (-1)) (by rw [cv];rfl)) (grownBy_putObj' _ D (.deferred none)) (λr e=>by cases e;exact ⟨_,bd,rfl⟩);refine ⟨.int .i64 (-1),?_,by rw [HM.out],((ak.trans (hB.mono ak.size)).setCell (p:=⟨w.heap.size+1,0,none⟩) aF _).trans (belowK_b (w:=w) (aM _) _ D _ _ O bd F F)⟩;simp [results,Tryz.f108,go_sem,be]
 case stop=>
  rintro D c pre W hD ⟨rest,j2⟩ ⟨⟨rfl,ini,last,rfl,e2,e3,cB⟩,hB⟩ X
  have HM:=V (show dM q i reg=(last.1:Int) by
   rw [dM,Y O,<- hMt]
   exact IA (rest:=rest) O (by rw [<- j2];simp) e2 e3)
  clear e2 e3 j2;gi_wp2;refine ⟨by simp,.inl ⟨_,_,rfl,run_takeDeferred X,?_⟩⟩;have be:=cell_kept cB (grownBy_putObj' _ D (.deferred none)) (λr e=>by cases e;exact ⟨_,X,rfl⟩);refine ⟨.int .i64 (last.1:Int),?_,by rw [HM.out],hB.trans (belowK_b (w:=w) (aM _) W D _ _ O X F F)⟩;simp [results,Tryz.f108,go_sem,be]
def Ey (A n c i reg q w)(hr:Rd w w.heap.size 17 A n c (ens q))(hi : I6 i)(hg : I6 reg):Ca 108 #[.slice A n c,I i,I reg] w (RB w (I (dM q i reg))):=by
 by_cases h:reg<1\/31<reg
 .have HM:=V (show dM q i reg = -1 by rw [dM,aa h])
  clear hi hg hr;rcases Int.lt_or_le reg 1 with h|h
  .go_enter func108,ntmps108
   exact Ix
  .have h:31<reg:=by omega
   go_enter func108,ntmps108;exact Ix
 .refine (callsIn_wide (n:=9)).1 ((Tb A n c i reg q w hr hi O O).mono ?_)
  rintro e w' ⟨rfl,hb⟩;exact ⟨rfl,hb⟩
end
section
open Go.RowKit Go.Sort
def Y1 (ways:Int) (A:Option Addr) (n c:Nat) (S:List Cs) (x:Nat) (w:World) (hr:bT w w.heap.size A n c S) (ho:kP S) (iz:¬ bj ways (aZ S)) :Ca 80 #[.agg #[I ways,.slice A n c],U (x:Int)] w (RB w (.tuple #[I 0,I 0,.bool false])):=by
 have HR:=V (λW (hw:af w W)=>EN ways A n c S W (hr.bel hw) ho false ⟨λh=>fK,λh=>absurd h iz⟩);go_enter func80,ntmps80;go_upto_region 1 with (fail);have jZ:=Bk.new' w 35 [I ways,.slice A n c] w.heap.size F;have ii:=af.alloc w (.cells [Value.int .i64 ways,.slice A n c].toArray 35);revert jZ ii;generalize w.alloc _=W0;intro jZ ii;replace ii:=V ii;go_wp2_with ((first|refine Ia ?_|(go_at_call 120;refine (HR.out _ ii.out).mono ?_;rintro e w1 ⟨rfl,aB⟩)));go_ret3;exact ⟨rfl,ii.out.trans aB⟩
def YA (ways:Int) (A:Option Addr) (n c:Nat) (S:List Cs) (x:Nat) (w:World) (hr:bT w w.heap.size A n c S) (ho:kP S) (hx:x<4294967296) (hR:bj ways (aZ S)) (k:Nat) (hk:x / 16 % n=k) (set:List Wy) (iu:(aZ S)[k]?=some set) (at':Nat) (b:Bool)(hb:(b=true /\ ∃ v,At set (x - x % 16) at' v /\ ∀ j<at',∀ u,set[j]?=some u->u.line≠x - x % 16)\/(b=false/\at'=0/\pP set (x - x % 16))) :Ca 80 #[.agg #[I ways,.slice A n c],U (x:Int)] w (RB w (.tuple #[I (k:Int),I (at':Int),.bool b])):=by
 have hn:n=1\/n=2\/n=4:=by have:=hR.hn;rwa [jN,hr.slen] at this
 have HR:=V (λW (hw:af w W)=>EN ways A n c S W (hr.bel hw) ho true ⟨λ_=>hR,λ_=>rfl⟩);have ik:k<n:=by rw [<- hk];exact dy _ O
 obtain ⟨hl,g0,o0,rfl,ci,iy,hs⟩:=hr.at_ ik;rw [EO hl] at iu;have bh:(S[k]'hl).ws=set:=by injection iu
 obtain ⟨s,aO⟩:∃ s,S[k]'hl=s:=⟨_,rfl⟩;rw [aO] at iy hs bh;obtain ⟨sA,m,sc,ws⟩:=s;simp only at iy hs bh;subst bh;have HL:=V (λW=>mh x W hx);have bR:(x - x % 16) / 16 % n=k:=by rw [<- hk];congr 1;omega
 have HS:=V (λW=>II ways (some ⟨g0,o0,none⟩) n c (x - x % 16) W hn O);rw [bR] at HS;have HP:=V (λW (hw:af w W)=>CR sA m sc ws (x - x % 16) W (hs.bel hw) at' b hb);have cD:=V iy;have db:(k:Int)<(n:Int):=by omega
 have hc1:=hr.rd.le;have aN:=hr.rd.mx;unfold maxLen at aN;clear hk bR iu aO iy hb hn;revert HL HS HP;generalize x - x % 16=lo;intro HL HS HP;obtain ⟨A,hA⟩:∃ A,A=(some ⟨g0,o0,none⟩:Option Addr):=⟨_,rfl⟩;go_enter func80,ntmps80;go_upto_region 1 with (fail);have jZ:=Bk.new' w 35 [I ways,.slice (some ⟨g0,o0,none⟩) n c] w.heap.size F;have ii:=af.alloc w (.cells [Value.int .i64 ways,.slice (some ⟨g0,o0,none⟩) n c].toArray 35);clear hA;revert jZ ii;generalize w.alloc _=W0;intro jZ ii;replace ii:=V ii;go_wp2_with ((first|refine Ia ?_|(go_at_call 120;refine (HR.out _ ii.out).mono ?_;rintro e w1 ⟨rfl,aB⟩;replace jZ:=jZ.bel aB;replace ii:=V (ii.out.trans aB);clear aB)|(go_at_call 63;refine (HL.out _).mono ?_;rintro e w2 ⟨rfl,d2,rfl⟩;replace jZ:=jZ.drewN d2;replace ii:=V (ii.out.trans (af.drewN _ d2)))|(go_at_call 139;refine (HS.out _).mono ?_;rintro e w3 ⟨rfl,bi⟩;replace jZ:=jZ.bel bi;replace ii:=V (ii.out.trans bi);have cc:=jZ.cell_of 1 _ F;have ccs:=ii.out.cell_of cD.out;clear bi)|(go_at_call 140;refine (HP.out _ ii.out).mono ?_;rintro e w4 ⟨rfl,cF⟩)));go_ret3;exact ⟨rfl,ii.out.trans cF⟩
end
section
open Go.RowKit
instance ensRows : Rows ens En.cells 17:=⟨λ_=>rfl,λ_=>rfl,En.one,by decide⟩
instance ensOne (q:List En):gQ (ens q):=⟨Ij q⟩
instance enOne (r:En):gQ r.cells:=⟨r.one⟩
def aE (ks:List Int):List Value:=ks.map (Value.int .i64)
def nd (l):(aE l).length=l.length:=by simp [aE]
def pA {l}{k:Nat}{x}(h:l[k]?=some x):(aE l)[k]?=some (I x):=by simp [aE,h]
def VK (l):∀ u∈aE l,u.oneCell'=true:=λu hu=>by
 obtain ⟨x,_,rfl⟩:=fQ.1 hu;rfl
instance i64sOne (l:List Int):gQ (aE l):=⟨VK l⟩
def tH (a b):aE (a++b)=aE a++aE b:=by simp [aE]
def Sa (a:List Int) (k:Nat):(aE a).take k=aE (a.take k):=by simp [aE,List.map_take]
def Rd.i64slen {w B n c A l}(h:Rd w B 1 A n c (aE l)):l.length=n:=by
 have:=h.len;rw [nd] at this;omega
def cQ (x:Int):Prop:=I6 x
def cC.op {r}(h:cC r):cQ r.inst.op:=h.2.2.1.1
def cC.rs1 {r}(h:cC r):cQ r.inst.rs1:=h.2.2.1.2.2.1
def cC.rs2 {r}(h:cC r):cQ r.inst.rs2:=h.2.2.1.2.2.2.1
def dp (q:List En):Prop:=∀ r∈q,cC r
def dp.op {q}(h:dp q):Kx q:=λr hr=>(h r hr).op
def dp.take {q:List En} (h:dp q) (k:Nat):dp (q.take k):=λr hr=>h r (jE hr)
end
section
open Go.RowKit
section
variable {P:Program} {ops:Array Oper} {rest:List Oper} {o:Oper} {a:Act} {Q:Exit->Act->World->Prop} {w0 w w1:World} {D0 D:List Da} {M:List Mu}
def St.put (h:St w0 D0 w M D)(hb:af w w1){i g off t cs}(hi:M[i]?=some (.blk g t cs))(v):St w0 D0 (w1.setCell ⟨g,off,none⟩ v) (M.set i (.blk g t (cs.set off v))) D:=by
 have h2:=h.grow hb;have hg:w1.grownBy (w1.setCell ⟨g,off,none⟩ v) (some g):=⟨rfl,rfl,rfl,by simp [World.setCell],λk hk hne=>pU w1 _ _ k (λe=>hne (by rw [e]))⟩;exact h2.upd i _ (.blk g t (cs.set off v)) hi hg ⟨(h2.bkAt hi).set_ off _,(h2.mu i _ hi).2⟩ λg' R=>.inl R
def wL {x y:Operand} {ts:Array TypeId} {k k':IntKind} {p q N:Int} (ho:o.op = .call { callee:=.builtin .max,args:=#[x,y],argTypes:=ts }) (hx:ac a x=some (.int k p)) (hy:ac a y=some (.int k' q))(h:wpList P ops Q rest (a.put o.dst (.int k N)) w) (ig:o.guard=none:=by rfl) (hN:Hid (N=if q > p then q else p):=by assumption):wpList P ops Q (o::rest) a w:=xE N ho hx hy h ig hN.out
def yU {t e:TypeId} {d s:Operand} {z:Value} {sz bytes:Nat} {g n m cd:Nat} {A:Option Addr} {c i:Nat} {us cs:List Value} {t':TypeId} {M':List Mu} (ho:o.op = .call { callee:=.builtin .copy,args:=#[d,s],argTypes:=#[t,t] }) (E:St w0 D0 w M D)(hx:ac a d=some (.slice (some ⟨g,0,none⟩) n cd)) (hy:ac a s=some (.slice A m c)) (h:∀ w',St w0 D0 w' M' D->wpList P ops Q rest (a.put o.dst (goInt (n:Nat))) w') (ig:o.guard=none:=by rfl) (ht:bF P t e z sz bytes:=by exact fS _ _ _ _ _ rfl)(hd:ab sz A m c us∈D:=by exact au) (hi:M[i]?=some (.blk g t' cs):=by exact fd) (hl:cs.length=n * sz:=by first|exact rfl|(simp [madeCells];done)|(simp [madeCells];omega)) (bS:n<=m:=by (first|assumption|omega)) (h1:∀ u∈us,ls M u:=by exact qP) (hM:M.set i (.blk g t' (us.take (n * sz)))=M':=by first|(simp only [zF];exact rfl)|(simp only [zF];done)|exact rfl):wpList P ops Q (o::rest) a w:=by
 subst hM;have hr:=E.rd hd;have bV:=hr.to bS;replace hx:=ap hx;replace hy:=ap hy;obtain ⟨hu,a7,dc,hsz⟩:=ht;obtain ⟨i0,cG,hz,cW,rfl⟩:=info_parts a7;subst cW;have hg:=E.bkAt hi;have cH:(us.take (n * i0.size)).length=n * i0.size:=bV.len;refine kr ig λK X=>?_
 have ij:=run_storeCells_cells (P:=P) g 0 (us.take (n * i0.size)) 0 w (λj hj=>by
  rw [hg.cell,tg,ba O];rfl) (λj hj=>hg.frozen O) (λu hu=>E.oneM (h1 u (jE hu)))
 obtain ⟨k1,k2⟩:=hg.setCells (us.take (n * i0.size)) (0+0);have hf:(Builtin.firstCells i0.size n (.slice A m c)).run P w = .ok (us.take (n * i0.size)).toArray w:=by
  cases A with
  | none=>
   have dd:m=0:=by
    rcases lh m with h0|h0
    .exact h0
    .obtain ⟨g,f,e,_⟩:=hr.at_ h0
     cases e
   have:n=0:=by omega
   subst this;rw [tY,List.take_zero];exact run_firstCells_none w _ _ _ _
  | some ad=>
   refine run_firstCells_some (P:=P) w i0.size n ad m c _ cH λj u hu=>?_
   have hj:=(aK.1 hu).1;have hm:0<n:=by
    rcases lh n with h0|h0
    .subst h0;omega
    .exact h0
   obtain ⟨g',f',e',_,hc⟩:=bV.at_ hm;injection e' with e';subst e';have e3:(⟨g',f',none⟩:Addr).add j=⟨g',f'+j,none⟩:=by unfold Addr.add;split <;> simp_all
   rw [e3];exact hc j u hu
 have ip:(Builtin.copy_ #[t,t] o.type #[.slice (some ⟨g,0,none⟩) n cd,.slice A m c]).run P w = .ok (goInt (n:Nat)) (w.setCells g (0+0) (us.take (n * i0.size))):=by
  simp [Builtin.copy_,eH hu,Builtin.lenOf,sizeOf,typeInfo,cG,show m.min n=n from ze bS,hf,ij]
 unfold Oper.wp execOp;simp only [ho,resolve,invoke,builtin,bC,bL,bG,nj,kg,mf,hx,hy,ip];refine X _ _ (h _ ?_);rw [BF cs _ O] at k1;exact E.upd i _ _ hi k2 ⟨k1,(E.mu i _ hi).2⟩ λg' R=>.inl R
end
end
section
open Go.RowKit Go.Maps
def Gy : Keyed Tryz.prog 3:=int_keyed underlying3
def V6 (w):(zeroValue 3).run Tryz.prog w = .ok (I 0) w:=by kernel_rfl
def z7 (w:World) (b N:Nat) (d m:Bool):Prop:=∃ Dt:DataW Unit,w.ownsMap Tryz.prog 3 (plainElem Tryz.prog 3) b N Dt/\IsMap Dt /\
 ∀ u:Int,u=0\/u=1\/u=2 -> ∃ c:Int,Dt.atKey (.int .i64 u) (.lit (.int .i64 0)) = .lit (.int .i64 c)/\0<=c/\c<=(N:Int)/\(u=1->(0<c↔d=true))/\(u=2->(0<c↔m=true))
def z7.kept {w w' b N d m}(h:z7 w b N d m)(hk:w'.heap[b]?=w.heap[b]?):z7 w' b N d m:=by
 obtain ⟨Dt,⟨es,clock,hb,Y',hs,hD⟩,h2⟩:=h;exact ⟨Dt,⟨es,clock,hk.trans hb,Y',hs,hD⟩,h2⟩
def qQ (b N:Nat) (d m:Bool):Da where
 ok w:=z7 w b N d m
 bl g:=g=b
 keep {w w'} hk hs h:=h.kept (hk b F)
 lt {w} h g hg:=by obtain ⟨Dt,h1,_⟩:=h;rw [hg];exact h1.lt
section
variable {P:Program} {ops:Array Oper} {rest:List Oper} {o:Oper} {a:Act} {Q:Exit->Act->World->Prop} {w0 w w':World} {D0 D:List Da} {M:List Mu}
def St.pushMap (h:St w0 D0 w M D):St w0 D0 (w.alloc (.map #[] 0)) M (qQ w.heap.size 0 false false::D) :=
 h.add (af.alloc w _) _ ⟨.map [],World.ownsMap_made _ _ _ _,⟨[],rfl⟩,λu _=>⟨0,rfl,by omega,by omega,λ_=>by simp,λ_=>by simp⟩⟩ [] (From.new λg hg=>by rw [hg];exact aM _) (λe he=>by cases he)
def St.updD {d d' b}(h:St w0 D0 w M (d::D))(hb:w0.heap.size<=b)(hbl:d.bl b)(bW:∀ g,d'.bl g->g=b)(j1:d'.ok w')(hg:w.grownBy w' (some b))(hD:∀ e∈D,¬ e.bl b):St w0 D0 w' M (d'::D):=by
 refine ⟨h.bel.grown hg λk hk=>by cases hk;exact hb,λi m hm=>?_,h.apart,λe he=>?_,λe he i m hm g aD aP=>?_,λe he=>?_⟩
 .exact (h.mu i m hm).keep λg aD=>hg.block g ((h.mu i m hm).lt aD).2 (λe=>by cases e;exact h.sep d (ee ..) i m hm _ aD hbl)
 .rcases bB.1 he with rfl|he
  .exact j1
  .have h1:=h.dat e (ez _ he)
   exact e.keep (λg aP=>hg.block g (e.lt h1 g aP) (λe'=>by cases e';exact hD e he aP)) hg.size h1
 .rcases bB.1 he with rfl|he
  .rw [bW g aP] at aD
   exact h.sep d (ee ..) i m hm _ aD hbl
  .exact h.sep e (ez _ he) i m hm g aD aP
 .rcases bB.1 he with rfl|he
  .exact From.new λg R=>by rw [bW g R];exact hb
  .exact h.src e (ez _ he)
def nY {b N:Nat} {d m:Bool} {x y:Operand} {u:Int} {t:TypeId} (ho:o.op = .lookup t x y false) (E:St w0 D0 w M (qQ b N d m::D)) (hx:ac a x=some (.map (some b))) (hy:ac a y=some (I u)) (ht:Tryz.prog.underlying t=some (.map 3 3)) (hu:u=0\/u=1\/u=2)(hw:nA o ops a.tmps)(h:∀ c:Int,0<=c->c<=(N:Int)->(u=1->(0<c↔d=true))->(u=2->(0<c↔m=true))->wpList Tryz.prog ops Q rest (a.put o.dst (I c)) w):wpList Tryz.prog ops Q (o::rest) a w:=by
 replace hx:=ap hx;replace hy:=ap hy;obtain ⟨Dt,ir,_,eY⟩:=E.dat (qQ b N d m) (ee ..);obtain ⟨c,hc,h0,h1,h2,h3⟩:=eY u hu;obtain ⟨c',ip,bZ,_⟩:=ir.lookup_int Gy ht underlying3 (V6 _) (keyOf_int_mk underlying3 (a:=u) HY);rw [hc] at bZ;obtain rfl:c=c':=(Lit.int.inj (DataW.lit.inj bZ)).2;refine cI hw.1 λK X=>?_
 have hk:=X _ _ (h c h0 h1 h2 h3);unfold Oper.wp;simp [execOp,ho,hx,hy,ip,Result.andThen];exact hk
def nu {t}(ho:o.op = .makeMap t none)(E:St w0 D0 w M D)(ig:o.guard=none)(h:∀ b w',St w0 D0 w' M (qQ b 0 false false::D)->w0.heap.size<=b->(∀ e∈D,¬ e.bl b)->wpList P ops Q rest (a.put o.dst (.map (some b))) w'):wpList P ops Q (o::rest) a w:=by
 refine kr ig λK X=>?_
 unfold Oper.wp execOp;simp only [ho,ma,run_makeMap,bC,bL,bG];exact X _ _ (h _ _ E.pushMap E.bel.size λe he hb=>by have:=e.lt (E.dat e he) _ hb;omega)
def Ua {b N:Nat} {d m:Bool} {x y z:Operand} {u c:Int} {t:TypeId} {d' m':Bool} (ho:o.op = .mapUpdate t x y z) (E:St w0 D0 w M (qQ b N d m::D)) (hx:ac a x=some (.map (some b))) (hy:ac a y=some (I u)) (hz:ac a z=some (I c)) (ht:Tryz.prog.underlying t=some (.map 3 3)) (hu:u=0\/u=1\/u=2)(ig:o.guard=none) (b0:0<c) (de:c<=(N:Int)+1) (hN:N<=100000) (hb:w0.heap.size<=b) (hD:∀ e∈D,¬ e.bl b) (hd:d'=(d || decide (u=1))) (hm:m'=(m || decide (u=2)))(h:∀ w',St w0 D0 w' M (qQ b (N+1) d' m'::D)->wpList Tryz.prog ops Q rest (a.put o.dst undef) w'):wpList Tryz.prog ops Q (o::rest) a w:=by
 replace hx:=ap hx;replace hy:=ap hy;replace hz:=ap hz;obtain ⟨Dt,ir,b5,eY⟩:=E.dat (qQ b N d m) (ee ..);refine wpList_mapUpdate_own _ ig _ _ _ t ho 3 3 Gy ht _ b N Dt hx ir eT _ _ (.int .i64 u) hy hz (keyOf_int_mk underlying3 HY) (.lit (.int .i64 c)) [] (plainElem_int underlying3 (WalkArith.wf_i64 O)) ?_;intro w1 cJ cL;refine h w1 (E.updD hb F (λg hg=>hg) ⟨_,cJ,b5.put _ _,λv hv=>?_⟩ cL hD);by_cases b6:v=u
 .subst b6
  refine ⟨c,atKey_put_same b5 (by constructor) _ _,by omega,by omega,λh1=>?_,λh1=>?_⟩
  .simp [hd,h1];exact b0
  .simp [hm,h1];exact b0
 .obtain ⟨c2,h1,h2,h3,h4,h5⟩:=eY v hv
  refine ⟨c2,by rw [atKey_put_other (by intro e;injection e with _ e;exact b6 e)];exact h1,h2,by omega,λe=>?_,λe=>?_⟩
  .rw [h4 e,hd]
   have:decide (u=1)=false:=by simp;omega
   simp [this]
  .rw [h5 e,hm]
   have:decide (u=2)=false:=by simp;omega
   simp [this]
end
end
section
open Go.RowKit Wd
def EQ {x}(h0:0<=x)(h1:x<18446744073709551616):IntKind.u64.wrap x=x:=by
 simp only [IntKind.wrap,IntKind.bits,IntKind.signed];simp;omega
def yS (a:Nat) (n:Int) (w:World) (ha:a<4294967296) (hn:cQ n) :Ca 215 #[U (a:Int),I n] w (RB w (.int .u64 ((kE a n:Nat):Int))):=by
 obtain ⟨aB,hn2⟩:=hn;obtain ⟨M,hM⟩:∃ M:Nat,M=(max n 0).toNat:=⟨_,rfl⟩;have bw:Hid ((M:Int)=if (0:Int) > n then 0 else n):=V ox;have hM2:M<=9223372036854775807:=by omega
 have hE:kE a n=a+M:=by unfold kE;rw [hM]
 have w1:=EQ (x:=(a:Int)) O O;have w2:=EQ (x:=(M:Int)) O O;have w3:=EQ (x:=(a:Int)+(M:Int)) O O;rw [hE];clear hM hE;go_enter func215,ntmps215;go_wp2_with ((try refine zs ?_);refine RM ?_);go_ret;exact ⟨by simp,af.refl _⟩
end
section
open Go.RowKit
instance wysRows : Rows bv Wy.cells 3:=⟨λ_=>rfl,λ_=>rfl,Wy.one,by decide⟩
instance csvRows : Rows cj (λs=>[.slice s.A s.n s.c]) 1:=⟨λq=>by simp only [cj];induction q with
 | nil=>rfl
 | cons r q ih=>rw [kg,ih];rfl,λ_=>rfl,λr u hu=>by obtain rfl:=dm.1 hu;rfl,by decide⟩
instance wysOne (q:List Wy):gQ (bv q):=⟨AP q⟩
instance wyOne (r:Wy):gQ r.cells:=⟨r.one⟩
def cR (S:List Cs):Da where
 ok w:=∀ s∈S,(ab 3 s.A s.n s.c (bv s.ws)).ok w
 bl g:=∃ s∈S,Hi s.A s.n g
 keep {w w'} hk hs h:=λs hm=>(ab 3 s.A s.n s.c (bv s.ws)).keep (λg hg=>hk g ⟨s,hm,hg⟩) hs (h s hm)
 lt {w} h g hg:=by obtain ⟨s,hm,hg⟩:=hg;exact (ab 3 s.A s.n s.c (bv s.ws)).lt (h s hm) g hg
def iK (A:Option Addr) (n c:Nat) (S:List Cs):List Da:=[ab 1 A n c (cj S),cR S]
def ei {w A n c S}(h1:(ab 1 A n c (cj S)).ok w)(h2:(cR S).ok w):bT w w.heap.size A n c S:=⟨h1,h2⟩
def mF {w A n c S}(h:bT w w.heap.size A n c S):∀ d∈iK A n c S,d.ok w:=by
 intro d hd;rcases bB.1 hd with rfl|hd
 .exact h.rd
 .rcases bB.1 hd with rfl|hd
  .exact h.sets
  .cases hd
section
variable {w0 w w':World} {D0 D D1 ds:List Da} {M:List Mu}
def St.elem (h:St w0 D0 w M D){S}(hS:cR S∈D){k:Nat}{s}(hs:S[k]?=some s):St w0 D0 w M (ab 3 s.A s.n s.c (bv s.ws)::D) :=
 h.part _ ((h.dat _ hS:(cR S).ok w) s (aQ hs)) λg hg=>⟨_,hS,s,aQ hs,hg⟩
def St.elemSet (h:St w0 D0 w M D) {S:List Cs} (hS:cR S∈D) (k:Nat) {A2:Option Addr} {n2 c2:Nat} {q2:List Wy} (h2:ab 3 A2 n2 c2 (bv q2)∈D):St w0 D0 w M (cR (S.set k ⟨A2,n2,c2,q2⟩)::D) :=
 h.part _ (λs hs=>by
  rcases po hs with hs|rfl
  .exact (h.dat _ hS:(cR S).ok w) s hs
  .exact h.dat _ h2) λg hg=>by
  obtain ⟨s,hs,hg⟩:=hg;rcases po hs with hs|rfl
  .exact ⟨_,hS,s,hs,hg⟩
  .exact ⟨_,h2,hg⟩
end
def St.rds {w0 w:World} {D0 D:List Da} {M:List Mu} (h:St w0 D0 w M D) {A:Option Addr} {n c:Nat} {S:List Cs} (h1:ab 1 A n c (cj S)∈D:=by exact au) (h2:cR S∈D:=by exact au):bT w w.heap.size A n c S:=ei (h.dat _ h1) (h.dat _ h2)
def St.elemA {w0 w:World} {D0 D:List Da} {M:List Mu} (h:St w0 D0 w M D) {S:List Cs} {k:Nat} {s:Cs} (hs:S[k]?=some s) (hS:cR S∈D:=by exact au):St w0 D0 w M (ab 3 s.A s.n s.c (bv s.ws)::D):=h.elem hS hs
def iV (w:World) (D0:List Da) (ways:Int) (v:Value) (w':World) (C:List (List Wy)):Prop :=
 ∃ A n c S,v = .agg #[I ways,.slice A n c]/\Out w D0 w' [ab 1 A n c (cj S),cR S]/\aZ S=C
end
section
open Go.RowKit Wd
def RU (a:Nat) (n:Int) (b:Nat) (m:Int) (w:World) (ha:a<4294967296) (hn:cQ n) (hb:b<4294967296) (hm:cQ m) :Ca 204 #[U (a:Int),I n,U (b:Int),I m] w (RB w (.bool (fO a n b m))):=by
 have E:=St.start w [] zN;have bk:=V (λW=>yS b m W hb hm);have bm:=V (λW=>yS a n W ha hn);have hR:fO a n b m=(!decide (n<=0) && !decide (m<=0) && (decide ((a:Int)<(kE b m:Int)) && decide ((b:Int)<(kE a n:Int)))):=by
  unfold fO;congr 1
  .congr 1
   .rw [oT];simp
   .rw [oT];simp
  .congr 1
   .rw [oT];simp
   .rw [oT];simp
 generalize kE b m=E1 at *;generalize kE a n=E2 at *;rw [hR];clear hR hn hm;obtain ⟨b1,h1⟩:∃ b1,decide (n<=0)=b1:=⟨_,rfl⟩;obtain ⟨b2,h2⟩:∃ b2,decide (m<=0)=b2:=⟨_,rfl⟩;obtain ⟨b3,h3⟩:∃ b3,decide ((a:Int)<(E1:Int))=b3:=⟨_,rfl⟩;obtain ⟨b4,h4⟩:∃ b4,decide ((b:Int)<(E2:Int))=b4:=⟨_,rfl⟩;rw [h1,h2,h3,h4];replace h1:=V h1;replace h2:=V h2;replace h3:=V h3;replace h4:=V h4;cases b1
 .cases b2
  .cases b3
   .go_enter func204,ntmps204
    exact pL
   .cases b4
    .go_enter func204,ntmps204
     exact pL
    .go_enter func204,ntmps204
     exact pL
  .go_enter func204,ntmps204
   exact pL
 .go_enter func204,ntmps204
  exact pL
def RP (a:Nat) (n:Int) (b:Nat) (m:Int) (w:World) (ha:a<4294967296) (hn:cQ n) (hb:b<4294967296) (hm:cQ m) :Ca 205 #[U (a:Int),I n,U (b:Int),I m] w (RB w (.bool (nR a n b m))):=by
 have E:=St.start w [] zN;have bk:=V (λW=>yS b m W hb hm);have bm:=V (λW=>yS a n W ha hn);have hR:nR a n b m=(decide (0<m) && (decide ((a:Int)<=(b:Int)) && decide ((kE b m:Int)<=(kE a n:Int)))):=by
  unfold nR;congr 1;congr 1
  .rw [oT];simp
  .rw [oT];simp
 generalize kE b m=E1 at *;generalize kE a n=E2 at *;rw [hR];clear hR hn hm;obtain ⟨b1,h1⟩:∃ b1,decide (0<m)=b1:=⟨_,rfl⟩;obtain ⟨b3,h3⟩:∃ b3,decide ((a:Int)<=(b:Int))=b3:=⟨_,rfl⟩;obtain ⟨b4,h4⟩:∃ b4,decide ((E1:Int)<=(E2:Int))=b4:=⟨_,rfl⟩;rw [h1,h3,h4];replace h1:=V h1;replace h3:=V h3;replace h4:=V h4;cases b1
 .go_enter func205,ntmps205
  exact pL
 .cases b3
  .go_enter func205,ntmps205
   exact pL
  .cases b4
   .go_enter func205,ntmps205
    exact pL
   .go_enter func205,ntmps205
    exact pL
end
end Go.Proofs.YtgnomadgnciifaaGreatDoor
