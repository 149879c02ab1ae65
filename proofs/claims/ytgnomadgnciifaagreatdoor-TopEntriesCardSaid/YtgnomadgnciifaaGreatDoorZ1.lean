/- . -/
import Derived.Test.YtgnomadgnciifaaGreatDoorZH0
import Derived.Handy
import Derived.Lib.QuietBelow
import Derived.BigQuiet
import Derived.Deep.DeepMust
import Derived.Deep.RegionWith
import Derived.WalkLawsBesides
import Derived.KernelRfl
import Derived.OwnWalk
import Derived.Laws.OwnMore
import Derived.Maps.AppendAt
import Derived.Laws.BytesArg
import Derived.Laws.BitsAllLaws
import Derived.ProofKit
import Derived.OpenShut
import Derived.Laws.IdiomCopy
import Derived.Lib.AppendStr
import Derived.ArgAppend
import Derived.Laws.AppendOwnNone
import Derived.Room.Entries
import Derived.Laws.Rows
import Derived.Laws.Tables
import Derived.Laws.StructEq
import Derived.Maps.RangeWalk
import Derived.Deep.Slices
import Derived.Deep.Fields
import Derived.Great.BuildSlice
import Derived.Deep.RegionHeld3
set_option linter.all false
set_option maxRecDepth 100000
set_option maxHeartbeats 16000000
namespace Go.Proofs.YtgnomadgnciifaaGreatDoor
open Go.Proofs.Tryz
def wW {p:Prop} (h:p:=by
 cases hq:P.info? e with
 | none=>simp [hq] at hi
 | some i=>
  simp only [hq,dB,dF,pf] at hi
  simp [sizeOf,typeInfo,hq,hi.2.1]):p:=h
def AC {p:Prop} (h:p:=by
 have mZ:tmps[p]?.getD undef = .pointer (some ⟨g,0,none⟩):=by simpa using hp
 simp [results,h,mZ,asAddr,hb.loadVar ht]):p:=h
def wz {p:Prop} (h:p:=by
 rw [hf];clear hf;go_enter func184,ntmps184;go_wp2;go_ret
 exact ⟨rfl,0,rfl⟩):p:=h
def Lk {p:Prop} (h:p:=by
 rw [hM] at R;refine kr ig λK X=>?_
 have hk:=X _ _ (h v' w' R);replace hs:=ap hs;unfold Oper.wp execOp;simp only [ho,resolve,invoke,builtin,bC,bL,bG,nj,kg,mf,hs,hx,ip]
 exact hk):p:=h
def wG {p:Prop} (h:p:=by
 go_enter func56,ntmps56;go_wp2;go_ret
 exact ⟨rfl,0,rfl⟩):p:=h
def J8 {p:Prop} (h:p:=by
 rw [run_sliceAt_slice (P:=P) (w:=w) t _ _ _ _ nK,h1,hel,hs];simp only [bG,sliced,jt,tY,Nat.sub_zero];congr 2;split
 .rfl
 .cases A with
  | none=>rfl
  | some ad=>simp [Addr.add]):p:=h
def KZ {p:Prop} (h:p:=by
 go_wp2_with (go_at_call 56;refine (memRight_any _ _ _ _ l5 l5 l5).mono ?_;rintro e w' ⟨rfl,d,rfl⟩);go_ret2
 exact ⟨rfl,_,rfl⟩):p:=h
def Ml {p:Prop} (h:p:=by
 unfold Oper.wp execOp;simp only [ho,resolve,invoke,builtin,bC,bL,bG,nj,kg,mf,hx,hy,ip];rw [<- hN]
 exact X _ _ h):p:=h
def Ga {p:Prop} (h:p:=by
 unfold Oper.wp execOp;simp only [ho,resolve,invoke,builtin,bC,bL,bG,nj,kg,mf,hd,hs,ip]
 exact X _ _ (h _ k1 k2)):p:=h
def GQ {p:Prop} (h:p:=by
 have h1:=(aK.1 (hu 0 _ (ba h0))).1;have h2:=hr.len;rcases lh n with h3|h3
 .subst h3;omega
 .exact h3):p:=h
def MZ {p:Prop} (h:p:=by
 rw [run_sliceAt_slice (P:=P) (w:=w) t _ _ _ _ nK,h1,hel,hs]
 simp only [bG,sliced,jt,fW]):p:=h
def Nq {p:Prop} (h:p:=by
 go_wp2;go_round;case rel=>exact ⟨j+1,by omega,by go_num,Ha.out⟩
 case measure=>exact zM):p:=h
section
open Go.RowKit Go.Sort
def af (w w':World):Prop:=Below w.heap.size w w'
abbrev RB (w:World) (x:Value) (e:Ending) (w':World):Prop:=e = .returned x/\af w w'
abbrev Ca:=Calls Tryz.prog
def af.refl (w):af w w:=qa _ _
def af.trans {a b c}(h:af a b)(k:af b c):af a c :=
 Below.trans h ⟨k.os,k.tape,k.output,k.size,λi hi=>k.block i (so hi h.size)⟩
def af.drewN (w:World) (n:Nat):af w (w.drewN n):=⟨rfl,rfl,rfl,aM _,λ_ _=>rfl⟩
def af.drew (w):af w w.drew:=⟨rfl,rfl,rfl,aM _,λ_ _=>rfl⟩
def af.alloc (w)(o:Obj):af w (w.alloc o):=Below.alloc (qa _ _) (aM _) o
def af.setCell {a w}(h:af a w){p}(hp:a.heap.size<=p.block)(u):af a (w.setCell p u):=Below.setCell h hp u
def af.grown {a w w'}(h:af a w){row:Option Nat}(hg:w.grownBy w' row)(hr:∀ k,row=some k->a.heap.size<=k):af a w' :=
 Below.grown h hg h.size hr
def af.size {a w}(h:af a w):a.heap.size<=w.heap.size:=Below.size h
def af.cell {a w}(h:af a w){p}(hp:p.block<a.heap.size):w.cell? p=a.cell? p:=Below.cell h hp
def af.cell_of {a w}(h:af a w){p v}(hp:a.cell? p=some v):w.cell? p=some v:=by
 rw [h.cell (lU a p hp)];exact hp
def af.frozen {a w}(h:af a w){p}(hp:p.block<a.heap.size):w.frozen? p=a.frozen? p:=Below.frozen h hp
def MN {W w1}(hb:af W w1):(∀ b o,b<W.heap.size->w1.cell? ⟨b,o,none⟩=W.cell? ⟨b,o,none⟩)/\(∀ b o,b<W.heap.size->w1.frozen? ⟨b,o,none⟩=W.frozen? ⟨b,o,none⟩) :=
 ⟨λb o h=>hb.cell (p:=⟨b,o,none⟩) h,λb o h=>hb.frozen (p:=⟨b,o,none⟩) h⟩
section
variable {P:Program} {f:FuncId} {args:Array Value} {w:World} {v:Value}
def Rw {a n}(h:Calls P f args (w.drewN (a+n)) λe w'=>e = .returned v /\ ∃ m,w'=(w.drewN (a+n)).drewN m):Calls P f args (w.drewN (a+n)) λe w'=>e = .returned v /\ ∃ m,w'=w.drewN (a+m) :=
 h.mono λ_ _ ⟨he,m,hm⟩=>⟨he,n+m,by rw [hm,World.drewN_drewN,lZ]⟩
def ti {d os}(h:Calls P f args (grow (redrawn w d) os) λe w'=>e = .returned v/\af (grow (redrawn w d) os) w'):Calls P f args (grow (redrawn w d) os) λe w''=>e = .returned v /\ ∃ p:Regrown,w''=grow (redrawn w p.d) p.os:=Calls.regrown_of h
def rD (w:World) (d:Nat) (os:Array Obj):af w (grow (redrawn w d) os):=below_regrown w d os
end
def dI {a b}(h:a=b):Ending.returned (U a) = .returned (U b):=by rw [h]
def xl {a b}(h:a=b):Ending.returned (I a) = .returned (I b):=by rw [h]
def qD {a b}(h:a=b):Ending.returned (.bool a) = .returned (.bool b):=by rw [h]
def De {P:Program} (t:TypeId) (ht:P.underlying t=some .string) (s:ByteArray) (a k:Nat) (h:a+k<=s.size) (W:World) :(Instr.slice t (.string s) (some (I (a:Int))) (some (I ((a:Int)+(k:Int)))) none).run P W = .ok (.string (s.extract a (a+k))) W:=by
 have:=run_slice_string (P:=P) W t s .i64 .i64 (a:Int) ((a:Int)+(k:Int)) ht O O O;rw [this,jt,show ((a:Int)+(k:Int)).toNat=a+k by omega]
def xz (m:ByteArray)(a b):(m.extract a b).data.toList=(m.data.toList.take b).drop a:=by
 rw [ByteArray.data_extract,Array.toList_extract,List.extract_eq_take_drop,List.drop_take]
def Bb (m:ByteArray)(a b):(m.extract a b).size=min b m.size - a:=by simp [wX]
def ly (m:ByteArray):m.data.toList.length=m.size:=by simp
end
section

namespace Wd
def ey (a s:Int):Bool:=decide (0<=a/\a<=31/\1<=s/\s<=32 - a)
def aD (w a s:Nat):Nat:=(w / 2 ^ a) &&& (2 ^ s - 1)
def n8 (a s:Nat):Nat:=(2 ^ s - 1) * 2 ^ a % 4294967296
def bu (w a s v:Nat):Nat:=(w &&& (4294967295 - n8 a s)) ||| ((v * 2 ^ a % 4294967296) &&& n8 a s)
def cz (w s:Nat):Nat:=if (w / 2 ^ (s - 1)) &&& 1=1 then (w &&& (2 ^ s - 1)) ||| (4294967295 - (2 ^ s - 1)) else w &&& (2 ^ s - 1)
def aV (w:Nat) (a s:Int):Nat:=if ey a s then aD w a.toNat s.toNat else 0
def aw (w:Nat) (a s:Int) (v:Nat):Nat:=if ey a s then bu w a.toNat s.toNat v else w
def cJ (w:Nat) (s:Int):Nat:=if s<1\/32<s then w else cz w s.toNat
def oD {a s}:ey a s=true↔0<=a/\a<=31/\1<=s/\s<=32 - a:=by simp [ey]
def pw {w i}(hw:w<4294967296)(hi:32<=i):w.testBit i=false :=
 EI (so hw (by have:=nT (n:=2) O hi;simpa using this))
def qH (w a s i):(aD w a s).testBit i=(decide (i<s) && w.testBit (a+i)):=by
 unfold aD;rw [jW,qA,fu,Bool.and_comm,Nat.add_comm i a]
def LM (a s i)(h:a+s<=32):(n8 a s).testBit i=decide (a<=i/\i<a+s):=by
 unfold n8;rw [show (4294967296:Nat)=2 ^ 32 from rfl,uK,w8,qA,<- Bool.decide_and,<- Bool.decide_and];exact vc.2 O
def xU (m i)(hm:m<4294967296):(4294967295 - m).testBit i=(decide (i<32) && !m.testBit i):=by
 have:=Nat.testBit_two_pow_sub_succ (x:=m) (n:=32) (by simpa using hm) i;rw [show (2 ^ 32 - (m+1):Nat)=4294967295 - m from by omega] at this;exact this
def xP (a s):n8 a s<4294967296:=dy _ O
def Nk {w}(a s v i)(hw:w<4294967296)(h:a+s<=32):(bu w a s v).testBit i=if a<=i/\i<a+s then v.testBit (i - a) else w.testBit i:=by
 unfold bu;rw [sm,jW,jW,xU _ _ (xP a s),LM a s i h,show (4294967296:Nat)=2 ^ 32 from rfl,uK,w8];by_cases hi:a<=i/\i<a+s
 .have jX:i<32:=by omega
  simp [hi,jX]
 .by_cases jX:i<32
  .simp [hi,jX]
  .simp [hi,jX,pw hw (by omega:32<=i)]
def DP {x}(h:∀ i,32<=i->x.testBit i=false):x<4294967296:=by
 rw [show (4294967296:Nat)=2 ^ 32 from rfl];exact Nat.lt_pow_two_of_testBit x (λi hi=>h i hi)
def Gx {w a s}(h:s<=32):aD w a s<4294967296 :=
 DP λi hi=>by rw [qH];simp;intro;omega
def fh (w:Nat) (a s:Int):aV w a s<4294967296:=by
 unfold aV;split
 .rename_i h;rw [oD] at h;exact Gx O
 .omega
def Rh {w a s v}(hw:w<4294967296)(h:a+s<=32):bu w a s v<4294967296 :=
 DP λi hi=>by rw [Nk _ _ _ _ hw h,Y O];exact pw hw hi
def mM {w:Nat} (a s:Int) (v:Nat) (hw:w<4294967296):aw w a s v<4294967296:=by
 unfold aw;split
 .rename_i h;rw [oD] at h;exact Rh hw O
 .exact hw
def Em {w}(s i)(hw:w<4294967296)(h1:1<=s)(h:s<=32):(cz w s).testBit i=(decide (i<32) && if i<s then w.testBit i else w.testBit (s - 1)):=by
 have hb:((w / 2 ^ (s - 1)) &&& 1=1)↔w.testBit (s - 1)=true:=by
  rw [xG,Nat.and_one_is_mod];simp
 have hs:2 ^ s - 1<4294967296:=by
  have:=nT (n:=2) O h;have e:(2:Nat) ^ 32=4294967296:=rfl;omega
 unfold cz;by_cases hc:w.testBit (s - 1)=true
 .rw [aa (hb.2 hc),sm,jW,xU _ _ hs,qA]
  by_cases hi:i<s
  .have:i<32:=by omega
   simp [hi,this]
  .simp [hi,hc]
 .rw [Y (λe=>hc (hb.1 e)),jW,qA]
  by_cases hi:i<s
  .have:i<32:=by omega
   simp [hi,this]
  .simp [hi,hc]
def PZ {w s}(hw:w<4294967296)(h1:1<=s)(h:s<=32):cz w s<4294967296 :=
 DP λi hi=>by rw [Em s i hw h1 h];simp;intro;omega
def Eo {w:Nat} (s:Int) (hw:w<4294967296):cJ w s<4294967296:=by
 unfold cJ;split
 .exact hw
 .exact PZ hw O O
def ED {w a s}(h:ey a s=true):aV w a s=aD w a.toNat s.toNat:=by unfold aV;rw [aa h]
def Yi {w a s v}(h:ey a s=true):aw w a s v=bu w a.toNat s.toNat v:=by unfold aw;rw [aa h]
def NK {w a s}(h:ey a s=false):aV w a s=0:=by unfold aV;rw [h];rfl
def O7 {w a s v}(h:ey a s=false):aw w a s v=w:=by unfold aw;rw [h];rfl
def qy (s:Nat):(2:Int) ^ s=((2 ^ s:Nat):Int):=by simp
def JN {s}(h:s<=32):2 ^ s<=4294967296:=by have:=nT (n:=2) O h;simpa using this
def Qp {s:Nat} (h:s<=32):((2:Int) ^ s % 4294967296 - 1) % 4294967296=((2 ^ s - 1:Nat):Int):=by
 rw [qy];have h1:=JN h;have h2:=Nat.pow_pos (n:=s) (show 0<2 by omega);generalize 2 ^ s=p at *;by_cases e:p=4294967296
 .subst e;rfl
 .omega
def SW (a s):(((2 ^ s - 1:Nat):Int) * 2 ^ a) % 4294967296=(n8 a s:Int):=by
 rw [qy];unfold n8;omega
def g4v (v a:Nat):((v:Int) * 2 ^ a) % 4294967296=((v * 2 ^ a % 4294967296:Nat):Int):=by
 rw [qy];omega
def yH (x n:Nat):((x:Int) / 2 ^ n)=((x / 2 ^ n:Nat):Int):=by rw [qy];omega
def J1 {x:Nat} (n:Nat) (hx:x<4294967296):x / 2 ^ n<4294967296:=fJ (kK _ _) hx
def wU {s}(h:s<=32):2 ^ s - 1<4294967296:=by
 have h1:=JN h;have h2:=Nat.pow_pos (n:=s) (show 0<2 by omega);omega
def g4w {w s}(h:(w / 2 ^ (s - 1)) &&& 1=1):cz w s=(w &&& (2 ^ s - 1)) ||| (4294967295 - (2 ^ s - 1)):=by unfold cz;rw [aa h]
def Ve {w s}(h:¬ (w / 2 ^ (s - 1)) &&& 1=1):cz w s=w &&& (2 ^ s - 1):=by unfold cz;rw [Y h]
def J3 (m:Nat) (hm:m<4294967296):4294967295 ^^^ m=4294967295 - m :=
 oo λi=>by
  rw [Nat.testBit_xor,xU m i hm,show (4294967295:Nat)=2 ^ 32 - 1 from rfl,qA];by_cases hi:i<32
  .simp [hi]
  .simp [hi,pw hm (show 32<=i by omega)]
def bytesL (x s:Nat):List UInt8:=(List.range s).map λi=>UInt8.ofNat (x / 2 ^ (8 * i))
def dl : List UInt8->Nat
 | []=>0
 | b::l=>b.toNat+256 * dl l
def qE (x s):(bytesL x s).length=s:=by simp [bytesL]
def Fx (x k):bytesL x (k+1)=bytesL x k++[UInt8.ofNat (x / 2 ^ (8 * k))]:=by simp [bytesL,List.range_succ]
def FI (l):dl l<256 ^ l.length:=by
 induction l with
 | nil=>simp [dl]
 | cons b l ih=>
  have:=b.toNat_lt;simp only [dl,ft,Nat.pow_succ];omega
def tS {l}(h:l.length<=4):dl l<4294967296:=by
 have h1:=FI l;have h2:256 ^ l.length<=256 ^ 4:=nT O h;have e:(256:Nat) ^ 4=4294967296:=rfl;omega
def g4y (l b):dl (l++[b])=dl l+b.toNat * 2 ^ (8 * l.length):=by
 induction l with
 | nil=>simp [dl]
 | cons c l ih=>
  rw [oZ,dl,ih,dl,ft,show 8 * (l.length+1)=8+8 * l.length by omega,Nat.pow_add];have:b.toNat * (2 ^ 8 * 2 ^ (8 * l.length))=256 * (b.toNat * 2 ^ (8 * l.length)):=by
   rw [show (2:Nat) ^ 8=256 from rfl,Nat.mul_left_comm]
  omega
def UN {l:List UInt8}{k}(h:k<l.length):dl (l.take (k+1))=dl (l.take k) ||| (l[k].toNat * 2 ^ (8 * k)):=by
 rw [iE h,g4y,cK,kZ O];have h1:=FI (l.take k);rw [cK,kZ O,show (256:Nat)=2 ^ 8 from rfl,<- Nat.pow_mul] at h1;rw [Nat.or_comm,<- Nat.shiftLeft_eq,<- Nat.shiftLeft_add_eq_or_of_lt h1];omega
def OM {b}(hb:b<256){k}(hk:k<4):b * 2 ^ (8 * k)<4294967296:=by
 have h2:2 ^ (8 * k)<=2 ^ 24:=nT O O;have e:(2:Nat) ^ 24=16777216:=rfl;have:=Nat.mul_le_mul (show b<=255 by omega) h2;omega
end Wd
end
section
open Go.RowKit
structure Rd (w:World) (B sz:Nat) (A:Option Addr) (n c:Nat) (xs:List Value):Prop where
 len:xs.length=n * sz
 le:n<=c
 mx:c<=maxLen
 at_:0<n -> ∃ g o,A=some ⟨g,o,none⟩/\g<B /\ ∀ j u,xs[j]?=some u->w.cell? ⟨g,o+j,none⟩=some u
section
variable {w w':World} {B B' sz n c:Nat} {A:Option Addr} {xs:List Value}
def Rd.keep (h:Rd w B sz A n c xs) (hk:∀ p:Addr,p.block<B->w'.cell? p=w.cell? p):Rd w' B sz A n c xs :=
 ⟨h.len,h.le,h.mx,λhn=>by
  obtain ⟨g,o,e,hb,hc⟩:=h.at_ hn
  exact ⟨g,o,e,hb,λj u hu=>(hk _ hb).trans (hc j u hu)⟩⟩
def Rd.more (h:Rd w B sz A n c xs) (hB:B<=B'):Rd w B' sz A n c xs :=
 ⟨h.len,h.le,h.mx,λhn=>by
  obtain ⟨g,o,e,hb,hc⟩:=h.at_ hn
  exact ⟨g,o,e,by omega,hc⟩⟩
def Rd.below (h:Rd w B sz A n c xs) (hb:Below B w w'):Rd w' B sz A n c xs:=h.keep λ_ hp=>hb.cell hp
def Rd.bel (h:Rd w w.heap.size sz A n c xs) (hb:af w w'):Rd w' w'.heap.size sz A n c xs:=(h.below hb).more hb.size
def Rd.nil (hc:c<=maxLen):Rd w B sz A 0 c []:=⟨by simp,by omega,hc,λh=>absurd h O⟩
def Rd.cell1 (h:Rd w B 1 A n c xs){k}(hk:k<n):∃ g o u,A=some ⟨g,o,none⟩/\g<B/\xs[k]?=some u/\w.cell? ⟨g,o+k,none⟩=some u:=by
 obtain ⟨g,o,e,hb,hc⟩:=h.at_ O;have hl:k<xs.length:=by have:=h.len;omega
 exact ⟨g,o,xs[k],e,hb,ba hl,hc k _ (ba hl)⟩
def Rd.of_own {base e v}(h:w.ownsRow base e sz v n xs):∃ A c,v = .slice A n c/\Rd w w.heap.size sz A n c xs:=by
 rcases h.2 with ⟨rfl,rfl⟩|⟨g,cap,cur,rfl,hb,hh,aE,a1,iy,aR⟩
 .exact ⟨none,0,rfl,⟨h.1,by omega,by simp [maxLen],λh=>absurd h O⟩⟩
 .refine ⟨_,cap,rfl,⟨h.1,aE,a1,λhn=>⟨g,0,rfl,(h.lt g F).2,λj u hu=>?_⟩⟩⟩
  have:=h.cells (g:=g) F j u hu;unfold Addr.add at this;split at this
  .rename_i hj;subst hj;simpa using this
  .simpa using this
end
def xi (w:World) (base:Nat) (e:TypeId) (sz:Nat) (hb:base<=w.heap.size):(w.alloc (.cells #[] e)).ownsRow base e sz (.slice (some ⟨w.heap.size,0,none⟩) 0 0) 0 [] :=
 World.ownsRow_made w #[] 0 hb (by simp [maxLen]) aF
section
variable {P:Program} {ops:Array Oper} {rest:List Oper} {o:Oper} {a:Act} {Q:Exit->Act->World->Prop}
end
def ck (l:List UInt8):List Value:=l.map λb=>.int .u8 (b.toNat:Int)
def jK (l):(ck l).length=l.length:=by simp [ck]
def B6 (l):∀ u∈ck l,u.oneCell'=true:=by
 intro u hu;simp only [ck,fQ] at hu;obtain ⟨b,_,rfl⟩:=hu;rfl
def sJ (a b):ck (a++b)=ck a++ck b:=by simp [ck]
def Zr {l k}(h:k<l.length):(ck l)[k]?=some (.int .u8 ((l[k]'h).toNat:Int)):=by simp [ck,h]
def Zx {P w B n c A l}(src dst e)(hs:P.underlying src=some (.slice e))(he:P.underlying e=some (.int .u8))(hd:P.underlying dst=some .string)(h:Rd w B 1 A n c (ck l)):(convert src dst (.slice A n c)).run P w = .ok (.string ⟨l.toArray⟩) w:=by
 have hl:l.length=n:=by have:=h.len;rw [jK] at this;omega
 rcases lh n with hn|hn
 .subst hn
  obtain rfl:l=[]:=rC hl;rw [run_convert_bytes_string w src dst e A 0 c hs he hd];cases A with
  | none=>simp [Conv.bytesToString];rfl
  | some a=>
   have hz:(loadCells a 0).run P w = .ok (([]:List Int).map (Value.int .u8)).toArray w:=by
    simpa using run_loadCells_list (P:=P) w a [] (λj v hj=>by simp at hj)
   rw [run_bytesToString w a 0 c [] hz];rfl
 .obtain ⟨g,o,rfl,_,hc⟩:=h.at_ hn
  have:=run_convert_bytes_arg (P:=P) w src e hs he g o n c (l.map λb=>(b.toNat:Int)) (by simpa using hl) (λi hi=>by
   rw [hc i _ (Zr O)]
   simp [List.getD,show i<l.length by omega]) dst hd
  rw [this];congr 2;simp only [strOfNums,List.map_map];congr 2
  conv=>rhs;rw [<- List.map_id l]
  apply vJ;intro b _
  simp
section
variable {P:Program} {ops:Array Oper} {rest:List Oper} {o:Oper} {a:Act} {Q:Exit->Act->World->Prop}
def rM {w B n c A l}(ig:o.guard=none)(src dst e x)(ho:o.op = .convert src dst x)(hs:P.underlying src=some (.slice e))(he:P.underlying e=some (.int .u8))(hd:P.underlying dst=some .string)(h:Rd w B 1 A n c (ck l))(hx:a.eval x = .slice A n c)(hk:wpList P ops Q rest (a.put o.dst (.string ⟨l.toArray⟩)) w):wpList P ops Q (o::rest) a w:=by
 refine kr ig λK X=>?_
 unfold Oper.wp;simp [execOp,ho,hx,Zx src dst e hs he hd h,Result.andThen];exact X _ _ hk
end
section
variable {P:Program} {ops:Array Oper} {rest:List Oper} {o:Oper} {a:Act} {Q:Exit->Act->World->Prop}
def VE {w}(ig:o.guard=none)(x y ts)(ho:o.op = .call { callee:=.builtin .min,args:=#[x,y],argTypes:=ts })(k k' p q N)(hx:a.eval x = .int k p)(hy:a.eval y = .int k' q)(hN:N=if q<p then q else p)(h:wpList P ops Q rest (a.put o.dst (.int k N)) w):wpList P ops Q (o::rest) a w:=by
 refine kr ig λK X=>?_
 have ip:=λts t=>run_min_int2 (P:=P) w ts t k k' p q
 exact Ml
end
def Rd.to {w B sz n c N A xs}(h:Rd w B sz A n c xs)(hN:N<=n):Rd w B sz A N c (xs.take (N * sz)):=by
 have h1:=h.len;have h2:N * sz<=n * sz:=zg _ hN;refine ⟨by rw [cK];omega,iG hN h.le,h.mx,λhn=>?_⟩;obtain ⟨g,o,e,hb,hc⟩:=h.at_ O;refine ⟨g,o,e,hb,λj u hu=>hc j u ?_⟩;rw [kF] at hu;split at hu
 .exact hu
 .cases hu
end
section
open Go.RowKit
namespace Wd
def z3 (a s w)(ha : I6 a)(hs : I6 s):Ca 184 #[I a,I s] w λe w'=>e = .returned (.bool (ey a s)) /\ ∃ n,w'=w.drewN n:=by
 by_cases h0:0<=a
 .by_cases h1:a<=31
  .by_cases h2:1<=s
   .by_cases h3:s<=32 - a
    .have hf:ey a s=true:=by rw [oD];omega
     exact wz
    .have hf:ey a s=false:=by simp [ey];omega
     exact wz
   .have hf:ey a s=false:=by simp [ey];omega
    exact wz
  .have hf:ey a s=false:=by simp [ey];omega
   exact wz
 .have hf:ey a s=false:=by simp [ey];omega
  exact wz
def AV (s:Nat) (w:World) (hs:s<=32) :Ca 185 #[I (s:Int)] w λe w'=>e = .returned (U ((2 ^ s - 1:Nat):Int)) /\ ∃ n,w'=w.drewN n:=by
 go_enter func185,ntmps185;go_wp2;go_ret;exact ⟨by rw [<- Qp hs];rfl,0,rfl⟩
def zV (x:Nat) (a s:Int) (w:World) (hx:x<4294967296) (ha : I6 a) (hs : I6 s) :Ca 186 #[U (x:Int),I a,I s] w λe w'=>e = .returned (U (aV x a s:Int)) /\ ∃ n,w'=w.drewN n:=by
 cases hf:ey a s
 .rw [NK hf]
  go_enter func186,ntmps186;go_wp2_with (go_at_call 184;refine (z3 a s _ ha hs).mono ?_;rintro e w' ⟨rfl,d,rfl⟩);go_ret;exact ⟨rfl,_,rfl⟩
 .rw [ED hf]
  have a3:=hf;rw [oD] at a3;obtain ⟨n,rfl⟩:=jS (show 0<=a by omega);obtain ⟨m,rfl⟩:=jS (show 0<=s by omega);have Hc:=V (u32_and_nat (x / 2 ^ n) (2 ^ m - 1) (J1 n hx) (wU O));go_enter func186,ntmps186;go_wp2_with (go_at_call 184;refine (z3 _ _ _ ha hs).mono ?_;rintro e w' ⟨rfl,d,rfl⟩);go_quiet ((go_at_call 185;exact Rw (AV _ _ O)));go_wp2;go_ret;exact ⟨dI (by rw [yH];exact Hc.out),_,World.drewN_drewN _ _ _⟩
def DH (x:Nat) (a s:Int) (v:Nat) (w:World) (hx:x<4294967296) (hv:v<4294967296) (ha : I6 a) (hs : I6 s) :Ca 148 #[U (x:Int),I a,I s,U (v:Int)] w λe w'=>e = .returned (U (aw x a s v:Int)) /\ ∃ n,w'=w.drewN n:=by
 cases hf:ey a s
 .rw [O7 hf]
  go_enter func148,ntmps148;go_wp2_with (go_at_call 184;refine (z3 a s _ ha hs).mono ?_;rintro e w' ⟨rfl,d,rfl⟩);go_ret;exact ⟨rfl,_,rfl⟩
 .rw [Yi hf]
  have a3:=hf;rw [oD] at a3;obtain ⟨n,rfl⟩:=jS (show 0<=a by omega);obtain ⟨m,rfl⟩:=jS (show 0<=s by omega);have Hc:=V (u32_andNot_nat x (n8 n m) hx (xP n m));have Hd:=V (u32_and_nat (v * 2 ^ n % 4294967296) (n8 n m) (dy _ O) (xP n m));have He:=V (u32_or_nat (x &&& (4294967295 - n8 n m)) (v * 2 ^ n % 4294967296 &&& n8 n m) (fJ Nat.and_le_left hx) (fJ Nat.and_le_right (xP n m)));go_enter func148,ntmps148;go_wp2_with ((first|(go_at_call 184;refine (z3 _ _ _ ha hs).mono ?_;rintro e w' ⟨rfl,d,rfl⟩)|(go_at_call 185;refine (AV _ _ O).mono ?_;rintro e w' ⟨rfl,d,rfl⟩)));go_ret;refine ⟨dI ?_,_,rfl⟩;rw [SW,g4v,Hc.out,Hd.out,He.out];rfl
def oW (x:Nat) (s:Int) (w:World) (hx:x<4294967296) (hs : I6 s) :Ca 170 #[U (x:Int),I s] w λe w'=>e = .returned (U (cJ x s:Int)) /\ ∃ n,w'=w.drewN n:=by
 by_cases h1:s<1
 .have hz:cJ x s=x:=by unfold cJ;rw [aa (.inl h1)]
  rw [hz];go_enter func170,ntmps170;go_wp2;go_ret;exact ⟨rfl,0,rfl⟩
 .by_cases h2:32<s
  .have hz:cJ x s=x:=by unfold cJ;rw [aa (.inr h2)]
   rw [hz];go_enter func170,ntmps170;go_wp2;go_ret;exact ⟨rfl,0,rfl⟩
  .have hz:cJ x s=cz x s.toNat:=by unfold cJ;rw [Y O]
   rw [hz];clear hz;obtain ⟨m,rfl⟩:=jS (show 0<=s by omega);rw [jt];have Hc:=V (u32_and_nat x (2 ^ m - 1) hx (wU O));have Hd:=V (u32_and_nat (x / 2 ^ (m - 1)) 1 (J1 _ hx) O);have Hx:=V (u32_xor_nat 4294967295 (2 ^ m - 1) O (wU O));have Ho:=V (u32_or_nat (x &&& (2 ^ m - 1)) (4294967295 ^^^ (2 ^ m - 1)) (fJ Nat.and_le_left hx) (by rw [J3 _ (wU O)];omega));by_cases hb:(x / 2 ^ (m - 1)) &&& 1=1
   .have ht:(bits BinOp.and IntKind.u32 ((x:Int) / 2 ^ (m - 1)) 1 == 1)=true:=by
     rw [yH];exact beq_iff_eq.2 (Hd.out.trans (by rw [hb];rfl))
    have Hs:=V (g4w hb);have Hr:=V (J3 _ (wU (s:=m) O));clear hb;go_enter func170,ntmps170;go_wp2_with (go_at_call 185;refine (AV _ _ O).mono ?_;rintro e w' ⟨rfl,d,rfl⟩);go_ret;refine ⟨dI ?_,_,rfl⟩;rw [show (IntKind.u32.max:Int)=((4294967295:Nat):Int) from rfl,Hc.out,Hx.out,Ho.out,Hs.out,Hr.out]
   .have ht:(bits BinOp.and IntKind.u32 ((x:Int) / 2 ^ (m - 1)) 1 == 1)=false:=by
     rw [yH];exact pI.2 (λe=>hb (by have h:=Hd.out;rw [show ((1:Nat):Int)=1 from rfl,e] at h;omega))
    have Hs:=V (Ve hb);clear hb;go_enter func170,ntmps170;go_wp2_with (go_at_call 185;refine (AV _ _ O).mono ?_;rintro e w' ⟨rfl,d,rfl⟩);go_ret;refine ⟨dI ?_,_,rfl⟩;rw [Hc.out,Hs.out]
end Wd
end
section
open Go.RowKit Go.ChangeShapes Go.WideShapes Go.ChangeAt
def Vx {H:Type}{enc:TypeId × Value->H}{P W base v}{d:DataW H}{p t e k}(ht:P.underlying t=some (.slice e))(he:P.underlying e=some (.int k))(hc:P.cellsOf e=1)(hv:Value.okWide P W .any base t v)(h:DataW.Trod enc P W 0 (λ_=>true) true t v d p):∃ A n c,∃ zs:List Int,v = .slice A n c/\Rd W W.heap.size 1 A n c (zs.map (Value.int k)) /\ ∀ z∈zs,(Lit.int k z).wf=true:=by
 obtain ⟨A,n,c,rfl⟩:=okWide_slice ht hv;obtain ⟨fuel,hf⟩:=h;rcases open_ints ht he hc hf with ⟨iy,_⟩|⟨x,l,cc,zs,iy,_,hl,hm,hz,_,jb,bo⟩
 .simp [Value.cells] at iy
  obtain ⟨rfl,rfl,rfl⟩:=iy;exact ⟨none,0,0,[],rfl,⟨by simp,by omega,by simp [maxLen],λh=>absurd h O⟩,by simp⟩
 .simp [Value.cells] at iy
  obtain ⟨rfl,rfl,rfl⟩:=iy;have bV:zs.length=c:=by simpa using hz
  refine ⟨_,n,c,zs.take n,rfl,⟨by simp;omega,hl,hm,λhn=>?_⟩,λz hz=>bo z (jE hz)⟩;obtain ⟨g,o,spot⟩:=x;have h0:=jb 0 O;have hs:spot=none:=by simpa [Addr.add] using World.cell?_spot h0
  subst hs;refine ⟨g,o,rfl,lU W _ h0 |> λh=>by simpa [Addr.add] using h,λj u hu=>?_⟩;have hj:j<zs.length/\j<n:=by
   have:=(aK.1 hu).1;simp at this;omega
  have:=jb j hj.1;have e1:(⟨g,o,none⟩:Addr).add j=⟨g,o+j,none⟩:=by unfold Addr.add;split <;> simp_all
  rw [e1] at this;rw [this,<- hu];simp [kF,hj.2,List.getD,hj.1]
def open_u32s {H:Type} {enc:TypeId × Value->H} {P:Program} {W:World} {base:Nat} {v:Value} {d:DataW H} {p:List MemPlace} {t e:TypeId} (ht:P.underlying t=some (.slice e)) (he:P.underlying e=some (.int .u32)) (hc:P.cellsOf e=1)(hv:Value.okWide P W .any base t v) (h:DataW.Trod enc P W 0 (λ_=>true) true t v d p) :∃ A n c,∃ zs:List Nat,v = .slice A n c/\Rd W W.heap.size 1 A n c (zs.map λ(z:Nat)=>Value.int .u32 (z:Int)) /\ ∀ z∈zs,z<4294967296:=by
 obtain ⟨A,n,c,zs,rfl,hr,hw⟩:=Vx ht he hc hv h;have e1:(zs.map Int.toNat).map (λ(z:Nat)=>Value.int .u32 (z:Int))=zs.map (Value.int .u32):=by
  rw [List.map_map];apply vJ;intro z hz;have:=bounds_u32 (hw z hz);simp only [Function.comp];rw [Int.toNat_of_nonneg this.1]
 refine ⟨A,n,c,zs.map Int.toNat,rfl,by rw [e1];exact hr,λz hz=>?_⟩;simp only [fQ] at hz;obtain ⟨y,hy,rfl⟩:=hz;have:=bounds_u32 (hw y hy);omega
end
section
open Go.RowKit
def Bk (w:World) (g:Nat) (t:TypeId) (cs:List Value):Prop :=
 ∃ r:Nat × Nat,w.heap[g]?=some (.cells cs.toArray t r) /\ ∀ i,i<cs.length -> ¬ (r.1<=i/\i<r.2)
section
variable {w w':World} {g:Nat} {t:TypeId} {cs:List Value}
def Bk.lt (h:Bk w g t cs):g<w.heap.size:=by
 obtain ⟨r,h,_⟩:=h;exact (wR.1 h).1
def Bk.cell (h:Bk w g t cs) (i:Nat):w.cell? ⟨g,i,none⟩=cs[i]?:=by
 obtain ⟨r,h,_⟩:=h;rw [cell_of_row w g i cs.toArray t r h];simp
def Bk.frozen (h:Bk w g t cs){i}(hi:i<cs.length):w.frozen? ⟨g,i,none⟩=false:=by
 obtain ⟨r,h,hf⟩:=h;have:=hf i hi;simp only [World.frozen?,h];simp only [Bool.and_eq_false_iff,Aw];by_cases h1:r.1<=i
 .exact .inr (λh2=>this ⟨h1,h2⟩)
 .exact .inl h1
def Bk.new (w:World)(t cs):Bk (w.alloc (.cells cs.toArray t)) w.heap.size t cs:=⟨(0,0),qW w _,by intro i _;omega⟩
def Bk.keep (h:Bk w g t cs) (hk:w'.heap[g]?=w.heap[g]?):Bk w' g t cs:=by
 obtain ⟨r,h,hf⟩:=h;exact ⟨r,hk.trans h,hf⟩
def Bk.bel (h:Bk w g t cs) (hb:af w w'):Bk w' g t cs:=h.keep (hb.block g h.lt)
def Bk.drewN (h:Bk w g t cs) (n:Nat):Bk (w.drewN n) g t cs:=h
def Bk.grown (h:Bk w g t cs) {row:Option Nat} (hg:w.grownBy w' row) (hne:some g≠row):Bk w' g t cs:=h.keep (hg.block g h.lt hne)
def Bk.set_ (h:Bk w g t cs) (i:Nat) (u:Value):Bk (w.setCell ⟨g,i,none⟩ u) g t (cs.set i u):=by
 obtain ⟨r,h,hf⟩:=h;refine ⟨r,?_,by simpa using hf⟩;simp [World.setCell,Array.getElem?_modify,h]
def Bk.rd (h:Bk w g t cs){sz n c o}(hn:o+n * sz<=cs.length)(hc:n<=c)(hm:c<=maxLen):Rd w w.heap.size sz (some ⟨g,o,none⟩) n c ((cs.drop o).take (n * sz)) :=
 ⟨by rw [cK,nX];omega,hc,hm,λ_=>⟨g,o,rfl,h.lt,λj u hu=>by
  rw [h.cell,<- hu,kF,l7];split
  .rfl
  .rename_i hj
   exfalso;rw [kF,Y hj] at hu
   cases hu⟩⟩
def Bk.of_own {base e sz n cap xs}(h:w.ownsRow base e sz (.slice (some ⟨g,0,none⟩) n cap) n xs)(hc:cap=n):Bk w g e xs:=by
 subst hc;rcases h.2 with ⟨h',_⟩|⟨g',cap',cur,h',_,hg,aE,_,iy,aR⟩
 .simp at h'
 .simp only [Value.slice.injEq,dF,Addr.mk.injEq,and_true,true_and] at h'
  obtain ⟨rfl,rfl⟩:=h';refine ⟨(0,0),?_,by intro i _;omega⟩;rw [hg,<- aR,cD (by rw [Array.length_toList,iy];exact aM _)]
end
def spl (cs:List Value) (o:Nat):List Value->List Value
 | []=>cs
 | v::r=>spl (cs.set o v) (o+1) r
def iJ (cs:List Value) (o:Nat) (vs:List Value):(spl cs o vs).length=cs.length:=by
 induction vs generalizing cs o with
 | nil=>rfl
 | cons v r ih=>rw [spl,ih];simp
def qF (cs:List Value) (o:Nat) (vs:List Value) (h:o+vs.length<=cs.length):spl cs o vs=cs.take o++vs++cs.drop (o+vs.length):=by
 induction vs generalizing cs o with
 | nil=>simp [spl]
 | cons v r ih=>
  rw [ft] at h;rw [spl,ih _ _ eX];have h1:(cs.set o v).take (o+1)=cs.take o++[v]:=by
   rw [List.take_set,iE O,oV _ _ eX];simp [cK,kZ (show o<=cs.length by omega)]
  have h2:(cs.set o v).drop (o+1+r.length)=cs.drop (o+(v::r).length):=by
   rw [List.drop_set_of_lt O];congr 1
   simp;omega
  rw [h1,h2]
  simp
def Bk.setCells {w:World} {g:Nat} {t:TypeId} {cs:List Value} (h:Bk w g t cs) (vs:List Value) (o:Nat):Bk (w.setCells g o vs) g t (spl cs o vs)/\w.grownBy (w.setCells g o vs) (some g):=by
 induction vs generalizing w cs o with
 | nil=>exact ⟨h,World.grownBy.refl w _⟩
 | cons v r ih=>
  obtain ⟨h1,h2⟩:=ih (h.set_ o v) (o+1);refine ⟨h1,⟨h2.os,h2.tape,h2.output,iG (by simp [World.setCell]) h2.size,λk hk hne=>?_⟩⟩;rw [World.setCells,h2.block k (by simpa [World.setCell] using hk) hne];exact pU w _ v k (λe=>hne (by rw [e]))
section
variable {P:Program} {ops:Array Oper} {rest:List Oper} {o:Oper} {a:Act} {Q:Exit->Act->World->Prop}
def BR {w}(ig:o.guard=none)(d s dT sT)(ho:o.op = .call { callee:=.builtin .copy,args:=#[d,s],argTypes:=#[dT,sT] })(e)(hu:P.underlying dT=some (.slice e))(hsz:(P.info? e).map (·.size)=some 1)(g off dLen dCap str)(hd:a.eval d = .slice (some ⟨g,off,none⟩) dLen dCap)(hs:a.eval s = .string str)(t cs)(hg:Bk w g t cs)(i8:off+min str.size dLen<=cs.length)(h:∀ w',Bk w' g t (spl cs off (ck (str.data.toList.take (min str.size dLen))))->w.grownBy w' (some g)->wpList P ops Q rest (a.put o.dst (goInt (min str.size dLen:Nat))) w'):wpList P ops Q (o::rest) a w:=by
 refine kr ig λK X=>?_
 have il:(ck (str.data.toList.take (min str.size dLen))).length=min str.size dLen:=by
  rw [jK,cK];simp
 have ij:=run_storeCells_cells (P:=P) g off (ck (str.data.toList.take (min str.size dLen))) 0 w (λj hj=>by
  rw [il] at hj;rw [hg.cell,tg,ba O];rfl) (λj hj=>by
  rw [il] at hj
  exact hg.frozen O) (B6 _)
 obtain ⟨k1,k2⟩:=hg.setCells (ck (str.data.toList.take (min str.size dLen))) (off+0);obtain ⟨i,hi,aH⟩:∃ i,P.info? e=some i/\i.size=1:=by
  cases hq:P.info? e with
  | none=>simp [hq] at hsz
  | some i=>exact ⟨i,rfl,by simpa [hq] using hsz⟩
 have hf:(Builtin.firstCells 1 (min str.size dLen) (.string str)).run P w = .ok (ck (str.data.toList.take (min str.size dLen))).toArray w:=by
  simp [Builtin.firstCells,ck];apply Array.ext'
  simp
 have ip:(Builtin.copy_ #[dT,sT] o.type #[.slice (some ⟨g,off,none⟩) dLen dCap,.string str]).run P w = .ok (goInt (min str.size dLen:Nat)) (w.setCells g (off+0) (ck (str.data.toList.take (min str.size dLen)))):=by
  simp [Builtin.copy_,eH hu,Builtin.lenOf,sizeOf,typeInfo,hi,aH,hf,ij]
 exact Ga
end
section
variable {P:Program} {ops:Array Oper} {rest:List Oper} {o:Oper} {a:Act} {Q:Exit->Act->World->Prop}
def Zv {w}(ig:o.guard=none)(src dst e x)(ho:o.op = .convert src dst x)(hs:P.underlying src=some .string)(hd:P.underlying dst=some (.slice e))(he:P.underlying e=some (.int .u8))(s)(hx:a.eval x = .string s)(hsz:s.size<=maxLen)(h:∀ cap w',s.size<=cap->cap<=maxLen->Bk w' w.heap.size e (ck s.data.toList++List.replicate (cap - s.size) (.int .u8 0))->af w w'->w.heap.size<w'.heap.size ->
   wpList P ops Q rest (a.put o.dst (.slice (some ⟨w.heap.size,0,none⟩) s.size cap)) w'):wpList P ops Q (o::rest) a w:=by
 refine kr ig λK X=>?_
 have ip:=run_bytes_of_string (P:=P) w src dst e s hs hd he;unfold Oper.wp;simp [execOp,ho,hx,ip,Result.andThen];refine X _ _ (h _ _ (grownCap_ge w s.size 0 e) (grownCap_le_maxLen w s.size 0 e hsz) ⟨((bytesRow s (grownCap w s.size 0 e)).size,(bytesRow s (grownCap w s.size 0 e)).size+1),?_,?_⟩ ?_ ?_)
 .rw [show ∀ (C:Array Value) (r:Nat × Nat),(w.drew.alloc (.cells C e r)).heap[w.heap.size]?=some (.cells C e r) from λC r=>by
   show (w.heap.push (.cells C e r))[w.heap.size]?=_
   simp]
  congr 2;apply Array.ext';simp [bytesRow,ck]
 .intro i hi
  have:(bytesRow s (grownCap w s.size 0 e)).size=(ck s.data.toList++List.replicate (grownCap w s.size 0 e - s.size) (Value.int .u8 0)).length:=by
   simp [bytesRow,ck]
  simp only [this];omega
 .exact (af.drew w).trans (af.alloc _ _)
 .show w.heap.size<(w.heap.push _).size
  simp
end
section
variable {P:Program} {ops:Array Oper} {rest:List Oper} {o:Oper} {a:Act} {Q:Exit->Act->World->Prop}
def Wg {w:World} (ig:o.guard=none) (d s:Operand) (t':TypeId)(ho:o.op = .call { callee:=.builtin .copy,args:=#[d,s],argTypes:=#[t',t'] }) (e:TypeId) (hu:P.underlying t'=some (.slice e)) (sz:Nat) (hsz:(P.info? e).map (·.size)=some sz)(g off n dCap:Nat) (A:Option Addr) (c:Nat) (hd:a.eval d = .slice (some ⟨g,off,none⟩) n dCap) (hs:a.eval s = .slice A n c)(B:Nat) (us:List Value) (hr:Rd w B sz A n c us) (h1:∀ u∈us,u.oneCell'=true)(t:TypeId) (cs:List Value) (hg:Bk w g t cs) (i8:off+n * sz<=cs.length)(h:∀ w',Bk w' g t (spl cs off us)->w.grownBy w' (some g)->wpList P ops Q rest (a.put o.dst (goInt (n:Nat))) w'):wpList P ops Q (o::rest) a w:=by
 refine kr ig λK X=>?_
 have hl:=hr.len;obtain ⟨i,hi,aH⟩:∃ i,P.info? e=some i/\i.size=sz:=by
  cases hq:P.info? e with
  | none=>simp [hq] at hsz
  | some i=>exact ⟨i,rfl,by simpa [hq] using hsz⟩
 have ij:=run_storeCells_cells (P:=P) g off us 0 w (λj hj=>by
  rw [hg.cell,tg,ba O];rfl) (λj hj=>hg.frozen O) h1
 obtain ⟨k1,k2⟩:=hg.setCells us (off+0);have hf:(Builtin.firstCells i.size n (.slice A n c)).run P w = .ok us.toArray w:=by
  rw [aH];cases A with
  | none=>
   have:n=0:=by
    rcases lh n with h0|h0
    .exact h0
    .obtain ⟨g,f,e,_⟩:=hr.at_ h0
     cases e
   subst this;obtain rfl:us=[]:=rC (by simpa using hl);exact run_firstCells_none w _ _ _ _
  | some ad=>
   refine run_firstCells_some (P:=P) w sz n ad n c us hl λj u hu=>?_
   have hj:=(aK.1 hu).1;have hm:0<n:=by
    rcases lh n with h0|h0
    .subst h0;omega
    .exact h0
   obtain ⟨g',f',e',_,hc⟩:=hr.at_ hm;injection e' with e';subst e';have e3:(⟨g',f',none⟩:Addr).add j=⟨g',f'+j,none⟩:=by unfold Addr.add;split <;> simp_all
   rw [e3];exact hc j u hu
 have ip:(Builtin.copy_ #[t',t'] o.type #[.slice (some ⟨g,off,none⟩) n dCap,.slice A n c]).run P w = .ok (goInt (n:Nat)) (w.setCells g (off+0) us):=by
  simp [Builtin.copy_,eH hu,Builtin.lenOf,sizeOf,typeInfo,hi,hf,ij]
 exact Ga
def g5h {w}(ig:o.guard=none)(x y ts)(ho:o.op = .call { callee:=.builtin .max,args:=#[x,y],argTypes:=ts })(k k' p q N)(hx:a.eval x = .int k p)(hy:a.eval y = .int k' q)(hN:N=if q > p then q else p)(h:wpList P ops Q rest (a.put o.dst (.int k N)) w):wpList P ops Q (o::rest) a w:=by
 refine kr ig λK X=>?_
 have ip:=λts t=>run_max_int2 (P:=P) w ts t k k' p q
 exact Ml
end
def BF (cs us)(h:us.length=cs.length):spl cs 0 us=us:=by
 rw [qF _ _ _ O];simp [h]
end
section
open Go.RowKit
namespace Me
def right (n a:Nat) (k:Int):Bool:=decide ((k=1\/k=2\/k=4)/\(a:Int) % k=0/\(a:Int)+k<=n)
def right_iff {n a:Nat} {k:Int}:right n a k=true↔(k=1\/k=2\/k=4)/\(a:Int) % k=0/\(a:Int)+k<=n:=by simp [right]
def memRight_any (n a:Nat) (k:Int) (w:World) (hn:n<=9223372036854775807) (ha:a<4294967296) (hk : I6 k) :Ca 56 #[I (n:Int),U (a:Int),I k] w λe w'=>e = .returned (.bool (right n a k)) /\ ∃ d,w'=w.drewN d:=by
 by_cases h1:k=1
 .subst h1
  rw [show right n a 1=decide ((a:Int)+1<=n) by simp [right]];go_enter func56,ntmps56;go_wp2;go_ret;exact ⟨rfl,0,rfl⟩
 .by_cases h2:k=2
  .subst h2
   by_cases h:(a:Int) % 2=0
   .rw [show right n a 2=decide ((a:Int)+2<=n) by simp [right,h]]
    exact wG
   .rw [show right n a 2=false by simp [right,h]]
    exact wG
  .by_cases h4:k=4
   .subst h4
    by_cases h:(a:Int) % 4=0
    .rw [show right n a 4=decide ((a:Int)+4<=n) by simp [right,h]]
     exact wG
    .rw [show right n a 4=false by simp [right,h]]
     exact wG
   .have g1:(k != 1)=true:=by simpa using h1
    have g2:(k != 2)=true:=by simpa using h2
    have g4:(k != 4)=true:=by simpa using h4
    rw [show right n a k=false by simp [right,h1,h2,h4]];exact wG
def Read_no (m:ByteArray) (a:Nat) (k:Int) (w:World) (hn:m.size<=9223372036854775807) (ha:a<4294967296) (hk : I6 k) (h:right m.size a k=false) :Ca 122 #[.string m,U (a:Int),I k] w λe w'=>e = .returned (.tuple #[.string ⟨#[]⟩,I 1]) /\ ∃ d,w'=w.drewN d:=by
 go_enter func122,ntmps122;exact KZ
def Read_yes (m:ByteArray) (a k:Nat) (w:World) (hn:m.size<=9223372036854775807) (ha:a<4294967296) (hk:k<=9223372036854775807) (h:right m.size a (k:Int)=true) :Ca 122 #[.string m,U (a:Int),I (k:Int)] w λe w'=>e = .returned (.tuple #[.string (m.extract a (a+k)),I 0]) /\ ∃ d,w'=w.drewN d:=by
 have hr:=right_iff.1 h;have h1:(a:Int)+k<=m.size:=hr.2.2;clear hr;have bW:=λW=>De (P:=Tryz.prog) 9 underlying9 m a k O W
 go_enter func122,ntmps122;exact KZ
end Me
end
section
open Go.RowKit
inductive cO (P:Program) (ty:TypeId) (n:Nat):Prop
 | mk (d:TypeDesc) (hu:P.underlying ty=some d) (hd:(match d with | .struct _ | .array _ _=>true|_=>false)=true) (hi:(P.info? ty).map (·.size)=some n)
def Bk.loadVar {P w g t ty cs}(h:Bk w g t cs)(ht:cO P ty cs.length):(loadVar ty ⟨g,0,none⟩).run P w = .ok (.agg cs.toArray) w:=by
 obtain ⟨r,hg,_⟩:=h;obtain ⟨d,hu,hd,hi⟩:=ht;have bq:(P.info? ty).map (·.size)=some cs.toArray.size:=by simpa using hi
 cases d <;> first|exact run_loadVar_row w g t ty cs.toArray r _ hg hu F bq|(simp at hd)
section
variable {P:Program} {fn:Func} {p p' q q' q'':Tmp} {ty ty':TypeId} {w:World} {g g':Nat} {t t':TypeId} {cs cs':List Value} {tmps:Array Value}
def Yt (h:fn.results=#[.cell p ty]) (hp:tmps.getD p undef = .pointer (some ⟨g,0,none⟩)) (hb:Bk w g t cs) (ht:cO P ty cs.length):(results fn tmps).run P w = .ok (.agg cs.toArray) w:=by
 exact AC
def G3 (h:fn.results=#[.cell p ty,.tmp q]) (hp:tmps.getD p undef = .pointer (some ⟨g,0,none⟩)) (hb:Bk w g t cs) (ht:cO P ty cs.length):(results fn tmps).run P w = .ok (.tuple #[.agg cs.toArray,tmps.getD q undef]) w:=by
 exact AC
def SO (h:fn.results=#[.cell p ty,.tmp q,.tmp q']) (hp:tmps.getD p undef = .pointer (some ⟨g,0,none⟩)) (hb:Bk w g t cs) (ht:cO P ty cs.length):(results fn tmps).run P w = .ok (.tuple #[.agg cs.toArray,tmps.getD q undef,tmps.getD q' undef]) w:=by
 exact AC
def UV (h:fn.results=#[.tmp q,.cell p ty,.tmp q']) (hp:tmps.getD p undef = .pointer (some ⟨g,0,none⟩)) (hb:Bk w g t cs) (ht:cO P ty cs.length):(results fn tmps).run P w = .ok (.tuple #[tmps.getD q undef,.agg cs.toArray,tmps.getD q' undef]) w:=by
 exact AC
def g5l (h:fn.results=#[.cell p ty,.cell p' ty',.tmp q]) (hp:tmps.getD p undef = .pointer (some ⟨g,0,none⟩)) (hb:Bk w g t cs) (ht:cO P ty cs.length)(br:tmps.getD p' undef = .pointer (some ⟨g',0,none⟩)) (hb2:Bk w g' t' cs') (bs:cO P ty' cs'.length):(results fn tmps).run P w = .ok (.tuple #[.agg cs.toArray,.agg cs'.toArray,tmps.getD q undef]) w:=by
 have mZ:tmps[p]?.getD undef = .pointer (some ⟨g,0,none⟩):=by simpa using hp
 have bt:tmps[p']?.getD undef = .pointer (some ⟨g',0,none⟩):=by simpa using br
 simp [results,h,mZ,bt,asAddr,hb.loadVar ht,hb2.loadVar bs]
end
def Bk.new' (w:World) (t:TypeId) (cs:List Value) (g:Nat) (h:w.heap.size=g):Bk (w.alloc (.cells cs.toArray t)) g t cs:=by
 subst h;exact Bk.new w t cs
def kv (g o j):(⟨g,o,none⟩:Addr).add j=⟨g,o+j,none⟩:=by unfold Addr.add;split <;> simp_all
def zy {P}(w g off ty)(cs:List Value)(hc:∀ j u,cs[j]?=some u->w.cell? ⟨g,off+j,none⟩=some u)(ht:cO P ty cs.length):(loadVar ty ⟨g,off,none⟩).run P w = .ok (.agg cs.toArray) w:=by
 obtain ⟨d,hu,hd,hi⟩:=ht;have hl:(loadCells ⟨g,off,none⟩ cs.length).run P w = .ok cs.toArray w :=
  run_loadCells_list (P:=P) w ⟨g,off,none⟩ cs (λj v hv=>by rw [kv];exact hc j v hv)
 cases hq:P.info? ty with
 | none=>simp [hq] at hi
 | some i=>
  have hs:i.size=cs.length:=by simpa [hq] using hi
  have hagg:(isAgg ty).run P w = .ok true w:=by
   unfold isAgg;rw [bC,eH hu w];cases d <;> simp_all
  simp [loadVar,bC,hagg,sizeOf,typeInfo,hq,hs,hl]
section
variable {P:Program} {ops:Array Oper} {rest:List Oper} {o:Oper} {a:Act} {w:World} {Q:Exit->Act->World->Prop}
def cI (hw:Region.wanted o (yielded ops a.tmps)=true) (h:∀ K:Act->World->Prop,(∀ a w,wpList P ops Q rest a w->K a w)->o.wp P a w K Q):wpList P ops Q (o::rest) a w :=
 wpList_step λK X=>by rw [aa hw];exact h K X
def tX (hw:Region.wanted o (yielded ops a.tmps)=true)(ty x)(ho:o.op = .load ty x)(g off)(hx:a.eval x = .pointer (some ⟨g,off,none⟩))(cs:List Value)(v)(hv:v = .agg cs.toArray)(hc:∀ j u,cs[j]?=some u->w.cell? ⟨g,off+j,none⟩=some u)(ht:cO P ty cs.length)(h:wpList P ops Q rest (a.put o.dst v) w):wpList P ops Q (o::rest) a w:=by
 subst hv;refine cI hw λK X=>?_
 unfold Oper.wp execOp;simp only [ho,hx,Instr.loadAt,Instr.sureAddr,bC,bL,bG,zy w g off ty cs hc ht];exact X _ _ h
def EB (hw:Region.wanted o (yielded ops a.tmps)=true) (ty:TypeId) (x:Operand) (ho:o.op = .load ty x) (g:Nat) (hx:a.eval x = .pointer (some ⟨g,0,none⟩)) (t:TypeId) (cs:List Value) (v:Value) (hv:v = .agg cs.toArray)(hb:Bk w g t cs) (ht:cO P ty cs.length) (h:wpList P ops Q rest (a.put o.dst v) w):wpList P ops Q (o::rest) a w:=by
 subst hv;refine cI hw λK X=>?_
 unfold Oper.wp execOp;simp only [ho,hx,Instr.loadAt,Instr.sureAddr,bC,bL,bG,hb.loadVar ht];exact X _ _ h
def Cq (hw:Region.wanted o (yielded ops a.tmps)=true)(ty x y)(ho:o.op = .store ty x y)(g off cs)(hx:a.eval x = .pointer (some ⟨g,off,none⟩))(hy:a.eval y = .agg cs.toArray)(t old)(hg:Bk w g t old)(i8:off+cs.length<=old.length)(ht:cO P ty cs.length)(h1:∀ u∈cs,u.oneCell'=true)(h:∀ w',Bk w' g t (spl old off cs)->w'.heap.size=w.heap.size->(∀ k,k≠g->w'.heap[k]?=w.heap[k]?)->(∀ b:World,af b w->b.heap.size<=g->af b w')->wpList P ops Q rest (a.put o.dst undef) w'):wpList P ops Q (o::rest) a w:=by
 refine cI hw λK X=>?_
 obtain ⟨d,hu,hd,hi⟩:=ht
 have ij:=run_storeCells_cells (P:=P) g off cs 0 w (λj hj=>by
  rw [hg.cell,show off+0+j=off+j by omega,ba O];rfl) (λj hj=>by
  rw [show off+0+j=off+j by omega];exact hg.frozen O) h1
 obtain ⟨k1,k2⟩:=hg.setCells cs off;have ip:(storeVar ty ⟨g,off,none⟩ (.agg cs.toArray)).run P w = .ok () (w.setCells g off cs):=by
  cases hq:P.info? ty with
  | none=>simp [hq] at hi
  | some i=>
   have hs:i.size=cs.length:=by simpa [hq] using hi
   simp [storeVar,sizeOf,typeInfo,hq,Value.cells,hs,ij]
 unfold Oper.wp execOp;simp only [ho,hx,hy,Instr.storeAt,Instr.sureAddr,bC,bL,bG,ip];refine X _ _ (h _ k1 ?_ (λk hk=>?_) (λb hb av=>hb.grown k2 λk hk=>by injection hk with hk;omega))
 .clear ij k1 k2 ip
  have:∀ (l:List Value) (o:Nat) (W:World),(W.setCells g o l).heap.size=W.heap.size:=by
   intro l
   induction l with
   | nil=>intro o W;rfl
   | cons v r ih=>intro o W;rw [World.setCells,ih];simp [World.setCell]
  exact this cs off w
 .clear ij k1 k2 ip
  have:∀ (l:List Value) (o:Nat) (W:World),(W.setCells g o l).heap[k]?=W.heap[k]?:=by
   intro l
   induction l with
   | nil=>intro o W;rfl
   | cons v r ih=>intro o W;rw [World.setCells,ih];exact pU W _ v k hk
  exact this cs off w
def vw (hw:Region.wanted o (yielded ops a.tmps)=true) (ty:TypeId) (x y:Operand) (ho:o.op = .store ty x y) (g:Nat) (cs:List Value) (hx:a.eval x = .pointer (some ⟨g,0,none⟩)) (hy:a.eval y = .agg cs.toArray)(t:TypeId) (old:List Value) (hg:Bk w g t old) (hold:old.length=cs.length) (ht:cO P ty cs.length) (h1:∀ u∈cs,u.oneCell'=true)(h:∀ w',Bk w' g t cs->w'.heap.size=w.heap.size->(∀ k,k≠g->w'.heap[k]?=w.heap[k]?)->(∀ b:World,af b w->b.heap.size<=g->af b w')->wpList P ops Q rest (a.put o.dst undef) w'):wpList P ops Q (o::rest) a w :=
 Cq hw ty x y ho g 0 cs hx hy t old hg O ht h1 λw' k1 k2 k3 k4=>h w' (by
  have e:spl old 0 cs=cs:=by rw [qF _ _ _ O];simp [hold]
  rwa [e] at k1) k2 k3 k4
end
def Rd.of_own' {w base e sz n v xs}(h:w.ownsRow base e sz v n xs):∃ A c,v = .slice A n c/\Rd w w.heap.size sz A n c xs /\ ∀ g o,A=some ⟨g,o,none⟩->base<=g:=by
 obtain ⟨A,c,rfl,hr⟩:=Rd.of_own h;refine ⟨A,c,rfl,hr,?_⟩;rintro g o rfl;rcases h.2 with ⟨h',_⟩|⟨g',cap',cur,h',hb,_⟩
 .simp at h'
 .simp only [Value.slice.injEq,dF,Addr.mk.injEq,and_true,true_and] at h'
  obtain ⟨⟨rfl,_⟩,_⟩:=h';exact hb
def Bk.cell_of {w:World} {g:Nat} {t:TypeId} {cs:List Value} (h:Bk w g t cs) (i:Nat) (v:Value) (e:cs[i]?=some v):w.cell? ⟨g,i,none⟩=some v:=(h.cell i).trans e
end
section
open Go.RowKit Go.ChangeShapes Go.WideShapes
def ai (l:List Nat):List Value:=l.map λ(x:Nat)=>U (x:Int)
def lY (l):(ai l).length=l.length:=by simp [ai]
def IU {l k}(h:k<l.length):(ai l)[k]?=some (U ((l[k]'h:Nat):Int)):=by simp [ai,h]
def Ht (l:List Nat) (k x:Nat):(ai l).set k (U (x:Int))=ai (l.set k x):=by simp [ai]
end
section
open Go.RowKit
namespace Wd
end Wd
end
section
open Go.RowKit Go.Sort
def H0 {P:Program} {C:World->Prop} {next:Act->Prop} {o:Oper} {a:Act} (ty:TypeId) (x:Operand) (ho:o.op = .load ty x) (g:Nat) (hx:a.eval x = .pointer (some ⟨g,0,none⟩)) (cs:Array Value)(hC:∀ w,C w->(Go.loadVar ty ⟨g,0,none⟩).run P w = .ok (.agg cs) w) (v:Value) (hv:v = .agg cs) (h:next (a.put o.dst v)):o.quiet P a C next:=by
 subst hv;refine ⟨_,λw hw=>?_,h⟩;have:=hC w hw;simp [Oper.quietAt,execOp,ho,hx,Instr.loadAt,Instr.sureAddr,this,Oper.quietUpon]
def Bk.inClass {P W g t ty cs}(h:Bk W g t cs)(ht:cO P ty cs.length):∀ w,(∃ p:Regrown,w=grow (redrawn W p.d) p.os)->(Go.loadVar ty ⟨g,0,none⟩).run P w = .ok (.agg cs.toArray) w:=by
 rintro w ⟨p,rfl⟩;exact (h.bel (rD W p.d p.os)).loadVar ht
end
section
open Go.RowKit
structure Pu where
 addr:Nat
 data:ByteArray
def Pu.cells (r:Pu):List Value:=[U (r.addr:Int),.string r.data]
def Pu.val (r:Pu):Value:=.agg #[U (r.addr:Int),.string r.data]
def bD (q:List Pu):List Value:=q.flatMap Pu.cells
def MV (q):(bD q).length=q.length * 2:=by
 induction q with
 | nil=>rfl
 | cons r q ih=>
  have:bD (r::q)=r.cells++bD q:=rfl;rw [this,ea,ih,ft];simp [Pu.cells];omega
def Cw (q):∀ u∈bD q,u.oneCell'=true:=by
 intro u hu;simp only [bD,r6,Pu.cells,bB,rr,lr] at hu;obtain ⟨r,_,h⟩:=hu;rcases h with h|h <;> subst h <;> rfl
def Oe (p q):bD (p++q)=bD p++bD q:=by simp [bD]
def Rd.puslen {w B n c A q}(h:Rd w B 2 A n c (bD q)):q.length=n:=by
 have hn:=h.len;rw [MV] at hn;omega
def Pu.one (r:Pu):∀ u∈r.cells,u.oneCell'=true:=λu hu=>Cw [r] u (by simpa [bD] using hu)
structure Rq where
 kind:Int
 line:Nat
 left:Int
 data:ByteArray
def Rq.cells (r:Rq):List Value:=[I r.kind,U (r.line:Int),I r.left,.string r.data]
def Rq.val (r:Rq):Value:=.agg #[I r.kind,U (r.line:Int),I r.left,.string r.data]
def bg (q:List Rq):List Value:=q.flatMap Rq.cells
def yJ (q):(bg q).length=q.length * 4:=by
 induction q with
 | nil=>rfl
 | cons r q ih=>
  have:bg (r::q)=r.cells++bg q:=rfl;rw [this,ea,ih,ft];simp [Rq.cells];omega
def yC {q:List Rq} {k:Nat} (h:k<q.length) (j:Nat) (hj:j<4):(bg q)[k * 4+j]?=(q[k]'h).cells[j]?:=by
 induction q generalizing k with
 | nil=>simp at h
 | cons r q ih=>
  have e:bg (r::q)=r.cells++bg q:=rfl;have hl:r.cells.length=4:=rfl;cases k with
  | zero=>rw [e,lm pR];simp
  | succ k=>
   rw [e,kU pR,hl,show (k+1) * 4+j - 4=k * 4+j by omega,ih pZ]
   simp
def AR (q):∀ u∈bg q,u.oneCell'=true:=by
 intro u hu;simp only [bg,r6,Rq.cells,bB,rr,lr] at hu;obtain ⟨r,_,h⟩:=hu;rcases h with h|h|h|h <;> subst h <;> rfl
def Wo (p q):bg (p++q)=bg p++bg q:=by simp [bg]
def Rd.rq {w B n c A q}(h:Rd w B 4 A n c (bg q)){k}(hk:k<n):∃ (hl:k<q.length) (g o:Nat),A=some ⟨g,o,none⟩/\g<B/\w.cell? ⟨g,o+k * 4,none⟩=some (I q[k].kind)/\w.cell? ⟨g,o+k * 4+1,none⟩=some (U (q[k].line:Int)) /\ w.cell? ⟨g,o+k * 4+2,none⟩=some (I q[k].left)/\w.cell? ⟨g,o+k * 4+3,none⟩=some (.string q[k].data):=by
 have hn:=h.len;rw [yJ] at hn;have hl:k<q.length:=by omega
 obtain ⟨g,o,e,hb,hc⟩:=h.at_ O;refine ⟨hl,g,o,e,hb,?_,?_,?_,?_⟩
 .simpa using hc (k * 4+0) _ (yC hl 0 O)
 .simpa [lZ] using hc (k * 4+1) _ (yC hl 1 O)
 .simpa [lZ] using hc (k * 4+2) _ (yC hl 2 O)
 .simpa [lZ] using hc (k * 4+3) _ (yC hl 3 O)
def mL : List Rq->Nat
 | []=>0
 | r::q=>(if r.kind=4 then 0 else 1)+mL q
def g5n (q r):mL (q++[r])=mL q+if r.kind=4 then 0 else 1:=by
 induction q with
 | nil=>simp [mL]
 | cons x q ih=>simp only [oZ,mL,ih];omega
def g5o (q):mL q<=q.length:=by
 induction q with
 | nil=>simp [mL]
 | cons x q ih=>simp only [mL,ft];split <;> omega
def ZH (A n c q w)(hr:Rd w w.heap.size 4 A n c (bg q)):Ca 141 #[.slice A n c] w (RB w (I (mL q:Int))):=by
 have hc1:=hr.le;have aN:=hr.mx;unfold maxLen at aN;have hn:=hr.len;rw [yJ] at hn;go_enter func141,ntmps141;go_wp2;go_loopw [3,8] (λm i wr=>∃ k:Nat,k<=n/\i = I (k:Int)/\m = I (mL (q.take k):Int)/\af w wr) (λ_ i _=>n - (intOf i).toNat);case atStart=>exact ⟨0,by omega,rfl,rfl,af.refl w⟩
 case round=>
  obtain ⟨k,hk,rfl,rfl,ii⟩:=hrel;by_cases ik:k<n
  .obtain ⟨hl,g,o,rfl,hg,c0,c1,c2,c3⟩:=(hr.bel ii).rq ik
   have a4:=g5o (q.take k);rw [cK] at a4;have hb:(mL (q.take k):Int)<9223372036854775807:=by omega
   have hs:=g5n (q.take k) (q[k]'hl);rw [<- iE hl] at hs;by_cases h4:(q[k]'hl).kind=4
   .rw [aa h4] at hs
    have Hs:=V hs;have h5:((q[k]'hl).kind != 4)=false:=by simp [h4]
    clear hn hs a4 h4;go_wp2;go_roundw;case rel=>exact ⟨k+1,by omega,by go_num,by rw [Hs.out];rfl,ii.trans (af.alloc _ _)⟩
    case measure=>exact zM
   .rw [Y h4] at hs
    have Hs:=V hs;have h5:((q[k]'hl).kind != 4)=true:=by simpa using h4
    clear hn hs a4 h4;go_wp2;go_roundw;case rel=>exact ⟨k+1,by omega,by go_num,by rw [Hs.out];go_num,ii.trans (af.alloc _ _)⟩
    case measure=>exact zM
  .obtain rfl:k=n:=by omega
   go_wp2;go_ret;exact ⟨xl (by rw [cD O]),ii⟩
def ur (q:List Rq) (line:Nat) (ks:List Int):Bool:=q.any λr=>ks.any λt=>decide (r.line=line/\r.kind=t)
def xk (ks:List Int):List Value:=ks.map (Value.int .i64)
def L9 (ks):(xk ks).length=ks.length:=by simp [xk]
def PL {ks k}(h:k<ks.length):(xk ks)[k]?=some (I (ks[k]'h)):=by simp [xk,h]
def KP {α:Type}(l:List α)(p:α->Bool){k}(h:k<l.length):(l.take (k+1)).any p=((l.take k).any p || p (l[k]'h)):=by
 rw [iE h,List.any_append];simp
def Nm {α:Type}{l:List α}{p:α->Bool}{k}(h:k<l.length)(hp:p (l[k]'h)=true):l.any p=true:=by
 rw [List.any_eq_true];exact ⟨_,wQ h,hp⟩
def T1 (A:Option Addr) (n c:Nat) (q:List Rq) (line:Nat) (A':Option Addr) (m c':Nat) (ks:List Int) (w:World) (hr:Rd w w.heap.size 4 A n c (bg q)) (hk:Rd w w.heap.size 1 A' m c' (xk ks)) :Ca 81 #[.slice A n c,U (line:Int),.slice A' m c'] w (RB w (.bool (ur q line ks))):=by
 have hc1:=hr.le;have aN:=hr.mx;have bX:=hk.le;have hd2:=hk.mx;unfold maxLen at aN hd2;have Hn:=V hr.len;have Hm:=V hk.len;go_enter func81,ntmps81;go_wp2;go_loopw [13] (λi wr=>∃ k:Nat,k<=n/\i = I (k:Int)/\ur (q.take k) line ks=false/\af w wr) (λi _=>n - (intOf i).toNat);case atStart=>exact ⟨0,by omega,rfl,rfl,af.refl w⟩
 case round=>
  obtain ⟨k,hkk,rfl,iz,ii⟩:=hrel;have qI:=V iz;clear iz;by_cases ik:k<n
  .obtain ⟨hl,g,o,rfl,hg,c0,c1,c2,c3⟩:=(hr.bel ii).rq ik
   go_wp2;go_loop [19] (λi=>∃ j:Nat,j<=m/\i = I (j:Int)/\(ks.take j).any (λt=>decide ((q[k]'hl).line=line/\(q[k]'hl).kind=t))=false) (λi=>m - (intOf i).toNat);case atStart=>exact ⟨0,by omega,rfl,rfl⟩
   case round=>
    obtain ⟨j,hj,rfl,aO⟩:=hrel;have bb:=V aO;clear aO;by_cases re:j<m
    .obtain ⟨g',o',u,rfl,ak,hu,bZ⟩:=(hk.bel ii).cell1 re
     have aP:j<ks.length:=by have:=Hm.out;rw [L9] at this;omega
     rw [PL aP] at hu;obtain rfl:_=u:=by injection hu
     clear hu;have ha:=KP ks (λt=>decide ((q[k]'hl).line=line/\(q[k]'hl).kind=t)) aP;rw [bb.out,ui] at ha;by_cases h1:(q[k]'hl).line=line
     .by_cases h2:(q[k]'hl).kind=ks[j]'aP
      .have bw:Hid (ur q line ks=true):=Nm hl (Nm aP (by simp [h1,h2]))
       have b1:(((q[k]'hl).line:Int) == (line:Int))=true:=by simp [h1]
       have b2:((q[k]'hl).kind == ks[j]'aP)=true:=by simp [h2]
       clear h1 h2 ha;go_wp2;go_ret;exact ⟨qD (by rw [bw.out]),ii.trans (af.alloc _ _)⟩
      .have Ha:Hid ((ks.take (j+1)).any (λt=>decide ((q[k]'hl).line=line/\(q[k]'hl).kind=t))=false):=ha.trans (by simp [h2])
       have b1:(((q[k]'hl).line:Int) == (line:Int))=true:=by simp [h1]
       have b2:((q[k]'hl).kind == ks[j]'aP)=false:=by simpa using h2
       clear h1 h2 ha;exact Nq
     .have Ha:Hid ((ks.take (j+1)).any (λt=>decide ((q[k]'hl).line=line/\(q[k]'hl).kind=t))=false):=ha.trans (by simp [h1])
      have b1:(((q[k]'hl).line:Int) == (line:Int))=false:=by rw [pI];omega
      clear h1 ha;exact Nq
    .obtain rfl:j=m:=by omega
     have ha:=KP q (λr=>ks.any λt=>decide (r.line=line/\r.kind=t)) hl;have aO:=bb.out;rw [cD (by have:=Hm.out;rw [L9] at this;omega)] at aO;have iz:=qI.out;unfold ur at iz;rw [iz,aO,pE] at ha;have Ha:=V ha;clear ha aO iz;go_wp2;go_roundw;case rel=>exact ⟨k+1,by omega,by go_num,Ha.out,ii.trans (af.alloc _ _)⟩
     case measure=>exact zM
  .have hq:q.take k=q:=cD (by have:=Hn.out;rw [yJ] at this;omega)
   have iz:=qI.out;rw [hq] at iz;have Hz:=V iz;clear iz hq;go_wp2;go_ret;exact ⟨qD (by rw [Hz.out]),ii⟩
structure Wy where
 line:Nat
 dirty:Bool
 data:ByteArray
def Wy.cells (r:Wy):List Value:=[U (r.line:Int),.bool r.dirty,.string r.data]
def Wy.val (r:Wy):Value:=.agg #[U (r.line:Int),.bool r.dirty,.string r.data]
def bv (q:List Wy):List Value:=q.flatMap Wy.cells
def ya (q):(bv q).length=q.length * 3:=by
 induction q with
 | nil=>rfl
 | cons r q ih=>
  have:bv (r::q)=r.cells++bv q:=rfl;rw [this,ea,ih,ft];simp [Wy.cells];omega
def g5s {q:List Wy} {k:Nat} (h:k<q.length) (j:Nat) (hj:j<3):(bv q)[k * 3+j]?=(q[k]'h).cells[j]?:=by
 induction q generalizing k with
 | nil=>simp at h
 | cons r q ih=>
  have e:bv (r::q)=r.cells++bv q:=rfl;have hl:r.cells.length=3:=rfl;cases k with
  | zero=>rw [e,lm pR];simp
  | succ k=>
   rw [e,kU pR,hl,show (k+1) * 3+j - 3=k * 3+j by omega,ih pZ]
   simp
def AP (q):∀ u∈bv q,u.oneCell'=true:=by
 intro u hu;simp only [bv,r6,Wy.cells,bB,rr,lr] at hu;obtain ⟨r,_,h⟩:=hu;rcases h with h|h|h <;> subst h <;> rfl
def Ef (q:List Wy) (k:Nat):(bv q).take (k * 3)=bv (q.take k):=by
 induction q generalizing k with
 | nil=>simp [bv]
 | cons r q ih=>
  have e:bv (r::q)=r.cells++bv q:=rfl;have hl:r.cells.length=3:=rfl;cases k with
  | zero=>simp [bv]
  | succ k=>
   rw [e,List.take_append,hl,show (k+1) * 3 - 3=k * 3 by omega,ih,uT,cD pR];rfl
def Rv (q:List Wy) (k:Nat):(bv q).drop (k * 3)=bv (q.drop k):=by
 induction q generalizing k with
 | nil=>simp [bv]
 | cons r q ih=>
  have e:bv (r::q)=r.cells++bv q:=rfl;have hl:r.cells.length=3:=rfl;cases k with
  | zero=>simp [bv]
  | succ k=>
   rw [e,List.drop_append,hl,show (k+1) * 3 - 3=k * 3 by omega,ih,List.drop_succ_cons,sW pR];rfl
def Rd.wyslen {w B n c A q}(h:Rd w B 3 A n c (bv q)):q.length=n:=by
 have hn:=h.len;rw [ya] at hn;omega
def uq : List Value:=[U 0,.bool false,.string ⟨#[]⟩]
def w9 : cO Tryz.prog 101 3:=⟨_,underlying101,rfl,by kernel_rfl⟩
def Wy.one (r:Wy):∀ u∈r.cells,u.oneCell'=true:=λu hu=>AP [r] u (by simpa [bv] using hu)
def Rd.wyselem {w B n c A q}(h:Rd w B 3 A n c (bv q)){k}(hk:k<n):∃ (hl:k<q.length) (g o:Nat),A=some ⟨g,o,none⟩/\g<B /\ ∀ j u,(q[k]'hl).cells[j]?=some u->w.cell? ⟨g,o+k * 3+j,none⟩=some u:=by
 have hl:k<q.length:=by rw [h.wyslen];exact hk
 obtain ⟨g,o,e,hb,hc⟩:=h.at_ O;refine ⟨hl,g,o,e,hb,λj u hu=>?_⟩;have hj:j<3:=(aK.1 hu).1;rw [lZ];exact hc _ _ ((g5s hl j hj).trans hu)
structure Ins where
 op:Int
 rd:Int
 rs1:Int
 rs2:Int
 imm:Nat
def Ins.cells (r:Ins):List Value:=[I r.op,I r.rd,I r.rs1,I r.rs2,U (r.imm:Int)]
def Ins.val (r:Ins):Value:=.agg #[I r.op,I r.rd,I r.rs1,I r.rs2,U (r.imm:Int)]
structure Stp where
 pc:Nat
 next:Nat
 rd:Int
 value:Nat
 addr:Nat
 size:Int
 store:Bool
 halt:Int
 took:Int
def Stp.cells (r:Stp):List Value:=[U (r.pc:Int),U (r.next:Int),I r.rd,U (r.value:Int),U (r.addr:Int),I r.size,.bool r.store,I r.halt,I r.took]
def Stp.val (r:Stp):Value:=.agg #[U (r.pc:Int),U (r.next:Int),I r.rd,U (r.value:Int),U (r.addr:Int),I r.size,.bool r.store,I r.halt,I r.took]
def gU (q:List Stp):List Value:=q.flatMap Stp.cells
def VI (q):∀ u∈gU q,u.oneCell'=true:=by
 intro u hu;simp only [gU,r6,Stp.cells,bB,rr,lr] at hu;obtain ⟨r,_,h⟩:=hu;rcases h with h|h|h|h|h|h|h|h|h <;> subst h <;> rfl
def Stp.one (r:Stp):∀ u∈r.cells,u.oneCell'=true:=λu hu=>VI [r] u (by simpa [gU] using hu)
structure Sl where
 pc:Nat
 next:Nat
def Sl.cells (r:Sl):List Value:=[U (r.pc:Int),U (r.next:Int)]
def eQ (q:List Sl):List Value:=q.flatMap Sl.cells
def KU (q):(eQ q).length=q.length * 2:=by
 induction q with
 | nil=>rfl
 | cons r q ih=>
  have:eQ (r::q)=r.cells++eQ q:=rfl;rw [this,ea,ih,ft];simp [Sl.cells];omega
def Lj (q):∀ u∈eQ q,u.oneCell'=true:=by
 intro u hu;simp only [eQ,r6,Sl.cells,bB,rr,lr] at hu;obtain ⟨r,_,h⟩:=hu;rcases h with h|h <;> subst h <;> rfl
def Sl.one (r:Sl):∀ u∈r.cells,u.oneCell'=true:=λu hu=>Lj [r] u (by simpa [eQ] using hu)
structure Fe where
 pc:Nat
 guess:Nat
def Fe.cells (r:Fe):List Value:=[U (r.pc:Int),U (r.guess:Int)]
def Fe.val (r:Fe):Value:=.agg #[U (r.pc:Int),U (r.guess:Int)]
def jF (q:List Fe):List Value:=q.flatMap Fe.cells
def g5v (p q):jF (p++q)=jF p++jF q:=by simp [jF]
structure pt where
 at_:Int
 size:Int
def pt.cells (r:pt):List Value:=[I r.at_,I r.size]
def dk (q:List pt):List Value:=q.flatMap pt.cells
def T5 (q):∀ u∈dk q,u.oneCell'=true:=by
 intro u hu;simp only [dk,r6,pt.cells,bB,rr,lr] at hu;obtain ⟨r,_,h⟩:=hu;rcases h with h|h <;> subst h <;> rfl
def pt.one (r:pt):∀ u∈r.cells,u.oneCell'=true:=λu hu=>T5 [r] u (by simpa [dk] using hu)
end
section
open Go.RowKit
inductive Mu where
 | blk (g:Nat) (t:TypeId) (cs:List Value)
 | own (v:Value) (e:TypeId) (sz n:Nat) (xs:List Value)
 | row (A:Option Addr) (t:TypeId) (xs:List Value)
def Mu.bl : Mu->Option Nat
 | .blk g _ _=>some g
 | .own v _ _ _ _=>v.ownBlock
 | .row A _ xs=>if 0<xs.length then A.map (·.block) else none
def Mu.ok (B:Nat) (w:World):Mu->Prop
 | .blk g t cs=>Bk w g t cs/\B<=g
 | .own v e sz n xs=>w.ownsRow B e sz v n xs
 | .row A t xs=>0<xs.length -> ∃ g pre post,A=some ⟨g,pre.length,none⟩/\Bk w g t (pre++(xs++post))/\B<=g
def Mu.ok.lt {B w}{m:Mu}(h:m.ok B w){g}(hg:m.bl=some g):B<=g/\g<w.heap.size:=by
 cases m with
 | blk g' t cs=>simp only [Mu.bl,dF] at hg;subst hg;exact ⟨h.2,h.1.lt⟩
 | own v e sz n xs=>exact World.ownsRow.lt h g hg
 | row A t xs=>
  simp only [Mu.bl] at hg;split at hg
  .rename_i hx
   obtain ⟨g',pre,post,rfl,hb,hB⟩:=h hx;simp only [dB,dF] at hg;subst hg;exact ⟨hB,hb.lt⟩
  .cases hg
def Mu.ok.keep {B w w'}{m:Mu}(h:m.ok B w)(hk:∀ g,m.bl=some g->w'.heap[g]?=w.heap[g]?):m.ok B w':=by
 cases m with
 | blk g' t cs=>exact ⟨h.1.keep (hk _ F),h.2⟩
 | own v e sz n xs=>
  refine ⟨h.1,?_⟩;rcases h.2 with h'|⟨g,cap,cur,rfl,hb,hg,rest⟩
  .exact .inl h'
  .exact .inr ⟨g,cap,cur,rfl,hb,(hk g F).trans hg,rest⟩
 | row A t xs=>
  intro hx;obtain ⟨g,pre,post,rfl,hb,hB⟩:=h hx;exact ⟨g,pre,post,rfl,hb.keep (hk g (by simp [Mu.bl,hx])),hB⟩
structure Da where
 ok:World->Prop
 bl:Nat->Prop
 keep:∀ {w w':World},(∀ g,bl g->w'.heap[g]?=w.heap[g]?)->w.heap.size<=w'.heap.size->ok w->ok w'
 lt:∀ {w:World},ok w -> ∀ g,bl g->g<w.heap.size
def Hi (A:Option Addr) (n:Nat) (g:Nat):Prop:=0<n /\ ∃ o s,A=some ⟨g,o,s⟩
def ab (sz:Nat) (A:Option Addr) (n c:Nat) (xs:List Value):Da where
 ok w:=Rd w w.heap.size sz A n c xs
 bl:=Hi A n
 keep {w w'} hk hs h:=⟨h.len,h.le,h.mx,λhn=>by
  obtain ⟨g,o,e,hb,hc⟩:=h.at_ hn
  exact ⟨g,o,e,so hb hs,λj u hu=>(Bm (hk g ⟨hn,o,none,e⟩)).trans (hc j u hu)⟩⟩
 lt {w} h g hg:=by
  obtain ⟨hn,o,s,e⟩:=hg;obtain ⟨g',o',e',hb,_⟩:=h.at_ hn;rw [e'] at e;injection e with e;injection e with e1;omega
def From (w:World) (D:List Da) (d:Da):Prop:=∀ g,d.bl g->w.heap.size<=g \/ ∃ e∈D,e.bl g
def From.self {w D d}(h:d∈D):From w D d:=λg hg=>.inr ⟨d,h,hg⟩
def From.new {w D d}(h:∀ g,d.bl g->w.heap.size<=g):From w D d:=λg hg=>.inl (h g hg)
def From.trans {w w' D D' d}(h:From w' D' d)(hs:w.heap.size<=w'.heap.size)(hD:∀ e∈D',From w D e):From w D d:=λg hg=>by
 rcases h g hg with h|⟨e,he,hb⟩
 .exact .inl (iG hs h)
 .exact hD e he g hb
structure St (w0:World) (D0:List Da) (w:World) (M:List Mu) (D:List Da):Prop where
 bel:af w0 w
 mu:∀ (i:Nat) (m:Mu),M[i]?=some m->m.ok w0.heap.size w
 apart:∀ (i j:Nat) (a b:Mu),i≠j->M[i]?=some a->M[j]?=some b -> ∀ g,a.bl=some g->b.bl≠some g
 dat:∀ d∈D,d.ok w
 sep:∀ d∈D,∀ (i:Nat) (m:Mu),M[i]?=some m -> ∀ g,m.bl=some g -> ¬ d.bl g
 src:∀ d∈D,From w0 D0 d
section
variable {w0 w w':World} {D0 D:List Da} {M:List Mu}
def St.start (w D)(h:∀ d∈D,d.ok w):St w D w [] D :=
 ⟨af.refl w,λi m h=>by simp at h,λi j a b _ h=>by simp at h,h,λ_ _ i m h=>by simp at h,λd hd=>From.self hd⟩
def lV (hb:af w w') (r:Option Nat):w.grownBy w' r:=⟨hb.os,hb.tape,hb.output,hb.size,λk hk _=>hb.block k hk⟩
def St.grow (h:St w0 D0 w M D) (hb:af w w'):St w0 D0 w' M D :=
 ⟨h.bel.trans hb,λi m hm=>(h.mu i m hm).keep λg hg=>hb.block g ((h.mu i m hm).lt hg).2,h.apart,λd hd=>d.keep (λg hg=>hb.block g (d.lt (h.dat d hd) g hg)) hb.size (h.dat d hd),h.sep,h.src⟩
def St.cB {P f args w0 w D0 D M Q x} (E:St w0 D0 w M D) (hC:Calls P f args w (RB w x)) (h:∀ w',St w0 D0 w' M D->Q (.returned x) w'):Calls P f args w Q:=hC.mono λe w' h1=>by
 obtain ⟨rfl,hb⟩:=h1;exact h w' (E.grow hb)
def St.upd (h:St w0 D0 w M D) (i:Nat) (m m':Mu) (hi:M[i]?=some m) (hg:w.grownBy w' m.bl) (hm:m'.ok w0.heap.size w') (hb:∀ g,m'.bl=some g->m.bl=some g\/w.heap.size<=g) :St w0 D0 w' (M.set i m') D:=by
 have hil:i<M.length:=(aK.1 hi).1;have iu:∀ j x,(M.set i m')[j]?=some x->(j=i/\x=m')\/(j≠i/\M[j]?=some x):=by
  intro j x hx;by_cases hj:i=j
  .subst hj;rw [jQ hil] at hx;injection hx with hx;exact .inl ⟨rfl,hx.symm⟩
  .rw [mS hj] at hx;exact .inr ⟨λe=>hj e.symm,hx⟩
 refine ⟨h.bel.grown hg λk hk=>((h.mu i m hi).lt hk).1,λj x hx=>?_,λj k a b hjk ha al g az av=>?_,λd hd=>?_,λd hd j x hx g aX G=>?_,h.src⟩
 .rcases iu j x hx with ⟨_,rfl⟩|⟨hj,hx⟩
  .exact hm
  .exact (h.mu j x hx).keep λg ak=>hg.block g ((h.mu j x hx).lt ak).2 (λe=>h.apart j i x m hj hx hi g ak e.symm)
 .rcases iu j a ha with ⟨rfl,e1⟩|⟨hj,a5⟩
  .rcases iu k b al with ⟨rfl,_⟩|⟨hk,aJ⟩
   .exact hjk F
   .rcases hb g (e1 ▸ az) with h1|h1
    .exact h.apart j k m b hjk hi aJ g h1 av
    .have:=((h.mu k b aJ).lt av).2;omega
  .rcases iu k b al with ⟨rfl,e1⟩|⟨hk,aJ⟩
   .rcases hb g (e1 ▸ av) with h1|h1
    .exact h.apart j k a m hjk a5 hi g az h1
    .have:=((h.mu j a a5).lt az).2;omega
   .exact h.apart j k a b hjk a5 aJ g az av
 .exact d.keep (λg G=>hg.block g (d.lt (h.dat d hd) g G) (λe=>h.sep d hd i m hi g e.symm G)) hg.size (h.dat d hd)
 .rcases iu j x hx with ⟨_,rfl⟩|⟨_,hx⟩
  .rcases hb g aX with h1|h1
   .exact h.sep d hd i m hi g h1 G
   .have:=d.lt (h.dat d hd) g G;omega
  .exact h.sep d hd j x hx g aX G
def St.push (h:St w0 D0 w M D)(m)(hg:w.grownBy w' none)(hm:m.ok w0.heap.size w')(hb:∀ g,m.bl=some g->w.heap.size<=g):St w0 D0 w' (m::M) D:=by
 have hbe:af w w':=⟨hg.os,hg.tape,hg.output,hg.size,λk hk=>hg.block k hk aF⟩;have h':=h.grow hbe;refine ⟨h'.bel,λi x hx=>?_,λi j a b hij ha al g az av=>?_,h'.dat,λd hd i x hx g aX G=>?_,h.src⟩
 .cases i with
  | zero=>simp at hx;subst hx;exact hm
  | succ i=>exact h'.mu i x yG
 .cases i with
  | zero=>
   simp at ha;subst ha;cases j with
   | zero=>exact hij F
   | succ j=>
    have:=((h.mu j b (by simpa using al)).lt av).2;have:=hb g az;omega
  | succ i=>
   cases j with
   | zero=>
    simp at al;subst al;have:=((h.mu i a (by simpa using ha)).lt az).2;have:=hb g av;omega
   | succ j=>exact h.apart i j a b O (by simpa using ha) (by simpa using al) g az av
 .cases i with
  | zero=>
   simp at hx;subst hx;have:=d.lt (h.dat d hd) g G;have:=hb g aX;omega
  | succ i=>exact h.sep d hd i x yG g aX G
def St.alloc (h:St w0 D0 w M D)(t cs):St w0 D0 (w.alloc (.cells cs.toArray t)) (.blk w.heap.size t cs::M) D :=
 h.push _ (lV (af.alloc w _) none) ⟨Bk.new w t cs,h.bel.size⟩ λg hg=>by simp only [Mu.bl,dF] at hg;omega
def St.nil (h:St w0 D0 w M D) (e:TypeId) (sz:Nat):St w0 D0 w (.own (.slice none 0 0) e sz 0 []::M) D :=
 h.push _ (lV (af.refl w) none) ⟨by simp,.inl ⟨rfl,rfl⟩⟩ λg hg=>by simp [Mu.bl,Value.ownBlock] at hg
def St.add (h:St w0 D0 w M D)(hb:af w w')(d)(hd:d.ok w')(D1)(hf:From w D1 d)(hD:∀ e∈D1,e∈D):St w0 D0 w' M (d::D):=by
 have h':=h.grow hb;refine ⟨h'.bel,h'.mu,h'.apart,λe he=>?_,λe he i m hm g an bd=>?_,λe he=>?_⟩
 .rcases bB.1 he with rfl|he
  .exact hd
  .exact h'.dat e he
 .rcases bB.1 he with rfl|he
  .rcases hf g bd with h1|⟨f,hf1,bx⟩
   .have:=((h.mu i m hm).lt an).2;omega
   .exact h.sep f (hD f hf1) i m hm g an bx
  .exact h.sep e he i m hm g an bd
 .rcases bB.1 he with rfl|he
  .exact hf.trans h.bel.size λf hf1=>h.src f (hD f hf1)
  .exact h.src e he
def St.part (h:St w0 D0 w M D)(d)(hd:d.ok w)(hf:∀ g,d.bl g -> ∃ e∈D,e.bl g):St w0 D0 w M (d::D) :=
 h.add (af.refl w) d hd D (λg hg=>.inr (hf g hg)) λe he=>he
def St.less (h:St w0 D0 w M D){M' D'}(hM:∃ f:Nat->Nat,(∀ i j,f i=f j->i=j) /\ ∀ i m,M'[i]?=some m->M[f i]?=some m)(hD:∀ d∈D',d∈D):St w0 D0 w M' D':=by
 obtain ⟨f,hf,hM⟩:=hM
 exact ⟨h.bel,λi m hm=>h.mu (f i) m (hM i m hm),λi j a b hij ha hb=>h.apart (f i) (f j) a b (λe=>hij (hf i j e)) (hM i a ha) (hM j b hb),λd hd=>h.dat d (hD d hd),
  λd hd i m hm=>h.sep d (hD d hd) (f i) m (hM i m hm),λd hd=>h.src d (hD d hd)⟩
def St.lessD (h:St w0 D0 w M D){D'}(hD:∀ d∈D',d∈D):St w0 D0 w M D':=h.less ⟨id,λ_ _ e=>e,λ_ _ h=>h⟩ hD
def St.drop (h:St w0 D0 w M D) (i:Nat):St w0 D0 w (M.eraseIdx i) D :=
 h.less ⟨λj=>if j<i then j else j+1,λa b e=>by dsimp only at e;split at e <;> split at e <;> omega,λj m hm=>by
  rw [sy] at hm;dsimp only;split
  .rename_i hj;rwa [aa hj] at hm
  .rename_i hj;rwa [Y hj] at hm⟩ λd hd=>hd
def St.freeze (h:St w0 D0 w M D) (i:Nat) {v:Value} {e:TypeId} {sz n:Nat} {xs:List Value} (hi:M[i]?=some (.own v e sz n xs)) :∃ A c,v = .slice A n c/\St w0 D0 w (M.eraseIdx i) (ab sz A n c xs::D):=by
 have ir:w.ownsRow w0.heap.size e sz v n xs:=h.mu i _ hi;obtain ⟨A,c,rfl,hr,aY⟩:=Rd.of_own' ir;refine ⟨A,c,rfl,?_⟩;have hbl:∀ g,(ab sz A n c xs).bl g->(Mu.own (.slice A n c) e sz n xs).bl=some g:=by
  rintro g ⟨_,o,s,rfl⟩;rfl
 have h':=h.drop i;have bE:∀ d∈ab sz A n c xs::D,∀ (j:Nat) (m:Mu),(M.eraseIdx i)[j]?=some m -> ∀ g,m.bl=some g -> ¬ d.bl g:=by
  intro d hd j m hm g an G;rcases bB.1 hd with rfl|hd
  .rw [sy] at hm
   split at hm
   .exact h.apart j i m _ O hm hi g an (hbl g G)
   .exact h.apart (j+1) i m _ O hm hi g an (hbl g G)
  .exact h'.sep d hd j m hm g an G
 refine ⟨h.bel,h'.mu,h'.apart,λd hd=>?_,bE,λd hd=>?_⟩
 .rcases bB.1 hd with rfl|hd
  .exact hr
  .exact h.dat d hd
 .rcases bB.1 hd with rfl|hd
  .exact From.new λg hg=>((h.mu i _ hi).lt (hbl g hg)).1
  .exact h.src d hd
def St.freezeB (h:St w0 D0 w M D) (i:Nat) {g:Nat} {t:TypeId} {cs:List Value} (hi:M[i]?=some (.blk g t cs)) (sz n c:Nat) (hl:cs.length=n * sz) (hc:n<=c) (hm:c<=maxLen) :St w0 D0 w (M.eraseIdx i) (ab sz (some ⟨g,0,none⟩) n c cs::D):=by
 have hk:=(h.mu i _ hi);have hr:Rd w w.heap.size sz (some ⟨g,0,none⟩) n c cs:=by
  have:=hk.1.rd (sz:=sz) (n:=n) (c:=c) (o:=0) O hc hm
  rwa [rh,cD O] at this
 have hbl:∀ g',(ab sz (some ⟨g,0,none⟩) n c cs).bl g'->g'=g:=by
  rintro g' ⟨_,o,s,e⟩;injection e with e;injection e with e;exact e.symm
 have h':=h.drop i;refine ⟨h.bel,h'.mu,h'.apart,λd hd=>?_,λd hd j m a0 g' an G=>?_,λd hd=>?_⟩
 .rcases bB.1 hd with rfl|hd
  .exact hr
  .exact h.dat d hd
 .rcases bB.1 hd with rfl|hd
  .obtain rfl:=hbl g' G
   rw [sy] at a0;split at a0
   .exact h.apart j i m _ O a0 hi g' an F
   .exact h.apart (j+1) i m _ O a0 hi g' an F
  .exact h'.sep d hd j m a0 g' an G
 .rcases bB.1 hd with rfl|hd
  .exact From.new λg' hg=>by obtain rfl:=hbl g' hg;exact hk.2
  .exact h.src d hd
def St.bk (h:St w0 D0 w M D){g t cs}(hm:Mu.blk g t cs∈M):Bk w g t cs:=by
 obtain ⟨i,hi,e⟩:=List.mem_iff_getElem.1 hm;have h1:(Mu.blk g t cs).ok w0.heap.size w:=h.mu i _ (by rw [ba hi,e]);exact h1.1
def St.bkAt (h:St w0 D0 w M D){i g:Nat}{t cs}(hm:M[i]?=some (.blk g t cs)):Bk w g t cs:=(h.mu i _ hm).1
def St.ownAt (h:St w0 D0 w M D){i:Nat}{v e sz n xs}(hm:M[i]?=some (.own v e sz n xs)):w.ownsRow w0.heap.size e sz v n xs:=h.mu i _ hm
def St.ownOne (h:St w0 D0 w M D){i:Nat}{v e sz n xs}(hm:M[i]?=some (.own v e sz n xs)):v.oneCell'=true:=by
 rcases (h.ownAt hm).2 with ⟨rfl,_⟩|⟨g,cap,cur,rfl,_⟩ <;> rfl
def NT {B B' v e sz n xs}(h:w.ownsRow B e sz v n xs)(hB:B'<=B):w.ownsRow B' e sz v n xs:=by
 refine ⟨h.1,?_⟩;rcases h.2 with h'|⟨g,cap,cur,h1,h2,h3⟩
 .exact .inl h'
 .exact .inr ⟨g,cap,cur,h1,iG hB h2,h3⟩
def St.pushOwn (h:St w0 D0 w M D)(hb:af w w'){v e sz n xs}(ho:w'.ownsRow w.heap.size e sz v n xs):St w0 D0 w' (.own v e sz n xs::M) D :=
 h.push _ (lV hb none) (NT ho h.bel.size) λg hg=>(World.ownsRow.lt ho g hg).1
def St.ownSome (h:St w0 D0 w M D){i:Nat}{v e sz n xs}(hm:M[i]?=some (.own v e sz n xs))(hn:0<n):∃ g cap,v = .slice (some ⟨g,0,none⟩) n cap/\n<=cap/\cap<=maxLen:=by
 rcases (h.ownAt hm).2 with ⟨_,rfl⟩|⟨g,cap,cur,rfl,_,_,h1,h2,_⟩
 .omega
 .exact ⟨g,cap,rfl,h1,h2⟩
def St.ownCell (h:St w0 D0 w M D) {i g n c:Nat} {e:TypeId} {sz:Nat} {xs:List Value} (hm:M[i]?=some (.own (.slice (some ⟨g,0,none⟩) n c) e sz n xs)) (j:Nat) (u:Value) (hu:xs[j]?=some u):w.cell? ⟨g,j,none⟩=some u:=by
 have:=World.ownsRow.cells (h.ownAt hm) (g:=g) F j u hu
 rwa [kv,jR] at this
def St.ownSet (h:St w0 D0 w M D) {i g n c:Nat} {e:TypeId} {sz:Nat} {xs:List Value} (hm:M[i]?=some (.own (.slice (some ⟨g,0,none⟩) n c) e sz n xs)) (j:Nat) (u:Value) (hj:j<xs.length) :w.frozen? ⟨g,j,none⟩=false/\St w0 D0 (w.setCell ⟨g,j,none⟩ u) (M.set i (.own (.slice (some ⟨g,0,none⟩) n c) e sz n (xs.set j u))) D:=by
 have ho:=h.ownAt hm;rcases ho.2 with ⟨h',_⟩|⟨g',cap,cur,h',hb,hg,aE,a1,iy,aR⟩
 .simp at h'
 .simp only [Value.slice.injEq,dF,Addr.mk.injEq,and_true,true_and] at h'
  obtain ⟨rfl,rfl⟩:=h';refine ⟨by simp [World.frozen?,hg],h.upd i _ _ hm ⟨rfl,rfl,rfl,by simp [World.setCell],λk hk hne=>pU w _ u k (λe=>hne (by rw [e];rfl))⟩ ?_ λg' ak=>.inl ak⟩;refine ⟨by rw [cw];exact ho.1,.inr ⟨g,c,cur.setIfInBounds j u,rfl,hb,by simp [World.setCell,Array.getElem?_modify,hg],aE,a1,by simpa using iy,?_⟩⟩;rw [Array.toList_setIfInBounds,List.take_set,aR]
def St.rd (h:St w0 D0 w M D){sz n c A xs}(hd:ab sz A n c xs∈D):Rd w w.heap.size sz A n c xs:=h.dat _ hd
end
def aC {α:Type}{m:α}{M}:(m::M)[0]?=some m:=rfl
def dD {α:Type}{a m:α}{M}:(a::m::M)[1]?=some m:=rfl
def jh {α:Type}{a b m:α}{M}:(a::b::m::M)[2]?=some m:=rfl
def kY {α:Type}{a b c m:α}{M}:(a::b::c::m::M)[3]?=some m:=rfl
def oc {α:Type}{a b c d m:α}{M}:(a::b::c::d::m::M)[4]?=some m:=rfl
def tl {α:Type}{a b c d e m:α}{M}:(a::b::c::d::e::m::M)[5]?=some m:=rfl
def uA {α:Type}{a b c d e f m:α}{M}:(a::b::c::d::e::f::m::M)[6]?=some m:=rfl
def NE {xs:List Value} (h:∀ u∈xs,u.oneCell'=true) (k:Nat):∀ u∈xs.take k,u.oneCell'=true:=λu hu=>h u (jE hu)
def drop_one {xs:List Value} (h:∀ u∈xs,u.oneCell'=true) (k:Nat):∀ u∈xs.drop k,u.oneCell'=true:=λu hu=>h u (sU hu)
def V9 {D:List Da}:∀ d∈([]:List Da),d∈D:=λ_ h=>by cases h
def uu : ∀ u∈([]:List Value),u.oneCell'=true:=λ_ h=>by cases h
def wm {v:Value}{l}(h:v.oneCell'=true)(t:∀ u∈l,u.oneCell'=true):∀ u∈v::l,u.oneCell'=true:=λu hu=>by
 rcases bB.1 hu with rfl|hu
 .exact h
 .exact t u hu
def cu (A:Option Addr) (j:Nat):Value:=.pointer (A.map λa=>a.add j)
def Dy (A i j):cu A (i+j) = .pointer ((A.map λa=>a.add i).map λa=>a.add j):=by
 cases A with
 | none=>rfl
 | some a=>
  obtain ⟨g,o,s⟩:=a;simp only [cu,dB,Addr.add];by_cases hi:i=0 <;> by_cases hj:j=0 <;> simp [hi,hj,lZ]
def aG {P:Program} {f:FuncId} {args:Array Value} {w0 w:World} {D0 D:List Da} {M:List Mu} {v:Value} {Q:Ending->World->Prop} (E:St w0 D0 w M D) (h:Calls P f args w (RB w (v))) (k:∀ w',St w0 D0 w' M D->Q (.returned v) w'):Calls P f args w Q:=h.mono λe w' x=>by obtain ⟨rfl,hb⟩:=x;exact k w' (E.grow hb)
end
section
open Go.RowKit
structure Cs where
 A:Option Addr
 n:Nat
 c:Nat
 ws:List Wy
def Cs.val (s:Cs):Value:=.slice s.A s.n s.c
def cj (S:List Cs):List Value:=S.map Cs.val
def wg (S):(cj S).length=S.length:=by simp [cj]
def JY (S):∀ u∈cj S,u.oneCell'=true:=by
 intro u hu;simp only [cj,fQ] at hu;obtain ⟨s,_,rfl⟩:=hu;rfl
def WS {S k}(h:k<S.length):(cj S)[k]?=some (S[k]'h).val:=by simp [cj,h]
def Q1 (S:List Cs) (k:Nat) (s:Cs):(cj S).set k s.val=cj (S.set k s):=by simp [cj]
def aZ (S:List Cs):List (List Wy):=S.map Cs.ws
def jN (S):(aZ S).length=S.length:=by simp [aZ]
def EO {S k}(h:k<S.length):(aZ S)[k]?=some (S[k]'h).ws:=by simp [aZ,h]
def UK (S:List Cs) (k:Nat) (s:Cs):aZ (S.set k s)=(aZ S).set k s.ws:=by simp [aZ]
structure bT (w:World) (B:Nat) (A:Option Addr) (n c:Nat) (S:List Cs):Prop where
 rd:Rd w B 1 A n c (cj S)
 sets:∀ s∈S,Rd w B 3 s.A s.n s.c (bv s.ws)
section
variable {w w':World} {B B' n c:Nat} {A:Option Addr} {S:List Cs}
def bT.slen (h:bT w B A n c S):S.length=n:=by have:=h.rd.len;rw [wg] at this;omega
def bT.bel (h:bT w w.heap.size A n c S) (hb:af w w'):bT w' w'.heap.size A n c S:=⟨h.rd.bel hb,λs hs=>(h.sets s hs).bel hb⟩
def bT.at_ (h:bT w B A n c S){k}(hk:k<n):∃ (hl:k<S.length) (g o:Nat),A=some ⟨g,o,none⟩/\g<B/\w.cell? ⟨g,o+k,none⟩=some (.slice (S[k]'hl).A (S[k]'hl).n (S[k]'hl).c)/\Rd w B 3 (S[k]'hl).A (S[k]'hl).n (S[k]'hl).c (bv (S[k]'hl).ws):=by
 have hl:k<S.length:=by have:=h.slen;omega
 obtain ⟨g,o,u,e,hb,hu,hc⟩:=h.rd.cell1 hk;rw [WS hl] at hu;obtain rfl:_=u:=by injection hu
 exact ⟨hl,g,o,e,hb,hc,h.sets _ (wQ hl)⟩
end
end
section
open Go.RowKit
structure En where
 no:Int
 pc:Nat
 inst:Ins
 guess:Nat
 is:Int
 left:Int
 value:Nat
 next:Nat
 addr:Nat
 halt:Int
 took:Int
 known:Bool
 filled:Bool
def En.cells (r:En):List Value:=[I r.no,U (r.pc:Int),I r.inst.op,I r.inst.rd,I r.inst.rs1,I r.inst.rs2,U (r.inst.imm:Int),U (r.guess:Int),I r.is,I r.left,U (r.value:Int),U (r.next:Int),U (r.addr:Int),I r.halt,I r.took,.bool r.known,.bool r.filled]
def En.val (r:En):Value:=.agg #[I r.no,U (r.pc:Int),I r.inst.op,I r.inst.rd,I r.inst.rs1,I r.inst.rs2,U (r.inst.imm:Int),U (r.guess:Int),I r.is,I r.left,U (r.value:Int),U (r.next:Int),U (r.addr:Int),I r.halt,I r.took,.bool r.known,.bool r.filled]
def ens (q:List En):List Value:=q.flatMap En.cells
def kA (q):(ens q).length=q.length * 17:=by
 induction q with
 | nil=>rfl
 | cons r q ih=>
  have:ens (r::q)=r.cells++ens q:=rfl;rw [this,ea,ih,ft];simp [En.cells];omega
def ZO {q:List En} {k:Nat} (h:k<q.length) (j:Nat) (hj:j<17):(ens q)[k * 17+j]?=(q[k]'h).cells[j]?:=by
 induction q generalizing k with
 | nil=>simp at h
 | cons r q ih=>
  have e:ens (r::q)=r.cells++ens q:=rfl;have hl:r.cells.length=17:=rfl;cases k with
  | zero=>rw [e,lm pR];simp
  | succ k=>
   rw [e,kU pR,hl,show (k+1) * 17+j - 17=k * 17+j by omega,ih pZ]
   simp
def Ij (q):∀ u∈ens q,u.oneCell'=true:=by
 intro u hu;simp only [ens,r6,En.cells,bB,rr,lr] at hu;obtain ⟨r,_,h⟩:=hu;rcases h with h|h|h|h|h|h|h|h|h|h|h|h|h|h|h|h|h <;> subst h <;> rfl
def ZM (q:List En) (k:Nat):(ens q).take (k * 17)=ens (q.take k):=by
 induction q generalizing k with
 | nil=>simp [ens]
 | cons r q ih=>
  have e:ens (r::q)=r.cells++ens q:=rfl;have hl:r.cells.length=17:=rfl;cases k with
  | zero=>simp [ens]
  | succ k=>
   rw [e,List.take_append,hl,show (k+1) * 17 - 17=k * 17 by omega,ih,uT,cD pR];rfl
def Rd.enslen {w B n c A q}(h:Rd w B 17 A n c (ens q)):q.length=n:=by
 have hn:=h.len;rw [kA] at hn;omega
def tP : List Value:=[I 0,U 0,I 0,I 0,I 0,I 0,U 0,U 0,I 0,I 0,U 0,U 0,U 0,I 0,I 0,.bool false,.bool false]
def vo : cO Tryz.prog 54 17:=⟨_,underlying54,rfl,by kernel_rfl⟩
def En.one (r:En):∀ u∈r.cells,u.oneCell'=true:=λu hu=>Ij [r] u (by simpa [ens] using hu)
def Rd.enselem {w B n c A q}(h:Rd w B 17 A n c (ens q)){k}(hk:k<n):∃ (hl:k<q.length) (g o:Nat),A=some ⟨g,o,none⟩/\g<B /\ ∀ j u,(q[k]'hl).cells[j]?=some u->w.cell? ⟨g,o+k * 17+j,none⟩=some u:=by
 have hl:k<q.length:=by rw [h.enslen];exact hk
 obtain ⟨g,o,e,hb,hc⟩:=h.at_ O;refine ⟨hl,g,o,e,hb,λj u hu=>?_⟩;have hj:j<17:=(aK.1 hu).1;rw [lZ];exact hc _ _ ((ZO hl j hj).trans hu)
end
section
open Go.RowKit Go.ChangeShapes Go.WideShapes Go.ChangeAt Go.Deep
def tj (r:Ins):Prop:=(I6 r.op)/\(I6 r.rd)/\(I6 r.rs1)/\(I6 r.rs2)/\r.imm<4294967296
def uk (r:Fe):Prop:=r.pc<4294967296/\r.guess<4294967296
def zr (r:Sl):Prop:=r.pc<4294967296/\r.next<4294967296
end
section

def qO (n k:Nat) (set:List Wy) (i:Nat) (v:Wy):Prop :=
 v.line % 16=0/\v.line / 16 % n=k/\(v.data.size=0\/v.data.size=16) /\ ∀ j<i,∀ u,set[j]?=some u->u.line≠v.line
def lP (n:Nat) (ways:Int) (k:Nat) (set:List Wy):Prop:=(set.length:Int)<=ways /\ ∀ i v,set[i]?=some v->qO n k set i v
structure bj (ways:Int) (C:List (List Wy)):Prop where
 hn:C.length=1\/C.length=2\/C.length=4
 hw:ways=1\/ways=2
 hs:∀ k s,C[k]?=some s->lP C.length ways k s
structure At (set:List Wy) (line:Nat) (i:Nat) (v:Wy):Prop where
 is:set[i]?=some v
 line:v.line=line
def pP (set:List Wy) (line:Nat):Prop:=∀ v∈set,v.line≠line
def fG (set:List Wy) (i:Nat) (v:Wy):List Wy:=v::(set.take i++set.drop (i+1))
def V8 (set:List Wy) (line:Nat):pP set line \/ ∃ i v,At set line i v /\ ∀ j<i,∀ u,set[j]?=some u->u.line≠line:=by
 induction set with
 | nil=>exact .inl (by intro v hv;cases hv)
 | cons x r ih=>
  by_cases hx:x.line=line
  .exact .inr ⟨0,x,⟨rfl,hx⟩,λj hj=>absurd hj O⟩
  .rcases ih with h|⟨i,v,ha,hf⟩
   .refine .inl λv hv=>?_
    rcases bB.1 hv with rfl|hv
    .exact hx
    .exact h v hv
   .refine .inr ⟨i+1,v,⟨by simpa using ha.is,ha.line⟩,λj hj u hu=>?_⟩
    cases j with
    | zero=>simp at hu;rw [<- hu];exact hx
    | succ j=>exact hf j O u (by simpa using hu)
end
section
open Go.RowKit Go.ChangeShapes Go.WideShapes Go.ChangeAt Go.Deep
def cC (r:En):Prop:=(I6 r.no)/\r.pc<4294967296/\tj r.inst/\r.guess<4294967296/\(I6 r.is)/\(I6 r.left)/\r.value<4294967296/\r.next<4294967296/\r.addr<4294967296/\(I6 r.halt)/\(I6 r.took)/\True/\True
end
section
open Go.RowKit
inductive jD (P:Program) (ty:TypeId):Prop
 | mk (d:TypeDesc) (hu:P.underlying ty=some d) (hd:(match d with | .struct _ | .array _ _=>false|_=>true)=true) (hi:(P.info? ty).map (·.size)=some 1)
inductive bF (P:Program) (t e:TypeId) (z:Value) (sz bytes:Nat):Prop
 | mk (hu:P.underlying t=some (.slice e)) (hi:(P.info? e).map (λi=>(i.zero,i.size,i.bytes))=some (some z,sz,bytes)) (hz:z.cells.size=sz) (hp:0<sz)
inductive lD (P:Program) (s f off:Nat):Prop
 | mk (fs:Array Field) (fl:Field) (n:Nat) (hu:P.underlying s=some (.struct fs)) (hf:fs[f]?=some fl) (ho:fl.offset=off) (hi:(P.info? fl.type).map (·.size)=some n) (hn:n≠0)
inductive yT (P:Program) (t:TypeId) (cs:List Value):Prop
 | mk (z:Value) (hi:(P.info? t).map (·.zero)=some (some z)) (hc:z.cells=cs.toArray)
def ac (a:Act):Operand->Option Value
 | .tmp t=>a.tmps.toList[t]?
 | .const v=>some v
 | _=>none
def ap {a x v}(h:ac a x=some v):a.eval x=v:=by
 cases x with
 | tmp t=>
  have h':a.tmps[t]?=some v:=by rw [<- uc];exact h
  simp [Act.eval,h']
 | const u=>exact Option.some.inj h
 | global g=>cases h
 | func f=>cases h
section
variable {P:Program} {ops:Array Oper} {rest:List Oper} {o:Oper} {a:Act} {Q:Exit->Act->World->Prop} {w0 w:World} {D0 D:List Da} {M:List Mu}
def ZT {ty x}(ho:o.op = .box ty x)(ig:o.guard=none)(E:St w0 D0 w M D){v}(hx:ac a x=some v)(cs)(hc:v.cells=cs.toArray)(h:∀ g w',St w0 D0 w' (.blk g ty cs::M) D->wpList P ops Q rest (a.put o.dst (.pointer (some ⟨g,0,none⟩))) w'):wpList P ops Q (o::rest) a w:=by
 replace hx:=ap hx;subst hx;refine kr ig λK X=>?_
 have hk:=X _ _ (h _ _ (E.alloc ty cs));unfold Oper.wp execOp;simp only [ho,Instr.box,newVar,newRow,hc,bC,bL,run_newObj_alloc,bG];exact hk
def RD {ty}(ho:o.op = .alloc ty)(ig:o.guard=none)(E:St w0 D0 w M D)(cs)(hz:yT P ty cs)(h:∀ g w',St w0 D0 w' (.blk g ty cs::M) D->wpList P ops Q rest (a.put o.dst (.pointer (some ⟨g,0,none⟩))) w'):wpList P ops Q (o::rest) a w:=by
 refine kr ig λK X=>?_
 have hk:=X _ _ (h _ _ (E.alloc ty cs));obtain ⟨z,hi,hz⟩:=hz;unfold Oper.wp execOp;cases hq:P.info? ty with
 | none=>simp [hq] at hi
 | some i=>
  have a6:i.zero=some z:=by simpa [hq] using hi
  simp only [ho,Instr.alloc,zeroValue,typeInfo,hq,a6,newVar,newRow,hz,bC,bL,run_program,run_newObj_alloc,bG];exact hk
def tJ {w ty ad v}(ht:jD P ty)(hc:w.cell? ad=some v):(loadVar ty ad).run P w = .ok v w:=by
 obtain ⟨d,hu,hd,_⟩:=ht;have hagg:(isAgg ty).run P w = .ok false w:=by
  unfold isAgg;rw [bC,eH hu w];cases d <;> simp_all
 simp [loadVar,bC,hagg,hc]
def C5 {w ty ad v u}(ht:jD P ty)(hc:w.cell? ad=some u)(hf:w.frozen? ad=false)(h1:v.oneCell'=true):(storeVar ty ad v).run P w = .ok () (w.setCell ad v):=by
 obtain ⟨d,hu,hd,hi⟩:=ht;have hs:(sizeOf ty).run P w = .ok 1 w:=by
  cases hq:P.info? ty with
  | none=>simp [hq] at hi
  | some i=>
   have:i.size=1:=by simpa [hq] using hi
   simp [sizeOf,typeInfo,hq,this]
 have hv:v.cells=#[v]:=by cases v <;> simp_all [Value.cells,Value.oneCell']
 have h0:ad.add 0=ad:=by unfold Addr.add;simp
 simp [storeVar,hs,hv,storeCells,h0,run_store P w ad v _ h1,hc,hf]
def Oq {ty x}(ho:o.op = .load ty x)(E:St w0 D0 w M D){g off}(hx:ac a x=some (.pointer (some ⟨g,off,none⟩)))(ht:jD P ty)(hw:Region.wanted o (yielded ops a.tmps)=true){i:Nat}{t cs}(hi:M[i]?=some (.blk g t cs)){v}(hv:cs[off]?=some v)(h:wpList P ops Q rest (a.put o.dst v) w):wpList P ops Q (o::rest) a w:=by
 replace hx:=ap hx;refine cI hw λK X=>?_
 have hb:=E.bkAt hi;unfold Oper.wp execOp;simp only [ho,hx,Instr.loadAt,Instr.sureAddr,bC,bL,bG,tJ ht (hb.cell_of off v hv)];exact X _ _ h
def Tm {ty x}(ho:o.op = .load ty x)(E:St w0 D0 w M D){g}(hx:ac a x=some (.pointer (some ⟨g,0,none⟩)))(hw:Region.wanted o (yielded ops a.tmps)=true){i:Nat}{t cs}(hi:M[i]?=some (.blk g t cs))(ht:cO P ty cs.length){v}(hv : .agg cs.toArray=v)(h:wpList P ops Q rest (a.put o.dst v) w):wpList P ops Q (o::rest) a w:=by
 replace hx:=ap hx;exact EB hw ty x ho g hx t cs v hv.symm (E.bkAt hi) ht h
def U2 {ty x}(ho:o.op = .load ty x)(E:St w0 D0 w M D){g off}(hx:ac a x=some (.pointer (some ⟨g,off,none⟩)))(hw:Region.wanted o (yielded ops a.tmps)=true){i:Nat}{t cs}(hi:M[i]?=some (.blk g t cs))(us:List Value)(ht:cO P ty us.length)(hu:∀ j u,us[j]?=some u->cs[off+j]?=some u){v}(hv : .agg us.toArray=v)(h:wpList P ops Q rest (a.put o.dst v) w):wpList P ops Q (o::rest) a w:=by
 replace hx:=ap hx;exact tX hw ty x ho g off hx us v hv.symm (λj u hj=>((E.bkAt hi).cell (off+j)).trans (hu j u hj)) ht h
def Qr {ty x y}(ho:o.op = .store ty x y)(E:St w0 D0 w M D){g off}(hx:ac a x=some (.pointer (some ⟨g,off,none⟩))){v}(hy:ac a y=some v)(ht:jD P ty)(hw:Region.wanted o (yielded ops a.tmps)=true){i t cs}(hi:M[i]?=some (.blk g t cs))(iv:off<cs.length)(h1:v.oneCell'=true){M'}(hM:M.set i (.blk g t (cs.set off v))=M')(h:∀ w',St w0 D0 w' M' D->wpList P ops Q rest (a.put o.dst undef) w'):wpList P ops Q (o::rest) a w:=by
 replace hx:=ap hx;subst hM;replace hy:=ap hy;have hb:=E.bkAt hi;have aY:w0.heap.size<=g:=(E.mu i _ hi).2;have hg:w.grownBy (w.setCell ⟨g,off,none⟩ v) (some g):=⟨rfl,rfl,rfl,by simp [World.setCell],λk hk hne=>pU w _ v k (λe=>hne (by rw [e]))⟩;have R:=E.upd i _ (.blk g t (cs.set off v)) hi hg ⟨hb.set_ off v,aY⟩ λg' ak=>.inl ak
 refine cI hw λK X=>?_
 have hk:=X _ _ (h _ R);have hc:w.cell? ⟨g,off,none⟩=some cs[off]:=(hb.cell off).trans (ba iv);unfold Oper.wp execOp;simp only [ho,hx,hy,Instr.storeAt,Instr.sureAddr,bC,bL,bG,C5 ht hc (hb.frozen iv) h1];exact hk
def Iq {ty x y}(ho:o.op = .store ty x y)(E:St w0 D0 w M D){g off}(hx:ac a x=some (.pointer (some ⟨g,off,none⟩)))(us)(hy:ac a y=some (.agg us.toArray))(hw:Region.wanted o (yielded ops a.tmps)=true){i t cs}(hi:M[i]?=some (.blk g t cs))(i8:off+us.length<=cs.length)(ht:cO P ty us.length)(h1:∀ u∈us,u.oneCell'=true){M'}(hM:M.set i (.blk g t (spl cs off us))=M')(h:∀ w',St w0 D0 w' M' D->wpList P ops Q rest (a.put o.dst undef) w'):wpList P ops Q (o::rest) a w:=by
 replace hx:=ap hx;replace hy:=ap hy;subst hM;have hb:=E.bkAt hi;have aY:w0.heap.size<=g:=(E.mu i _ hi).2;refine Cq hw ty x y ho g off us hx hy t cs hb i8 ht h1 λw' hk hs bJ hbe=>h w' ?_
 have h0:=E.bel;have al:=hbe _ h0 aY;exact E.upd i _ _ hi ⟨al.os.trans h0.os.symm,al.tape.trans h0.tape.symm,al.output.trans h0.output.symm,by omega,λk _ hne=>bJ k (λe=>hne (by rw [e];rfl))⟩ ⟨hk,aY⟩ λg' ak=>.inl ak
def Xb {ty x y}(ho:o.op = .store ty x y)(E:St w0 D0 w M D){g}(hx:ac a x=some (.pointer (some ⟨g,0,none⟩)))(us)(hy:ac a y=some (.agg us.toArray))(hw:Region.wanted o (yielded ops a.tmps)=true){i t cs}(hi:M[i]?=some (.blk g t cs))(i8:us.length=cs.length)(ht:cO P ty us.length)(h1:∀ u∈us,u.oneCell'=true){M'}(hM:M.set i (.blk g t us)=M')(h:∀ w',St w0 D0 w' M' D->wpList P ops Q rest (a.put o.dst undef) w'):wpList P ops Q (o::rest) a w:=by
 exact Iq ho E hx us hy hw hi O ht h1 (by rw [BF cs us i8];exact hM) h
def OY {ty x}(ho:o.op = .load ty x)(E:St w0 D0 w M D){g off}(hx:ac a x=some (.pointer (some ⟨g,off,none⟩)))(ht:jD P ty)(hw:Region.wanted o (yielded ops a.tmps)=true){i n c:Nat}{e sz xs}(hi:M[i]?=some (.own (.slice (some ⟨g,0,none⟩) n c) e sz n xs)){v}(hv:xs[off]?=some v)(h:wpList P ops Q rest (a.put o.dst v) w):wpList P ops Q (o::rest) a w:=by
 replace hx:=ap hx;refine cI hw λK X=>?_
 unfold Oper.wp execOp;simp only [ho,hx,Instr.loadAt,Instr.sureAddr,bC,bL,bG,tJ ht (E.ownCell hi off v hv)];exact X _ _ h
def Pb {ty x y}(ho:o.op = .store ty x y)(E:St w0 D0 w M D){g off}(hx:ac a x=some (.pointer (some ⟨g,off,none⟩))){v}(hy:ac a y=some v)(ht:jD P ty)(hw:Region.wanted o (yielded ops a.tmps)=true){i n c e sz xs}(hi:M[i]?=some (.own (.slice (some ⟨g,0,none⟩) n c) e sz n xs))(iv:off<xs.length)(h1:v.oneCell'=true){M'}(hM:M.set i (.own (.slice (some ⟨g,0,none⟩) n c) e sz n (xs.set off v))=M')(h:∀ w',St w0 D0 w' M' D->wpList P ops Q rest (a.put o.dst undef) w'):wpList P ops Q (o::rest) a w:=by
 replace hx:=ap hx;subst hM;replace hy:=ap hy;obtain ⟨io,R⟩:=E.ownSet hi off v iv;refine cI hw λK X=>?_
 have hk:=X _ _ (h _ R);have hc:w.cell? ⟨g,off,none⟩=some xs[off]:=E.ownCell hi off _ (ba iv);unfold Oper.wp execOp;simp only [ho,hx,hy,Instr.storeAt,Instr.sureAddr,bC,bL,bG,C5 ht hc io h1];exact hk
def OJ {t e:TypeId} {x ix:Operand} (ho:o.op = .indexAddr t x ix) (E:St w0 D0 w M D) {A:Option Addr} {n c:Nat} (hx:ac a x=some (.slice A n c)) {k:Nat} {ki:IntKind} (hk:ac a ix=some (.int ki (k:Int))){z:Value} {sz bytes:Nat} (ht:bF P t e z sz bytes) (hw:Region.wanted o (yielded ops a.tmps)=true) {xs:List Value} (hd:ab sz A n c xs∈D) (ik:k<n)(h:wpList P ops Q rest (a.put o.dst (cu A (k * sz))) w):wpList P ops Q (o::rest) a w:=by
 replace hx:=ap hx;replace hk:=ap hk;obtain ⟨g,f,rfl,_,_⟩:=(E.rd hd).at_ O;refine cI hw λK X=>?_
 obtain ⟨hu,hi,_,_⟩:=ht;have hs:(sizeOf e).run P w = .ok sz w:=by
  exact wW
 have ip:(Instr.indexAt t (.slice (some ⟨g,f,none⟩) n c) (.int ki (k:Int))).run P w = .ok (cu (some ⟨g,f,none⟩) (k * sz)) w:=by
  simp [Instr.indexAt,eH hu,asIntOf,hs,cu,show (k:Int)<(n:Int) by omega];intro h;omega
 unfold Oper.wp execOp;simp only [ho,hx,hk,ip,bC,bL,bG];exact X _ _ h
def O2 {t e:TypeId} {x ix:Operand} (ho:o.op = .indexAddr t x ix) {g n c:Nat} (hx:ac a x=some (.slice (some ⟨g,0,none⟩) n c)) {k:Nat} {ki:IntKind} (hk:ac a ix=some (.int ki (k:Int))){z:Value} {sz bytes:Nat} (ht:bF P t e z sz bytes) (hw:Region.wanted o (yielded ops a.tmps)=true) (ik:k<n)(h:wpList P ops Q rest (a.put o.dst (.pointer (some ⟨g,k * sz,none⟩))) w):wpList P ops Q (o::rest) a w:=by
 replace hx:=ap hx;replace hk:=ap hk;refine cI hw λK X=>?_
 obtain ⟨hu,hi,_,_⟩:=ht;have hs:(sizeOf e).run P w = .ok sz w:=by
  exact wW
 have ip:(Instr.indexAt t (.slice (some ⟨g,0,none⟩) n c) (.int ki (k:Int))).run P w = .ok (.pointer (some ⟨g,k * sz,none⟩)) w:=by
  simp [Instr.indexAt,eH hu,asIntOf,hs,kv,show (k:Int)<(n:Int) by omega];intro h;omega
 unfold Oper.wp execOp;simp only [ho,hx,hk,ip,bC,bL,bG];exact X _ _ h
def vQ {w s f off}(ht:lD P s f off)(ad):(Instr.fieldAt s (.pointer (some ad)) f).run P w = .ok (.pointer (some (ad.add off))) w:=by
 obtain ⟨fs,fl,n,hu,hf,rfl,hi,hn⟩:=ht;have hs:(sizeOf fl.type).run P w = .ok n w:=by
  cases hq:P.info? fl.type with
  | none=>simp [hq] at hi
  | some i=>
   have:i.size=n:=by simpa [hq] using hi
   simp [sizeOf,typeInfo,hq,this]
 simp [Instr.fieldAt,eH hu,hf,Instr.sureAddr,fieldPlace,hs,hn]
def Va {s f:Nat}{x}(ho:o.op = .fieldAddr s x f){A j}(hx:ac a x=some (cu A j)){off}(ht:lD P s f off)(hw:Region.wanted o (yielded ops a.tmps)=true)(E:St w0 D0 w M D){sz n c xs}(hd:ab sz A n c xs∈D)(hn:0<n)(h:wpList P ops Q rest (a.put o.dst (cu A (j+off))) w):wpList P ops Q (o::rest) a w:=by
 replace hx:=ap hx;obtain ⟨g,f0,rfl,_,_⟩:=(E.rd hd).at_ hn;refine cI hw λK X=>?_
 rw [Dy] at h;simp only [dB] at h;unfold Oper.wp execOp;simp only [ho,hx,cu,dB,vQ ht,bC,bL,bG];exact X _ _ h
def QV {s f:Nat}{x}(ho:o.op = .fieldAddr s x f){g j}(hx:ac a x=some (.pointer (some ⟨g,j,none⟩))){off}(ht:lD P s f off)(hw:Region.wanted o (yielded ops a.tmps)=true)(h:wpList P ops Q rest (a.put o.dst (.pointer (some ⟨g,j+off,none⟩))) w):wpList P ops Q (o::rest) a w:=by
 replace hx:=ap hx;refine cI hw λK X=>?_
 unfold Oper.wp execOp;simp only [ho,hx,vQ ht,kv,bC,bL,bG];exact X _ _ h
def VF {ty x}(ho:o.op = .load ty x)(E:St w0 D0 w M D){A j}(hx:ac a x=some (cu A j))(ht:jD P ty)(hw:Region.wanted o (yielded ops a.tmps)=true){sz n c xs}(hd:ab sz A n c xs∈D){v}(hv:xs[j]?=some v)(h:wpList P ops Q rest (a.put o.dst v) w):wpList P ops Q (o::rest) a w:=by
 replace hx:=ap hx;have hr:=E.rd hd;have hn:0<n:=by
  have h1:=(aK.1 hv).1;have h2:=hr.len;rcases lh n with h0|h0
  .subst h0;omega
  .exact h0
 obtain ⟨g,f,rfl,_,hc⟩:=hr.at_ hn;refine cI hw λK X=>?_
 unfold Oper.wp execOp;simp only [ho,hx,cu,dB,kv,Instr.loadAt,Instr.sureAddr,bC,bL,bG,tJ ht (hc j v hv)];exact X _ _ h
def UH {ty x}(ho:o.op = .load ty x)(E:St w0 D0 w M D){A j}(hx:ac a x=some (cu A j))(hw:Region.wanted o (yielded ops a.tmps)=true){sz n c xs}(hd:ab sz A n c xs∈D)(us:List Value)(hu:∀ i u,us[i]?=some u->xs[j+i]?=some u)(ht:cO P ty us.length)(h0:0<us.length){v}(hv : .agg us.toArray=v)(h:wpList P ops Q rest (a.put o.dst v) w):wpList P ops Q (o::rest) a w:=by
 replace hx:=ap hx;have hr:=E.rd hd;have hn:0<n:=by
  exact GQ
 obtain ⟨g,f,rfl,_,hc⟩:=hr.at_ hn;refine tX hw ty x ho g (f+j) Dw us v hv.symm (λi u hi=>?_) ht h;have:=hc (j+i) u (hu i u hi)
 rwa [lZ]
def YF {t e:TypeId} {x y:Operand} (ho:o.op = .slice t x none (some y) none) (E:St w0 D0 w M D) {A:Option Addr} {n c N:Nat} (hx:ac a x=some (.slice A n c)) {ki:IntKind} (hy:ac a y=some (.int ki (N:Int))){z:Value} {sz bytes:Nat} (ht:bF P t e z sz bytes) (hw:Region.wanted o (yielded ops a.tmps)=true) {xs:List Value} (hd:ab sz A n c xs∈D) (hN:N<=n)(h:St w0 D0 w M (ab sz A N c (xs.take (N * sz))::D)->wpList P ops Q rest (a.put o.dst (.slice A N c)) w):wpList P ops Q (o::rest) a w:=by
 replace hx:=ap hx;replace hy:=ap hy;have hr:=E.rd hd;have R:=E.part (ab sz A N c (xs.take (N * sz))) (hr.to hN) λg hg=>⟨_,hd,by obtain ⟨hn,p⟩:=hg;exact ⟨by omega,p⟩⟩
 refine cI hw λK X=>?_
 have hk:=X _ _ (h R);obtain ⟨hu,hi,_,_⟩:=ht;have hs:(sizeOf e).run P w = .ok sz w:=by
  exact wW
 have hel:P.elem t=e:=by simp [Program.elem,hu]
 have h1:=run_slice_h (P:=P) (w:=w) t A n c nK ki (N:Int) O (by have:=hr.le;omega);have h2:(Instr.sliceAt t (.slice A n c) none (some (.int ki (N:Int))) none).run P w = .ok (.slice A N c) w:=by
  exact J8
 unfold Oper.wp execOp;simp only [ho,hx,hy,dB,ma,h2,bC,bL,bG];exact hk
def St.toPart (E:St w0 D0 w M D){sz A n c N xs}(hd:ab sz A n c xs∈D)(hN:N<=n):St w0 D0 w M (ab sz A N c (xs.take (N * sz))::D) :=
 E.part _ ((E.rd hd).to hN) λg hg=>⟨_,hd,by obtain ⟨hn,p⟩:=hg;exact ⟨by omega,p⟩⟩
def fW (A:Option Addr) (k c sz:Nat):Option Addr:=if c=k then A else A.map λa=>a.add (k * sz)
def Rd.cut {w B sz n c k A xs}(h:Rd w B sz A n c xs)(hk:k<=n):Rd w B sz (fW A k c sz) (n - k) (c - k) (xs.drop (k * sz)):=by
 have hl:=h.len;have hc:=h.le;refine ⟨?_,by omega,by have:=h.mx;omega,λhn=>?_⟩
 .rw [nX,hl,Nat.sub_mul]
 .obtain ⟨g,f,rfl,hb,hx⟩:=h.at_ O
  refine ⟨g,f+k * sz,by rw [fW,Y O];simp [kv],hb,λj u hu=>?_⟩;rw [l7] at hu;have:=hx _ u hu
  rwa [lZ]
def St.fromPart (E:St w0 D0 w M D){sz A n c k xs}(hd:ab sz A n c xs∈D)(hk:k<=n):St w0 D0 w M (ab sz (fW A k c sz) (n - k) (c - k) (xs.drop (k * sz))::D) :=
 E.part _ ((E.rd hd).cut hk) λg hg=>⟨_,hd,by
  obtain ⟨hn,f,s,p⟩:=hg;refine ⟨by omega,?_⟩;unfold fW at p;split at p
  .exact ⟨f,s,p⟩
  .cases A with
   | none=>cases p
   | some ad=>
    obtain ⟨g',f',s'⟩:=ad;refine ⟨f',s',?_⟩;simp only [dB,dF] at p;unfold Addr.add at p;split at p
    .injection p with p;subst p;rfl
    .injection p with p;subst p;rfl⟩
def TM {t e:TypeId} {x y:Operand} (ho:o.op = .slice t x (some y) none none) (E:St w0 D0 w M D) {A:Option Addr} {n c k:Nat} (hx:ac a x=some (.slice A n c)) {ki:IntKind} (hy:ac a y=some (.int ki (k:Int))){z:Value} {sz bytes:Nat} (ht:bF P t e z sz bytes) (hw:Region.wanted o (yielded ops a.tmps)=true) {xs:List Value} (hd:ab sz A n c xs∈D) (hk:k<=n)(h:St w0 D0 w M (ab sz (fW A k c sz) (n - k) (c - k) (xs.drop (k * sz))::D)->wpList P ops Q rest (a.put o.dst (.slice (fW A k c sz) (n - k) (c - k))) w):wpList P ops Q (o::rest) a w:=by
 replace hx:=ap hx;replace hy:=ap hy;have hr:=E.rd hd
 have R:=E.part (ab sz (fW A k c sz) (n - k) (c - k) (xs.drop (k * sz))) (hr.cut hk) λg hg=>⟨_,hd,by
  obtain ⟨hn,f,s,p⟩:=hg;refine ⟨by omega,?_⟩;unfold fW at p;split at p
  .exact ⟨f,s,p⟩
  .cases A with
   | none=>cases p
   | some ad=>
    obtain ⟨g',f',s'⟩:=ad;refine ⟨f',s',?_⟩;simp only [dB,dF] at p;unfold Addr.add at p;split at p
    .injection p with p;subst p;rfl
    .injection p with p;subst p;rfl⟩
 refine cI hw λK X=>?_
 have bQ:=X _ _ (h R);obtain ⟨hu,hi,_,_⟩:=ht;have hs:(sizeOf e).run P w = .ok sz w:=by
  exact wW
 have hel:P.elem t=e:=by simp [Program.elem,hu]
 have h1:=run_slice_l (P:=P) (w:=w) t A n c nK ki (k:Int) O O;have h2:(Instr.sliceAt t (.slice A n c) (some (.int ki (k:Int))) none none).run P w = .ok (.slice (fW A k c sz) (n - k) (c - k)) w:=by
  exact MZ
 unfold Oper.wp execOp;simp only [ho,hx,hy,dB,ma,h2,bC,bL,bG];exact bQ
def Rc (cs us:List Value) (hl:us.length=cs.length):us.toArray.zipIdx.foldl (λ(x:Array Value) (p:Value × Nat)=>x.setIfInBounds (0+p.2) p.1) cs.toArray=us.toArray:=by
 have key:∀ (r:List Value) (k:Nat) (x:List Value),k+r.length=x.length->(r.zipIdx k).foldl (λ(x:Array Value) (p:Value × Nat)=>x.setIfInBounds (0+p.2) p.1) x.toArray=(x.take k++r).toArray:=by
  intro r
  induction r with
  | nil=>intro k x hk;simp at hk;simp [cD (Nat.le_of_eq hk.symm)]
  | cons v r ih=>
   intro k x hk;rw [ft] at hk;rw [List.zipIdx_cons,qX];simp only [jR,List.setIfInBounds_toArray];have:=ih (k+1) (x.set k v) eX;simp only [jR] at this;rw [this];congr 1;rw [List.take_set,iE O,oV _ _ eX];simp [cK,kZ (show k<=x.length by omega)]
 have:=key us 0 cs O;simpa [<- Array.foldl_toList] using this
def g6w {w t e z sz bytes}(ht:bF P t e z sz bytes)(v)(us:List Value)(hv:v.cells=us.toArray)(hl:us.length=sz)(hb:sz<=1000):(Instr.buildSlice t 1 #[(0,v)]).run P w = .ok (.slice (some ⟨w.heap.size,0,none⟩) 1 1) (w.alloc (.cells us.toArray e)):=by
 obtain ⟨hu,hi,hz,hp⟩:=ht;obtain ⟨i,aH,be,cW,_⟩:=info_parts hi;have il:((Array.range (1 * i.size)).map (z.cells[· % z.cells.size]!)).size=us.length:=by simp [cW,hl]
 refine run_buildSlice w t e 1 _ us.toArray i z hu aH be qz qz ?_;generalize (Array.range (1 * i.size)).map (z.cells[· % z.cells.size]!)=ar at il;have hf:=Rc ar.toList us (by simpa using il.symm);have hsz:v.cells.size=i.size:=by rw [hv,cW];simpa using hl
 have hc1:¬ (v.cells.size≠i.size\/0 * i.size+v.cells.size > ar.size):=by
  rw [il,hsz,cW,hl];omega
 simp only [Instr.fill,Y hc1,hv,tY];rw [Y (by rw [il];simp [cW,hl])];simpa using hf
def g6x {t e x}(ho:o.op = .buildSlice t 1 #[(0,x)])(ig:o.guard=none)(E:St w0 D0 w M D){z sz bytes}(ht:bF P t e z sz bytes){v}(hx:ac a x=some v)(us)(hv:v.cells=us.toArray)(hl:us.length=sz)(hb:sz<=1000)(h:∀ g w',St w0 D0 w' (.own (.slice (some ⟨g,0,none⟩) 1 1) e sz 1 us::M) D->wpList P ops Q rest (a.put o.dst (.slice (some ⟨g,0,none⟩) 1 1)) w'):wpList P ops Q (o::rest) a w:=by
 refine kr ig λK X=>?_
 have R:St w0 D0 (w.alloc (.cells us.toArray e)) (.own (.slice (some ⟨w.heap.size,0,none⟩) 1 1) e sz 1 us::M) D :=
  E.push _ (lV (af.alloc w _) none) ⟨by rw [hl,Nat.one_mul],.inr ⟨w.heap.size,1,us.toArray,rfl,E.bel.size,qW w _,aM _,by simp [maxLen],by simp [hl],by rw [cD (by simp [hl])]⟩⟩ λg hg=>by simp only [Mu.bl,Value.ownBlock,dF] at hg;omega
 have hk:=X _ _ (h _ _ R);rw [<- ap hx] at hv;unfold Oper.wp execOp;simp only [ho,nj,kg,mf,g6w ht _ us hv hl hb,bC,bL,bG];exact hk
def Un {t e}(ho:o.op = .buildSlice t 0 #[])(ig:o.guard=none)(E:St w0 D0 w M D){z sz bytes}(ht:bF P t e z sz bytes)(h:∀ g w',St w0 D0 w' (.own (.slice (some ⟨g,0,none⟩) 0 0) e sz 0 []::M) D->wpList P ops Q rest (a.put o.dst (.slice (some ⟨g,0,none⟩) 0 0)) w'):wpList P ops Q (o::rest) a w:=by
 refine kr ig λK X=>?_
 have R:St w0 D0 (w.alloc (.cells #[] e)) (.own (.slice (some ⟨w.heap.size,0,none⟩) 0 0) e sz 0 []::M) D :=
  E.push _ (lV (af.alloc w _) none) (xi w w0.heap.size e sz E.bel.size) λg hg=>by simp only [Mu.bl,Value.ownBlock,dF] at hg;omega
 have hk:=X _ _ (h _ _ R);obtain ⟨hu,hi,hz,hp⟩:=ht;obtain ⟨i,aH,be,cW,_⟩:=info_parts hi;have ip:(Instr.buildSlice t 0 #[]).run P w = .ok (.slice (some ⟨w.heap.size,0,none⟩) 0 0) (w.alloc (.cells #[] e)):=by
  simp [Instr.buildSlice,eH hu,sizeOf,typeInfo,aH,Instr.fill,newRow];rw [show Array.range 0=#[] from by simp]
  simp
 unfold Oper.wp execOp;simp only [ho,nj,mf,ip,bC,bL,bG];exact hk
def K5 {a b m}(ho:a<m)(hb:m * b<=140737488355328):Builtin.nextslicecap m a * b<=281474976710656:=growslice_fits ho hb
def Hp {w base t ty e z sz bytes}(ht:bF P t e z sz bytes){v n xs}(ir:w.ownsRow base e sz v n xs){A m c B us}(hr:Rd w B sz A m c us)(h1:∀ u∈us,u.oneCell'=true)(hm:n+m<=9223372036854775807)(a7:(n+m) * bytes<=140737488355328)(bR:base<=w.heap.size):∃ v' w',(Builtin.append_ #[t,t] ty #[v,.slice A m c]).run P w = .ok v' w'/\w'.ownsRow base e sz v' (n+m) (xs++us)/\w.grownBy w' v.ownBlock/\(∀ g,v'.ownBlock=some g->v.ownBlock=some g\/w.heap.size<=g):=by
 obtain ⟨hu,aI,bh,hsz⟩:=ht;obtain ⟨i,hi,hz,rfl,rfl⟩:=info_parts aI;cases A with
 | none=>
  have a8:m=0:=by
   rcases lh m with h0|h0
   .exact h0
   .obtain ⟨g,f,e,_⟩:=hr.at_ h0
    cases e
  subst a8;obtain rfl:us=[]:=rC (by simpa using hr.len);have ip:(Builtin.append_ #[t,t] ty #[v,.slice none 0 c]).run P w = .ok v w:=by
   rcases ir.2 with ⟨rfl,rfl⟩|⟨g,cap,cur,rfl,_,_,aE,_⟩
   .simp [Builtin.append_,eH hu,sizeOf,typeInfo,hi,Builtin.lenOf,Builtin.firstCells]
   .simp [Builtin.append_,eH hu,sizeOf,typeInfo,hi,Builtin.lenOf,Builtin.firstCells,aE,storeCells]
  exact ⟨v,w,ip,by simpa using ir,World.grownBy.refl w _,λg hg=>.inl hg⟩
 | some ad=>
  have a2:∀ j u,us[j]?=some u->w.cell? (ad.add j)=some u:=by
   intro j u hj;have b0:=(aK.1 hj).1;have hl:=hr.len;have a8:0<m:=by
    rcases lh m with h0|h0
    .subst h0;omega
    .exact h0
   obtain ⟨g',f',e',_,hc⟩:=hr.at_ a8;injection e' with e';subst e';rw [kv];exact hc j u hj
  obtain ⟨v',w',ip,h2,h3,h4⟩:=run_append_own (P:=P) w base t ty e i z i.size i.bytes hu hi hz F F bh hsz v n xs ir ad m c us hr.len a2 h1 (by simp only [maxLen];omega) a7 bR;refine ⟨v',w',ip,h2,h3,?_⟩;rcases ir.2 with ⟨rfl,rfl⟩|⟨g,cap,cur,rfl,av,hg,aE,a1,iy,aR⟩
  .rcases lh m with h0|h0
   .subst h0
    have:=h4.2 ⟨rfl,rfl⟩;subst this;intro g hg;simp [Value.ownBlock] at hg
   .have aB:=run_append_nil (P:=P) w t ty e i z hu hi hz ad m c us hr.len a2 h0 O (by simp only [jR] at a7;omega)
    rw [ip] at aB;injection aB with e1 _;subst e1;intro g hg;simp only [Value.ownBlock,dF] at hg;exact .inr O
  .by_cases bi:n+m<=cap
   .have i8:n * i.size+us.length<=cur.size:=by rw [hr.len,iy,<- oa];exact zg _ bi
    have aB:=run_append_room (P:=P) w t ty e i hu hi g n cap cur hg ad m c us hr.len a2 h1 bi i8;rw [ip] at aB;injection aB with e1 _;subst e1;intro g' ak;exact .inl ak
   .have holds:∀ j u,xs[j]?=some u->w.cell? ((⟨g,0,none⟩:Addr).add j)=some u:=ir.cells (g:=g) F
    have aB:=run_append_grow (P:=P) w t ty e i z hu hi hz ⟨g,0,none⟩ n cap xs ir.1 holds ad m c us hr.len a2 O O (K5 O a7);rw [ip] at aB;injection aB with e1 _;subst e1;intro g hg;simp only [Value.ownBlock,dF] at hg;exact .inr O
def g6z {t e s x}(ho:o.op = .call { callee:=.builtin .append,args:=#[s,x],argTypes:=#[t,t] })(ig:o.guard=none)(E:St w0 D0 w M D){z sz bytes}(ht:bF P t e z sz bytes){v}(hs:ac a s=some v){g m}(hx:ac a x=some (.slice (some ⟨g,0,none⟩) m m)){j us}(hj:M[j]?=some (.own (.slice (some ⟨g,0,none⟩) m m) e sz m us)){i n xs}(hi:M[i]?=some (.own v e sz n xs))(h1:∀ u∈us,u.oneCell'=true)(h63:(n+m) * bytes<=140737488355328)(hm:n+m<=9223372036854775807){M':Value->List Mu}(hM:∀ v',(M.set i (.own v' e sz (n+m) (xs++us))).eraseIdx j=M' v')(h:∀ v' w',St w0 D0 w' (M' v') D->wpList P ops Q rest (a.put o.dst v') w'):wpList P ops Q (o::rest) a w:=by
 replace hx:=ap hx;have hr:Rd w w.heap.size sz (some ⟨g,0,none⟩) m m us:=by
  obtain ⟨A,c,e1,hr⟩:=Rd.of_own (E.ownAt hj);injection e1 with e1 _ e2;subst e1 e2;exact hr
 obtain ⟨v',w',ip,a9,hg,hfr⟩:=Hp (ty:=o.type) ht (E.ownAt hi) hr h1 hm h63 E.bel.size;have R:=(E.upd i _ (.own v' e sz (n+m) (xs++us)) hi hg a9 hfr).drop j;exact Lk
def XF {t e s x}(ho:o.op = .call { callee:=.builtin .append,args:=#[s,x],argTypes:=#[t,t] })(ig:o.guard=none)(E:St w0 D0 w M D){z sz bytes}(ht:bF P t e z sz bytes){v}(hs:ac a s=some v){A m c}(hx:ac a x=some (.slice A m c)){us}(hd:ab sz A m c us∈D){i n xs}(hi:M[i]?=some (.own v e sz n xs))(h1:∀ u∈us,u.oneCell'=true)(h63:(n+m) * bytes<=140737488355328)(hm:n+m<=9223372036854775807){M':Value->List Mu}(hM:∀ v',M.set i (.own v' e sz (n+m) (xs++us))=M' v')(h:∀ v' w',St w0 D0 w' (M' v') D->wpList P ops Q rest (a.put o.dst v') w'):wpList P ops Q (o::rest) a w:=by
 replace hx:=ap hx;obtain ⟨v',w',ip,a9,hg,hfr⟩:=Hp (ty:=o.type) ht (E.ownAt hi) (E.rd hd) h1 hm h63 E.bel.size;have R:=E.upd i _ (.own v' e sz (n+m) (xs++us)) hi hg a9 hfr;exact Lk
def CV {t e:TypeId} {l c:Operand} (ho:o.op = .makeSlice t l c) (ig:o.guard=none) (E:St w0 D0 w M D) {z:Value} {sz bytes:Nat} (ht:bF P t e z sz bytes) {kl kc:IntKind} (hl:ac a l=some (.int kl 0)) {N:Int} (hc:ac a c=some (.int kc N))(n:Nat) (hN:N=(n:Int)) (hb:bytes * n<=281474976710656) (hm:n<=maxLen)(h:∀ g w',St w0 D0 w' (.own (.slice (some ⟨g,0,none⟩) 0 n) e sz 0 []::M) D->wpList P ops Q rest (a.put o.dst (.slice (some ⟨g,0,none⟩) 0 n)) w'):wpList P ops Q (o::rest) a w:=by
 replace hl:=ap hl;replace hc:=ap hc;obtain ⟨hu,aI,bh,hsz⟩:=ht;obtain ⟨i,hi,hz,cW,rfl⟩:=info_parts aI;refine wpList_make_own w ig l c t ho w0.heap.size e i z sz hu hi hz cW kl kc N n hl hc hN hb hm E.bel.size ?_;intro w' ir hg;exact h _ _ (E.push _ hg ir λg hg=>by simp only [Mu.bl,Value.ownBlock,dF] at hg;omega)
def Mm {t e:TypeId} {l c:Operand} (ho:o.op = .makeSlice t l c) (ig:o.guard=none) (E:St w0 D0 w M D) {z:Value} {sz bytes:Nat} (ht:bF P t e z sz bytes) {kl kc:IntKind} {L N:Int} (hl:ac a l=some (.int kl L)) (hc:ac a c=some (.int kc N))(n:Nat) (hL:L=(n:Int)) (hN:N=(n:Int)) (hb:bytes * n<=281474976710656) (hm:n<=maxLen) {zs:List Value} (he:(madeCells z.cells (n * sz)).toList=zs)(h:∀ g w',St w0 D0 w' (.blk g e zs::M) D->wpList P ops Q rest (a.put o.dst (.slice (some ⟨g,0,none⟩) n n)) w'):wpList P ops Q (o::rest) a w:=by
 replace hl:=ap hl;replace hc:=ap hc;obtain ⟨hu,aI,a6,hsz⟩:=ht;obtain ⟨i,hi,hz,cW,rfl⟩:=info_parts aI;refine wpList_make_full w ig l c t ho w0.heap.size e i z sz hu hi hz cW kl kc L N n hl hc hL hN hb hm E.bel.size ?_;intro w' ir hg;have bm:=Bk.of_own ir F;rw [he] at bm;exact h _ _ (E.push _ hg ⟨bm,E.bel.size⟩ λg hg=>by simp only [Mu.bl,dF] at hg;omega)
def KR {t e:TypeId} {d s:Operand} (ho:o.op = .call { callee:=.builtin .copy,args:=#[d,s],argTypes:=#[t,t] }) (ig:o.guard=none) (E:St w0 D0 w M D) {z:Value} {sz bytes:Nat} (ht:bF P t e z sz bytes){g n cd:Nat} (hx:ac a d=some (.slice (some ⟨g,0,none⟩) n cd)) {A:Option Addr} {c:Nat} (hy:ac a s=some (.slice A n c)) {us:List Value} (hd:ab sz A n c us∈D) {i:Nat} {t':TypeId} {cs:List Value} (hi:M[i]?=some (.blk g t' cs))(hl:cs.length=n * sz) (h1:∀ u∈us,u.oneCell'=true) {M':List Mu} (hM:M.set i (.blk g t' us)=M')(h:∀ w',St w0 D0 w' M' D->wpList P ops Q rest (a.put o.dst (goInt (n:Nat))) w'):wpList P ops Q (o::rest) a w:=by
 replace hx:=ap hx;replace hy:=ap hy;subst hM;obtain ⟨hu,aI,a6,hsz⟩:=ht;obtain ⟨i0,bS,hz,cW,rfl⟩:=info_parts aI;have hr:=E.rd hd;refine Wg ig d s t ho e hu sz (by rw [bS];simp [cW]) g 0 n cd A c hx hy w.heap.size us hr h1 t' cs (E.bkAt hi) O λw' hk hg=>h w' ?_
 rw [BF cs us (by rw [hr.len,hl])] at hk;exact E.upd i _ _ hi hg ⟨hk,(E.mu i _ hi).2⟩ λg' ak=>.inl ak
end
end
section
open Go.RowKit
def ae (op:Int):Int :=
 if 3<=op/\op<=10 then 5 else if 11<=op/\op<=15 then 3 else if 16<=op/\op<=18 then 4 else if 38<=op/\op<=41 then 1 else if 42<=op/\op<=45 then 2 else if op=47\/op=48 then 6 else 0
def g7b (op:Int):(op<3/\ae op=0/\(op == 47)=false/\(op == 48)=false)\/(3<=op/\op<=10/\ae op=5)\/(11<=op/\op<=15/\ae op=3)\/(16<=op/\op<=18/\ae op=4)\/(19<=op/\op<=37/\ae op=0/\(op == 47)=false/\(op == 48)=false) \/ (38<=op/\op<=41/\ae op=1)\/(42<=op/\op<=45/\ae op=2)\/(op=46/\ae op=0)\/(op=47/\ae op=6)\/(op=48/\ae op=6)\/(49<=op/\ae op=0/\(op == 47)=false/\(op == 48)=false):=by
 have key:∀ a b:Int,a≠b->(a == b)=false:=λa b h=>by simpa using h
 by_cases h1:op<3
 .exact .inl ⟨h1,by unfold ae;repeat rw [Y O],key _ _ O,key _ _ O⟩
 refine .inr ?_;by_cases h2:op<=10
 .exact .inl ⟨by omega,h2,by unfold ae;rw [aa O]⟩
 refine .inr ?_;by_cases h3:op<=15
 .exact .inl ⟨by omega,h3,by unfold ae;rw [Y O,aa O]⟩
 refine .inr ?_;by_cases h4:op<=18
 .exact .inl ⟨by omega,h4,by unfold ae;rw [Y O,Y O,aa O]⟩
 refine .inr ?_;by_cases h5:op<=37
 .exact .inl ⟨by omega,h5,by unfold ae;repeat rw [Y O],key _ _ O,key _ _ O⟩
 refine .inr ?_;by_cases h6:op<=41
 .exact .inl ⟨by omega,h6,by unfold ae;rw [Y O,Y O,Y O,aa O]⟩
 refine .inr ?_;by_cases h7:op<=45
 .exact .inl ⟨by omega,h7,by unfold ae;rw [Y O,Y O,Y O,Y O,aa O]⟩
 refine .inr ?_;by_cases h8:op=46
 .exact .inl ⟨h8,by unfold ae;repeat rw [Y O]⟩
 refine .inr ?_;by_cases h9:op=47
 .exact .inl ⟨h9,by subst h9;rfl⟩
 refine .inr ?_;by_cases bn:op=48
 .exact .inl ⟨bn,by subst bn;rfl⟩
 exact .inr ⟨by omega,by unfold ae;repeat rw [Y O],key _ _ O,key _ _ O⟩
def ec (i:Ins)(w)(hi : I6 i.op):Ca 39 #[i.val] w (RB w (I (ae i.op))):=by
 obtain ⟨op,rd,rs1,rs2,imm⟩:=i;simp only at hi ⊢;unfold Ins.val;rcases g7b op with ⟨h1,hk,b1,b2⟩|⟨h1,h2,hk⟩|⟨h1,h2,hk⟩|⟨h1,h2,hk⟩|⟨h1,h2,hk,b1,b2⟩|⟨h1,h2,hk⟩|⟨h1,h2,hk⟩|⟨rfl,hk⟩|⟨rfl,hk⟩|⟨rfl,hk⟩|⟨h1,hk,b1,b2⟩
 all_goals
  rw [hk];clear hk;go_enter func39,ntmps39;go_wp2;go_ret;exact ⟨rfl,af.alloc _ _⟩
end
section
open Go.RowKit
def fR (B:Nat) (Mr:List Mu) (D:List Da) (w:World):Prop:=(∀ m∈Mr,m.ok B w) /\ ∀ d∈D,d.ok w
def St.hold {w0 w D0 D Dr M Mr}(h:St w0 D0 w M D)(hM:∀ m∈Mr,m∈M)(hD:∀ d∈Dr,d∈D):fR w0.heap.size Mr Dr w :=
 ⟨λm hm=>by
  obtain ⟨i,hi,e⟩:=List.mem_iff_getElem.1 (hM m hm)
  exact h.mu i m (by rw [ba hi,e]),λd hd=>h.dat d (hD d hd)⟩
section
variable {P:Program} {ops:Array Oper} {Q:Exit->Act->World->Prop} {md:Region.Mode} {S:World->Prop} {a:Act} {o:Oper} {B:Nat} {Mr:List Mu} {Dr:List Da}
def bA {id w w0 D0 D M}(hm:P.follows .mixedOrders=true)(E:St w0 D0 w M D)(Mr Dr)(hM:∀ m∈Mr,m∈M)(hD:∀ d∈Dr,d∈D)(h:St w0 D0 w.drew M D->fR w0.heap.size Mr Dr w.drew->wpAnyH P .any ops Q (fR w0.heap.size Mr Dr) ops.size (Array.replicate ops.size false) a w.drew):(Code.region id ops true).wp P Q a w :=
 wp_region_held hm (h (E.grow (af.drew w)) ((E.grow (af.drew w)).hold hM hD))
def Oper.wp_then {w}{K:Act->World->Prop}(h:o.wp P a w K (Exit.then K Q)):o.wp P a w K Q:=by
 unfold Oper.wp at *;generalize (execOp a.eval o).run P w=r at *;cases r with
 | ok n w'=>
  cases n <;> simp only [Oper.upon] at h ⊢ <;> first|exact h|(exact Calls.mono h (λe w'' he=>by cases e <;> exact he))
 | halt x w'=>cases x <;> simp only [Oper.upon] at h ⊢ <;> exact h
def dK {fuel i9 w i rs}(ho:ops.toList[i]?=some o)(h:∀ K':Act->World->Prop,Shut (∀ a w,S w->wpAnyH P md ops Q S fuel (i9.setIfInBounds i true) a w->K' a w)->wpList P ops (Exit.then K' Q) [o] a w)(hs:AllReadyH P md ops Q S fuel i9 a w rs):AllReadyH P md ops Q S fuel i9 a w (i::rs):=λj hj=>by
 rw [uc] at ho;rcases bB.1 hj with rfl|hj
 .have h1:=h (λa' w'=>S w'/\wpAnyH P md ops Q S fuel (i9.setIfInBounds j true) a' w') (λa w hS hW=>⟨hS,hW⟩)
  unfold wpOp;simp only [ho];unfold wpList at h1;split
  .rename_i hw
   rw [aa hw] at h1;rcases h1 with h1|⟨h1,b,w2,h2⟩
   .exact .inl (Oper.wp_then h1)
   .exact .inr ⟨h1,b,w2,h2⟩
  .rename_i hw
   rw [Y hw] at h1;exact h1
 .exact hs j hj
def WR {rest:List Oper} {w:World} {x y:Operand} {ts:Array TypeId} (ho:o.op = .call { callee:=.builtin .min,args:=#[x,y],argTypes:=ts }) (ig:o.guard=none) {k k':IntKind} {p q:Int} (hx:ac a x=some (.int k p)) (hy:ac a y=some (.int k' q)) (N:Int) (hN:N=if q<p then q else p)(h:wpList P ops Q rest (a.put o.dst (.int k N)) w):wpList P ops Q (o::rest) a w:=VE ig x y ts ho k k' p q N (ap hx) (ap hy) hN h
def ZC {rest:List Oper} {w:World} {x y:Operand} {ts:Array TypeId} (ho:o.op = .call { callee:=.builtin .max,args:=#[x,y],argTypes:=ts }) (ig:o.guard=none) {k k':IntKind} {p q:Int} (hx:ac a x=some (.int k p)) (hy:ac a y=some (.int k' q)) (N:Int) (hN:N=if q > p then q else p)(h:wpList P ops Q rest (a.put o.dst (.int k N)) w):wpList P ops Q (o::rest) a w:=g5h ig x y ts ho k k' p q N (ap hx) (ap hy) hN h
def th {i t:Nat}{v fuel i9 w}(hi:ops.toList[i]?=some o)(hd:o.dst=some t)(hs:Region.noSelect ops=true)(hf:Region.free md ops i9 i=true)(hr:(Region.ready md ops i9).contains i=true)(hQ:∀ c a w,Q (.panic c) (a.put o.dst v) w->Q (.panic c) a w)(hy:YieldsIf P ops S o v a)(hS:S w)(h:wpAnyH P md ops Q S fuel (i9.setIfInBounds i true) { a with tmps:=a.tmps.setIfInBounds t v } w):wpAnyH P md ops Q S (fuel+1) i9 a w:=by
 rw [uc] at hi;refine wpAnyH_take hi hs hf hr hQ hy hS ?_;rw [hd];exact h
def nJ {v v'}(h:YieldsIf P ops S o v' a)(e:v'=v):YieldsIf P ops S o v a:=e ▸ h
def Vv (hw:Region.wanted o (yielded ops a.tmps)=false):YieldsIf P ops S o undef a:=.inr ⟨hw,rfl⟩
def cg {v}(hw:Region.wanted o (yielded ops a.tmps)=true)(h:∀ w,(execOp a.eval o).run P w = .ok (.value v) w):YieldsIf P ops S o v a:=.inl ⟨hw,λw _=>h w⟩
def PN {x v}(ho:o.op = .move x)(hx:ac a x=some v)(hw:Region.wanted o (yielded ops a.tmps)=true):YieldsIf P ops S o v a :=
 cg hw λw=>by rw [<- ap hx];unfold execOp;simp only [ho,bL]
def UO {x v}(ho:o.op = .assign x)(hx:ac a x=some v)(hw:Region.wanted o (yielded ops a.tmps)=true):YieldsIf P ops S o v a :=
 cg hw λw=>by rw [<- ap hx];unfold execOp;simp only [ho,bL]
def Zd {x:Operand} {t e:TypeId} {z:Value} {sz bytes:Nat} {A:Option Addr} {n c:Nat} (ho:o.op = .call { callee:=.builtin .len,args:=#[x],argTypes:=#[t] }) (hx:ac a x=some (.slice A n c)) (ht:bF P t e z sz bytes) (hw:Region.wanted o (yielded ops a.tmps)=true):YieldsIf P ops S o (I (n:Int)) a:=by
 replace hx:=ap hx;exact cg hw λw=>by
  obtain ⟨hu,_,_,_⟩:=ht;unfold execOp;simp [ho,resolve,invoke,builtin,hx,Builtin.len_,eH hu,goInt]
def Tw {ty x}(ho:o.op = .load ty x){g off}(hx:ac a x=some (.pointer (some ⟨g,off,none⟩)))(ht:jD P ty)(hw:Region.wanted o (yielded ops a.tmps)=true){t cs}(hm:Mu.blk g t cs∈Mr){v}(hv:cs[off]?=some v):YieldsIf P ops (fR B Mr Dr) o v a:=by
 replace hx:=ap hx
 exact .inl ⟨hw,λw hS=>by
  have hb:(Mu.blk g t cs).ok B w:=hS.1 _ hm;unfold execOp
  simp only [ho,hx,Instr.loadAt,Instr.sureAddr,bC,bL,bG,tJ ht (hb.1.cell_of off v hv)]⟩
def g7j {ty x}(ho:o.op = .load ty x){g}(hx:ac a x=some (.pointer (some ⟨g,0,none⟩)))(hw:Region.wanted o (yielded ops a.tmps)=true){t cs}(hm:Mu.blk g t cs∈Mr)(ht:cO P ty cs.length):YieldsIf P ops (fR B Mr Dr) o (.agg cs.toArray) a:=by
 replace hx:=ap hx
 exact .inl ⟨hw,λw hS=>by
  have hb:(Mu.blk g t cs).ok B w:=hS.1 _ hm;unfold execOp
  simp only [ho,hx,Instr.loadAt,Instr.sureAddr,bC,bL,bG,hb.1.loadVar ht]⟩
def W7 {s f:Nat}{x}(ho:o.op = .fieldAddr s x f){g j}(hx:ac a x=some (.pointer (some ⟨g,j,none⟩))){off}(ht:lD P s f off)(hw:Region.wanted o (yielded ops a.tmps)=true):YieldsIf P ops S o (.pointer (some ⟨g,j+off,none⟩)) a:=by
 replace hx:=ap hx;exact cg hw λw=>by
  unfold execOp;simp only [ho,hx,vQ ht,kv,bC,bL,bG]
def zU {t e z sz bytes}(ht:bF P t e z sz bytes)(w):P.underlying t=some (.slice e)/\(sizeOf e).run P w = .ok sz w:=by
 obtain ⟨hu,hi,_,_⟩:=ht;refine ⟨hu,?_⟩;exact wW
def TZ {t e:TypeId} {x ix:Operand} (ho:o.op = .indexAddr t x ix) {A:Option Addr} {n c:Nat} (hx:ac a x=some (.slice A n c)) {k:Nat} {ki:IntKind} (hk:ac a ix=some (.int ki (k:Int))){z:Value} {sz bytes:Nat} (ht:bF P t e z sz bytes) (hw:Region.wanted o (yielded ops a.tmps)=true) {xs:List Value} (hd:ab sz A n c xs∈Dr) (ik:k<n):YieldsIf P ops (fR B Mr Dr) o (cu A (k * sz)) a:=by
 replace hx:=ap hx;replace hk:=ap hk
 exact .inl ⟨hw,λw hS=>by
  have hr:Rd w w.heap.size sz A n c xs:=hS.2 _ hd;obtain ⟨g,f,rfl,_,_⟩:=hr.at_ O;obtain ⟨hu,hs⟩:=zU ht w;have ip:(Instr.indexAt t (.slice (some ⟨g,f,none⟩) n c) (.int ki (k:Int))).run P w = .ok (cu (some ⟨g,f,none⟩) (k * sz)) w:=by
   simp [Instr.indexAt,eH hu,asIntOf,hs,cu,show (k:Int)<(n:Int) by omega];intro h;omega
  unfold execOp
  simp only [ho,hx,hk,ip,bC,bL,bG]⟩
def VX {t e:TypeId} {x ix:Operand} (ho:o.op = .indexAddr t x ix) {g n c:Nat} (hx:ac a x=some (.slice (some ⟨g,0,none⟩) n c)) {k:Nat} {ki:IntKind} (hk:ac a ix=some (.int ki (k:Int))){z:Value} {sz bytes:Nat} (ht:bF P t e z sz bytes) (hw:Region.wanted o (yielded ops a.tmps)=true) (ik:k<n):YieldsIf P ops S o (.pointer (some ⟨g,k * sz,none⟩)) a:=by
 replace hx:=ap hx;replace hk:=ap hk;exact cg hw λw=>by
  obtain ⟨hu,hs⟩:=zU ht w;have ip:(Instr.indexAt t (.slice (some ⟨g,0,none⟩) n c) (.int ki (k:Int))).run P w = .ok (.pointer (some ⟨g,k * sz,none⟩)) w:=by
   simp [Instr.indexAt,eH hu,asIntOf,hs,kv,show (k:Int)<(n:Int) by omega];intro h;omega
  unfold execOp;simp only [ho,hx,hk,ip,bC,bL,bG]
def T9 {s f:Nat}{x}(ho:o.op = .fieldAddr s x f){A j}(hx:ac a x=some (cu A j)){off}(ht:lD P s f off)(hw:Region.wanted o (yielded ops a.tmps)=true){sz n c xs}(hd:ab sz A n c xs∈Dr)(hn:0<n):YieldsIf P ops (fR B Mr Dr) o (cu A (j+off)) a:=by
 replace hx:=ap hx
 exact .inl ⟨hw,λw hS=>by
  have hr:Rd w w.heap.size sz A n c xs:=hS.2 _ hd;obtain ⟨g,f0,rfl,_,_⟩:=hr.at_ hn;rw [Dy];unfold execOp
  simp only [ho,hx,cu,dB,vQ ht,bC,bL,bG]⟩
def g7o {ty x}(ho:o.op = .load ty x){A j}(hx:ac a x=some (cu A j))(ht:jD P ty)(hw:Region.wanted o (yielded ops a.tmps)=true){sz n c xs}(hd:ab sz A n c xs∈Dr){v}(hv:xs[j]?=some v):YieldsIf P ops (fR B Mr Dr) o v a:=by
 replace hx:=ap hx
 exact .inl ⟨hw,λw hS=>by
  have hr:Rd w w.heap.size sz A n c xs:=hS.2 _ hd;have hn:0<n:=by
   have h1:=(aK.1 hv).1;have h2:=hr.len;rcases lh n with h0|h0
   .subst h0;omega
   .exact h0
  obtain ⟨g,f,rfl,_,hc⟩:=hr.at_ hn;unfold execOp
  simp only [ho,hx,cu,dB,kv,Instr.loadAt,Instr.sureAddr,bC,bL,bG,tJ ht (hc j v hv)]⟩
def Yb {ty x}(ho:o.op = .load ty x){A j}(hx:ac a x=some (cu A j))(hw:Region.wanted o (yielded ops a.tmps)=true){sz n c xs}(hd:ab sz A n c xs∈Dr)(us:List Value)(hu:∀ i u,us[i]?=some u->xs[j+i]?=some u)(ht:cO P ty us.length)(h0:0<us.length):YieldsIf P ops (fR B Mr Dr) o (.agg us.toArray) a:=by
 replace hx:=ap hx
 exact .inl ⟨hw,λw hS=>by
  have hr:Rd w w.heap.size sz A n c xs:=hS.2 _ hd;have hn:0<n:=by
   exact GQ
  obtain ⟨g,f,rfl,_,hc⟩:=hr.at_ hn;have hl:=zy (P:=P) w g (f+j) ty us (λi u hi=>by rw [lZ];exact hc (j+i) u (hu i u hi)) ht;unfold execOp
  simp only [ho,hx,cu,dB,kv,Instr.loadAt,Instr.sureAddr,bC,bL,bG,hl]⟩
def TL {t e:TypeId} {x y:Operand} (ho:o.op = .slice t x none (some y) none) {A:Option Addr} {n c N:Nat} (hx:ac a x=some (.slice A n c)) {ki:IntKind} (hy:ac a y=some (.int ki (N:Int))){z:Value} {sz bytes:Nat} (ht:bF P t e z sz bytes) (hw:Region.wanted o (yielded ops a.tmps)=true) (hN:N<=c):YieldsIf P ops S o (.slice A N c) a:=by
 replace hx:=ap hx;replace hy:=ap hy;exact cg hw λw=>by
  obtain ⟨hu,hs⟩:=zU ht w;have hel:P.elem t=e:=by simp [Program.elem,hu]
  have h1:=run_slice_h (P:=P) (w:=w) t A n c nK ki (N:Int) O O;have h2:(Instr.sliceAt t (.slice A n c) none (some (.int ki (N:Int))) none).run P w = .ok (.slice A N c) w:=by
   exact J8
  unfold execOp;simp only [ho,hx,hy,dB,ma,h2,bC,bL,bG]
def T3 {t e:TypeId} {x y:Operand} (ho:o.op = .slice t x (some y) none none) {A:Option Addr} {n c k:Nat} (hx:ac a x=some (.slice A n c)) {ki:IntKind} (hy:ac a y=some (.int ki (k:Int))){z:Value} {sz bytes:Nat} (ht:bF P t e z sz bytes) (hw:Region.wanted o (yielded ops a.tmps)=true) (hk:k<=n):YieldsIf P ops S o (.slice (fW A k c sz) (n - k) (c - k)) a:=by
 replace hx:=ap hx;replace hy:=ap hy;exact cg hw λw=>by
  obtain ⟨hu,hs⟩:=zU ht w;have hel:P.elem t=e:=by simp [Program.elem,hu]
  have h1:=run_slice_l (P:=P) (w:=w) t A n c nK ki (k:Int) O O;have h2:(Instr.sliceAt t (.slice A n c) (some (.int ki (k:Int))) none none).run P w = .ok (.slice (fW A k c sz) (n - k) (c - k)) w:=by
   exact MZ
  unfold execOp;simp only [ho,hx,hy,dB,ma,h2,bC,bL,bG]
end
end
section
open Go.RowKit
def fR.next {B Mr Dr w w0 w' D0 D M}(_h:fR B Mr Dr w)(E:St w0 D0 w' M D)(hM:∀ m∈Mr,m∈M)(hD:∀ d∈Dr,d∈D)(hB:B=w0.heap.size):fR B Mr Dr w':=by
 subst hB;exact E.hold hM hD
end
section
open Go.RowKit
section
variable {w0 w:World} {D0 D:List Da} {M:List Mu} {g1 g2 g3 g4 g5 g6 g7 g8:Nat} {t1 t2 t3 t4 t5 t6 t7 t8:TypeId} {c1 c2 c3 c4 c5 c6 c7 c8:List Value}
def St.names1 (h:St w0 D0 w (.blk g1 t1 c1::M) D):∃ a,a=g1:=⟨_,rfl⟩
def St.names2 (h:St w0 D0 w (.blk g1 t1 c1 :: .blk g2 t2 c2::M) D):∃ a b,a=g1/\b=g2:=⟨_,_,rfl,rfl⟩
def St.names3 (h:St w0 D0 w (.blk g1 t1 c1 :: .blk g2 t2 c2 :: .blk g3 t3 c3::M) D):∃ a b c,a=g1/\b=g2/\c=g3:=⟨_,_,_,rfl,rfl,rfl⟩
def St.names4 (h:St w0 D0 w (.blk g1 t1 c1 :: .blk g2 t2 c2 :: .blk g3 t3 c3 :: .blk g4 t4 c4::M) D):∃ a b c d,a=g1/\b=g2/\c=g3/\d=g4:=⟨_,_,_,_,rfl,rfl,rfl,rfl⟩
end
end
end Go.Proofs.YtgnomadgnciifaaGreatDoor
