/- . -/
import Derived.Test.YtgnomadgnciifaaGreatDoorZH0
import Derived.Handy
import Derived.Lib.QuietBelow
import Derived.BigQuiet
import Derived.Deep.DeepMust
import Derived.Deep.RegionWith
import Derived.WalkLawsBesides
import Derived.KernelRfl
import Derived.OwnWalk
import Derived.Laws.OwnMore
import Derived.Maps.AppendAt
import Derived.Laws.BytesArg
import Derived.Laws.BitsAllLaws
import Derived.ProofKit
import Derived.OpenShut
import Derived.Laws.IdiomCopy
import Derived.Lib.AppendStr
import Derived.ArgAppend
import Derived.Laws.AppendOwnNone
import Derived.Room.Entries
import Derived.Laws.Rows
import Derived.Laws.Tables
import Derived.Laws.StructEq
import Derived.Maps.RangeWalk
import Derived.Deep.Slices
import Derived.Deep.Fields
import Derived.Great.BuildSlice
import Derived.Deep.RegionHeld3
set_option linter.unusedVariables false
set_option linter.unusedSimpArgs false
set_option linter.unusedSectionVars false
set_option maxRecDepth 100000
set_option maxHeartbeats 16000000
namespace Go.Proofs.YtgnomadgnciifaaGreatDoor
theorem b6d {p:Prop} (h:p:=by
 cases hq:P.info? e with
 | none=>simp [hq] at hi
 | some i=>
  simp only [hq,Option.map_some,Option.some.injEq,Prod.mk.injEq] at hi
  simp [sizeOf,typeInfo,hq,hi.2.1]):p:=h
theorem b8g {p:Prop} (h:p:=by
 have hp':tmps[p]?.getD undef = .pointer (some ⟨g,0,none⟩):=by simpa using hp
 simp [results,h,hp',asAddr,hb.loadVar ht]):p:=h
theorem b6e {p:Prop} (h:p:=by
 rw [hf]
 clear hf
 go_enter Tryz.func184,Tryz.ntmps184
 go_wp2
 go_ret
 exact ⟨rfl,0,rfl⟩):p:=h
theorem c8i {p:Prop} (h:p:=by
 rw [hM] at hF'
 refine wpList_plain hgd fun K hK=>?_
 have hk:=hK _ _ (h v' w' hF')
 replace hs:=look_eval hs
 unfold Oper.wp execOp
 simp only [ho,resolve,invoke,builtin,Sem.run_bind,Sem.run_pure,Result.andThen_ok,List.map_toArray,List.map_cons,List.map_nil,hs,hx,hrun]
 exact hk):p:=h
theorem b6f {p:Prop} (h:p:=by
 go_enter Tryz.func56,Tryz.ntmps56
 go_wp2
 go_ret
 exact ⟨rfl,0,rfl⟩):p:=h
theorem c8j {p:Prop} (h:p:=by
 rw [run_sliceAt_slice (P:=P) (w:=w) t _ _ _ _ (by rw [hel];exact hu),h1,hel,hs]
 simp only [Result.andThen_ok,sliced,Int.toNat_natCast,Nat.zero_mul,Nat.sub_zero]
 congr 2
 split
 ·rfl
 ·cases A with
  | none=>rfl
  | some ad=>simp [Addr.add]):p:=h
theorem c8k {p:Prop} (h:p:=by
 go_wp2_with (go_at_call 56;refine (memRight_any _ _ _ _ (by first|assumption|omega) (by first|assumption|omega) (by first|assumption|omega)).mono ?_;rintro e w' ⟨rfl,d,rfl⟩)
 go_ret2
 exact ⟨rfl,_,rfl⟩):p:=h
theorem c8l {p:Prop} (h:p:=by
 unfold Oper.wp execOp
 simp only [ho,resolve,invoke,builtin,Sem.run_bind,Sem.run_pure,Result.andThen_ok,List.map_toArray,List.map_cons,List.map_nil,hx,hy,hrun]
 rw [← hN]
 exact hK _ _ h):p:=h
theorem c8m {p:Prop} (h:p:=by
 unfold Oper.wp execOp
 simp only [ho,resolve,invoke,builtin,Sem.run_bind,Sem.run_pure,Result.andThen_ok,List.map_toArray,List.map_cons,List.map_nil,hd,hs,hrun]
 exact hK _ _ (h _ k1 k2)):p:=h
theorem c8n {p:Prop} (h:p:=by
 have h1:=(List.getElem?_eq_some_iff.1 (hu 0 _ (List.getElem?_eq_getElem h0))).1
 have h2:=hr.len
 rcases Nat.eq_zero_or_pos n with h3|h3
 ·subst h3;omega
 ·exact h3):p:=h
theorem c8o {p:Prop} (h:p:=by
 rw [run_sliceAt_slice (P:=P) (w:=w) t _ _ _ _ (by rw [hel];exact hu),h1,hel,hs]
 simp only [Result.andThen_ok,sliced,Int.toNat_natCast,cutA]):p:=h
theorem c8p {p:Prop} (h:p:=by
 go_wp2
 go_round
 case rel=>exact ⟨j+1,by omega,by go_num,Ha.out⟩
 case measure=>first|(simp [intOf];done)|(simp [intOf];omega)):p:=h
section
open Go.RowKit Go.Sort
def Bel (w w':World):Prop:=Below w.heap.size w w'
theorem Bel.refl (w:World):Bel w w:=Below.refl _ _
theorem Bel.trans {a b c:World} (h:Bel a b) (k:Bel b c):Bel a c :=
 Below.trans h ⟨k.os,k.tape,k.output,k.size,fun i hi=>k.block i (Nat.lt_of_lt_of_le hi h.size)⟩
theorem Bel.drewN (w:World) (n:Nat):Bel w (w.drewN n):=⟨rfl,rfl,rfl,Nat.le_refl _,fun _ _=>rfl⟩
theorem Bel.drew (w:World):Bel w w.drew:=⟨rfl,rfl,rfl,Nat.le_refl _,fun _ _=>rfl⟩
theorem Bel.alloc (w:World) (o:Obj):Bel w (w.alloc o):=Below.alloc (Below.refl _ _) (Nat.le_refl _) o
theorem Bel.setCell {a w:World} (h:Bel a w) {p:Addr} (hp:a.heap.size≤p.block) (u:Value):Bel a (w.setCell p u):=Below.setCell h hp u
theorem Bel.grown {a w w':World} (h:Bel a w) {row:Option Nat} (hg:w.grownBy w' row) (hr:∀ k,row=some k→a.heap.size≤k):Bel a w' :=
 Below.grown h hg h.size hr
theorem Bel.size {a w:World} (h:Bel a w):a.heap.size≤w.heap.size:=Below.size h
theorem Bel.cell {a w:World} (h:Bel a w) {p:Addr} (hp:p.block<a.heap.size):w.cell? p=a.cell? p:=Below.cell h hp
theorem Bel.cell_of {a w:World} (h:Bel a w) {p:Addr} {v:Value} (hp:a.cell? p=some v):w.cell? p=some v:=by
 rw [h.cell (World.block_lt_of_cell? a p hp)];exact hp
theorem Bel.frozen {a w:World} (h:Bel a w) {p:Addr} (hp:p.block<a.heap.size):w.frozen? p=a.frozen? p:=Below.frozen h hp
theorem c8q {W w1:World} (hb:Bel W w1):(∀ b o,b<W.heap.size→w1.cell? ⟨b,o,none⟩=W.cell? ⟨b,o,none⟩)∧(∀ b o,b<W.heap.size→w1.frozen? ⟨b,o,none⟩=W.frozen? ⟨b,o,none⟩) :=
 ⟨fun b o h=>hb.cell (p:=⟨b,o,none⟩) h,fun b o h=>hb.frozen (p:=⟨b,o,none⟩) h⟩
section
variable {P:Program} {f:FuncId} {args:Array Value} {w:World} {v:Value}
theorem f5c {a n:Nat} (h:Calls P f args (w.drewN (a+n)) fun e w'=>e = .returned v ∧ ∃ m,w'=(w.drewN (a+n)).drewN m) :
  Calls P f args (w.drewN (a+n)) fun e w'=>e = .returned v ∧ ∃ m,w'=w.drewN (a+m) :=
 h.mono fun _ _ ⟨he,m,hm⟩=>⟨he,n+m,by rw [hm,World.drewN_drewN,Nat.add_assoc]⟩
theorem b2w {d:Nat} {os:Array Obj} (h:Calls P f args (grow (redrawn w d) os) fun e w'=>e = .returned v∧Bel (grow (redrawn w d) os) w') :
  Calls P f args (grow (redrawn w d) os) fun e w''=>e = .returned v ∧ ∃ p:Regrown,w''=grow (redrawn w p.d) p.os:=Calls.regrown_of h
theorem b1o (w:World) (d:Nat) (os:Array Obj):Bel w (grow (redrawn w d) os):=below_regrown w d os
end
theorem a2m {a b:Int} (h:a=b):Ending.returned (.int .u32 a) = .returned (.int .u32 b):=by rw [h]
theorem b6g {a b:Int} (h:a=b):Ending.returned (.int .i64 a) = .returned (.int .i64 b):=by rw [h]
theorem b1p {a b:Bool} (h:a=b):Ending.returned (.bool a) = .returned (.bool b):=by rw [h]
theorem c8r {P:Program} (t:TypeId) (ht:P.underlying t=some .string) (s:ByteArray) (a k:Nat) (h:a+k≤s.size) (W:World) :
  (Instr.slice t (.string s) (some (.int .i64 (a:Int))) (some (.int .i64 ((a:Int)+(k:Int)))) none).run P W = .ok (.string (s.extract a (a+k))) W:=by
 have:=run_slice_string (P:=P) W t s .i64 .i64 (a:Int) ((a:Int)+(k:Int)) ht (by omega) (by omega) (by omega)
 rw [this,Int.toNat_natCast,show ((a:Int)+(k:Int)).toNat=a+k by omega]
theorem b8h (m:ByteArray) (a b:Nat):(m.extract a b).data.toList=(m.data.toList.take b).drop a:=by
 rw [ByteArray.data_extract,Array.toList_extract,List.extract_eq_take_drop,List.drop_take]
theorem c2x (m:ByteArray) (a b:Nat):(m.extract a b).size=min b m.size - a:=by simp [ByteArray.size_extract]
theorem b1q (m:ByteArray):m.data.toList.length=m.size:=by simp
end
section

namespace Wd
def a4t (a s:Int):Bool:=decide (0≤a∧a≤31∧1≤s∧s≤32 - a)
def b6h (w a s:Nat):Nat:=(w / 2 ^ a) &&& (2 ^ s - 1)
def a8l (a s:Nat):Nat:=(2 ^ s - 1) * 2 ^ a % 4294967296
def b6i (w a s v:Nat):Nat:=(w &&& (4294967295 - a8l a s)) ||| ((v * 2 ^ a % 4294967296) &&& a8l a s)
def a9x (w s:Nat):Nat:=if (w / 2 ^ (s - 1)) &&& 1=1 then (w &&& (2 ^ s - 1)) ||| (4294967295 - (2 ^ s - 1)) else w &&& (2 ^ s - 1)
def a5j (w:Nat) (a s:Int):Nat:=if a4t a s then b6h w a.toNat s.toNat else 0
def a1r (w:Nat) (a s:Int) (v:Nat):Nat:=if a4t a s then b6i w a.toNat s.toNat v else w
def a6k (w:Nat) (s:Int):Nat:=if s<1∨32<s then w else a9x w s.toNat
theorem b6j {a s:Int}:a4t a s=true↔0≤a∧a≤31∧1≤s∧s≤32 - a:=by simp [a4t]
theorem c2y {w i:Nat} (hw:w<4294967296) (hi:32≤i):w.testBit i=false :=
 Nat.testBit_lt_two_pow (Nat.lt_of_lt_of_le hw (by have:=Nat.pow_le_pow_right (n:=2) (by omega) hi;simpa using this))
theorem f5d (w a s i:Nat):(b6h w a s).testBit i=(decide (i<s) && w.testBit (a+i)):=by
 unfold b6h
 rw [Nat.testBit_and,Nat.testBit_two_pow_sub_one,Nat.testBit_div_two_pow,Bool.and_comm,Nat.add_comm i a]
theorem f5e (a s i:Nat) (h:a+s≤32):(a8l a s).testBit i=decide (a≤i∧i<a+s):=by
 unfold a8l
 rw [show (4294967296:Nat)=2 ^ 32 from rfl,Nat.testBit_mod_two_pow,Nat.testBit_mul_two_pow,Nat.testBit_two_pow_sub_one,← Bool.decide_and,← Bool.decide_and]
 exact decide_eq_decide.2 (by omega)
theorem c2z (m i:Nat) (hm:m<4294967296):(4294967295 - m).testBit i=(decide (i<32) && !m.testBit i):=by
 have:=Nat.testBit_two_pow_sub_succ (x:=m) (n:=32) (by simpa using hm) i
 rw [show (2 ^ 32 - (m+1):Nat)=4294967295 - m from by omega] at this
 exact this
theorem b8i (a s:Nat):a8l a s<4294967296:=Nat.mod_lt _ (by omega)
theorem f5f {w:Nat} (a s v i:Nat) (hw:w<4294967296) (h:a+s≤32) :
  (b6i w a s v).testBit i=if a≤i∧i<a+s then v.testBit (i - a) else w.testBit i:=by
 unfold b6i
 rw [Nat.testBit_or,Nat.testBit_and,Nat.testBit_and,c2z _ _ (b8i a s),f5e a s i h,show (4294967296:Nat)=2 ^ 32 from rfl,Nat.testBit_mod_two_pow,Nat.testBit_mul_two_pow]
 by_cases hi:a≤i∧i<a+s
 ·have h32:i<32:=by omega
  simp [hi,h32]
 ·by_cases h32:i<32
  ·simp [hi,h32]
  ·simp [hi,h32,c2y hw (by omega:32≤i)]
theorem c3a {x:Nat} (h:∀ i,32≤i→x.testBit i=false):x<4294967296:=by
 rw [show (4294967296:Nat)=2 ^ 32 from rfl]
 exact Nat.lt_pow_two_of_testBit x (fun i hi=>h i hi)
theorem f5g {w a s:Nat} (h:s≤32):b6h w a s<4294967296 :=
 c3a fun i hi=>by rw [f5d];simp;intro;omega
theorem a3e (w:Nat) (a s:Int):a5j w a s<4294967296:=by
 unfold a5j
 split
 ·rename_i h;rw [b6j] at h;exact f5g (by omega)
 ·omega
theorem f5h {w a s v:Nat} (hw:w<4294967296) (h:a+s≤32):b6i w a s v<4294967296 :=
 c3a fun i hi=>by rw [f5f _ _ _ _ hw h,if_neg (by omega)];exact c2y hw hi
theorem a7g {w:Nat} (a s:Int) (v:Nat) (hw:w<4294967296):a1r w a s v<4294967296:=by
 unfold a1r
 split
 ·rename_i h;rw [b6j] at h;exact f5h hw (by omega)
 ·exact hw
theorem f5i {w:Nat} (s i:Nat) (hw:w<4294967296) (h1:1≤s) (h:s≤32) :
  (a9x w s).testBit i=(decide (i<32) && if i<s then w.testBit i else w.testBit (s - 1)):=by
 have hb:((w / 2 ^ (s - 1)) &&& 1=1)↔w.testBit (s - 1)=true:=by
  rw [Nat.testBit_eq_decide_div_mod_eq,Nat.and_one_is_mod];simp
 have hs:2 ^ s - 1<4294967296:=by
  have:=Nat.pow_le_pow_right (n:=2) (by omega) h
  have e:(2:Nat) ^ 32=4294967296:=rfl
  omega
 unfold a9x
 by_cases hc:w.testBit (s - 1)=true
 ·rw [if_pos (hb.2 hc),Nat.testBit_or,Nat.testBit_and,c2z _ _ hs,Nat.testBit_two_pow_sub_one]
  by_cases hi:i<s
  ·have:i<32:=by omega
   simp [hi,this]
  ·simp [hi,hc]
 ·rw [if_neg (fun e=>hc (hb.1 e)),Nat.testBit_and,Nat.testBit_two_pow_sub_one]
  by_cases hi:i<s
  ·have:i<32:=by omega
   simp [hi,this]
  ·simp [hi,hc]
theorem f5j {w s:Nat} (hw:w<4294967296) (h1:1≤s) (h:s≤32):a9x w s<4294967296 :=
 c3a fun i hi=>by rw [f5i s i hw h1 h];simp;intro;omega
theorem c3b {w:Nat} (s:Int) (hw:w<4294967296):a6k w s<4294967296:=by
 unfold a6k
 split
 ·exact hw
 ·exact f5j hw (by omega) (by omega)
theorem f5k {w:Nat} {a s:Int} (h:a4t a s=true):a5j w a s=b6h w a.toNat s.toNat:=by unfold a5j;rw [if_pos h]
theorem f5l {w:Nat} {a s:Int} {v:Nat} (h:a4t a s=true):a1r w a s v=b6i w a.toNat s.toNat v:=by unfold a1r;rw [if_pos h]
theorem f5m {w:Nat} {a s:Int} (h:a4t a s=false):a5j w a s=0:=by unfold a5j;rw [h];rfl
theorem f5n {w:Nat} {a s:Int} {v:Nat} (h:a4t a s=false):a1r w a s v=w:=by unfold a1r;rw [h];rfl
theorem b2x (s:Nat):(2:Int) ^ s=((2 ^ s:Nat):Int):=by simp
theorem c8s {s:Nat} (h:s≤32):2 ^ s≤4294967296:=by have:=Nat.pow_le_pow_right (n:=2) (by omega) h;simpa using this
theorem f5o {s:Nat} (h:s≤32):((2:Int) ^ s % 4294967296 - 1) % 4294967296=((2 ^ s - 1:Nat):Int):=by
 rw [b2x]
 have h1:=c8s h
 have h2:=Nat.pow_pos (n:=s) (show 0<2 by omega)
 generalize 2 ^ s=p at *
 by_cases e:p=4294967296
 ·subst e;rfl
 ·omega
theorem f5p (a s:Nat):(((2 ^ s - 1:Nat):Int) * 2 ^ a) % 4294967296=(a8l a s:Int):=by
 rw [b2x];unfold a8l;omega
theorem f5q (v a:Nat):((v:Int) * 2 ^ a) % 4294967296=((v * 2 ^ a % 4294967296:Nat):Int):=by
 rw [b2x];omega
theorem b8j (x n:Nat):((x:Int) / 2 ^ n)=((x / 2 ^ n:Nat):Int):=by rw [b2x];omega
theorem c8t {x:Nat} (n:Nat) (hx:x<4294967296):x / 2 ^ n<4294967296:=Nat.lt_of_le_of_lt (Nat.div_le_self _ _) hx
theorem b6k {s:Nat} (h:s≤32):2 ^ s - 1<4294967296:=by
 have h1:=c8s h
 have h2:=Nat.pow_pos (n:=s) (show 0<2 by omega)
 omega
theorem f5r {w s:Nat} (h:(w / 2 ^ (s - 1)) &&& 1=1):a9x w s=(w &&& (2 ^ s - 1)) ||| (4294967295 - (2 ^ s - 1)):=by unfold a9x;rw [if_pos h]
theorem f5s {w s:Nat} (h:¬ (w / 2 ^ (s - 1)) &&& 1=1):a9x w s=w &&& (2 ^ s - 1):=by unfold a9x;rw [if_neg h]
theorem c8u (m:Nat) (hm:m<4294967296):4294967295 ^^^ m=4294967295 - m :=
 Nat.eq_of_testBit_eq fun i=>by
  rw [Nat.testBit_xor,c2z m i hm,show (4294967295:Nat)=2 ^ 32 - 1 from rfl,Nat.testBit_two_pow_sub_one]
  by_cases hi:i<32
  ·simp [hi]
  ·simp [hi,c2y hm (show 32≤i by omega)]
def bytesL (x s:Nat):List UInt8:=(List.range s).map fun i=>UInt8.ofNat (x / 2 ^ (8 * i))
def a3s : List UInt8→Nat
 | []=>0
 | b::l=>b.toNat+256 * a3s l
theorem b3z (x s:Nat):(bytesL x s).length=s:=by simp [bytesL]
theorem f5t (x k:Nat):bytesL x (k+1)=bytesL x k++[UInt8.ofNat (x / 2 ^ (8 * k))]:=by simp [bytesL,List.range_succ]
theorem c8v (l:List UInt8):a3s l<256 ^ l.length:=by
 induction l with
 | nil=>simp [a3s]
 | cons b l ih=>
  have:=b.toNat_lt
  simp only [a3s,List.length_cons,Nat.pow_succ]
  omega
theorem b8k {l:List UInt8} (h:l.length≤4):a3s l<4294967296:=by
 have h1:=c8v l
 have h2:256 ^ l.length≤256 ^ 4:=Nat.pow_le_pow_right (by omega) h
 have e:(256:Nat) ^ 4=4294967296:=rfl
 omega
theorem f5u (l:List UInt8) (b:UInt8):a3s (l++[b])=a3s l+b.toNat * 2 ^ (8 * l.length):=by
 induction l with
 | nil=>simp [a3s]
 | cons c l ih=>
  rw [List.cons_append,a3s,ih,a3s,List.length_cons,show 8 * (l.length+1)=8+8 * l.length by omega,Nat.pow_add]
  have:b.toNat * (2 ^ 8 * 2 ^ (8 * l.length))=256 * (b.toNat * 2 ^ (8 * l.length)):=by
   rw [show (2:Nat) ^ 8=256 from rfl,Nat.mul_left_comm]
  omega
theorem f5v {l:List UInt8} {k:Nat} (h:k<l.length):a3s (l.take (k+1))=a3s (l.take k) ||| (l[k].toNat * 2 ^ (8 * k)):=by
 rw [List.take_succ_eq_append_getElem h,f5u,List.length_take,Nat.min_eq_left (by omega)]
 have h1:=c8v (l.take k)
 rw [List.length_take,Nat.min_eq_left (by omega),show (256:Nat)=2 ^ 8 from rfl,← Nat.pow_mul] at h1
 rw [Nat.or_comm,← Nat.shiftLeft_eq,← Nat.shiftLeft_add_eq_or_of_lt h1]
 omega
theorem f5w {b:Nat} (hb:b<256) {k:Nat} (hk:k<4):b * 2 ^ (8 * k)<4294967296:=by
 have h2:2 ^ (8 * k)≤2 ^ 24:=Nat.pow_le_pow_right (by omega) (by omega)
 have e:(2:Nat) ^ 24=16777216:=rfl
 have:=Nat.mul_le_mul (show b≤255 by omega) h2
 omega
end Wd
end
section
open Go.RowKit
structure Rd (w:World) (B sz:Nat) (A:Option Addr) (n c:Nat) (xs:List Value):Prop where
 len:xs.length=n * sz
 le:n≤c
 mx:c≤maxLen
 at_:0<n → ∃ g o,A=some ⟨g,o,none⟩∧g<B ∧ ∀ j u,xs[j]?=some u→w.cell? ⟨g,o+j,none⟩=some u
section
variable {w w':World} {B B' sz n c:Nat} {A:Option Addr} {xs:List Value}
theorem Rd.keep (h:Rd w B sz A n c xs) (hk:∀ p:Addr,p.block<B→w'.cell? p=w.cell? p):Rd w' B sz A n c xs :=
 ⟨h.len,h.le,h.mx,fun hn=>by
  obtain ⟨g,o,e,hb,hc⟩:=h.at_ hn
  exact ⟨g,o,e,hb,fun j u hu=>(hk _ hb).trans (hc j u hu)⟩⟩
theorem Rd.more (h:Rd w B sz A n c xs) (hB:B≤B'):Rd w B' sz A n c xs :=
 ⟨h.len,h.le,h.mx,fun hn=>by
  obtain ⟨g,o,e,hb,hc⟩:=h.at_ hn
  exact ⟨g,o,e,by omega,hc⟩⟩
theorem Rd.below (h:Rd w B sz A n c xs) (hb:Below B w w'):Rd w' B sz A n c xs:=h.keep fun _ hp=>hb.cell hp
theorem Rd.bel (h:Rd w w.heap.size sz A n c xs) (hb:Bel w w'):Rd w' w'.heap.size sz A n c xs:=(h.below hb).more hb.size
theorem Rd.nil (hc:c≤maxLen):Rd w B sz A 0 c []:=⟨by simp,by omega,hc,fun h=>absurd h (by omega)⟩
theorem Rd.cell1 (h:Rd w B 1 A n c xs) {k:Nat} (hk:k<n):∃ g o u,A=some ⟨g,o,none⟩∧g<B∧xs[k]?=some u∧w.cell? ⟨g,o+k,none⟩=some u:=by
 obtain ⟨g,o,e,hb,hc⟩:=h.at_ (by omega)
 have hl:k<xs.length:=by have:=h.len;omega
 exact ⟨g,o,xs[k],e,hb,List.getElem?_eq_getElem hl,hc k _ (List.getElem?_eq_getElem hl)⟩
theorem Rd.of_own {base:Nat} {e:TypeId} {v:Value} (h:w.ownsRow base e sz v n xs):∃ A c,v = .slice A n c∧Rd w w.heap.size sz A n c xs:=by
 rcases h.2 with ⟨rfl,rfl⟩|⟨g,cap,cur,rfl,hb,hh,hnc,hcm,hcs,htake⟩
 ·exact ⟨none,0,rfl,⟨h.1,by omega,by simp [maxLen],fun h=>absurd h (by omega)⟩⟩
 ·refine ⟨_,cap,rfl,⟨h.1,hnc,hcm,fun hn=>⟨g,0,rfl,(h.lt g rfl).2,fun j u hu=>?_⟩⟩⟩
  have:=h.cells (g:=g) rfl j u hu
  unfold Addr.add at this
  split at this
  ·rename_i hj;subst hj;simpa using this
  ·simpa using this
end
theorem f5x (w:World) (base:Nat) (e:TypeId) (sz:Nat) (hb:base≤w.heap.size):(w.alloc (.cells #[] e)).ownsRow base e sz (.slice (some ⟨w.heap.size,0,none⟩) 0 0) 0 [] :=
 World.ownsRow_made w #[] 0 hb (by simp [maxLen]) (by simp)
section
variable {P:Program} {ops:Array Oper} {rest:List Oper} {o:Oper} {a:Act} {Q:Exit→Act→World→Prop}
end
def a1z (l:List UInt8):List Value:=l.map fun b=>.int .u8 (b.toNat:Int)
theorem a5k (l:List UInt8):(a1z l).length=l.length:=by simp [a1z]
theorem b8l (l:List UInt8):∀ u∈a1z l,u.oneCell'=true:=by
 intro u hu
 simp only [a1z,List.mem_map] at hu
 obtain ⟨b,_,rfl⟩:=hu
 rfl
theorem b8m (a b:List UInt8):a1z (a++b)=a1z a++a1z b:=by simp [a1z]
theorem f5y {l:List UInt8} {k:Nat} (h:k<l.length):(a1z l)[k]?=some (.int .u8 ((l[k]'h).toNat:Int)):=by simp [a1z,h]
theorem f5z {P:Program} {w:World} {B n c:Nat} {A:Option Addr} {l:List UInt8} (src dst e:TypeId) (hs:P.underlying src=some (.slice e)) (he:P.underlying e=some (.int .u8)) (hd:P.underlying dst=some .string)
  (h:Rd w B 1 A n c (a1z l)):(convert src dst (.slice A n c)).run P w = .ok (.string ⟨l.toArray⟩) w:=by
 have hl:l.length=n:=by have:=h.len;rw [a5k] at this;omega
 rcases Nat.eq_zero_or_pos n with hn|hn
 ·subst hn
  obtain rfl:l=[]:=List.eq_nil_of_length_eq_zero hl
  rw [run_convert_bytes_string w src dst e A 0 c hs he hd]
  cases A with
  | none=>simp [Conv.bytesToString];rfl
  | some a=>
   have hz:(loadCells a 0).run P w = .ok (([]:List Int).map (Value.int .u8)).toArray w:=by
    simpa using run_loadCells_list (P:=P) w a [] (fun j v hj=>by simp at hj)
   rw [run_bytesToString w a 0 c [] hz]
   rfl
 ·obtain ⟨g,o,rfl,_,hc⟩:=h.at_ hn
  have:=run_convert_bytes_arg (P:=P) w src e hs he g o n c (l.map fun b=>(b.toNat:Int)) (by simpa using hl) (fun i hi=>by
   rw [hc i _ (f5y (by omega))]
   simp [List.getD,show i<l.length by omega]) dst hd
  rw [this]
  congr 2
  simp only [strOfNums,List.map_map]
  congr 2
  conv=>rhs;rw [← List.map_id l]
  apply List.map_congr_left
  intro b _
  simp
section
variable {P:Program} {ops:Array Oper} {rest:List Oper} {o:Oper} {a:Act} {Q:Exit→Act→World→Prop}
theorem wpList_string {w:World} {B n c:Nat} {A:Option Addr} {l:List UInt8} (hgd:o.guard=none) (src dst e:TypeId) (x:Operand) (ho:o.op = .convert src dst x)
  (hs:P.underlying src=some (.slice e)) (he:P.underlying e=some (.int .u8)) (hd:P.underlying dst=some .string) (h:Rd w B 1 A n c (a1z l)) (hx:a.eval x = .slice A n c)
  (hk:wpList P ops Q rest (a.put o.dst (.string ⟨l.toArray⟩)) w):wpList P ops Q (o::rest) a w:=by
 refine wpList_plain hgd fun K hK=>?_
 unfold Oper.wp
 simp [execOp,ho,hx,f5z src dst e hs he hd h,Result.andThen]
 exact hK _ _ hk
end
section
variable {P:Program} {ops:Array Oper} {rest:List Oper} {o:Oper} {a:Act} {Q:Exit→Act→World→Prop}
theorem f6a {w:World} (hgd:o.guard=none) (x y:Operand) (ts:Array TypeId) (ho:o.op = .call { callee:=.builtin .min,args:=#[x,y],argTypes:=ts })
  (k k':IntKind) (p q N:Int) (hx:a.eval x = .int k p) (hy:a.eval y = .int k' q) (hN:N=if q<p then q else p)
  (h:wpList P ops Q rest (a.put o.dst (.int k N)) w):wpList P ops Q (o::rest) a w:=by
 refine wpList_plain hgd fun K hK=>?_
 have hrun:=fun ts t=>run_min_int2 (P:=P) w ts t k k' p q
 exact c8l
end
theorem Rd.to {w:World} {B sz n c N:Nat} {A:Option Addr} {xs:List Value} (h:Rd w B sz A n c xs) (hN:N≤n):Rd w B sz A N c (xs.take (N * sz)):=by
 have h1:=h.len
 have h2:N * sz≤n * sz:=Nat.mul_le_mul_right _ hN
 refine ⟨by rw [List.length_take];omega,Nat.le_trans hN h.le,h.mx,fun hn=>?_⟩
 obtain ⟨g,o,e,hb,hc⟩:=h.at_ (by omega)
 refine ⟨g,o,e,hb,fun j u hu=>hc j u ?_⟩
 rw [List.getElem?_take] at hu
 split at hu
 ·exact hu
 ·cases hu
end
section
open Go.RowKit
namespace Wd
theorem b8n (a s:Int) (w:World) (ha : -9223372036854775808≤a∧a≤9223372036854775807) (hs : -9223372036854775808≤s∧s≤9223372036854775807) :
  Calls Tryz.prog 184 #[.int .i64 a,.int .i64 s] w fun e w'=>e = .returned (.bool (a4t a s)) ∧ ∃ n,w'=w.drewN n:=by
 by_cases h0:0≤a
 ·by_cases h1:a≤31
  ·by_cases h2:1≤s
   ·by_cases h3:s≤32 - a
    ·have hf:a4t a s=true:=by rw [b6j];omega
     exact b6e
    ·have hf:a4t a s=false:=by simp [a4t];omega
     exact b6e
   ·have hf:a4t a s=false:=by simp [a4t];omega
    exact b6e
  ·have hf:a4t a s=false:=by simp [a4t];omega
   exact b6e
 ·have hf:a4t a s=false:=by simp [a4t];omega
  exact b6e
theorem b8o (s:Nat) (w:World) (hs:s≤32) :
  Calls Tryz.prog 185 #[.int .i64 (s:Int)] w fun e w'=>e = .returned (.int .u32 ((2 ^ s - 1:Nat):Int)) ∧ ∃ n,w'=w.drewN n:=by
 go_enter Tryz.func185,Tryz.ntmps185
 go_wp2
 go_ret
 exact ⟨by rw [← f5o hs];rfl,0,rfl⟩
theorem b8p (x:Nat) (a s:Int) (w:World) (hx:x<4294967296) (ha : -9223372036854775808≤a∧a≤9223372036854775807) (hs : -9223372036854775808≤s∧s≤9223372036854775807) :
  Calls Tryz.prog 186 #[.int .u32 (x:Int),.int .i64 a,.int .i64 s] w fun e w'=>e = .returned (.int .u32 (a5j x a s:Int)) ∧ ∃ n,w'=w.drewN n:=by
 cases hf:a4t a s
 ·rw [f5m hf]
  go_enter Tryz.func186,Tryz.ntmps186
  go_wp2_with (go_at_call 184;refine (b8n a s _ ha hs).mono ?_;rintro e w' ⟨rfl,d,rfl⟩)
  go_ret
  exact ⟨rfl,_,rfl⟩
 ·rw [f5k hf]
  have hf':=hf
  rw [b6j] at hf'
  obtain ⟨n,rfl⟩:=Int.eq_ofNat_of_zero_le (show 0≤a by omega)
  obtain ⟨m,rfl⟩:=Int.eq_ofNat_of_zero_le (show 0≤s by omega)
  have Hc:=Lib.hid (u32_and_nat (x / 2 ^ n) (2 ^ m - 1) (c8t n hx) (b6k (by omega)))
  go_enter Tryz.func186,Tryz.ntmps186
  go_wp2_with (go_at_call 184;refine (b8n _ _ _ ha hs).mono ?_;rintro e w' ⟨rfl,d,rfl⟩)
  go_quiet ((go_at_call 185;exact f5c (b8o _ _ (by omega))))
  go_wp2
  go_ret
  exact ⟨a2m (by rw [b8j];exact Hc.out),_,World.drewN_drewN _ _ _⟩
theorem c3c (x:Nat) (a s:Int) (v:Nat) (w:World) (hx:x<4294967296) (hv:v<4294967296) (ha : -9223372036854775808≤a∧a≤9223372036854775807) (hs : -9223372036854775808≤s∧s≤9223372036854775807) :
  Calls Tryz.prog 148 #[.int .u32 (x:Int),.int .i64 a,.int .i64 s,.int .u32 (v:Int)] w fun e w'=>e = .returned (.int .u32 (a1r x a s v:Int)) ∧ ∃ n,w'=w.drewN n:=by
 cases hf:a4t a s
 ·rw [f5n hf]
  go_enter Tryz.func148,Tryz.ntmps148
  go_wp2_with (go_at_call 184;refine (b8n a s _ ha hs).mono ?_;rintro e w' ⟨rfl,d,rfl⟩)
  go_ret
  exact ⟨rfl,_,rfl⟩
 ·rw [f5l hf]
  have hf':=hf
  rw [b6j] at hf'
  obtain ⟨n,rfl⟩:=Int.eq_ofNat_of_zero_le (show 0≤a by omega)
  obtain ⟨m,rfl⟩:=Int.eq_ofNat_of_zero_le (show 0≤s by omega)
  have Hc:=Lib.hid (u32_andNot_nat x (a8l n m) hx (b8i n m))
  have Hd:=Lib.hid (u32_and_nat (v * 2 ^ n % 4294967296) (a8l n m) (Nat.mod_lt _ (by omega)) (b8i n m))
  have He:=Lib.hid (u32_or_nat (x &&& (4294967295 - a8l n m)) (v * 2 ^ n % 4294967296 &&& a8l n m) (Nat.lt_of_le_of_lt Nat.and_le_left hx) (Nat.lt_of_le_of_lt Nat.and_le_right (b8i n m)))
  go_enter Tryz.func148,Tryz.ntmps148
  go_wp2_with ((first|(go_at_call 184;refine (b8n _ _ _ ha hs).mono ?_;rintro e w' ⟨rfl,d,rfl⟩)|(go_at_call 185;refine (b8o _ _ (by omega)).mono ?_;rintro e w' ⟨rfl,d,rfl⟩)))
  go_ret
  refine ⟨a2m ?_,_,rfl⟩
  rw [f5p,f5q,Hc.out,Hd.out,He.out]
  rfl
theorem a9b (x:Nat) (s:Int) (w:World) (hx:x<4294967296) (hs : -9223372036854775808≤s∧s≤9223372036854775807) :
  Calls Tryz.prog 170 #[.int .u32 (x:Int),.int .i64 s] w fun e w'=>e = .returned (.int .u32 (a6k x s:Int)) ∧ ∃ n,w'=w.drewN n:=by
 by_cases h1:s<1
 ·have hz:a6k x s=x:=by unfold a6k;rw [if_pos (.inl h1)]
  rw [hz]
  go_enter Tryz.func170,Tryz.ntmps170
  go_wp2
  go_ret
  exact ⟨rfl,0,rfl⟩
 ·by_cases h2:32<s
  ·have hz:a6k x s=x:=by unfold a6k;rw [if_pos (.inr h2)]
   rw [hz]
   go_enter Tryz.func170,Tryz.ntmps170
   go_wp2
   go_ret
   exact ⟨rfl,0,rfl⟩
  ·have hz:a6k x s=a9x x s.toNat:=by unfold a6k;rw [if_neg (by omega)]
   rw [hz]
   clear hz
   obtain ⟨m,rfl⟩:=Int.eq_ofNat_of_zero_le (show 0≤s by omega)
   rw [Int.toNat_natCast]
   have Hc:=Lib.hid (u32_and_nat x (2 ^ m - 1) hx (b6k (by omega)))
   have Hd:=Lib.hid (u32_and_nat (x / 2 ^ (m - 1)) 1 (c8t _ hx) (by omega))
   have Hx:=Lib.hid (u32_xor_nat 4294967295 (2 ^ m - 1) (by omega) (b6k (by omega)))
   have Ho:=Lib.hid (u32_or_nat (x &&& (2 ^ m - 1)) (4294967295 ^^^ (2 ^ m - 1)) (Nat.lt_of_le_of_lt Nat.and_le_left hx) (by rw [c8u _ (b6k (by omega))];omega))
   by_cases hb:(x / 2 ^ (m - 1)) &&& 1=1
   ·have ht:(bits BinOp.and IntKind.u32 ((x:Int) / 2 ^ (m - 1)) 1 == 1)=true:=by
     rw [b8j];exact beq_iff_eq.2 (Hd.out.trans (by rw [hb];rfl))
    have Hs:=Lib.hid (f5r hb)
    have Hr:=Lib.hid (c8u _ (b6k (s:=m) (by omega)))
    clear hb
    go_enter Tryz.func170,Tryz.ntmps170
    go_wp2_with (go_at_call 185;refine (b8o _ _ (by omega)).mono ?_;rintro e w' ⟨rfl,d,rfl⟩)
    go_ret
    refine ⟨a2m ?_,_,rfl⟩
    rw [show (IntKind.u32.max:Int)=((4294967295:Nat):Int) from rfl,Hc.out,Hx.out,Ho.out,Hs.out,Hr.out]
   ·have ht:(bits BinOp.and IntKind.u32 ((x:Int) / 2 ^ (m - 1)) 1 == 1)=false:=by
     rw [b8j];exact beq_eq_false_iff_ne.2 (fun e=>hb (by have h:=Hd.out;rw [show ((1:Nat):Int)=1 from rfl,e] at h;omega))
    have Hs:=Lib.hid (f5s hb)
    clear hb
    go_enter Tryz.func170,Tryz.ntmps170
    go_wp2_with (go_at_call 185;refine (b8o _ _ (by omega)).mono ?_;rintro e w' ⟨rfl,d,rfl⟩)
    go_ret
    refine ⟨a2m ?_,_,rfl⟩
    rw [Hc.out,Hs.out]
end Wd
end
section
open Go.RowKit Go.ChangeShapes Go.WideShapes Go.ChangeAt
theorem f6b {H:Type} {enc:TypeId × Value→H} {P:Program} {W:World} {base:Nat} {v:Value} {d:DataW H} {p:List MemPlace} {t e:TypeId} {k:IntKind} (ht:P.underlying t=some (.slice e)) (he:P.underlying e=some (.int k)) (hc:P.cellsOf e=1)
  (hv:Value.okWide P W .any base t v) (h:DataW.Trod enc P W 0 (fun _=>true) true t v d p) :
  ∃ A n c,∃ zs:List Int,v = .slice A n c∧Rd W W.heap.size 1 A n c (zs.map (Value.int k)) ∧ ∀ z∈zs,(Lit.int k z).wf=true:=by
 obtain ⟨A,n,c,rfl⟩:=okWide_slice ht hv
 obtain ⟨fuel,hf⟩:=h
 rcases open_ints ht he hc hf with ⟨hcs,_⟩|⟨x,l,cc,zs,hcs,_,hl,hm,hz,_,hcell,hwz⟩
 ·simp [Value.cells] at hcs
  obtain ⟨rfl,rfl,rfl⟩:=hcs
  exact ⟨none,0,0,[],rfl,⟨by simp,by omega,by simp [maxLen],fun h=>absurd h (by omega)⟩,by simp⟩
 ·simp [Value.cells] at hcs
  obtain ⟨rfl,rfl,rfl⟩:=hcs
  have hz':zs.length=c:=by simpa using hz
  refine ⟨_,n,c,zs.take n,rfl,⟨by simp;omega,hl,hm,fun hn=>?_⟩,fun z hz=>hwz z (List.mem_of_mem_take hz)⟩
  obtain ⟨g,o,spot⟩:=x
  have h0:=hcell 0 (by omega)
  have hs:spot=none:=by simpa [Addr.add] using World.cell?_spot h0
  subst hs
  refine ⟨g,o,rfl,World.block_lt_of_cell? W _ h0 |> fun h=>by simpa [Addr.add] using h,fun j u hu=>?_⟩
  have hj:j<zs.length∧j<n:=by
   have:=(List.getElem?_eq_some_iff.1 hu).1
   simp at this
   omega
  have:=hcell j hj.1
  have e1:(⟨g,o,none⟩:Addr).add j=⟨g,o+j,none⟩:=by unfold Addr.add;split <;> simp_all
  rw [e1] at this
  rw [this,← hu]
  simp [List.getElem?_take,hj.2,List.getD,hj.1]
theorem open_u32s {H:Type} {enc:TypeId × Value→H} {P:Program} {W:World} {base:Nat} {v:Value} {d:DataW H} {p:List MemPlace} {t e:TypeId} (ht:P.underlying t=some (.slice e)) (he:P.underlying e=some (.int .u32)) (hc:P.cellsOf e=1)
  (hv:Value.okWide P W .any base t v) (h:DataW.Trod enc P W 0 (fun _=>true) true t v d p) :
  ∃ A n c,∃ zs:List Nat,v = .slice A n c∧Rd W W.heap.size 1 A n c (zs.map fun (z:Nat)=>Value.int .u32 (z:Int)) ∧ ∀ z∈zs,z<4294967296:=by
 obtain ⟨A,n,c,zs,rfl,hr,hw⟩:=f6b ht he hc hv h
 have e1:(zs.map Int.toNat).map (fun (z:Nat)=>Value.int .u32 (z:Int))=zs.map (Value.int .u32):=by
  rw [List.map_map]
  apply List.map_congr_left
  intro z hz
  have:=bounds_u32 (hw z hz)
  simp only [Function.comp]
  rw [Int.toNat_of_nonneg this.1]
 refine ⟨A,n,c,zs.map Int.toNat,rfl,by rw [e1];exact hr,fun z hz=>?_⟩
 simp only [List.mem_map] at hz
 obtain ⟨y,hy,rfl⟩:=hz
 have:=bounds_u32 (hw y hy)
 omega
end
section
open Go.RowKit
def Bk (w:World) (g:Nat) (t:TypeId) (cs:List Value):Prop :=
 ∃ r:Nat × Nat,w.heap[g]?=some (.cells cs.toArray t r) ∧ ∀ i,i<cs.length → ¬ (r.1≤i∧i<r.2)
section
variable {w w':World} {g:Nat} {t:TypeId} {cs:List Value}
theorem Bk.lt (h:Bk w g t cs):g<w.heap.size:=by
 obtain ⟨r,h,_⟩:=h
 exact (Array.getElem?_eq_some_iff.1 h).1
theorem Bk.cell (h:Bk w g t cs) (i:Nat):w.cell? ⟨g,i,none⟩=cs[i]?:=by
 obtain ⟨r,h,_⟩:=h
 rw [cell_of_row w g i cs.toArray t r h];simp
theorem Bk.frozen (h:Bk w g t cs) {i:Nat} (hi:i<cs.length):w.frozen? ⟨g,i,none⟩=false:=by
 obtain ⟨r,h,hf⟩:=h
 have:=hf i hi
 simp only [World.frozen?,h]
 simp only [Bool.and_eq_false_iff,decide_eq_false_iff_not]
 by_cases h1:r.1≤i
 ·exact .inr (fun h2=>this ⟨h1,h2⟩)
 ·exact .inl h1
theorem Bk.new (w:World) (t:TypeId) (cs:List Value):Bk (w.alloc (.cells cs.toArray t)) w.heap.size t cs:=⟨(0,0),heap_alloc_new w _,by intro i _;omega⟩
theorem Bk.keep (h:Bk w g t cs) (hk:w'.heap[g]?=w.heap[g]?):Bk w' g t cs:=by
 obtain ⟨r,h,hf⟩:=h
 exact ⟨r,hk.trans h,hf⟩
theorem Bk.bel (h:Bk w g t cs) (hb:Bel w w'):Bk w' g t cs:=h.keep (hb.block g h.lt)
theorem Bk.drewN (h:Bk w g t cs) (n:Nat):Bk (w.drewN n) g t cs:=h
theorem Bk.grown (h:Bk w g t cs) {row:Option Nat} (hg:w.grownBy w' row) (hne:some g≠row):Bk w' g t cs:=h.keep (hg.block g h.lt hne)
theorem Bk.set_ (h:Bk w g t cs) (i:Nat) (u:Value):Bk (w.setCell ⟨g,i,none⟩ u) g t (cs.set i u):=by
 obtain ⟨r,h,hf⟩:=h
 refine ⟨r,?_,by simpa using hf⟩
 simp [World.setCell,Array.getElem?_modify,h]
theorem Bk.rd (h:Bk w g t cs) {sz n c o:Nat} (hn:o+n * sz≤cs.length) (hc:n≤c) (hm:c≤maxLen):Rd w w.heap.size sz (some ⟨g,o,none⟩) n c ((cs.drop o).take (n * sz)) :=
 ⟨by rw [List.length_take,List.length_drop];omega,hc,hm,fun _=>⟨g,o,rfl,h.lt,fun j u hu=>by
  rw [h.cell,← hu,List.getElem?_take,List.getElem?_drop]
  split
  ·rfl
  ·rename_i hj
   exfalso
   rw [List.getElem?_take,if_neg hj] at hu
   cases hu⟩⟩
theorem Bk.of_own {base:Nat} {e:TypeId} {sz n cap:Nat} {xs:List Value} (h:w.ownsRow base e sz (.slice (some ⟨g,0,none⟩) n cap) n xs) (hc:cap=n):Bk w g e xs:=by
 subst hc
 rcases h.2 with ⟨h',_⟩|⟨g',cap',cur,h',_,hg,hnc,_,hcs,htake⟩
 ·simp at h'
 ·simp only [Value.slice.injEq,Option.some.injEq,Addr.mk.injEq,and_true,true_and] at h'
  obtain ⟨rfl,rfl⟩:=h'
  refine ⟨(0,0),?_,by intro i _;omega⟩
  rw [hg,← htake,List.take_of_length_le (by rw [Array.length_toList,hcs];exact Nat.le_refl _)]
end
def spl (cs:List Value) (o:Nat):List Value→List Value
 | []=>cs
 | v::r=>spl (cs.set o v) (o+1) r
theorem a4a (cs:List Value) (o:Nat) (vs:List Value):(spl cs o vs).length=cs.length:=by
 induction vs generalizing cs o with
 | nil=>rfl
 | cons v r ih=>rw [spl,ih];simp
theorem b1r (cs:List Value) (o:Nat) (vs:List Value) (h:o+vs.length≤cs.length):spl cs o vs=cs.take o++vs++cs.drop (o+vs.length):=by
 induction vs generalizing cs o with
 | nil=>simp [spl]
 | cons v r ih=>
  rw [List.length_cons] at h
  rw [spl,ih _ _ (by simp;omega)]
  have h1:(cs.set o v).take (o+1)=cs.take o++[v]:=by
   rw [List.take_set,List.take_succ_eq_append_getElem (by omega),List.set_append_right _ _ (by simp;omega)]
   simp [List.length_take,Nat.min_eq_left (show o≤cs.length by omega)]
  have h2:(cs.set o v).drop (o+1+r.length)=cs.drop (o+(v::r).length):=by
   rw [List.drop_set_of_lt (by omega)]
   congr 1
   simp;omega
  rw [h1,h2]
  simp
theorem Bk.setCells {w:World} {g:Nat} {t:TypeId} {cs:List Value} (h:Bk w g t cs) (vs:List Value) (o:Nat):Bk (w.setCells g o vs) g t (spl cs o vs)∧w.grownBy (w.setCells g o vs) (some g):=by
 induction vs generalizing w cs o with
 | nil=>exact ⟨h,World.grownBy.refl w _⟩
 | cons v r ih=>
  obtain ⟨h1,h2⟩:=ih (h.set_ o v) (o+1)
  refine ⟨h1,⟨h2.os,h2.tape,h2.output,Nat.le_trans (by simp [World.setCell]) h2.size,fun k hk hne=>?_⟩⟩
  rw [World.setCells,h2.block k (by simpa [World.setCell] using hk) hne]
  exact Below.heap_setCell w _ v k (fun e=>hne (by rw [e]))
section
variable {P:Program} {ops:Array Oper} {rest:List Oper} {o:Oper} {a:Act} {Q:Exit→Act→World→Prop}
theorem c3d {w:World} (hgd:o.guard=none) (d s:Operand) (dT sT:TypeId)
  (ho:o.op = .call { callee:=.builtin .copy,args:=#[d,s],argTypes:=#[dT,sT] }) (e:TypeId) (hu:P.underlying dT=some (.slice e)) (hsz:(P.info? e).map (·.size)=some 1)
  (g off dLen dCap:Nat) (str:ByteArray) (hd:a.eval d = .slice (some ⟨g,off,none⟩) dLen dCap) (hs:a.eval s = .string str)
  (t:TypeId) (cs:List Value) (hg:Bk w g t cs) (hfit:off+min str.size dLen≤cs.length)
  (h:∀ w',Bk w' g t (spl cs off (a1z (str.data.toList.take (min str.size dLen))))→w.grownBy w' (some g)→wpList P ops Q rest (a.put o.dst (goInt (min str.size dLen:Nat))) w'):wpList P ops Q (o::rest) a w:=by
 refine wpList_plain hgd fun K hK=>?_
 have hlen:(a1z (str.data.toList.take (min str.size dLen))).length=min str.size dLen:=by
  rw [a5k,List.length_take];simp
 have hst:=run_storeCells_cells (P:=P) g off (a1z (str.data.toList.take (min str.size dLen))) 0 w (fun j hj=>by
  rw [hlen] at hj
  rw [hg.cell,Nat.add_zero,List.getElem?_eq_getElem (by omega)];rfl) (fun j hj=>by
  rw [hlen] at hj
  exact hg.frozen (by omega)) (b8l _)
 obtain ⟨k1,k2⟩:=hg.setCells (a1z (str.data.toList.take (min str.size dLen))) (off+0)
 obtain ⟨i,hi,hi1⟩:∃ i,P.info? e=some i∧i.size=1:=by
  cases hq:P.info? e with
  | none=>simp [hq] at hsz
  | some i=>exact ⟨i,rfl,by simpa [hq] using hsz⟩
 have hf:(Builtin.firstCells 1 (min str.size dLen) (.string str)).run P w = .ok (a1z (str.data.toList.take (min str.size dLen))).toArray w:=by
  simp [Builtin.firstCells,a1z]
  apply Array.ext'
  simp
 have hrun:(Builtin.copy_ #[dT,sT] o.type #[.slice (some ⟨g,off,none⟩) dLen dCap,.string str]).run P w = .ok (goInt (min str.size dLen:Nat)) (w.setCells g (off+0) (a1z (str.data.toList.take (min str.size dLen)))):=by
  simp [Builtin.copy_,run_underlying hu,Builtin.lenOf,sizeOf,typeInfo,hi,hi1,hf,hst]
 exact c8m
end
section
variable {P:Program} {ops:Array Oper} {rest:List Oper} {o:Oper} {a:Act} {Q:Exit→Act→World→Prop}
theorem f6c {w:World} (hgd:o.guard=none) (src dst e:TypeId) (x:Operand) (ho:o.op = .convert src dst x)
  (hs:P.underlying src=some .string) (hd:P.underlying dst=some (.slice e)) (he:P.underlying e=some (.int .u8)) (s:ByteArray) (hx:a.eval x = .string s) (hsz:s.size≤maxLen)
  (h:∀ cap w',s.size≤cap→cap≤maxLen→Bk w' w.heap.size e (a1z s.data.toList++List.replicate (cap - s.size) (.int .u8 0))→Bel w w'→w.heap.size<w'.heap.size →
   wpList P ops Q rest (a.put o.dst (.slice (some ⟨w.heap.size,0,none⟩) s.size cap)) w'):wpList P ops Q (o::rest) a w:=by
 refine wpList_plain hgd fun K hK=>?_
 have hrun:=run_bytes_of_string (P:=P) w src dst e s hs hd he
 unfold Oper.wp
 simp [execOp,ho,hx,hrun,Result.andThen]
 refine hK _ _ (h _ _ (grownCap_ge w s.size 0 e) (grownCap_le_maxLen w s.size 0 e hsz) ⟨((bytesRow s (grownCap w s.size 0 e)).size,(bytesRow s (grownCap w s.size 0 e)).size+1),?_,?_⟩ ?_ ?_)
 ·rw [show ∀ (C:Array Value) (r:Nat × Nat),(w.drew.alloc (.cells C e r)).heap[w.heap.size]?=some (.cells C e r) from fun C r=>by
   show (w.heap.push (.cells C e r))[w.heap.size]?=_
   simp]
  congr 2
  apply Array.ext'
  simp [bytesRow,a1z]
 ·intro i hi
  have:(bytesRow s (grownCap w s.size 0 e)).size=(a1z s.data.toList++List.replicate (grownCap w s.size 0 e - s.size) (Value.int .u8 0)).length:=by
   simp [bytesRow,a1z]
  simp only [this]
  omega
 ·exact (Bel.drew w).trans (Bel.alloc _ _)
 ·show w.heap.size<(w.heap.push _).size
  simp
end
section
variable {P:Program} {ops:Array Oper} {rest:List Oper} {o:Oper} {a:Act} {Q:Exit→Act→World→Prop}
theorem f6d {w:World} (hgd:o.guard=none) (d s:Operand) (t':TypeId)
  (ho:o.op = .call { callee:=.builtin .copy,args:=#[d,s],argTypes:=#[t',t'] }) (e:TypeId) (hu:P.underlying t'=some (.slice e)) (sz:Nat) (hsz:(P.info? e).map (·.size)=some sz)
  (g off n dCap:Nat) (A:Option Addr) (c:Nat) (hd:a.eval d = .slice (some ⟨g,off,none⟩) n dCap) (hs:a.eval s = .slice A n c)
  (B:Nat) (us:List Value) (hr:Rd w B sz A n c us) (h1:∀ u∈us,u.oneCell'=true)
  (t:TypeId) (cs:List Value) (hg:Bk w g t cs) (hfit:off+n * sz≤cs.length)
  (h:∀ w',Bk w' g t (spl cs off us)→w.grownBy w' (some g)→wpList P ops Q rest (a.put o.dst (goInt (n:Nat))) w'):wpList P ops Q (o::rest) a w:=by
 refine wpList_plain hgd fun K hK=>?_
 have hl:=hr.len
 obtain ⟨i,hi,hi1⟩:∃ i,P.info? e=some i∧i.size=sz:=by
  cases hq:P.info? e with
  | none=>simp [hq] at hsz
  | some i=>exact ⟨i,rfl,by simpa [hq] using hsz⟩
 have hst:=run_storeCells_cells (P:=P) g off us 0 w (fun j hj=>by
  rw [hg.cell,Nat.add_zero,List.getElem?_eq_getElem (by omega)];rfl) (fun j hj=>hg.frozen (by omega)) h1
 obtain ⟨k1,k2⟩:=hg.setCells us (off+0)
 have hf:(Builtin.firstCells i.size n (.slice A n c)).run P w = .ok us.toArray w:=by
  rw [hi1]
  cases A with
  | none=>
   have:n=0:=by
    rcases Nat.eq_zero_or_pos n with h0|h0
    ·exact h0
    ·obtain ⟨g,f,e,_⟩:=hr.at_ h0
     cases e
   subst this
   obtain rfl:us=[]:=List.eq_nil_of_length_eq_zero (by simpa using hl)
   exact run_firstCells_none w _ _ _ _
  | some ad=>
   refine run_firstCells_some (P:=P) w sz n ad n c us hl fun j u hu=>?_
   have hj:=(List.getElem?_eq_some_iff.1 hu).1
   have hm:0<n:=by
    rcases Nat.eq_zero_or_pos n with h0|h0
    ·subst h0;omega
    ·exact h0
   obtain ⟨g',f',e',_,hc⟩:=hr.at_ hm
   injection e' with e'
   subst e'
   have e3:(⟨g',f',none⟩:Addr).add j=⟨g',f'+j,none⟩:=by unfold Addr.add;split <;> simp_all
   rw [e3];exact hc j u hu
 have hrun:(Builtin.copy_ #[t',t'] o.type #[.slice (some ⟨g,off,none⟩) n dCap,.slice A n c]).run P w = .ok (goInt (n:Nat)) (w.setCells g (off+0) us):=by
  simp [Builtin.copy_,run_underlying hu,Builtin.lenOf,sizeOf,typeInfo,hi,hf,hst]
 exact c8m
theorem f6e {w:World} (hgd:o.guard=none) (x y:Operand) (ts:Array TypeId) (ho:o.op = .call { callee:=.builtin .max,args:=#[x,y],argTypes:=ts })
  (k k':IntKind) (p q N:Int) (hx:a.eval x = .int k p) (hy:a.eval y = .int k' q) (hN:N=if q > p then q else p)
  (h:wpList P ops Q rest (a.put o.dst (.int k N)) w):wpList P ops Q (o::rest) a w:=by
 refine wpList_plain hgd fun K hK=>?_
 have hrun:=fun ts t=>run_max_int2 (P:=P) w ts t k k' p q
 exact c8l
end
theorem c3e (cs us:List Value) (h:us.length=cs.length):spl cs 0 us=us:=by
 rw [b1r _ _ _ (by omega)];simp [h]
end
section
open Go.RowKit
namespace Me
def right (n a:Nat) (k:Int):Bool:=decide ((k=1∨k=2∨k=4)∧(a:Int) % k=0∧(a:Int)+k≤n)
theorem right_iff {n a:Nat} {k:Int}:right n a k=true↔(k=1∨k=2∨k=4)∧(a:Int) % k=0∧(a:Int)+k≤n:=by simp [right]
theorem memRight_any (n a:Nat) (k:Int) (w:World) (hn:n≤9223372036854775807) (ha:a<4294967296) (hk : -9223372036854775808≤k∧k≤9223372036854775807) :
  Calls Tryz.prog 56 #[.int .i64 (n:Int),.int .u32 (a:Int),.int .i64 k] w fun e w'=>e = .returned (.bool (right n a k)) ∧ ∃ d,w'=w.drewN d:=by
 by_cases h1:k=1
 ·subst h1
  rw [show right n a 1=decide ((a:Int)+1≤n) by simp [right]]
  go_enter Tryz.func56,Tryz.ntmps56
  go_wp2
  go_ret
  exact ⟨rfl,0,rfl⟩
 ·by_cases h2:k=2
  ·subst h2
   by_cases h:(a:Int) % 2=0
   ·rw [show right n a 2=decide ((a:Int)+2≤n) by simp [right,h]]
    exact b6f
   ·rw [show right n a 2=false by simp [right,h]]
    exact b6f
  ·by_cases h4:k=4
   ·subst h4
    by_cases h:(a:Int) % 4=0
    ·rw [show right n a 4=decide ((a:Int)+4≤n) by simp [right,h]]
     exact b6f
    ·rw [show right n a 4=false by simp [right,h]]
     exact b6f
   ·have g1:(k != 1)=true:=by simpa using h1
    have g2:(k != 2)=true:=by simpa using h2
    have g4:(k != 4)=true:=by simpa using h4
    rw [show right n a k=false by simp [right,h1,h2,h4]]
    exact b6f
theorem Read_no (m:ByteArray) (a:Nat) (k:Int) (w:World) (hn:m.size≤9223372036854775807) (ha:a<4294967296) (hk : -9223372036854775808≤k∧k≤9223372036854775807) (h:right m.size a k=false) :
  Calls Tryz.prog 122 #[.string m,.int .u32 (a:Int),.int .i64 k] w fun e w'=>e = .returned (.tuple #[.string ⟨#[]⟩,.int .i64 1]) ∧ ∃ d,w'=w.drewN d:=by
 go_enter Tryz.func122,Tryz.ntmps122
 exact c8k
theorem Read_yes (m:ByteArray) (a k:Nat) (w:World) (hn:m.size≤9223372036854775807) (ha:a<4294967296) (hk:k≤9223372036854775807) (h:right m.size a (k:Int)=true) :
  Calls Tryz.prog 122 #[.string m,.int .u32 (a:Int),.int .i64 (k:Int)] w fun e w'=>e = .returned (.tuple #[.string (m.extract a (a+k)),.int .i64 0]) ∧ ∃ d,w'=w.drewN d:=by
 have hr:=right_iff.1 h
 have h1:(a:Int)+k≤m.size:=hr.2.2
 clear hr
 have hsl:=fun W=>c8r (P:=Tryz.prog) 9 Tryz.underlying9 m a k (by omega) W
 go_enter Tryz.func122,Tryz.ntmps122
 exact c8k
end Me
end
section
open Go.RowKit
inductive RowTy (P:Program) (ty:TypeId) (n:Nat):Prop
 | mk (d:TypeDesc) (hu:P.underlying ty=some d) (hd:(match d with | .struct _ | .array _ _=>true|_=>false)=true) (hi:(P.info? ty).map (·.size)=some n)
theorem Bk.loadVar {P:Program} {w:World} {g:Nat} {t ty:TypeId} {cs:List Value} (h:Bk w g t cs) (ht:RowTy P ty cs.length):(loadVar ty ⟨g,0,none⟩).run P w = .ok (.agg cs.toArray) w:=by
 obtain ⟨r,hg,_⟩:=h
 obtain ⟨d,hu,hd,hi⟩:=ht
 have hi2:(P.info? ty).map (·.size)=some cs.toArray.size:=by simpa using hi
 cases d <;> first|exact run_loadVar_row w g t ty cs.toArray r _ hg hu rfl hi2|(simp at hd)
section
variable {P:Program} {fn:Func} {p p' q q' q'':Tmp} {ty ty':TypeId} {w:World} {g g':Nat} {t t':TypeId} {cs cs':List Value} {tmps:Array Value}
theorem f6f (h:fn.results=#[.cell p ty]) (hp:tmps.getD p undef = .pointer (some ⟨g,0,none⟩)) (hb:Bk w g t cs) (ht:RowTy P ty cs.length):(results fn tmps).run P w = .ok (.agg cs.toArray) w:=by
 exact b8g
theorem c8w (h:fn.results=#[.cell p ty,.tmp q]) (hp:tmps.getD p undef = .pointer (some ⟨g,0,none⟩)) (hb:Bk w g t cs) (ht:RowTy P ty cs.length):(results fn tmps).run P w = .ok (.tuple #[.agg cs.toArray,tmps.getD q undef]) w:=by
 exact b8g
theorem f6g (h:fn.results=#[.cell p ty,.tmp q,.tmp q']) (hp:tmps.getD p undef = .pointer (some ⟨g,0,none⟩)) (hb:Bk w g t cs) (ht:RowTy P ty cs.length):(results fn tmps).run P w = .ok (.tuple #[.agg cs.toArray,tmps.getD q undef,tmps.getD q' undef]) w:=by
 exact b8g
theorem f6h (h:fn.results=#[.tmp q,.cell p ty,.tmp q']) (hp:tmps.getD p undef = .pointer (some ⟨g,0,none⟩)) (hb:Bk w g t cs) (ht:RowTy P ty cs.length):(results fn tmps).run P w = .ok (.tuple #[tmps.getD q undef,.agg cs.toArray,tmps.getD q' undef]) w:=by
 exact b8g
theorem f6i (h:fn.results=#[.cell p ty,.cell p' ty',.tmp q]) (hp:tmps.getD p undef = .pointer (some ⟨g,0,none⟩)) (hb:Bk w g t cs) (ht:RowTy P ty cs.length)
  (hp2:tmps.getD p' undef = .pointer (some ⟨g',0,none⟩)) (hb2:Bk w g' t' cs') (ht2:RowTy P ty' cs'.length):(results fn tmps).run P w = .ok (.tuple #[.agg cs.toArray,.agg cs'.toArray,tmps.getD q undef]) w:=by
 have hp':tmps[p]?.getD undef = .pointer (some ⟨g,0,none⟩):=by simpa using hp
 have hp2':tmps[p']?.getD undef = .pointer (some ⟨g',0,none⟩):=by simpa using hp2
 simp [results,h,hp',hp2',asAddr,hb.loadVar ht,hb2.loadVar ht2]
end
theorem Bk.new' (w:World) (t:TypeId) (cs:List Value) (g:Nat) (h:w.heap.size=g):Bk (w.alloc (.cells cs.toArray t)) g t cs:=by
 subst h;exact Bk.new w t cs
theorem a4u (g o j:Nat):(⟨g,o,none⟩:Addr).add j=⟨g,o+j,none⟩:=by unfold Addr.add;split <;> simp_all
theorem b8q {P:Program} (w:World) (g off:Nat) (ty:TypeId) (cs:List Value) (hc:∀ j u,cs[j]?=some u→w.cell? ⟨g,off+j,none⟩=some u) (ht:RowTy P ty cs.length) :
  (loadVar ty ⟨g,off,none⟩).run P w = .ok (.agg cs.toArray) w:=by
 obtain ⟨d,hu,hd,hi⟩:=ht
 have hl:(loadCells ⟨g,off,none⟩ cs.length).run P w = .ok cs.toArray w :=
  run_loadCells_list (P:=P) w ⟨g,off,none⟩ cs (fun j v hv=>by rw [a4u];exact hc j v hv)
 cases hq:P.info? ty with
 | none=>simp [hq] at hi
 | some i=>
  have hs:i.size=cs.length:=by simpa [hq] using hi
  have hagg:(isAgg ty).run P w = .ok true w:=by
   unfold isAgg
   rw [Sem.run_bind,run_underlying hu w]
   cases d <;> simp_all
  simp [loadVar,Sem.run_bind,hagg,sizeOf,typeInfo,hq,hs,hl]
section
variable {P:Program} {ops:Array Oper} {rest:List Oper} {o:Oper} {a:Act} {w:World} {Q:Exit→Act→World→Prop}
theorem a2c (hw:Region.wanted o (yielded ops a.tmps)=true) (h:∀ K:Act→World→Prop,(∀ a w,wpList P ops Q rest a w→K a w)→o.wp P a w K Q):wpList P ops Q (o::rest) a w :=
 wpList_step fun K hK=>by rw [if_pos hw];exact h K hK
theorem wpList_load_elem (hw:Region.wanted o (yielded ops a.tmps)=true) (ty:TypeId) (x:Operand) (ho:o.op = .load ty x) (g off:Nat) (hx:a.eval x = .pointer (some ⟨g,off,none⟩)) (cs:List Value) (v:Value) (hv:v = .agg cs.toArray)
  (hc:∀ j u,cs[j]?=some u→w.cell? ⟨g,off+j,none⟩=some u) (ht:RowTy P ty cs.length) (h:wpList P ops Q rest (a.put o.dst v) w):wpList P ops Q (o::rest) a w:=by
 subst hv
 refine a2c hw fun K hK=>?_
 unfold Oper.wp execOp
 simp only [ho,hx,Instr.loadAt,Instr.sureAddr,Sem.run_bind,Sem.run_pure,Result.andThen_ok,b8q w g off ty cs hc ht]
 exact hK _ _ h
theorem wpList_load_bk (hw:Region.wanted o (yielded ops a.tmps)=true) (ty:TypeId) (x:Operand) (ho:o.op = .load ty x) (g:Nat) (hx:a.eval x = .pointer (some ⟨g,0,none⟩)) (t:TypeId) (cs:List Value) (v:Value) (hv:v = .agg cs.toArray)
  (hb:Bk w g t cs) (ht:RowTy P ty cs.length) (h:wpList P ops Q rest (a.put o.dst v) w):wpList P ops Q (o::rest) a w:=by
 subst hv
 refine a2c hw fun K hK=>?_
 unfold Oper.wp execOp
 simp only [ho,hx,Instr.loadAt,Instr.sureAddr,Sem.run_bind,Sem.run_pure,Result.andThen_ok,hb.loadVar ht]
 exact hK _ _ h
theorem c3f (hw:Region.wanted o (yielded ops a.tmps)=true) (ty:TypeId) (x y:Operand) (ho:o.op = .store ty x y) (g off:Nat) (cs:List Value) (hx:a.eval x = .pointer (some ⟨g,off,none⟩)) (hy:a.eval y = .agg cs.toArray)
  (t:TypeId) (old:List Value) (hg:Bk w g t old) (hfit:off+cs.length≤old.length) (ht:RowTy P ty cs.length) (h1:∀ u∈cs,u.oneCell'=true)
  (h:∀ w',Bk w' g t (spl old off cs)→w'.heap.size=w.heap.size→(∀ k,k≠g→w'.heap[k]?=w.heap[k]?)→(∀ b:World,Bel b w→b.heap.size≤g→Bel b w')→wpList P ops Q rest (a.put o.dst undef) w'):wpList P ops Q (o::rest) a w:=by
 refine a2c hw fun K hK=>?_
 obtain ⟨d,hu,hd,hi⟩:=ht
 have hst:=run_storeCells_cells (P:=P) g off cs 0 w (fun j hj=>by
  rw [hg.cell,show off+0+j=off+j by omega,List.getElem?_eq_getElem (by omega)];rfl) (fun j hj=>by
  rw [show off+0+j=off+j by omega];exact hg.frozen (by omega)) h1
 obtain ⟨k1,k2⟩:=hg.setCells cs off
 have hrun:(storeVar ty ⟨g,off,none⟩ (.agg cs.toArray)).run P w = .ok () (w.setCells g off cs):=by
  cases hq:P.info? ty with
  | none=>simp [hq] at hi
  | some i=>
   have hs:i.size=cs.length:=by simpa [hq] using hi
   simp [storeVar,sizeOf,typeInfo,hq,Value.cells,hs,hst]
 unfold Oper.wp execOp
 simp only [ho,hx,hy,Instr.storeAt,Instr.sureAddr,Sem.run_bind,Sem.run_pure,Result.andThen_ok,hrun]
 refine hK _ _ (h _ k1 ?_ (fun k hk=>?_) (fun b hb hbg=>hb.grown k2 fun k hk=>by injection hk with hk;omega))
 ·clear hst k1 k2 hrun
  have:∀ (l:List Value) (o:Nat) (W:World),(W.setCells g o l).heap.size=W.heap.size:=by
   intro l
   induction l with
   | nil=>intro o W;rfl
   | cons v r ih=>intro o W;rw [World.setCells,ih];simp [World.setCell]
  exact this cs off w
 ·clear hst k1 k2 hrun
  have:∀ (l:List Value) (o:Nat) (W:World),(W.setCells g o l).heap[k]?=W.heap[k]?:=by
   intro l
   induction l with
   | nil=>intro o W;rfl
   | cons v r ih=>intro o W;rw [World.setCells,ih];exact Below.heap_setCell W _ v k hk
  exact this cs off w
theorem b6l (hw:Region.wanted o (yielded ops a.tmps)=true) (ty:TypeId) (x y:Operand) (ho:o.op = .store ty x y) (g:Nat) (cs:List Value) (hx:a.eval x = .pointer (some ⟨g,0,none⟩)) (hy:a.eval y = .agg cs.toArray)
  (t:TypeId) (old:List Value) (hg:Bk w g t old) (hold:old.length=cs.length) (ht:RowTy P ty cs.length) (h1:∀ u∈cs,u.oneCell'=true)
  (h:∀ w',Bk w' g t cs→w'.heap.size=w.heap.size→(∀ k,k≠g→w'.heap[k]?=w.heap[k]?)→(∀ b:World,Bel b w→b.heap.size≤g→Bel b w')→wpList P ops Q rest (a.put o.dst undef) w'):wpList P ops Q (o::rest) a w :=
 c3f hw ty x y ho g 0 cs hx hy t old hg (by omega) ht h1 fun w' k1 k2 k3 k4=>h w' (by
  have e:spl old 0 cs=cs:=by rw [b1r _ _ _ (by omega)];simp [hold]
  rwa [e] at k1) k2 k3 k4
end
theorem Rd.of_own' {w:World} {base:Nat} {e:TypeId} {sz n:Nat} {v:Value} {xs:List Value} (h:w.ownsRow base e sz v n xs):∃ A c,v = .slice A n c∧Rd w w.heap.size sz A n c xs ∧ ∀ g o,A=some ⟨g,o,none⟩→base≤g:=by
 obtain ⟨A,c,rfl,hr⟩:=Rd.of_own h
 refine ⟨A,c,rfl,hr,?_⟩
 rintro g o rfl
 rcases h.2 with ⟨h',_⟩|⟨g',cap',cur,h',hb,_⟩
 ·simp at h'
 ·simp only [Value.slice.injEq,Option.some.injEq,Addr.mk.injEq,and_true,true_and] at h'
  obtain ⟨⟨rfl,_⟩,_⟩:=h'
  exact hb
theorem Bk.cell_of {w:World} {g:Nat} {t:TypeId} {cs:List Value} (h:Bk w g t cs) (i:Nat) (v:Value) (e:cs[i]?=some v):w.cell? ⟨g,i,none⟩=some v:=(h.cell i).trans e
end
section
open Go.RowKit Go.ChangeShapes Go.WideShapes
def u32v (l:List Nat):List Value:=l.map fun (x:Nat)=>.int .u32 (x:Int)
theorem u32v_len (l:List Nat):(u32v l).length=l.length:=by simp [u32v]
theorem c8x {l:List Nat} {k:Nat} (h:k<l.length):(u32v l)[k]?=some (.int .u32 ((l[k]'h:Nat):Int)):=by simp [u32v,h]
theorem c8y (l:List Nat) (k x:Nat):(u32v l).set k (.int .u32 (x:Int))=u32v (l.set k x):=by simp [u32v]
end
section
open Go.RowKit
namespace Wd
end Wd
end
section
open Go.RowKit Go.Sort
theorem c8z {P:Program} {C:World→Prop} {next:Act→Prop} {o:Oper} {a:Act} (ty:TypeId) (x:Operand) (ho:o.op = .load ty x) (g:Nat) (hx:a.eval x = .pointer (some ⟨g,0,none⟩)) (cs:Array Value)
  (hC:∀ w,C w→(Go.loadVar ty ⟨g,0,none⟩).run P w = .ok (.agg cs) w) (v:Value) (hv:v = .agg cs) (h:next (a.put o.dst v)):o.quiet P a C next:=by
 subst hv
 refine ⟨_,fun w hw=>?_,h⟩
 have:=hC w hw
 simp [Oper.quietAt,execOp,ho,hx,Instr.loadAt,Instr.sureAddr,this,Oper.quietUpon]
theorem Bk.inClass {P:Program} {W:World} {g:Nat} {t ty:TypeId} {cs:List Value} (h:Bk W g t cs) (ht:RowTy P ty cs.length):∀ w,(∃ p:Regrown,w=grow (redrawn W p.d) p.os)→(Go.loadVar ty ⟨g,0,none⟩).run P w = .ok (.agg cs.toArray) w:=by
 rintro w ⟨p,rfl⟩
 exact (h.bel (b1o W p.d p.os)).loadVar ht
end
section
open Go.RowKit
structure Pu where
 addr:Nat
 data:ByteArray
def Pu.cells (r:Pu):List Value:=[.int .u32 (r.addr:Int),.string r.data]
def Pu.val (r:Pu):Value:=.agg #[.int .u32 (r.addr:Int),.string r.data]
def pus (q:List Pu):List Value:=q.flatMap Pu.cells
theorem c9a (q:List Pu):(pus q).length=q.length * 2:=by
 induction q with
 | nil=>rfl
 | cons r q ih=>
  have:pus (r::q)=r.cells++pus q:=rfl
  rw [this,List.length_append,ih,List.length_cons]
  simp [Pu.cells];omega
theorem b8r (q:List Pu):∀ u∈pus q,u.oneCell'=true:=by
 intro u hu
 simp only [pus,List.mem_flatMap,Pu.cells,List.mem_cons,List.not_mem_nil,or_false] at hu
 obtain ⟨r,_,h⟩:=hu
 rcases h with h|h <;> subst h <;> rfl
theorem c9b (p q:List Pu):pus (p++q)=pus p++pus q:=by simp [pus]
theorem Rd.puslen {w:World} {B n c:Nat} {A:Option Addr} {q:List Pu} (h:Rd w B 2 A n c (pus q)):q.length=n:=by
 have hn:=h.len
 rw [c9a] at hn
 omega
theorem Pu.one (r:Pu):∀ u∈r.cells,u.oneCell'=true:=fun u hu=>b8r [r] u (by simpa [pus] using hu)
end
section
open Go.RowKit
structure Rq where
 kind:Int
 line:Nat
 left:Int
 data:ByteArray
def Rq.cells (r:Rq):List Value:=[.int .i64 r.kind,.int .u32 (r.line:Int),.int .i64 r.left,.string r.data]
def Rq.val (r:Rq):Value:=.agg #[.int .i64 r.kind,.int .u32 (r.line:Int),.int .i64 r.left,.string r.data]
def rqs (q:List Rq):List Value:=q.flatMap Rq.cells
theorem b8s (q:List Rq):(rqs q).length=q.length * 4:=by
 induction q with
 | nil=>rfl
 | cons r q ih=>
  have:rqs (r::q)=r.cells++rqs q:=rfl
  rw [this,List.length_append,ih,List.length_cons]
  simp [Rq.cells];omega
theorem b8t {q:List Rq} {k:Nat} (h:k<q.length) (j:Nat) (hj:j<4):(rqs q)[k * 4+j]?=(q[k]'h).cells[j]?:=by
 induction q generalizing k with
 | nil=>simp at h
 | cons r q ih=>
  have e:rqs (r::q)=r.cells++rqs q:=rfl
  have hl:r.cells.length=4:=rfl
  cases k with
  | zero=>rw [e,List.getElem?_append_left (by rw [hl];omega)];simp
  | succ k=>
   rw [e,List.getElem?_append_right (by rw [hl];omega),hl,show (k+1) * 4+j - 4=k * 4+j by omega,ih (by simpa using h)]
   simp
theorem b6m (q:List Rq):∀ u∈rqs q,u.oneCell'=true:=by
 intro u hu
 simp only [rqs,List.mem_flatMap,Rq.cells,List.mem_cons,List.not_mem_nil,or_false] at hu
 obtain ⟨r,_,h⟩:=hu
 rcases h with h|h|h|h <;> subst h <;> rfl
theorem c9c (p q:List Rq):rqs (p++q)=rqs p++rqs q:=by simp [rqs]
theorem Rd.rq {w:World} {B n c:Nat} {A:Option Addr} {q:List Rq} (h:Rd w B 4 A n c (rqs q)) {k:Nat} (hk:k<n) :
  ∃ (hl:k<q.length) (g o:Nat),A=some ⟨g,o,none⟩∧g<B∧w.cell? ⟨g,o+k * 4,none⟩=some (.int .i64 q[k].kind)∧w.cell? ⟨g,o+k * 4+1,none⟩=some (.int .u32 (q[k].line:Int)) ∧
   w.cell? ⟨g,o+k * 4+2,none⟩=some (.int .i64 q[k].left)∧w.cell? ⟨g,o+k * 4+3,none⟩=some (.string q[k].data):=by
 have hn:=h.len
 rw [b8s] at hn
 have hl:k<q.length:=by omega
 obtain ⟨g,o,e,hb,hc⟩:=h.at_ (by omega)
 refine ⟨hl,g,o,e,hb,?_,?_,?_,?_⟩
 ·simpa using hc (k * 4+0) _ (b8t hl 0 (by omega))
 ·simpa [Nat.add_assoc] using hc (k * 4+1) _ (b8t hl 1 (by omega))
 ·simpa [Nat.add_assoc] using hc (k * 4+2) _ (b8t hl 2 (by omega))
 ·simpa [Nat.add_assoc] using hc (k * 4+3) _ (b8t hl 3 (by omega))
def a7h : List Rq→Nat
 | []=>0
 | r::q=>(if r.kind=4 then 0 else 1)+a7h q
theorem f6j (q:List Rq) (r:Rq):a7h (q++[r])=a7h q+if r.kind=4 then 0 else 1:=by
 induction q with
 | nil=>simp [a7h]
 | cons x q ih=>simp only [List.cons_append,a7h,ih];omega
theorem f6k (q:List Rq):a7h q≤q.length:=by
 induction q with
 | nil=>simp [a7h]
 | cons x q ih=>simp only [a7h,List.length_cons];split <;> omega
theorem f6l (A:Option Addr) (n c:Nat) (q:List Rq) (w:World) (hr:Rd w w.heap.size 4 A n c (rqs q)) :
  Calls Tryz.prog 141 #[.slice A n c] w fun e w'=>e = .returned (.int .i64 (a7h q:Int))∧Bel w w':=by
 have hc1:=hr.le
 have hc2:=hr.mx
 unfold maxLen at hc2
 have hn:=hr.len
 rw [b8s] at hn
 go_enter Tryz.func141,Tryz.ntmps141
 go_wp2
 go_loopw [3,8] (fun m i wr=>∃ k:Nat,k≤n∧i = .int .i64 (k:Int)∧m = .int .i64 (a7h (q.take k):Int)∧Bel w wr) (fun _ i _=>n - (intOf i).toNat)
 case atStart=>exact ⟨0,by omega,rfl,rfl,Bel.refl w⟩
 case round=>
  obtain ⟨k,hk,rfl,rfl,hbel⟩:=hrel
  by_cases hkn:k<n
  ·obtain ⟨hl,g,o,rfl,hg,c0,c1,c2,c3⟩:=(hr.bel hbel).rq hkn
   have hle:=f6k (q.take k)
   rw [List.length_take] at hle
   have hb:(a7h (q.take k):Int)<9223372036854775807:=by omega
   have hs:=f6j (q.take k) (q[k]'hl)
   rw [← List.take_succ_eq_append_getElem hl] at hs
   by_cases h4:(q[k]'hl).kind=4
   ·rw [if_pos h4] at hs
    have Hs:=Lib.hid hs
    have h5:((q[k]'hl).kind != 4)=false:=by simp [h4]
    clear hn hs hle h4
    go_wp2
    go_roundw
    case rel=>exact ⟨k+1,by omega,by go_num,by rw [Hs.out];rfl,hbel.trans (Bel.alloc _ _)⟩
    case measure=>first|(simp [intOf];done)|(simp [intOf];omega)
   ·rw [if_neg h4] at hs
    have Hs:=Lib.hid hs
    have h5:((q[k]'hl).kind != 4)=true:=by simpa using h4
    clear hn hs hle h4
    go_wp2
    go_roundw
    case rel=>exact ⟨k+1,by omega,by go_num,by rw [Hs.out];go_num,hbel.trans (Bel.alloc _ _)⟩
    case measure=>first|(simp [intOf];done)|(simp [intOf];omega)
  ·obtain rfl:k=n:=by omega
   go_wp2
   go_ret
   exact ⟨b6g (by rw [List.take_of_length_le (by omega)]),hbel⟩
def b4a (q:List Rq) (line:Nat) (ks:List Int):Bool:=q.any fun r=>ks.any fun t=>decide (r.line=line∧r.kind=t)
def b6n (ks:List Int):List Value:=ks.map (Value.int .i64)
theorem c9d (ks:List Int):(b6n ks).length=ks.length:=by simp [b6n]
theorem f6m {ks:List Int} {k:Nat} (h:k<ks.length):(b6n ks)[k]?=some (.int .i64 (ks[k]'h)):=by simp [b6n,h]
theorem c9e {α:Type} (l:List α) (p:α→Bool) {k:Nat} (h:k<l.length):(l.take (k+1)).any p=((l.take k).any p || p (l[k]'h)):=by
 rw [List.take_succ_eq_append_getElem h,List.any_append];simp
theorem c9f {α:Type} {l:List α} {p:α→Bool} {k:Nat} (h:k<l.length) (hp:p (l[k]'h)=true):l.any p=true:=by
 rw [List.any_eq_true];exact ⟨_,List.getElem_mem h,hp⟩
theorem f6n (A:Option Addr) (n c:Nat) (q:List Rq) (line:Nat) (A':Option Addr) (m c':Nat) (ks:List Int) (w:World) (hr:Rd w w.heap.size 4 A n c (rqs q)) (hk:Rd w w.heap.size 1 A' m c' (b6n ks)) :
  Calls Tryz.prog 81 #[.slice A n c,.int .u32 (line:Int),.slice A' m c'] w fun e w'=>e = .returned (.bool (b4a q line ks))∧Bel w w':=by
 have hc1:=hr.le
 have hc2:=hr.mx
 have hd1:=hk.le
 have hd2:=hk.mx
 unfold maxLen at hc2 hd2
 have Hn:=Lib.hid hr.len
 have Hm:=Lib.hid hk.len
 go_enter Tryz.func81,Tryz.ntmps81
 go_wp2
 go_loopw [13] (fun i wr=>∃ k:Nat,k≤n∧i = .int .i64 (k:Int)∧b4a (q.take k) line ks=false∧Bel w wr) (fun i _=>n - (intOf i).toNat)
 case atStart=>exact ⟨0,by omega,rfl,rfl,Bel.refl w⟩
 case round=>
  obtain ⟨k,hkk,rfl,hno,hbel⟩:=hrel
  have Hno:=Lib.hid hno
  clear hno
  by_cases hkn:k<n
  ·obtain ⟨hl,g,o,rfl,hg,c0,c1,c2,c3⟩:=(hr.bel hbel).rq hkn
   go_wp2
   go_loop [19] (fun i=>∃ j:Nat,j≤m∧i = .int .i64 (j:Int)∧(ks.take j).any (fun t=>decide ((q[k]'hl).line=line∧(q[k]'hl).kind=t))=false) (fun i=>m - (intOf i).toNat)
   case atStart=>exact ⟨0,by omega,rfl,rfl⟩
   case round=>
    obtain ⟨j,hj,rfl,hnj⟩:=hrel
    have Hnj:=Lib.hid hnj
    clear hnj
    by_cases hjm:j<m
    ·obtain ⟨g',o',u,rfl,hg',hu,hcu⟩:=(hk.bel hbel).cell1 hjm
     have hlj:j<ks.length:=by have:=Hm.out;rw [c9d] at this;omega
     rw [f6m hlj] at hu
     obtain rfl:_=u:=by injection hu
     clear hu
     have ha:=c9e ks (fun t=>decide ((q[k]'hl).line=line∧(q[k]'hl).kind=t)) hlj
     rw [Hnj.out,Bool.false_or] at ha
     by_cases h1:(q[k]'hl).line=line
     ·by_cases h2:(q[k]'hl).kind=ks[j]'hlj
      ·have Hyes:Hid (b4a q line ks=true):=c9f hl (c9f hlj (by simp [h1,h2]))
       have b1:(((q[k]'hl).line:Int) == (line:Int))=true:=by simp [h1]
       have b2:((q[k]'hl).kind == ks[j]'hlj)=true:=by simp [h2]
       clear h1 h2 ha
       go_wp2
       go_ret
       exact ⟨b1p (by rw [Hyes.out]),hbel.trans (Bel.alloc _ _)⟩
      ·have Ha:Hid ((ks.take (j+1)).any (fun t=>decide ((q[k]'hl).line=line∧(q[k]'hl).kind=t))=false):=ha.trans (by simp [h2])
       have b1:(((q[k]'hl).line:Int) == (line:Int))=true:=by simp [h1]
       have b2:((q[k]'hl).kind == ks[j]'hlj)=false:=by simpa using h2
       clear h1 h2 ha
       exact c8p
     ·have Ha:Hid ((ks.take (j+1)).any (fun t=>decide ((q[k]'hl).line=line∧(q[k]'hl).kind=t))=false):=ha.trans (by simp [h1])
      have b1:(((q[k]'hl).line:Int) == (line:Int))=false:=by rw [beq_eq_false_iff_ne];omega
      clear h1 ha
      exact c8p
    ·obtain rfl:j=m:=by omega
     have ha:=c9e q (fun r=>ks.any fun t=>decide (r.line=line∧r.kind=t)) hl
     have hnj:=Hnj.out
     rw [List.take_of_length_le (by have:=Hm.out;rw [c9d] at this;omega)] at hnj
     have hno:=Hno.out
     unfold b4a at hno
     rw [hno,hnj,Bool.or_false] at ha
     have Ha:=Lib.hid ha
     clear ha hnj hno
     go_wp2
     go_roundw
     case rel=>exact ⟨k+1,by omega,by go_num,Ha.out,hbel.trans (Bel.alloc _ _)⟩
     case measure=>first|(simp [intOf];done)|(simp [intOf];omega)
  ·have hq:q.take k=q:=List.take_of_length_le (by have:=Hn.out;rw [b8s] at this;omega)
   have hno:=Hno.out
   rw [hq] at hno
   have Hz:=Lib.hid hno
   clear hno hq
   go_wp2
   go_ret
   exact ⟨b1p (by rw [Hz.out]),hbel⟩
end
section
open Go.RowKit
structure Wy where
 line:Nat
 dirty:Bool
 data:ByteArray
def Wy.cells (r:Wy):List Value:=[.int .u32 (r.line:Int),.bool r.dirty,.string r.data]
def Wy.val (r:Wy):Value:=.agg #[.int .u32 (r.line:Int),.bool r.dirty,.string r.data]
def wys (q:List Wy):List Value:=q.flatMap Wy.cells
theorem b8u (q:List Wy):(wys q).length=q.length * 3:=by
 induction q with
 | nil=>rfl
 | cons r q ih=>
  have:wys (r::q)=r.cells++wys q:=rfl
  rw [this,List.length_append,ih,List.length_cons]
  simp [Wy.cells];omega
theorem f6o {q:List Wy} {k:Nat} (h:k<q.length) (j:Nat) (hj:j<3):(wys q)[k * 3+j]?=(q[k]'h).cells[j]?:=by
 induction q generalizing k with
 | nil=>simp at h
 | cons r q ih=>
  have e:wys (r::q)=r.cells++wys q:=rfl
  have hl:r.cells.length=3:=rfl
  cases k with
  | zero=>rw [e,List.getElem?_append_left (by rw [hl];omega)];simp
  | succ k=>
   rw [e,List.getElem?_append_right (by rw [hl];omega),hl,show (k+1) * 3+j - 3=k * 3+j by omega,ih (by simpa using h)]
   simp
theorem b6o (q:List Wy):∀ u∈wys q,u.oneCell'=true:=by
 intro u hu
 simp only [wys,List.mem_flatMap,Wy.cells,List.mem_cons,List.not_mem_nil,or_false] at hu
 obtain ⟨r,_,h⟩:=hu
 rcases h with h|h|h <;> subst h <;> rfl
theorem c3g (q:List Wy) (k:Nat):(wys q).take (k * 3)=wys (q.take k):=by
 induction q generalizing k with
 | nil=>simp [wys]
 | cons r q ih=>
  have e:wys (r::q)=r.cells++wys q:=rfl
  have hl:r.cells.length=3:=rfl
  cases k with
  | zero=>simp [wys]
  | succ k=>
   rw [e,List.take_append,hl,show (k+1) * 3 - 3=k * 3 by omega,ih,List.take_succ_cons,List.take_of_length_le (by rw [hl];omega)]
   rfl
theorem f6p (q:List Wy) (k:Nat):(wys q).drop (k * 3)=wys (q.drop k):=by
 induction q generalizing k with
 | nil=>simp [wys]
 | cons r q ih=>
  have e:wys (r::q)=r.cells++wys q:=rfl
  have hl:r.cells.length=3:=rfl
  cases k with
  | zero=>simp [wys]
  | succ k=>
   rw [e,List.drop_append,hl,show (k+1) * 3 - 3=k * 3 by omega,ih,List.drop_succ_cons,List.drop_of_length_le (by rw [hl];omega)]
   rfl
theorem Rd.wyslen {w:World} {B n c:Nat} {A:Option Addr} {q:List Wy} (h:Rd w B 3 A n c (wys q)):q.length=n:=by
 have hn:=h.len
 rw [b8u] at hn
 omega
def b4b : List Value:=[.int .u32 0,.bool false,.string ⟨#[]⟩]
theorem wysTy : RowTy Tryz.prog 101 3:=⟨_,Tryz.underlying101,rfl,by kernel_rfl⟩
theorem Wy.one (r:Wy):∀ u∈r.cells,u.oneCell'=true:=fun u hu=>b6o [r] u (by simpa [wys] using hu)
theorem Rd.wyselem {w:World} {B n c:Nat} {A:Option Addr} {q:List Wy} (h:Rd w B 3 A n c (wys q)) {k:Nat} (hk:k<n) :
  ∃ (hl:k<q.length) (g o:Nat),A=some ⟨g,o,none⟩∧g<B ∧ ∀ j u,(q[k]'hl).cells[j]?=some u→w.cell? ⟨g,o+k * 3+j,none⟩=some u:=by
 have hl:k<q.length:=by rw [h.wyslen];exact hk
 obtain ⟨g,o,e,hb,hc⟩:=h.at_ (by omega)
 refine ⟨hl,g,o,e,hb,fun j u hu=>?_⟩
 have hj:j<3:=(List.getElem?_eq_some_iff.1 hu).1
 rw [Nat.add_assoc]
 exact hc _ _ ((f6o hl j hj).trans hu)
end
section
open Go.RowKit
structure Ins where
 op:Int
 rd:Int
 rs1:Int
 rs2:Int
 imm:Nat
def Ins.cells (r:Ins):List Value:=[.int .i64 r.op,.int .i64 r.rd,.int .i64 r.rs1,.int .i64 r.rs2,.int .u32 (r.imm:Int)]
def Ins.val (r:Ins):Value:=.agg #[.int .i64 r.op,.int .i64 r.rd,.int .i64 r.rs1,.int .i64 r.rs2,.int .u32 (r.imm:Int)]
end
section
open Go.RowKit
structure Stp where
 pc:Nat
 next:Nat
 rd:Int
 value:Nat
 addr:Nat
 size:Int
 store:Bool
 halt:Int
 took:Int
def Stp.cells (r:Stp):List Value:=[.int .u32 (r.pc:Int),.int .u32 (r.next:Int),.int .i64 r.rd,.int .u32 (r.value:Int),.int .u32 (r.addr:Int),.int .i64 r.size,.bool r.store,.int .i64 r.halt,.int .i64 r.took]
def Stp.val (r:Stp):Value:=.agg #[.int .u32 (r.pc:Int),.int .u32 (r.next:Int),.int .i64 r.rd,.int .u32 (r.value:Int),.int .u32 (r.addr:Int),.int .i64 r.size,.bool r.store,.int .i64 r.halt,.int .i64 r.took]
def sts (q:List Stp):List Value:=q.flatMap Stp.cells
theorem f6q (q:List Stp):∀ u∈sts q,u.oneCell'=true:=by
 intro u hu
 simp only [sts,List.mem_flatMap,Stp.cells,List.mem_cons,List.not_mem_nil,or_false] at hu
 obtain ⟨r,_,h⟩:=hu
 rcases h with h|h|h|h|h|h|h|h|h <;> subst h <;> rfl
theorem Stp.one (r:Stp):∀ u∈r.cells,u.oneCell'=true:=fun u hu=>f6q [r] u (by simpa [sts] using hu)
end
section
open Go.RowKit
structure Sl where
 pc:Nat
 next:Nat
def Sl.cells (r:Sl):List Value:=[.int .u32 (r.pc:Int),.int .u32 (r.next:Int)]
def sls (q:List Sl):List Value:=q.flatMap Sl.cells
theorem sls_len (q:List Sl):(sls q).length=q.length * 2:=by
 induction q with
 | nil=>rfl
 | cons r q ih=>
  have:sls (r::q)=r.cells++sls q:=rfl
  rw [this,List.length_append,ih,List.length_cons]
  simp [Sl.cells];omega
theorem c9g (q:List Sl):∀ u∈sls q,u.oneCell'=true:=by
 intro u hu
 simp only [sls,List.mem_flatMap,Sl.cells,List.mem_cons,List.not_mem_nil,or_false] at hu
 obtain ⟨r,_,h⟩:=hu
 rcases h with h|h <;> subst h <;> rfl
theorem Sl.one (r:Sl):∀ u∈r.cells,u.oneCell'=true:=fun u hu=>c9g [r] u (by simpa [sls] using hu)
end
section
open Go.RowKit
structure Fe where
 pc:Nat
 guess:Nat
def Fe.cells (r:Fe):List Value:=[.int .u32 (r.pc:Int),.int .u32 (r.guess:Int)]
def Fe.val (r:Fe):Value:=.agg #[.int .u32 (r.pc:Int),.int .u32 (r.guess:Int)]
def fes (q:List Fe):List Value:=q.flatMap Fe.cells
theorem f6r (p q:List Fe):fes (p++q)=fes p++fes q:=by simp [fes]
end
section
open Go.RowKit
structure Spn where
 at_:Int
 size:Int
def Spn.cells (r:Spn):List Value:=[.int .i64 r.at_,.int .i64 r.size]
def spns (q:List Spn):List Value:=q.flatMap Spn.cells
theorem f6s (q:List Spn):∀ u∈spns q,u.oneCell'=true:=by
 intro u hu
 simp only [spns,List.mem_flatMap,Spn.cells,List.mem_cons,List.not_mem_nil,or_false] at hu
 obtain ⟨r,_,h⟩:=hu
 rcases h with h|h <;> subst h <;> rfl
theorem Spn.one (r:Spn):∀ u∈r.cells,u.oneCell'=true:=fun u hu=>f6s [r] u (by simpa [spns] using hu)
end
section
open Go.RowKit
inductive Mu where
 | blk (g:Nat) (t:TypeId) (cs:List Value)
 | own (v:Value) (e:TypeId) (sz n:Nat) (xs:List Value)
 | row (A:Option Addr) (t:TypeId) (xs:List Value)
def Mu.bl : Mu→Option Nat
 | .blk g _ _=>some g
 | .own v _ _ _ _=>v.ownBlock
 | .row A _ xs=>if 0<xs.length then A.map (·.block) else none
def Mu.ok (B:Nat) (w:World):Mu→Prop
 | .blk g t cs=>Bk w g t cs∧B≤g
 | .own v e sz n xs=>w.ownsRow B e sz v n xs
 | .row A t xs=>0<xs.length → ∃ g pre post,A=some ⟨g,pre.length,none⟩∧Bk w g t (pre++(xs++post))∧B≤g
theorem Mu.ok.lt {B:Nat} {w:World} {m:Mu} (h:m.ok B w) {g:Nat} (hg:m.bl=some g):B≤g∧g<w.heap.size:=by
 cases m with
 | blk g' t cs=>simp only [Mu.bl,Option.some.injEq] at hg;subst hg;exact ⟨h.2,h.1.lt⟩
 | own v e sz n xs=>exact World.ownsRow.lt h g hg
 | row A t xs=>
  simp only [Mu.bl] at hg
  split at hg
  ·rename_i hx
   obtain ⟨g',pre,post,rfl,hb,hB⟩:=h hx
   simp only [Option.map_some,Option.some.injEq] at hg
   subst hg
   exact ⟨hB,hb.lt⟩
  ·cases hg
theorem Mu.ok.keep {B:Nat} {w w':World} {m:Mu} (h:m.ok B w) (hk:∀ g,m.bl=some g→w'.heap[g]?=w.heap[g]?):m.ok B w':=by
 cases m with
 | blk g' t cs=>exact ⟨h.1.keep (hk _ rfl),h.2⟩
 | own v e sz n xs=>
  refine ⟨h.1,?_⟩
  rcases h.2 with h'|⟨g,cap,cur,rfl,hb,hg,rest⟩
  ·exact .inl h'
  ·exact .inr ⟨g,cap,cur,rfl,hb,(hk g rfl).trans hg,rest⟩
 | row A t xs=>
  intro hx
  obtain ⟨g,pre,post,rfl,hb,hB⟩:=h hx
  exact ⟨g,pre,post,rfl,hb.keep (hk g (by simp [Mu.bl,hx])),hB⟩
structure Da where
 ok:World→Prop
 bl:Nat→Prop
 keep:∀ {w w':World},(∀ g,bl g→w'.heap[g]?=w.heap[g]?)→w.heap.size≤w'.heap.size→ok w→ok w'
 lt:∀ {w:World},ok w → ∀ g,bl g→g<w.heap.size
def inA (A:Option Addr) (n:Nat) (g:Nat):Prop:=0<n ∧ ∃ o s,A=some ⟨g,o,s⟩
def a1a (sz:Nat) (A:Option Addr) (n c:Nat) (xs:List Value):Da where
 ok w:=Rd w w.heap.size sz A n c xs
 bl:=inA A n
 keep {w w'} hk hs h:=⟨h.len,h.le,h.mx,fun hn=>by
  obtain ⟨g,o,e,hb,hc⟩:=h.at_ hn
  exact ⟨g,o,e,Nat.lt_of_lt_of_le hb hs,fun j u hu=>(World.cell?_of_block (hk g ⟨hn,o,none,e⟩)).trans (hc j u hu)⟩⟩
 lt {w} h g hg:=by
  obtain ⟨hn,o,s,e⟩:=hg
  obtain ⟨g',o',e',hb,_⟩:=h.at_ hn
  rw [e'] at e
  injection e with e
  injection e with e1
  omega
def From (w:World) (D:List Da) (d:Da):Prop:=∀ g,d.bl g→w.heap.size≤g ∨ ∃ e∈D,e.bl g
theorem From.self {w:World} {D:List Da} {d:Da} (h:d∈D):From w D d:=fun g hg=>.inr ⟨d,h,hg⟩
theorem From.new {w:World} {D:List Da} {d:Da} (h:∀ g,d.bl g→w.heap.size≤g):From w D d:=fun g hg=>.inl (h g hg)
theorem From.trans {w w':World} {D D':List Da} {d:Da} (h:From w' D' d) (hs:w.heap.size≤w'.heap.size) (hD:∀ e∈D',From w D e):From w D d:=fun g hg=>by
 rcases h g hg with h|⟨e,he,hb⟩
 ·exact .inl (Nat.le_trans hs h)
 ·exact hD e he g hb
structure St (w0:World) (D0:List Da) (w:World) (M:List Mu) (D:List Da):Prop where
 bel:Bel w0 w
 mu:∀ (i:Nat) (m:Mu),M[i]?=some m→m.ok w0.heap.size w
 apart:∀ (i j:Nat) (a b:Mu),i≠j→M[i]?=some a→M[j]?=some b → ∀ g,a.bl=some g→b.bl≠some g
 dat:∀ d∈D,d.ok w
 sep:∀ d∈D,∀ (i:Nat) (m:Mu),M[i]?=some m → ∀ g,m.bl=some g → ¬ d.bl g
 src:∀ d∈D,From w0 D0 d
section
variable {w0 w w':World} {D0 D:List Da} {M:List Mu}
theorem St.start (w:World) (D:List Da) (h:∀ d∈D,d.ok w):St w D w [] D :=
 ⟨Bel.refl w,fun i m h=>by simp at h,fun i j a b _ h=>by simp at h,h,fun _ _ i m h=>by simp at h,fun d hd=>From.self hd⟩
theorem a6l (hb:Bel w w') (r:Option Nat):w.grownBy w' r:=⟨hb.os,hb.tape,hb.output,hb.size,fun k hk _=>hb.block k hk⟩
theorem St.grow (h:St w0 D0 w M D) (hb:Bel w w'):St w0 D0 w' M D :=
 ⟨h.bel.trans hb,fun i m hm=>(h.mu i m hm).keep fun g hg=>hb.block g ((h.mu i m hm).lt hg).2,h.apart,fun d hd=>d.keep (fun g hg=>hb.block g (d.lt (h.dat d hd) g hg)) hb.size (h.dat d hd),h.sep,h.src⟩
theorem St.upd (h:St w0 D0 w M D) (i:Nat) (m m':Mu) (hi:M[i]?=some m) (hg:w.grownBy w' m.bl) (hm:m'.ok w0.heap.size w') (hb:∀ g,m'.bl=some g→m.bl=some g∨w.heap.size≤g) :
  St w0 D0 w' (M.set i m') D:=by
 have hil:i<M.length:=(List.getElem?_eq_some_iff.1 hi).1
 have hset:∀ j x,(M.set i m')[j]?=some x→(j=i∧x=m')∨(j≠i∧M[j]?=some x):=by
  intro j x hx
  by_cases hj:i=j
  ·subst hj;rw [List.getElem?_set_self hil] at hx;injection hx with hx;exact .inl ⟨rfl,hx.symm⟩
  ·rw [List.getElem?_set_ne hj] at hx;exact .inr ⟨fun e=>hj e.symm,hx⟩
 refine ⟨h.bel.grown hg fun k hk=>((h.mu i m hi).lt hk).1,fun j x hx=>?_,fun j k a b hjk ha hb' g hag hbg=>?_,fun d hd=>?_,fun d hd j x hx g hxg hdg=>?_,h.src⟩
 ·rcases hset j x hx with ⟨_,rfl⟩|⟨hj,hx⟩
  ·exact hm
  ·exact (h.mu j x hx).keep fun g hg'=>hg.block g ((h.mu j x hx).lt hg').2 (fun e=>h.apart j i x m hj hx hi g hg' e.symm)
 ·rcases hset j a ha with ⟨rfl,e1⟩|⟨hj,ha1⟩
  ·rcases hset k b hb' with ⟨rfl,_⟩|⟨hk,hb1⟩
   ·exact hjk rfl
   ·rcases hb g (e1 ▸ hag) with h1|h1
    ·exact h.apart j k m b hjk hi hb1 g h1 hbg
    ·have:=((h.mu k b hb1).lt hbg).2;omega
  ·rcases hset k b hb' with ⟨rfl,e1⟩|⟨hk,hb1⟩
   ·rcases hb g (e1 ▸ hbg) with h1|h1
    ·exact h.apart j k a m hjk ha1 hi g hag h1
    ·have:=((h.mu j a ha1).lt hag).2;omega
   ·exact h.apart j k a b hjk ha1 hb1 g hag hbg
 ·exact d.keep (fun g hdg=>hg.block g (d.lt (h.dat d hd) g hdg) (fun e=>h.sep d hd i m hi g e.symm hdg)) hg.size (h.dat d hd)
 ·rcases hset j x hx with ⟨_,rfl⟩|⟨_,hx⟩
  ·rcases hb g hxg with h1|h1
   ·exact h.sep d hd i m hi g h1 hdg
   ·have:=d.lt (h.dat d hd) g hdg;omega
  ·exact h.sep d hd j x hx g hxg hdg
theorem St.push (h:St w0 D0 w M D) (m:Mu) (hg:w.grownBy w' none) (hm:m.ok w0.heap.size w') (hb:∀ g,m.bl=some g→w.heap.size≤g):St w0 D0 w' (m::M) D:=by
 have hbe:Bel w w':=⟨hg.os,hg.tape,hg.output,hg.size,fun k hk=>hg.block k hk (by simp)⟩
 have h':=h.grow hbe
 refine ⟨h'.bel,fun i x hx=>?_,fun i j a b hij ha hb' g hag hbg=>?_,h'.dat,fun d hd i x hx g hxg hdg=>?_,h.src⟩
 ·cases i with
  | zero=>simp at hx;subst hx;exact hm
  | succ i=>exact h'.mu i x (by simpa using hx)
 ·cases i with
  | zero=>
   simp at ha;subst ha
   cases j with
   | zero=>exact hij rfl
   | succ j=>
    have:=((h.mu j b (by simpa using hb')).lt hbg).2
    have:=hb g hag
    omega
  | succ i=>
   cases j with
   | zero=>
    simp at hb';subst hb'
    have:=((h.mu i a (by simpa using ha)).lt hag).2
    have:=hb g hbg
    omega
   | succ j=>exact h.apart i j a b (by omega) (by simpa using ha) (by simpa using hb') g hag hbg
 ·cases i with
  | zero=>
   simp at hx;subst hx
   have:=d.lt (h.dat d hd) g hdg
   have:=hb g hxg
   omega
  | succ i=>exact h.sep d hd i x (by simpa using hx) g hxg hdg
theorem St.alloc (h:St w0 D0 w M D) (t:TypeId) (cs:List Value):St w0 D0 (w.alloc (.cells cs.toArray t)) (.blk w.heap.size t cs::M) D :=
 h.push _ (a6l (Bel.alloc w _) none) ⟨Bk.new w t cs,h.bel.size⟩ fun g hg=>by simp only [Mu.bl,Option.some.injEq] at hg;omega
theorem St.nil (h:St w0 D0 w M D) (e:TypeId) (sz:Nat):St w0 D0 w (.own (.slice none 0 0) e sz 0 []::M) D :=
 h.push _ (a6l (Bel.refl w) none) ⟨by simp,.inl ⟨rfl,rfl⟩⟩ fun g hg=>by simp [Mu.bl,Value.ownBlock] at hg
theorem St.add (h:St w0 D0 w M D) (hb:Bel w w') (d:Da) (hd:d.ok w') (D1:List Da) (hf:From w D1 d) (hD:∀ e∈D1,e∈D):St w0 D0 w' M (d::D):=by
 have h':=h.grow hb
 refine ⟨h'.bel,h'.mu,h'.apart,fun e he=>?_,fun e he i m hm g hmg heg=>?_,fun e he=>?_⟩
 ·rcases List.mem_cons.1 he with rfl|he
  ·exact hd
  ·exact h'.dat e he
 ·rcases List.mem_cons.1 he with rfl|he
  ·rcases hf g heg with h1|⟨f,hf1,hf2⟩
   ·have:=((h.mu i m hm).lt hmg).2;omega
   ·exact h.sep f (hD f hf1) i m hm g hmg hf2
  ·exact h.sep e he i m hm g hmg heg
 ·rcases List.mem_cons.1 he with rfl|he
  ·exact hf.trans h.bel.size fun f hf1=>h.src f (hD f hf1)
  ·exact h.src e he
theorem St.part (h:St w0 D0 w M D) (d:Da) (hd:d.ok w) (hf:∀ g,d.bl g → ∃ e∈D,e.bl g):St w0 D0 w M (d::D) :=
 h.add (Bel.refl w) d hd D (fun g hg=>.inr (hf g hg)) fun e he=>he
theorem St.less (h:St w0 D0 w M D) {M':List Mu} {D':List Da} (hM:∃ f:Nat→Nat,(∀ i j,f i=f j→i=j) ∧ ∀ i m,M'[i]?=some m→M[f i]?=some m) (hD:∀ d∈D',d∈D):St w0 D0 w M' D':=by
 obtain ⟨f,hf,hM⟩:=hM
 exact ⟨h.bel,fun i m hm=>h.mu (f i) m (hM i m hm),fun i j a b hij ha hb=>h.apart (f i) (f j) a b (fun e=>hij (hf i j e)) (hM i a ha) (hM j b hb),fun d hd=>h.dat d (hD d hd),
  fun d hd i m hm=>h.sep d (hD d hd) (f i) m (hM i m hm),fun d hd=>h.src d (hD d hd)⟩
theorem St.lessD (h:St w0 D0 w M D) {D':List Da} (hD:∀ d∈D',d∈D):St w0 D0 w M D':=h.less ⟨id,fun _ _ e=>e,fun _ _ h=>h⟩ hD
theorem St.drop (h:St w0 D0 w M D) (i:Nat):St w0 D0 w (M.eraseIdx i) D :=
 h.less ⟨fun j=>if j<i then j else j+1,fun a b e=>by dsimp only at e;split at e <;> split at e <;> omega,fun j m hm=>by
  rw [List.getElem?_eraseIdx] at hm
  dsimp only
  split
  ·rename_i hj;rwa [if_pos hj] at hm
  ·rename_i hj;rwa [if_neg hj] at hm⟩ fun d hd=>hd
theorem St.freeze (h:St w0 D0 w M D) (i:Nat) {v:Value} {e:TypeId} {sz n:Nat} {xs:List Value} (hi:M[i]?=some (.own v e sz n xs)) :
  ∃ A c,v = .slice A n c∧St w0 D0 w (M.eraseIdx i) (a1a sz A n c xs::D):=by
 have hown:w.ownsRow w0.heap.size e sz v n xs:=h.mu i _ hi
 obtain ⟨A,c,rfl,hr,hge⟩:=Rd.of_own' hown
 refine ⟨A,c,rfl,?_⟩
 have hbl:∀ g,(a1a sz A n c xs).bl g→(Mu.own (.slice A n c) e sz n xs).bl=some g:=by
  rintro g ⟨_,o,s,rfl⟩;rfl
 have h':=h.drop i
 have hbl2:∀ d∈a1a sz A n c xs::D,∀ (j:Nat) (m:Mu),(M.eraseIdx i)[j]?=some m → ∀ g,m.bl=some g → ¬ d.bl g:=by
  intro d hd j m hm g hmg hdg
  rcases List.mem_cons.1 hd with rfl|hd
  ·rw [List.getElem?_eraseIdx] at hm
   split at hm
   ·exact h.apart j i m _ (by omega) hm hi g hmg (hbl g hdg)
   ·exact h.apart (j+1) i m _ (by omega) hm hi g hmg (hbl g hdg)
  ·exact h'.sep d hd j m hm g hmg hdg
 refine ⟨h.bel,h'.mu,h'.apart,fun d hd=>?_,hbl2,fun d hd=>?_⟩
 ·rcases List.mem_cons.1 hd with rfl|hd
  ·exact hr
  ·exact h.dat d hd
 ·rcases List.mem_cons.1 hd with rfl|hd
  ·exact From.new fun g hg=>((h.mu i _ hi).lt (hbl g hg)).1
  ·exact h.src d hd
theorem St.freezeB (h:St w0 D0 w M D) (i:Nat) {g:Nat} {t:TypeId} {cs:List Value} (hi:M[i]?=some (.blk g t cs)) (sz n c:Nat) (hl:cs.length=n * sz) (hc:n≤c) (hm:c≤maxLen) :
  St w0 D0 w (M.eraseIdx i) (a1a sz (some ⟨g,0,none⟩) n c cs::D):=by
 have hk:=(h.mu i _ hi)
 have hr:Rd w w.heap.size sz (some ⟨g,0,none⟩) n c cs:=by
  have:=hk.1.rd (sz:=sz) (n:=n) (c:=c) (o:=0) (by omega) hc hm
  rwa [List.drop_zero,List.take_of_length_le (by omega)] at this
 have hbl:∀ g',(a1a sz (some ⟨g,0,none⟩) n c cs).bl g'→g'=g:=by
  rintro g' ⟨_,o,s,e⟩;injection e with e;injection e with e;exact e.symm
 have h':=h.drop i
 refine ⟨h.bel,h'.mu,h'.apart,fun d hd=>?_,fun d hd j m hm' g' hmg hdg=>?_,fun d hd=>?_⟩
 ·rcases List.mem_cons.1 hd with rfl|hd
  ·exact hr
  ·exact h.dat d hd
 ·rcases List.mem_cons.1 hd with rfl|hd
  ·obtain rfl:=hbl g' hdg
   rw [List.getElem?_eraseIdx] at hm'
   split at hm'
   ·exact h.apart j i m _ (by omega) hm' hi g' hmg rfl
   ·exact h.apart (j+1) i m _ (by omega) hm' hi g' hmg rfl
  ·exact h'.sep d hd j m hm' g' hmg hdg
 ·rcases List.mem_cons.1 hd with rfl|hd
  ·exact From.new fun g' hg=>by obtain rfl:=hbl g' hg;exact hk.2
  ·exact h.src d hd
theorem St.bk (h:St w0 D0 w M D) {g:Nat} {t:TypeId} {cs:List Value} (hm:Mu.blk g t cs∈M):Bk w g t cs:=by
 obtain ⟨i,hi,e⟩:=List.mem_iff_getElem.1 hm
 have h1:(Mu.blk g t cs).ok w0.heap.size w:=h.mu i _ (by rw [List.getElem?_eq_getElem hi,e])
 exact h1.1
theorem St.bkAt (h:St w0 D0 w M D) {i g:Nat} {t:TypeId} {cs:List Value} (hm:M[i]?=some (.blk g t cs)):Bk w g t cs:=(h.mu i _ hm).1
theorem St.ownAt (h:St w0 D0 w M D) {i:Nat} {v:Value} {e:TypeId} {sz n:Nat} {xs:List Value} (hm:M[i]?=some (.own v e sz n xs)):w.ownsRow w0.heap.size e sz v n xs:=h.mu i _ hm
theorem St.ownOne (h:St w0 D0 w M D) {i:Nat} {v:Value} {e:TypeId} {sz n:Nat} {xs:List Value} (hm:M[i]?=some (.own v e sz n xs)):v.oneCell'=true:=by
 rcases (h.ownAt hm).2 with ⟨rfl,_⟩|⟨g,cap,cur,rfl,_⟩ <;> rfl
theorem c9h {B B':Nat} {v:Value} {e:TypeId} {sz n:Nat} {xs:List Value} (h:w.ownsRow B e sz v n xs) (hB:B'≤B):w.ownsRow B' e sz v n xs:=by
 refine ⟨h.1,?_⟩
 rcases h.2 with h'|⟨g,cap,cur,h1,h2,h3⟩
 ·exact .inl h'
 ·exact .inr ⟨g,cap,cur,h1,Nat.le_trans hB h2,h3⟩
theorem St.pushOwn (h:St w0 D0 w M D) (hb:Bel w w') {v:Value} {e:TypeId} {sz n:Nat} {xs:List Value} (ho:w'.ownsRow w.heap.size e sz v n xs):St w0 D0 w' (.own v e sz n xs::M) D :=
 h.push _ (a6l hb none) (c9h ho h.bel.size) fun g hg=>(World.ownsRow.lt ho g hg).1
theorem St.ownSome (h:St w0 D0 w M D) {i:Nat} {v:Value} {e:TypeId} {sz n:Nat} {xs:List Value} (hm:M[i]?=some (.own v e sz n xs)) (hn:0<n):∃ g cap,v = .slice (some ⟨g,0,none⟩) n cap∧n≤cap∧cap≤maxLen:=by
 rcases (h.ownAt hm).2 with ⟨_,rfl⟩|⟨g,cap,cur,rfl,_,_,h1,h2,_⟩
 ·omega
 ·exact ⟨g,cap,rfl,h1,h2⟩
theorem St.ownCell (h:St w0 D0 w M D) {i g n c:Nat} {e:TypeId} {sz:Nat} {xs:List Value} (hm:M[i]?=some (.own (.slice (some ⟨g,0,none⟩) n c) e sz n xs)) (j:Nat) (u:Value) (hu:xs[j]?=some u):w.cell? ⟨g,j,none⟩=some u:=by
 have:=World.ownsRow.cells (h.ownAt hm) (g:=g) rfl j u hu
 rwa [a4u,Nat.zero_add] at this
theorem St.ownSet (h:St w0 D0 w M D) {i g n c:Nat} {e:TypeId} {sz:Nat} {xs:List Value} (hm:M[i]?=some (.own (.slice (some ⟨g,0,none⟩) n c) e sz n xs)) (j:Nat) (u:Value) (hj:j<xs.length) :
  w.frozen? ⟨g,j,none⟩=false∧St w0 D0 (w.setCell ⟨g,j,none⟩ u) (M.set i (.own (.slice (some ⟨g,0,none⟩) n c) e sz n (xs.set j u))) D:=by
 have ho:=h.ownAt hm
 rcases ho.2 with ⟨h',_⟩|⟨g',cap,cur,h',hb,hg,hnc,hcm,hcs,htake⟩
 ·simp at h'
 ·simp only [Value.slice.injEq,Option.some.injEq,Addr.mk.injEq,and_true,true_and] at h'
  obtain ⟨rfl,rfl⟩:=h'
  refine ⟨by simp [World.frozen?,hg],h.upd i _ _ hm ⟨rfl,rfl,rfl,by simp [World.setCell],fun k hk hne=>Below.heap_setCell w _ u k (fun e=>hne (by rw [e];rfl))⟩ ?_ fun g' hg'=>.inl hg'⟩
  refine ⟨by rw [List.length_set];exact ho.1,.inr ⟨g,c,cur.setIfInBounds j u,rfl,hb,by simp [World.setCell,Array.getElem?_modify,hg],hnc,hcm,by simpa using hcs,?_⟩⟩
  rw [Array.toList_setIfInBounds,List.take_set,htake]
theorem St.rd (h:St w0 D0 w M D) {sz n c:Nat} {A:Option Addr} {xs:List Value} (hd:a1a sz A n c xs∈D):Rd w w.heap.size sz A n c xs:=h.dat _ hd
end
theorem at0 {α:Type} {m:α} {M:List α}:(m::M)[0]?=some m:=rfl
theorem at1 {α:Type} {a m:α} {M:List α}:(a::m::M)[1]?=some m:=rfl
theorem at2 {α:Type} {a b m:α} {M:List α}:(a::b::m::M)[2]?=some m:=rfl
theorem at3 {α:Type} {a b c m:α} {M:List α}:(a::b::c::m::M)[3]?=some m:=rfl
theorem at4 {α:Type} {a b c d m:α} {M:List α}:(a::b::c::d::m::M)[4]?=some m:=rfl
theorem at5 {α:Type} {a b c d e m:α} {M:List α}:(a::b::c::d::e::m::M)[5]?=some m:=rfl
theorem at6 {α:Type} {a b c d e f m:α} {M:List α}:(a::b::c::d::e::f::m::M)[6]?=some m:=rfl
theorem c9i {xs:List Value} (h:∀ u∈xs,u.oneCell'=true) (k:Nat):∀ u∈xs.take k,u.oneCell'=true:=fun u hu=>h u (List.mem_of_mem_take hu)
theorem drop_one {xs:List Value} (h:∀ u∈xs,u.oneCell'=true) (k:Nat):∀ u∈xs.drop k,u.oneCell'=true:=fun u hu=>h u (List.mem_of_mem_drop hu)
theorem f6t {D:List Da}:∀ d∈([]:List Da),d∈D:=fun _ h=>by cases h
theorem b2y : ∀ u∈([]:List Value),u.oneCell'=true:=fun _ h=>by cases h
theorem b4c {v:Value} {l:List Value} (h:v.oneCell'=true) (t:∀ u∈l,u.oneCell'=true):∀ u∈v::l,u.oneCell'=true:=fun u hu=>by
 rcases List.mem_cons.1 hu with rfl|hu
 ·exact h
 ·exact t u hu
def ept (A:Option Addr) (j:Nat):Value:=.pointer (A.map fun a=>a.add j)
theorem c3h (A:Option Addr) (i j:Nat):ept A (i+j) = .pointer ((A.map fun a=>a.add i).map fun a=>a.add j):=by
 cases A with
 | none=>rfl
 | some a=>
  obtain ⟨g,o,s⟩:=a
  simp only [ept,Option.map_some,Addr.add]
  by_cases hi:i=0 <;> by_cases hj:j=0 <;> simp [hi,hj,Nat.add_assoc]
theorem zcg {P:Program} {f:FuncId} {args:Array Value} {w0 w:World} {D0 D:List Da} {M:List Mu} {v:Value} {Q:Ending→World→Prop} (hF:St w0 D0 w M D) (h:Calls P f args w fun e w'=>e = .returned v∧Bel w w') (k:∀ w',St w0 D0 w' M D→Q (.returned v) w'):Calls P f args w Q:=h.mono fun e w' x=>by obtain ⟨rfl,hb⟩:=x;exact k w' (hF.grow hb)
end
section
open Go.RowKit
structure Cs where
 A:Option Addr
 n:Nat
 c:Nat
 ws:List Wy
def Cs.val (s:Cs):Value:=.slice s.A s.n s.c
def csv (S:List Cs):List Value:=S.map Cs.val
theorem b2z (S:List Cs):(csv S).length=S.length:=by simp [csv]
theorem c3i (S:List Cs):∀ u∈csv S,u.oneCell'=true:=by
 intro u hu
 simp only [csv,List.mem_map] at hu
 obtain ⟨s,_,rfl⟩:=hu
 rfl
theorem c9j {S:List Cs} {k:Nat} (h:k<S.length):(csv S)[k]?=some (S[k]'h).val:=by simp [csv,h]
theorem c9k (S:List Cs) (k:Nat) (s:Cs):(csv S).set k s.val=csv (S.set k s):=by simp [csv]
def a1j (S:List Cs):List (List Wy):=S.map Cs.ws
theorem a3n (S:List Cs):(a1j S).length=S.length:=by simp [a1j]
theorem c3j {S:List Cs} {k:Nat} (h:k<S.length):(a1j S)[k]?=some (S[k]'h).ws:=by simp [a1j,h]
theorem c9l (S:List Cs) (k:Nat) (s:Cs):a1j (S.set k s)=(a1j S).set k s.ws:=by simp [a1j]
structure RdS (w:World) (B:Nat) (A:Option Addr) (n c:Nat) (S:List Cs):Prop where
 rd:Rd w B 1 A n c (csv S)
 sets:∀ s∈S,Rd w B 3 s.A s.n s.c (wys s.ws)
section
variable {w w':World} {B B' n c:Nat} {A:Option Addr} {S:List Cs}
theorem RdS.slen (h:RdS w B A n c S):S.length=n:=by have:=h.rd.len;rw [b2z] at this;omega
theorem RdS.bel (h:RdS w w.heap.size A n c S) (hb:Bel w w'):RdS w' w'.heap.size A n c S:=⟨h.rd.bel hb,fun s hs=>(h.sets s hs).bel hb⟩
theorem RdS.at_ (h:RdS w B A n c S) {k:Nat} (hk:k<n):∃ (hl:k<S.length) (g o:Nat),A=some ⟨g,o,none⟩∧g<B∧w.cell? ⟨g,o+k,none⟩=some (.slice (S[k]'hl).A (S[k]'hl).n (S[k]'hl).c)∧Rd w B 3 (S[k]'hl).A (S[k]'hl).n (S[k]'hl).c (wys (S[k]'hl).ws):=by
 have hl:k<S.length:=by have:=h.slen;omega
 obtain ⟨g,o,u,e,hb,hu,hc⟩:=h.rd.cell1 hk
 rw [c9j hl] at hu
 obtain rfl:_=u:=by injection hu
 exact ⟨hl,g,o,e,hb,hc,h.sets _ (List.getElem_mem hl)⟩
end
end
section
open Go.RowKit
structure En where
 no:Int
 pc:Nat
 inst:Ins
 guess:Nat
 is:Int
 left:Int
 value:Nat
 next:Nat
 addr:Nat
 halt:Int
 took:Int
 known:Bool
 filled:Bool
def En.cells (r:En):List Value:=[.int .i64 r.no,.int .u32 (r.pc:Int),.int .i64 r.inst.op,.int .i64 r.inst.rd,.int .i64 r.inst.rs1,.int .i64 r.inst.rs2,.int .u32 (r.inst.imm:Int),.int .u32 (r.guess:Int),.int .i64 r.is,.int .i64 r.left,.int .u32 (r.value:Int),.int .u32 (r.next:Int),.int .u32 (r.addr:Int),.int .i64 r.halt,.int .i64 r.took,.bool r.known,.bool r.filled]
def En.val (r:En):Value:=.agg #[.int .i64 r.no,.int .u32 (r.pc:Int),.int .i64 r.inst.op,.int .i64 r.inst.rd,.int .i64 r.inst.rs1,.int .i64 r.inst.rs2,.int .u32 (r.inst.imm:Int),.int .u32 (r.guess:Int),.int .i64 r.is,.int .i64 r.left,.int .u32 (r.value:Int),.int .u32 (r.next:Int),.int .u32 (r.addr:Int),.int .i64 r.halt,.int .i64 r.took,.bool r.known,.bool r.filled]
def ens (q:List En):List Value:=q.flatMap En.cells
theorem a4l (q:List En):(ens q).length=q.length * 17:=by
 induction q with
 | nil=>rfl
 | cons r q ih=>
  have:ens (r::q)=r.cells++ens q:=rfl
  rw [this,List.length_append,ih,List.length_cons]
  simp [En.cells];omega
theorem f6u {q:List En} {k:Nat} (h:k<q.length) (j:Nat) (hj:j<17):(ens q)[k * 17+j]?=(q[k]'h).cells[j]?:=by
 induction q generalizing k with
 | nil=>simp at h
 | cons r q ih=>
  have e:ens (r::q)=r.cells++ens q:=rfl
  have hl:r.cells.length=17:=rfl
  cases k with
  | zero=>rw [e,List.getElem?_append_left (by rw [hl];omega)];simp
  | succ k=>
   rw [e,List.getElem?_append_right (by rw [hl];omega),hl,show (k+1) * 17+j - 17=k * 17+j by omega,ih (by simpa using h)]
   simp
theorem c9m (q:List En):∀ u∈ens q,u.oneCell'=true:=by
 intro u hu
 simp only [ens,List.mem_flatMap,En.cells,List.mem_cons,List.not_mem_nil,or_false] at hu
 obtain ⟨r,_,h⟩:=hu
 rcases h with h|h|h|h|h|h|h|h|h|h|h|h|h|h|h|h|h <;> subst h <;> rfl
theorem f6v (q:List En) (k:Nat):(ens q).take (k * 17)=ens (q.take k):=by
 induction q generalizing k with
 | nil=>simp [ens]
 | cons r q ih=>
  have e:ens (r::q)=r.cells++ens q:=rfl
  have hl:r.cells.length=17:=rfl
  cases k with
  | zero=>simp [ens]
  | succ k=>
   rw [e,List.take_append,hl,show (k+1) * 17 - 17=k * 17 by omega,ih,List.take_succ_cons,List.take_of_length_le (by rw [hl];omega)]
   rfl
theorem Rd.enslen {w:World} {B n c:Nat} {A:Option Addr} {q:List En} (h:Rd w B 17 A n c (ens q)):q.length=n:=by
 have hn:=h.len
 rw [a4l] at hn
 omega
def b4d : List Value:=[.int .i64 0,.int .u32 0,.int .i64 0,.int .i64 0,.int .i64 0,.int .i64 0,.int .u32 0,.int .u32 0,.int .i64 0,.int .i64 0,.int .u32 0,.int .u32 0,.int .u32 0,.int .i64 0,.int .i64 0,.bool false,.bool false]
theorem ensTy : RowTy Tryz.prog 54 17:=⟨_,Tryz.underlying54,rfl,by kernel_rfl⟩
theorem En.one (r:En):∀ u∈r.cells,u.oneCell'=true:=fun u hu=>c9m [r] u (by simpa [ens] using hu)
theorem Rd.enselem {w:World} {B n c:Nat} {A:Option Addr} {q:List En} (h:Rd w B 17 A n c (ens q)) {k:Nat} (hk:k<n) :
  ∃ (hl:k<q.length) (g o:Nat),A=some ⟨g,o,none⟩∧g<B ∧ ∀ j u,(q[k]'hl).cells[j]?=some u→w.cell? ⟨g,o+k * 17+j,none⟩=some u:=by
 have hl:k<q.length:=by rw [h.enslen];exact hk
 obtain ⟨g,o,e,hb,hc⟩:=h.at_ (by omega)
 refine ⟨hl,g,o,e,hb,fun j u hu=>?_⟩
 have hj:j<17:=(List.getElem?_eq_some_iff.1 hu).1
 rw [Nat.add_assoc]
 exact hc _ _ ((f6u hl j hj).trans hu)
end
section
open Go.RowKit Go.ChangeShapes Go.WideShapes Go.ChangeAt Go.Deep
def b4e (r:Ins):Prop:=(-9223372036854775808≤r.op∧r.op≤9223372036854775807)∧(-9223372036854775808≤r.rd∧r.rd≤9223372036854775807)∧(-9223372036854775808≤r.rs1∧r.rs1≤9223372036854775807)∧(-9223372036854775808≤r.rs2∧r.rs2≤9223372036854775807)∧r.imm<4294967296
end
section
open Go.RowKit Go.ChangeShapes Go.WideShapes Go.ChangeAt Go.Deep
def b4f (r:Fe):Prop:=r.pc<4294967296∧r.guess<4294967296
end
section
open Go.RowKit Go.ChangeShapes Go.WideShapes Go.ChangeAt Go.Deep
def b8v (r:Sl):Prop:=r.pc<4294967296∧r.next<4294967296
end
section

def b1s (n k:Nat) (set:List Wy) (i:Nat) (v:Wy):Prop :=
 v.line % 16=0∧v.line / 16 % n=k∧(v.data.size=0∨v.data.size=16) ∧ ∀ j<i,∀ u,set[j]?=some u→u.line≠v.line
def a7i (n:Nat) (ways:Int) (k:Nat) (set:List Wy):Prop:=(set.length:Int)≤ways ∧ ∀ i v,set[i]?=some v→b1s n k set i v
structure RightP (ways:Int) (C:List (List Wy)):Prop where
 hn:C.length=1∨C.length=2∨C.length=4
 hw:ways=1∨ways=2
 hs:∀ k s,C[k]?=some s→a7i C.length ways k s
structure At (set:List Wy) (line:Nat) (i:Nat) (v:Wy):Prop where
 is:set[i]?=some v
 line:v.line=line
def a9y (set:List Wy) (line:Nat):Prop:=∀ v∈set,v.line≠line
def a3t (set:List Wy) (i:Nat) (v:Wy):List Wy:=v::(set.take i++set.drop (i+1))
theorem f6w (set:List Wy) (line:Nat):a9y set line ∨ ∃ i v,At set line i v ∧ ∀ j<i,∀ u,set[j]?=some u→u.line≠line:=by
 induction set with
 | nil=>exact .inl (by intro v hv;cases hv)
 | cons x r ih=>
  by_cases hx:x.line=line
  ·exact .inr ⟨0,x,⟨rfl,hx⟩,fun j hj=>absurd hj (by omega)⟩
  ·rcases ih with h|⟨i,v,ha,hf⟩
   ·refine .inl fun v hv=>?_
    rcases List.mem_cons.1 hv with rfl|hv
    ·exact hx
    ·exact h v hv
   ·refine .inr ⟨i+1,v,⟨by simpa using ha.is,ha.line⟩,fun j hj u hu=>?_⟩
    cases j with
    | zero=>simp at hu;rw [← hu];exact hx
    | succ j=>exact hf j (by omega) u (by simpa using hu)
end
section
open Go.RowKit Go.ChangeShapes Go.WideShapes Go.ChangeAt Go.Deep
def EnOk (r:En):Prop:=(-9223372036854775808≤r.no∧r.no≤9223372036854775807)∧r.pc<4294967296∧b4e r.inst∧r.guess<4294967296∧(-9223372036854775808≤r.is∧r.is≤9223372036854775807)∧(-9223372036854775808≤r.left∧r.left≤9223372036854775807)∧r.value<4294967296∧r.next<4294967296∧r.addr<4294967296∧(-9223372036854775808≤r.halt∧r.halt≤9223372036854775807)∧(-9223372036854775808≤r.took∧r.took≤9223372036854775807)∧True∧True
end
section
open Go.RowKit
inductive OneT (P:Program) (ty:TypeId):Prop
 | mk (d:TypeDesc) (hu:P.underlying ty=some d) (hd:(match d with | .struct _ | .array _ _=>false|_=>true)=true) (hi:(P.info? ty).map (·.size)=some 1)
inductive SlT (P:Program) (t e:TypeId) (z:Value) (sz bytes:Nat):Prop
 | mk (hu:P.underlying t=some (.slice e)) (hi:(P.info? e).map (fun i=>(i.zero,i.size,i.bytes))=some (some z,sz,bytes)) (hz:z.cells.size=sz) (hp:0<sz)
inductive FldT (P:Program) (s f off:Nat):Prop
 | mk (fs:Array Field) (fl:Field) (n:Nat) (hu:P.underlying s=some (.struct fs)) (hf:fs[f]?=some fl) (ho:fl.offset=off) (hi:(P.info? fl.type).map (·.size)=some n) (hn:n≠0)
inductive ZeroT (P:Program) (t:TypeId) (cs:List Value):Prop
 | mk (z:Value) (hi:(P.info? t).map (·.zero)=some (some z)) (hc:z.cells=cs.toArray)
def a1b (a:Act):Operand→Option Value
 | .tmp t=>a.tmps.toList[t]?
 | .const v=>some v
 | _=>none
theorem look_eval {a:Act} {x:Operand} {v:Value} (h:a1b a x=some v):a.eval x=v:=by
 cases x with
 | tmp t=>
  have h':a.tmps[t]?=some v:=by rw [← Array.getElem?_toList];exact h
  simp [Act.eval,h']
 | const u=>exact Option.some.inj h
 | global g=>cases h
 | func f=>cases h
section
variable {P:Program} {ops:Array Oper} {rest:List Oper} {o:Oper} {a:Act} {Q:Exit→Act→World→Prop} {w0 w:World} {D0 D:List Da} {M:List Mu}
theorem f6x {ty:TypeId} {x:Operand} (ho:o.op = .box ty x) (hgd:o.guard=none) (hF:St w0 D0 w M D) {v:Value} (hx:a1b a x=some v) (cs:List Value) (hc:v.cells=cs.toArray)
  (h:∀ g w',St w0 D0 w' (.blk g ty cs::M) D→wpList P ops Q rest (a.put o.dst (.pointer (some ⟨g,0,none⟩))) w'):wpList P ops Q (o::rest) a w:=by
 replace hx:=look_eval hx
 subst hx
 refine wpList_plain hgd fun K hK=>?_
 have hk:=hK _ _ (h _ _ (hF.alloc ty cs))
 unfold Oper.wp execOp
 simp only [ho,Instr.box,newVar,newRow,hc,Sem.run_bind,Sem.run_pure,run_newObj_alloc,Result.andThen_ok]
 exact hk
theorem f6y {ty:TypeId} (ho:o.op = .alloc ty) (hgd:o.guard=none) (hF:St w0 D0 w M D) (cs:List Value) (hz:ZeroT P ty cs)
  (h:∀ g w',St w0 D0 w' (.blk g ty cs::M) D→wpList P ops Q rest (a.put o.dst (.pointer (some ⟨g,0,none⟩))) w'):wpList P ops Q (o::rest) a w:=by
 refine wpList_plain hgd fun K hK=>?_
 have hk:=hK _ _ (h _ _ (hF.alloc ty cs))
 obtain ⟨z,hi,hz⟩:=hz
 unfold Oper.wp execOp
 cases hq:P.info? ty with
 | none=>simp [hq] at hi
 | some i=>
  have hzz:i.zero=some z:=by simpa [hq] using hi
  simp only [ho,Instr.alloc,zeroValue,typeInfo,hq,hzz,newVar,newRow,hz,Sem.run_bind,Sem.run_pure,run_program,run_newObj_alloc,Result.andThen_ok]
  exact hk
theorem b4g {w:World} {ty:TypeId} {ad:Addr} {v:Value} (ht:OneT P ty) (hc:w.cell? ad=some v):(loadVar ty ad).run P w = .ok v w:=by
 obtain ⟨d,hu,hd,_⟩:=ht
 have hagg:(isAgg ty).run P w = .ok false w:=by
  unfold isAgg
  rw [Sem.run_bind,run_underlying hu w]
  cases d <;> simp_all
 simp [loadVar,Sem.run_bind,hagg,hc]
theorem c3k {w:World} {ty:TypeId} {ad:Addr} {v u:Value} (ht:OneT P ty) (hc:w.cell? ad=some u) (hf:w.frozen? ad=false) (h1:v.oneCell'=true):(storeVar ty ad v).run P w = .ok () (w.setCell ad v):=by
 obtain ⟨d,hu,hd,hi⟩:=ht
 have hs:(sizeOf ty).run P w = .ok 1 w:=by
  cases hq:P.info? ty with
  | none=>simp [hq] at hi
  | some i=>
   have:i.size=1:=by simpa [hq] using hi
   simp [sizeOf,typeInfo,hq,this]
 have hv:v.cells=#[v]:=by cases v <;> simp_all [Value.cells,Value.oneCell']
 have h0:ad.add 0=ad:=by unfold Addr.add;simp
 simp [storeVar,hs,hv,storeCells,h0,run_store P w ad v _ h1,hc,hf]
theorem f6z {ty:TypeId} {x:Operand} (ho:o.op = .load ty x) (hF:St w0 D0 w M D) {g off:Nat} (hx:a1b a x=some (.pointer (some ⟨g,off,none⟩))) (ht:OneT P ty) (hw:Region.wanted o (yielded ops a.tmps)=true)
  {i:Nat} {t:TypeId} {cs:List Value} (hi:M[i]?=some (.blk g t cs)) {v:Value} (hv:cs[off]?=some v)
  (h:wpList P ops Q rest (a.put o.dst v) w):wpList P ops Q (o::rest) a w:=by
 replace hx:=look_eval hx
 refine a2c hw fun K hK=>?_
 have hb:=hF.bkAt hi
 unfold Oper.wp execOp
 simp only [ho,hx,Instr.loadAt,Instr.sureAddr,Sem.run_bind,Sem.run_pure,Result.andThen_ok,b4g ht (hb.cell_of off v hv)]
 exact hK _ _ h
theorem f7a {ty:TypeId} {x:Operand} (ho:o.op = .load ty x) (hF:St w0 D0 w M D) {g:Nat} (hx:a1b a x=some (.pointer (some ⟨g,0,none⟩))) (hw:Region.wanted o (yielded ops a.tmps)=true)
  {i:Nat} {t:TypeId} {cs:List Value} (hi:M[i]?=some (.blk g t cs)) (ht:RowTy P ty cs.length) {v:Value} (hv : .agg cs.toArray=v)
  (h:wpList P ops Q rest (a.put o.dst v) w):wpList P ops Q (o::rest) a w:=by
 replace hx:=look_eval hx
 exact wpList_load_bk hw ty x ho g hx t cs v hv.symm (hF.bkAt hi) ht h
theorem f7b {ty:TypeId} {x:Operand} (ho:o.op = .load ty x) (hF:St w0 D0 w M D) {g off:Nat} (hx:a1b a x=some (.pointer (some ⟨g,off,none⟩))) (hw:Region.wanted o (yielded ops a.tmps)=true)
  {i:Nat} {t:TypeId} {cs:List Value} (hi:M[i]?=some (.blk g t cs)) (us:List Value) (ht:RowTy P ty us.length) (hu:∀ j u,us[j]?=some u→cs[off+j]?=some u) {v:Value} (hv : .agg us.toArray=v)
  (h:wpList P ops Q rest (a.put o.dst v) w):wpList P ops Q (o::rest) a w:=by
 replace hx:=look_eval hx
 exact wpList_load_elem hw ty x ho g off hx us v hv.symm (fun j u hj=>((hF.bkAt hi).cell (off+j)).trans (hu j u hj)) ht h
theorem f7c {ty:TypeId} {x y:Operand} (ho:o.op = .store ty x y) (hF:St w0 D0 w M D) {g off:Nat} (hx:a1b a x=some (.pointer (some ⟨g,off,none⟩))) {v:Value} (hy:a1b a y=some v) (ht:OneT P ty) (hw:Region.wanted o (yielded ops a.tmps)=true)
  {i:Nat} {t:TypeId} {cs:List Value} (hi:M[i]?=some (.blk g t cs)) (hoff:off<cs.length) (h1:v.oneCell'=true) {M':List Mu} (hM:M.set i (.blk g t (cs.set off v))=M')
  (h:∀ w',St w0 D0 w' M' D→wpList P ops Q rest (a.put o.dst undef) w'):wpList P ops Q (o::rest) a w:=by
 replace hx:=look_eval hx
 subst hM
 replace hy:=look_eval hy
 have hb:=hF.bkAt hi
 have hge:w0.heap.size≤g:=(hF.mu i _ hi).2
 have hg:w.grownBy (w.setCell ⟨g,off,none⟩ v) (some g):=⟨rfl,rfl,rfl,by simp [World.setCell],fun k hk hne=>Below.heap_setCell w _ v k (fun e=>hne (by rw [e]))⟩
 have hF':=hF.upd i _ (.blk g t (cs.set off v)) hi hg ⟨hb.set_ off v,hge⟩ fun g' hg'=>.inl hg'
 refine a2c hw fun K hK=>?_
 have hk:=hK _ _ (h _ hF')
 have hc:w.cell? ⟨g,off,none⟩=some cs[off]:=(hb.cell off).trans (List.getElem?_eq_getElem hoff)
 unfold Oper.wp execOp
 simp only [ho,hx,hy,Instr.storeAt,Instr.sureAddr,Sem.run_bind,Sem.run_pure,Result.andThen_ok,c3k ht hc (hb.frozen hoff) h1]
 exact hk
theorem c9n {ty:TypeId} {x y:Operand} (ho:o.op = .store ty x y) (hF:St w0 D0 w M D) {g off:Nat} (hx:a1b a x=some (.pointer (some ⟨g,off,none⟩))) (us:List Value) (hy:a1b a y=some (.agg us.toArray)) (hw:Region.wanted o (yielded ops a.tmps)=true)
  {i:Nat} {t:TypeId} {cs:List Value} (hi:M[i]?=some (.blk g t cs)) (hfit:off+us.length≤cs.length) (ht:RowTy P ty us.length) (h1:∀ u∈us,u.oneCell'=true) {M':List Mu} (hM:M.set i (.blk g t (spl cs off us))=M')
  (h:∀ w',St w0 D0 w' M' D→wpList P ops Q rest (a.put o.dst undef) w'):wpList P ops Q (o::rest) a w:=by
 replace hx:=look_eval hx
 replace hy:=look_eval hy
 subst hM
 have hb:=hF.bkAt hi
 have hge:w0.heap.size≤g:=(hF.mu i _ hi).2
 refine c3f hw ty x y ho g off us hx hy t cs hb hfit ht h1 fun w' hk hs ho' hbe=>h w' ?_
 have h0:=hF.bel
 have hb':=hbe _ h0 hge
 exact hF.upd i _ _ hi ⟨hb'.os.trans h0.os.symm,hb'.tape.trans h0.tape.symm,hb'.output.trans h0.output.symm,by omega,fun k _ hne=>ho' k (fun e=>hne (by rw [e];rfl))⟩ ⟨hk,hge⟩ fun g' hg'=>.inl hg'
theorem f7d {ty:TypeId} {x y:Operand} (ho:o.op = .store ty x y) (hF:St w0 D0 w M D) {g:Nat} (hx:a1b a x=some (.pointer (some ⟨g,0,none⟩))) (us:List Value) (hy:a1b a y=some (.agg us.toArray)) (hw:Region.wanted o (yielded ops a.tmps)=true)
  {i:Nat} {t:TypeId} {cs:List Value} (hi:M[i]?=some (.blk g t cs)) (hfit:us.length=cs.length) (ht:RowTy P ty us.length) (h1:∀ u∈us,u.oneCell'=true) {M':List Mu} (hM:M.set i (.blk g t us)=M')
  (h:∀ w',St w0 D0 w' M' D→wpList P ops Q rest (a.put o.dst undef) w'):wpList P ops Q (o::rest) a w:=by
 exact c9n ho hF hx us hy hw hi (by omega) ht h1 (by rw [c3e cs us hfit];exact hM) h
theorem f7e {ty:TypeId} {x:Operand} (ho:o.op = .load ty x) (hF:St w0 D0 w M D) {g off:Nat} (hx:a1b a x=some (.pointer (some ⟨g,off,none⟩))) (ht:OneT P ty) (hw:Region.wanted o (yielded ops a.tmps)=true)
  {i n c:Nat} {e:TypeId} {sz:Nat} {xs:List Value} (hi:M[i]?=some (.own (.slice (some ⟨g,0,none⟩) n c) e sz n xs)) {v:Value} (hv:xs[off]?=some v)
  (h:wpList P ops Q rest (a.put o.dst v) w):wpList P ops Q (o::rest) a w:=by
 replace hx:=look_eval hx
 refine a2c hw fun K hK=>?_
 unfold Oper.wp execOp
 simp only [ho,hx,Instr.loadAt,Instr.sureAddr,Sem.run_bind,Sem.run_pure,Result.andThen_ok,b4g ht (hF.ownCell hi off v hv)]
 exact hK _ _ h
theorem f7f {ty:TypeId} {x y:Operand} (ho:o.op = .store ty x y) (hF:St w0 D0 w M D) {g off:Nat} (hx:a1b a x=some (.pointer (some ⟨g,off,none⟩))) {v:Value} (hy:a1b a y=some v) (ht:OneT P ty) (hw:Region.wanted o (yielded ops a.tmps)=true)
  {i n c:Nat} {e:TypeId} {sz:Nat} {xs:List Value} (hi:M[i]?=some (.own (.slice (some ⟨g,0,none⟩) n c) e sz n xs)) (hoff:off<xs.length) (h1:v.oneCell'=true) {M':List Mu} (hM:M.set i (.own (.slice (some ⟨g,0,none⟩) n c) e sz n (xs.set off v))=M')
  (h:∀ w',St w0 D0 w' M' D→wpList P ops Q rest (a.put o.dst undef) w'):wpList P ops Q (o::rest) a w:=by
 replace hx:=look_eval hx
 subst hM
 replace hy:=look_eval hy
 obtain ⟨hfz,hF'⟩:=hF.ownSet hi off v hoff
 refine a2c hw fun K hK=>?_
 have hk:=hK _ _ (h _ hF')
 have hc:w.cell? ⟨g,off,none⟩=some xs[off]:=hF.ownCell hi off _ (List.getElem?_eq_getElem hoff)
 unfold Oper.wp execOp
 simp only [ho,hx,hy,Instr.storeAt,Instr.sureAddr,Sem.run_bind,Sem.run_pure,Result.andThen_ok,c3k ht hc hfz h1]
 exact hk
theorem f7g {t e:TypeId} {x ix:Operand} (ho:o.op = .indexAddr t x ix) (hF:St w0 D0 w M D) {A:Option Addr} {n c:Nat} (hx:a1b a x=some (.slice A n c)) {k:Nat} {ki:IntKind} (hk:a1b a ix=some (.int ki (k:Int)))
  {z:Value} {sz bytes:Nat} (ht:SlT P t e z sz bytes) (hw:Region.wanted o (yielded ops a.tmps)=true) {xs:List Value} (hd:a1a sz A n c xs∈D) (hkn:k<n)
  (h:wpList P ops Q rest (a.put o.dst (ept A (k * sz))) w):wpList P ops Q (o::rest) a w:=by
 replace hx:=look_eval hx
 replace hk:=look_eval hk
 obtain ⟨g,f,rfl,_,_⟩:=(hF.rd hd).at_ (by omega)
 refine a2c hw fun K hK=>?_
 obtain ⟨hu,hi,_,_⟩:=ht
 have hs:(sizeOf e).run P w = .ok sz w:=by
  exact b6d
 have hrun:(Instr.indexAt t (.slice (some ⟨g,f,none⟩) n c) (.int ki (k:Int))).run P w = .ok (ept (some ⟨g,f,none⟩) (k * sz)) w:=by
  simp [Instr.indexAt,run_underlying hu,asIntOf,hs,ept,show (k:Int)<(n:Int) by omega]
  intro h;omega
 unfold Oper.wp execOp
 simp only [ho,hx,hk,hrun,Sem.run_bind,Sem.run_pure,Result.andThen_ok]
 exact hK _ _ h
theorem f7h {t e:TypeId} {x ix:Operand} (ho:o.op = .indexAddr t x ix) {g n c:Nat} (hx:a1b a x=some (.slice (some ⟨g,0,none⟩) n c)) {k:Nat} {ki:IntKind} (hk:a1b a ix=some (.int ki (k:Int)))
  {z:Value} {sz bytes:Nat} (ht:SlT P t e z sz bytes) (hw:Region.wanted o (yielded ops a.tmps)=true) (hkn:k<n)
  (h:wpList P ops Q rest (a.put o.dst (.pointer (some ⟨g,k * sz,none⟩))) w):wpList P ops Q (o::rest) a w:=by
 replace hx:=look_eval hx
 replace hk:=look_eval hk
 refine a2c hw fun K hK=>?_
 obtain ⟨hu,hi,_,_⟩:=ht
 have hs:(sizeOf e).run P w = .ok sz w:=by
  exact b6d
 have hrun:(Instr.indexAt t (.slice (some ⟨g,0,none⟩) n c) (.int ki (k:Int))).run P w = .ok (.pointer (some ⟨g,k * sz,none⟩)) w:=by
  simp [Instr.indexAt,run_underlying hu,asIntOf,hs,a4u,show (k:Int)<(n:Int) by omega]
  intro h;omega
 unfold Oper.wp execOp
 simp only [ho,hx,hk,hrun,Sem.run_bind,Sem.run_pure,Result.andThen_ok]
 exact hK _ _ h
theorem b6p {w:World} {s f off:Nat} (ht:FldT P s f off) (ad:Addr):(Instr.fieldAt s (.pointer (some ad)) f).run P w = .ok (.pointer (some (ad.add off))) w:=by
 obtain ⟨fs,fl,n,hu,hf,rfl,hi,hn⟩:=ht
 have hs:(sizeOf fl.type).run P w = .ok n w:=by
  cases hq:P.info? fl.type with
  | none=>simp [hq] at hi
  | some i=>
   have:i.size=n:=by simpa [hq] using hi
   simp [sizeOf,typeInfo,hq,this]
 simp [Instr.fieldAt,run_underlying hu,hf,Instr.sureAddr,fieldPlace,hs,hn]
theorem f7i {s f:Nat} {x:Operand} (ho:o.op = .fieldAddr s x f) {A:Option Addr} {j:Nat} (hx:a1b a x=some (ept A j)) {off:Nat} (ht:FldT P s f off) (hw:Region.wanted o (yielded ops a.tmps)=true) (hF:St w0 D0 w M D)
  {sz n c:Nat} {xs:List Value} (hd:a1a sz A n c xs∈D) (hn:0<n)
  (h:wpList P ops Q rest (a.put o.dst (ept A (j+off))) w):wpList P ops Q (o::rest) a w:=by
 replace hx:=look_eval hx
 obtain ⟨g,f0,rfl,_,_⟩:=(hF.rd hd).at_ hn
 refine a2c hw fun K hK=>?_
 rw [c3h] at h
 simp only [Option.map_some] at h
 unfold Oper.wp execOp
 simp only [ho,hx,ept,Option.map_some,b6p ht,Sem.run_bind,Sem.run_pure,Result.andThen_ok]
 exact hK _ _ h
theorem f7j {s f:Nat} {x:Operand} (ho:o.op = .fieldAddr s x f) {g j:Nat} (hx:a1b a x=some (.pointer (some ⟨g,j,none⟩))) {off:Nat} (ht:FldT P s f off) (hw:Region.wanted o (yielded ops a.tmps)=true)
  (h:wpList P ops Q rest (a.put o.dst (.pointer (some ⟨g,j+off,none⟩))) w):wpList P ops Q (o::rest) a w:=by
 replace hx:=look_eval hx
 refine a2c hw fun K hK=>?_
 unfold Oper.wp execOp
 simp only [ho,hx,b6p ht,a4u,Sem.run_bind,Sem.run_pure,Result.andThen_ok]
 exact hK _ _ h
theorem f7k {ty:TypeId} {x:Operand} (ho:o.op = .load ty x) (hF:St w0 D0 w M D) {A:Option Addr} {j:Nat} (hx:a1b a x=some (ept A j)) (ht:OneT P ty) (hw:Region.wanted o (yielded ops a.tmps)=true)
  {sz n c:Nat} {xs:List Value} (hd:a1a sz A n c xs∈D) {v:Value} (hv:xs[j]?=some v)
  (h:wpList P ops Q rest (a.put o.dst v) w):wpList P ops Q (o::rest) a w:=by
 replace hx:=look_eval hx
 have hr:=hF.rd hd
 have hn:0<n:=by
  have h1:=(List.getElem?_eq_some_iff.1 hv).1
  have h2:=hr.len
  rcases Nat.eq_zero_or_pos n with h0|h0
  ·subst h0;omega
  ·exact h0
 obtain ⟨g,f,rfl,_,hc⟩:=hr.at_ hn
 refine a2c hw fun K hK=>?_
 unfold Oper.wp execOp
 simp only [ho,hx,ept,Option.map_some,a4u,Instr.loadAt,Instr.sureAddr,Sem.run_bind,Sem.run_pure,Result.andThen_ok,b4g ht (hc j v hv)]
 exact hK _ _ h
theorem f7l {ty:TypeId} {x:Operand} (ho:o.op = .load ty x) (hF:St w0 D0 w M D) {A:Option Addr} {j:Nat} (hx:a1b a x=some (ept A j)) (hw:Region.wanted o (yielded ops a.tmps)=true)
  {sz n c:Nat} {xs:List Value} (hd:a1a sz A n c xs∈D) (us:List Value) (hu:∀ i u,us[i]?=some u→xs[j+i]?=some u) (ht:RowTy P ty us.length) (h0:0<us.length) {v:Value} (hv : .agg us.toArray=v)
  (h:wpList P ops Q rest (a.put o.dst v) w):wpList P ops Q (o::rest) a w:=by
 replace hx:=look_eval hx
 have hr:=hF.rd hd
 have hn:0<n:=by
  exact c8n
 obtain ⟨g,f,rfl,_,hc⟩:=hr.at_ hn
 refine wpList_load_elem hw ty x ho g (f+j) (by rw [hx];simp [ept,a4u]) us v hv.symm (fun i u hi=>?_) ht h
 have:=hc (j+i) u (hu i u hi)
 rwa [Nat.add_assoc]
theorem f7m {t e:TypeId} {x y:Operand} (ho:o.op = .slice t x none (some y) none) (hF:St w0 D0 w M D) {A:Option Addr} {n c N:Nat} (hx:a1b a x=some (.slice A n c)) {ki:IntKind} (hy:a1b a y=some (.int ki (N:Int)))
  {z:Value} {sz bytes:Nat} (ht:SlT P t e z sz bytes) (hw:Region.wanted o (yielded ops a.tmps)=true) {xs:List Value} (hd:a1a sz A n c xs∈D) (hN:N≤n)
  (h:St w0 D0 w M (a1a sz A N c (xs.take (N * sz))::D)→wpList P ops Q rest (a.put o.dst (.slice A N c)) w):wpList P ops Q (o::rest) a w:=by
 replace hx:=look_eval hx
 replace hy:=look_eval hy
 have hr:=hF.rd hd
 have hF':=hF.part (a1a sz A N c (xs.take (N * sz))) (hr.to hN) fun g hg=>⟨_,hd,by obtain ⟨hn,p⟩:=hg;exact ⟨by omega,p⟩⟩
 refine a2c hw fun K hK=>?_
 have hk:=hK _ _ (h hF')
 obtain ⟨hu,hi,_,_⟩:=ht
 have hs:(sizeOf e).run P w = .ok sz w:=by
  exact b6d
 have hel:P.elem t=e:=by simp [Program.elem,hu]
 have h1:=run_slice_h (P:=P) (w:=w) t A n c (by rw [hel];exact hu) ki (N:Int) (by omega) (by have:=hr.le;omega)
 have h2:(Instr.sliceAt t (.slice A n c) none (some (.int ki (N:Int))) none).run P w = .ok (.slice A N c) w:=by
  exact c8j
 unfold Oper.wp execOp
 simp only [ho,hx,hy,Option.map_some,Option.map_none,h2,Sem.run_bind,Sem.run_pure,Result.andThen_ok]
 exact hk
theorem St.toPart (hF:St w0 D0 w M D) {sz:Nat} {A:Option Addr} {n c N:Nat} {xs:List Value} (hd:a1a sz A n c xs∈D) (hN:N≤n):St w0 D0 w M (a1a sz A N c (xs.take (N * sz))::D) :=
 hF.part _ ((hF.rd hd).to hN) fun g hg=>⟨_,hd,by obtain ⟨hn,p⟩:=hg;exact ⟨by omega,p⟩⟩
def cutA (A:Option Addr) (k c sz:Nat):Option Addr:=if c=k then A else A.map fun a=>a.add (k * sz)
theorem Rd.cut {w:World} {B sz n c k:Nat} {A:Option Addr} {xs:List Value} (h:Rd w B sz A n c xs) (hk:k≤n):Rd w B sz (cutA A k c sz) (n - k) (c - k) (xs.drop (k * sz)):=by
 have hl:=h.len
 have hc:=h.le
 refine ⟨?_,by omega,by have:=h.mx;omega,fun hn=>?_⟩
 ·rw [List.length_drop,hl,Nat.sub_mul]
 ·obtain ⟨g,f,rfl,hb,hx⟩:=h.at_ (by omega)
  refine ⟨g,f+k * sz,by rw [cutA,if_neg (by omega)];simp [a4u],hb,fun j u hu=>?_⟩
  rw [List.getElem?_drop] at hu
  have:=hx _ u hu
  rwa [Nat.add_assoc]
theorem St.fromPart (hF:St w0 D0 w M D) {sz:Nat} {A:Option Addr} {n c k:Nat} {xs:List Value} (hd:a1a sz A n c xs∈D) (hk:k≤n):St w0 D0 w M (a1a sz (cutA A k c sz) (n - k) (c - k) (xs.drop (k * sz))::D) :=
 hF.part _ ((hF.rd hd).cut hk) fun g hg=>⟨_,hd,by
  obtain ⟨hn,f,s,p⟩:=hg
  refine ⟨by omega,?_⟩
  unfold cutA at p
  split at p
  ·exact ⟨f,s,p⟩
  ·cases A with
   | none=>cases p
   | some ad=>
    obtain ⟨g',f',s'⟩:=ad
    refine ⟨f',s',?_⟩
    simp only [Option.map_some,Option.some.injEq] at p
    unfold Addr.add at p
    split at p
    ·injection p with p;subst p;rfl
    ·injection p with p;subst p;rfl⟩
theorem f7n {t e:TypeId} {x y:Operand} (ho:o.op = .slice t x (some y) none none) (hF:St w0 D0 w M D) {A:Option Addr} {n c k:Nat} (hx:a1b a x=some (.slice A n c)) {ki:IntKind} (hy:a1b a y=some (.int ki (k:Int)))
  {z:Value} {sz bytes:Nat} (ht:SlT P t e z sz bytes) (hw:Region.wanted o (yielded ops a.tmps)=true) {xs:List Value} (hd:a1a sz A n c xs∈D) (hk:k≤n)
  (h:St w0 D0 w M (a1a sz (cutA A k c sz) (n - k) (c - k) (xs.drop (k * sz))::D)→wpList P ops Q rest (a.put o.dst (.slice (cutA A k c sz) (n - k) (c - k))) w):wpList P ops Q (o::rest) a w:=by
 replace hx:=look_eval hx
 replace hy:=look_eval hy
 have hr:=hF.rd hd
 have hF':=hF.part (a1a sz (cutA A k c sz) (n - k) (c - k) (xs.drop (k * sz))) (hr.cut hk) fun g hg=>⟨_,hd,by
  obtain ⟨hn,f,s,p⟩:=hg
  refine ⟨by omega,?_⟩
  unfold cutA at p
  split at p
  ·exact ⟨f,s,p⟩
  ·cases A with
   | none=>cases p
   | some ad=>
    obtain ⟨g',f',s'⟩:=ad
    refine ⟨f',s',?_⟩
    simp only [Option.map_some,Option.some.injEq] at p
    unfold Addr.add at p
    split at p
    ·injection p with p;subst p;rfl
    ·injection p with p;subst p;rfl⟩
 refine a2c hw fun K hK=>?_
 have hk':=hK _ _ (h hF')
 obtain ⟨hu,hi,_,_⟩:=ht
 have hs:(sizeOf e).run P w = .ok sz w:=by
  exact b6d
 have hel:P.elem t=e:=by simp [Program.elem,hu]
 have h1:=run_slice_l (P:=P) (w:=w) t A n c (by rw [hel];exact hu) ki (k:Int) (by omega) (by omega)
 have h2:(Instr.sliceAt t (.slice A n c) (some (.int ki (k:Int))) none none).run P w = .ok (.slice (cutA A k c sz) (n - k) (c - k)) w:=by
  exact c8o
 unfold Oper.wp execOp
 simp only [ho,hx,hy,Option.map_some,Option.map_none,h2,Sem.run_bind,Sem.run_pure,Result.andThen_ok]
 exact hk'
theorem f7o (cs us:List Value) (hl:us.length=cs.length):us.toArray.zipIdx.foldl (fun (x:Array Value) (p:Value × Nat)=>x.setIfInBounds (0+p.2) p.1) cs.toArray=us.toArray:=by
 have key:∀ (r:List Value) (k:Nat) (x:List Value),k+r.length=x.length→(r.zipIdx k).foldl (fun (x:Array Value) (p:Value × Nat)=>x.setIfInBounds (0+p.2) p.1) x.toArray=(x.take k++r).toArray:=by
  intro r
  induction r with
  | nil=>intro k x hk;simp at hk;simp [List.take_of_length_le (Nat.le_of_eq hk.symm)]
  | cons v r ih=>
   intro k x hk
   rw [List.length_cons] at hk
   rw [List.zipIdx_cons,List.foldl_cons]
   simp only [Nat.zero_add,List.setIfInBounds_toArray]
   have:=ih (k+1) (x.set k v) (by simp;omega)
   simp only [Nat.zero_add] at this
   rw [this]
   congr 1
   rw [List.take_set,List.take_succ_eq_append_getElem (by omega),List.set_append_right _ _ (by simp;omega)]
   simp [List.length_take,Nat.min_eq_left (show k≤x.length by omega)]
 have:=key us 0 cs (by omega)
 simpa [← Array.foldl_toList] using this
theorem f7p {w:World} {t e:TypeId} {z:Value} {sz bytes:Nat} (ht:SlT P t e z sz bytes) (v:Value) (us:List Value) (hv:v.cells=us.toArray) (hl:us.length=sz) (hb:sz≤1000) :
  (Instr.buildSlice t 1 #[(0,v)]).run P w = .ok (.slice (some ⟨w.heap.size,0,none⟩) 1 1) (w.alloc (.cells us.toArray e)):=by
 obtain ⟨hu,hi,hz,hp⟩:=ht
 obtain ⟨i,hi1,hz1,hs1,_⟩:=info_parts hi
 have hlen:((Array.range (1 * i.size)).map (z.cells[· % z.cells.size]!)).size=us.length:=by simp [hs1,hl]
 refine run_buildSlice w t e 1 _ us.toArray i z hu hi1 hz1 (by rw [hs1];omega) (by rw [hs1];omega) ?_
 generalize (Array.range (1 * i.size)).map (z.cells[· % z.cells.size]!)=ar at hlen
 have hf:=f7o ar.toList us (by simpa using hlen.symm)
 have hsz:v.cells.size=i.size:=by rw [hv,hs1];simpa using hl
 have hc1:¬ (v.cells.size≠i.size∨0 * i.size+v.cells.size > ar.size):=by
  rw [hlen,hsz,hs1,hl];omega
 simp only [Instr.fill,if_neg hc1,hv,Nat.zero_mul]
 rw [if_neg (by rw [hlen];simp [hs1,hl])]
 simpa using hf
theorem f7q {t e:TypeId} {x:Operand} (ho:o.op = .buildSlice t 1 #[(0,x)]) (hgd:o.guard=none) (hF:St w0 D0 w M D) {z:Value} {sz bytes:Nat} (ht:SlT P t e z sz bytes) {v:Value} (hx:a1b a x=some v) (us:List Value) (hv:v.cells=us.toArray) (hl:us.length=sz) (hb:sz≤1000)
  (h:∀ g w',St w0 D0 w' (.own (.slice (some ⟨g,0,none⟩) 1 1) e sz 1 us::M) D→wpList P ops Q rest (a.put o.dst (.slice (some ⟨g,0,none⟩) 1 1)) w'):wpList P ops Q (o::rest) a w:=by
 refine wpList_plain hgd fun K hK=>?_
 have hF':St w0 D0 (w.alloc (.cells us.toArray e)) (.own (.slice (some ⟨w.heap.size,0,none⟩) 1 1) e sz 1 us::M) D :=
  hF.push _ (a6l (Bel.alloc w _) none) ⟨by rw [hl,Nat.one_mul],.inr ⟨w.heap.size,1,us.toArray,rfl,hF.bel.size,heap_alloc_new w _,Nat.le_refl _,by simp [maxLen],by simp [hl],by rw [List.take_of_length_le (by simp [hl])]⟩⟩ fun g hg=>by simp only [Mu.bl,Value.ownBlock,Option.some.injEq] at hg;omega
 have hk:=hK _ _ (h _ _ hF')
 rw [← look_eval hx] at hv
 unfold Oper.wp execOp
 simp only [ho,List.map_toArray,List.map_cons,List.map_nil,f7p ht _ us hv hl hb,Sem.run_bind,Sem.run_pure,Result.andThen_ok]
 exact hk
theorem f7r {t e:TypeId} (ho:o.op = .buildSlice t 0 #[]) (hgd:o.guard=none) (hF:St w0 D0 w M D) {z:Value} {sz bytes:Nat} (ht:SlT P t e z sz bytes)
  (h:∀ g w',St w0 D0 w' (.own (.slice (some ⟨g,0,none⟩) 0 0) e sz 0 []::M) D→wpList P ops Q rest (a.put o.dst (.slice (some ⟨g,0,none⟩) 0 0)) w'):wpList P ops Q (o::rest) a w:=by
 refine wpList_plain hgd fun K hK=>?_
 have hF':St w0 D0 (w.alloc (.cells #[] e)) (.own (.slice (some ⟨w.heap.size,0,none⟩) 0 0) e sz 0 []::M) D :=
  hF.push _ (a6l (Bel.alloc w _) none) (f5x w w0.heap.size e sz hF.bel.size) fun g hg=>by simp only [Mu.bl,Value.ownBlock,Option.some.injEq] at hg;omega
 have hk:=hK _ _ (h _ _ hF')
 obtain ⟨hu,hi,hz,hp⟩:=ht
 obtain ⟨i,hi1,hz1,hs1,_⟩:=info_parts hi
 have hrun:(Instr.buildSlice t 0 #[]).run P w = .ok (.slice (some ⟨w.heap.size,0,none⟩) 0 0) (w.alloc (.cells #[] e)):=by
  simp [Instr.buildSlice,run_underlying hu,sizeOf,typeInfo,hi1,Instr.fill,newRow]
  rw [show Array.range 0=#[] from by simp]
  simp
 unfold Oper.wp execOp
 simp only [ho,List.map_toArray,List.map_nil,hrun,Sem.run_bind,Sem.run_pure,Result.andThen_ok]
 exact hk
theorem c9o {a b m:Nat} (ho:a<m) (hb:m * b≤140737488355328):Builtin.nextslicecap m a * b≤281474976710656:=growslice_fits ho hb
theorem c9p {w:World} {base:Nat} {t ty e:TypeId} {z:Value} {sz bytes:Nat} (ht:SlT P t e z sz bytes) {v:Value} {n:Nat} {xs:List Value} (hown:w.ownsRow base e sz v n xs)
  {A:Option Addr} {m c B:Nat} {us:List Value} (hr:Rd w B sz A m c us) (h1:∀ u∈us,u.oneCell'=true) (hm:n+m≤9223372036854775807) (hbytes:(n+m) * bytes≤140737488355328) (hbase:base≤w.heap.size) :
  ∃ v' w',(Builtin.append_ #[t,t] ty #[v,.slice A m c]).run P w = .ok v' w'∧w'.ownsRow base e sz v' (n+m) (xs++us)∧w.grownBy w' v.ownBlock∧(∀ g,v'.ownBlock=some g→v.ownBlock=some g∨w.heap.size≤g):=by
 obtain ⟨hu,hinfo,hzs,hsz⟩:=ht
 obtain ⟨i,hi,hz,rfl,rfl⟩:=info_parts hinfo
 cases A with
 | none=>
  have hm0:m=0:=by
   rcases Nat.eq_zero_or_pos m with h0|h0
   ·exact h0
   ·obtain ⟨g,f,e,_⟩:=hr.at_ h0
    cases e
  subst hm0
  obtain rfl:us=[]:=List.eq_nil_of_length_eq_zero (by simpa using hr.len)
  have hrun:(Builtin.append_ #[t,t] ty #[v,.slice none 0 c]).run P w = .ok v w:=by
   rcases hown.2 with ⟨rfl,rfl⟩|⟨g,cap,cur,rfl,_,_,hnc,_⟩
   ·simp [Builtin.append_,run_underlying hu,sizeOf,typeInfo,hi,Builtin.lenOf,Builtin.firstCells]
   ·simp [Builtin.append_,run_underlying hu,sizeOf,typeInfo,hi,Builtin.lenOf,Builtin.firstCells,hnc,storeCells]
  exact ⟨v,w,hrun,by simpa using hown,World.grownBy.refl w _,fun g hg=>.inl hg⟩
 | some ad=>
  have hnews:∀ j u,us[j]?=some u→w.cell? (ad.add j)=some u:=by
   intro j u hj
   have hj':=(List.getElem?_eq_some_iff.1 hj).1
   have hl:=hr.len
   have hm0:0<m:=by
    rcases Nat.eq_zero_or_pos m with h0|h0
    ·subst h0;omega
    ·exact h0
   obtain ⟨g',f',e',_,hc⟩:=hr.at_ hm0
   injection e' with e'
   subst e'
   rw [a4u];exact hc j u hj
  obtain ⟨v',w',hrun,h2,h3,h4⟩:=run_append_own (P:=P) w base t ty e i z i.size i.bytes hu hi hz rfl rfl hzs hsz v n xs hown ad m c us hr.len hnews h1 (by simp only [maxLen];omega) hbytes hbase
  refine ⟨v',w',hrun,h2,h3,?_⟩
  rcases hown.2 with ⟨rfl,rfl⟩|⟨g,cap,cur,rfl,hbg,hg,hnc,hcm,hcs,htake⟩
  ·rcases Nat.eq_zero_or_pos m with h0|h0
   ·subst h0
    have:=h4.2 ⟨rfl,rfl⟩
    subst this
    intro g hg;simp [Value.ownBlock] at hg
   ·have hr2:=run_append_nil (P:=P) w t ty e i z hu hi hz ad m c us hr.len hnews h0 (by omega) (by simp only [Nat.zero_add] at hbytes;omega)
    rw [hrun] at hr2
    injection hr2 with e1 _
    subst e1
    intro g hg
    simp only [Value.ownBlock,Option.some.injEq] at hg
    exact .inr (by omega)
  ·by_cases hroom:n+m≤cap
   ·have hfit:n * i.size+us.length≤cur.size:=by rw [hr.len,hcs,← Nat.add_mul];exact Nat.mul_le_mul_right _ hroom
    have hr2:=run_append_room (P:=P) w t ty e i hu hi g n cap cur hg ad m c us hr.len hnews h1 hroom hfit
    rw [hrun] at hr2
    injection hr2 with e1 _
    subst e1
    intro g' hg'
    exact .inl hg'
   ·have holds:∀ j u,xs[j]?=some u→w.cell? ((⟨g,0,none⟩:Addr).add j)=some u:=hown.cells (g:=g) rfl
    have hr2:=run_append_grow (P:=P) w t ty e i z hu hi hz ⟨g,0,none⟩ n cap xs hown.1 holds ad m c us hr.len hnews (by omega) (by omega) (c9o (by omega) hbytes)
    rw [hrun] at hr2
    injection hr2 with e1 _
    subst e1
    intro g hg
    simp only [Value.ownBlock,Option.some.injEq] at hg
    exact .inr (by omega)
theorem f7s {t e:TypeId} {s x:Operand} (ho:o.op = .call { callee:=.builtin .append,args:=#[s,x],argTypes:=#[t,t] }) (hgd:o.guard=none) (hF:St w0 D0 w M D) {z:Value} {sz bytes:Nat} (ht:SlT P t e z sz bytes)
  {v:Value} (hs:a1b a s=some v) {g m:Nat} (hx:a1b a x=some (.slice (some ⟨g,0,none⟩) m m)) {j:Nat} {us:List Value} (hj:M[j]?=some (.own (.slice (some ⟨g,0,none⟩) m m) e sz m us)) {i:Nat} {n:Nat} {xs:List Value} (hi:M[i]?=some (.own v e sz n xs))
  (h1:∀ u∈us,u.oneCell'=true) (h63:(n+m) * bytes≤140737488355328) (hm:n+m≤9223372036854775807) {M':Value→List Mu} (hM:∀ v',(M.set i (.own v' e sz (n+m) (xs++us))).eraseIdx j=M' v')
  (h:∀ v' w',St w0 D0 w' (M' v') D→wpList P ops Q rest (a.put o.dst v') w'):wpList P ops Q (o::rest) a w:=by
 replace hx:=look_eval hx
 have hr:Rd w w.heap.size sz (some ⟨g,0,none⟩) m m us:=by
  obtain ⟨A,c,e1,hr⟩:=Rd.of_own (hF.ownAt hj)
  injection e1 with e1 _ e2
  subst e1 e2
  exact hr
 obtain ⟨v',w',hrun,hown',hg,hfr⟩:=c9p (ty:=o.type) ht (hF.ownAt hi) hr h1 hm h63 hF.bel.size
 have hF':=(hF.upd i _ (.own v' e sz (n+m) (xs++us)) hi hg hown' hfr).drop j
 exact c8i
theorem f7t {t e:TypeId} {s x:Operand} (ho:o.op = .call { callee:=.builtin .append,args:=#[s,x],argTypes:=#[t,t] }) (hgd:o.guard=none) (hF:St w0 D0 w M D) {z:Value} {sz bytes:Nat} (ht:SlT P t e z sz bytes)
  {v:Value} (hs:a1b a s=some v) {A:Option Addr} {m c:Nat} (hx:a1b a x=some (.slice A m c)) {us:List Value} (hd:a1a sz A m c us∈D) {i:Nat} {n:Nat} {xs:List Value} (hi:M[i]?=some (.own v e sz n xs))
  (h1:∀ u∈us,u.oneCell'=true) (h63:(n+m) * bytes≤140737488355328) (hm:n+m≤9223372036854775807) {M':Value→List Mu} (hM:∀ v',M.set i (.own v' e sz (n+m) (xs++us))=M' v')
  (h:∀ v' w',St w0 D0 w' (M' v') D→wpList P ops Q rest (a.put o.dst v') w'):wpList P ops Q (o::rest) a w:=by
 replace hx:=look_eval hx
 obtain ⟨v',w',hrun,hown',hg,hfr⟩:=c9p (ty:=o.type) ht (hF.ownAt hi) (hF.rd hd) h1 hm h63 hF.bel.size
 have hF':=hF.upd i _ (.own v' e sz (n+m) (xs++us)) hi hg hown' hfr
 exact c8i
theorem st_make0 {t e:TypeId} {l c:Operand} (ho:o.op = .makeSlice t l c) (hgd:o.guard=none) (hF:St w0 D0 w M D) {z:Value} {sz bytes:Nat} (ht:SlT P t e z sz bytes) {kl kc:IntKind} (hl:a1b a l=some (.int kl 0)) {N:Int} (hc:a1b a c=some (.int kc N))
  (n:Nat) (hN:N=(n:Int)) (hb:bytes * n≤281474976710656) (hm:n≤maxLen)
  (h:∀ g w',St w0 D0 w' (.own (.slice (some ⟨g,0,none⟩) 0 n) e sz 0 []::M) D→wpList P ops Q rest (a.put o.dst (.slice (some ⟨g,0,none⟩) 0 n)) w'):wpList P ops Q (o::rest) a w:=by
 replace hl:=look_eval hl
 replace hc:=look_eval hc
 obtain ⟨hu,hinfo,hzs,hsz⟩:=ht
 obtain ⟨i,hi,hz,hs1,rfl⟩:=info_parts hinfo
 refine wpList_make_own w hgd l c t ho w0.heap.size e i z sz hu hi hz hs1 kl kc N n hl hc hN hb hm hF.bel.size ?_
 intro w' hown hg
 exact h _ _ (hF.push _ hg hown fun g hg=>by simp only [Mu.bl,Value.ownBlock,Option.some.injEq] at hg;omega)
theorem st_make {t e:TypeId} {l c:Operand} (ho:o.op = .makeSlice t l c) (hgd:o.guard=none) (hF:St w0 D0 w M D) {z:Value} {sz bytes:Nat} (ht:SlT P t e z sz bytes) {kl kc:IntKind} {L N:Int} (hl:a1b a l=some (.int kl L)) (hc:a1b a c=some (.int kc N))
  (n:Nat) (hL:L=(n:Int)) (hN:N=(n:Int)) (hb:bytes * n≤281474976710656) (hm:n≤maxLen) {zs:List Value} (he:(madeCells z.cells (n * sz)).toList=zs)
  (h:∀ g w',St w0 D0 w' (.blk g e zs::M) D→wpList P ops Q rest (a.put o.dst (.slice (some ⟨g,0,none⟩) n n)) w'):wpList P ops Q (o::rest) a w:=by
 replace hl:=look_eval hl
 replace hc:=look_eval hc
 obtain ⟨hu,hinfo,hzz,hsz⟩:=ht
 obtain ⟨i,hi,hz,hs1,rfl⟩:=info_parts hinfo
 refine wpList_make_full w hgd l c t ho w0.heap.size e i z sz hu hi hz hs1 kl kc L N n hl hc hL hN hb hm hF.bel.size ?_
 intro w' hown hg
 have hbk:=Bk.of_own hown rfl
 rw [he] at hbk
 exact h _ _ (hF.push _ hg ⟨hbk,hF.bel.size⟩ fun g hg=>by simp only [Mu.bl,Option.some.injEq] at hg;omega)
theorem c9q {t e:TypeId} {d s:Operand} (ho:o.op = .call { callee:=.builtin .copy,args:=#[d,s],argTypes:=#[t,t] }) (hgd:o.guard=none) (hF:St w0 D0 w M D) {z:Value} {sz bytes:Nat} (ht:SlT P t e z sz bytes)
  {g n cd:Nat} (hx:a1b a d=some (.slice (some ⟨g,0,none⟩) n cd)) {A:Option Addr} {c:Nat} (hy:a1b a s=some (.slice A n c)) {us:List Value} (hd:a1a sz A n c us∈D) {i:Nat} {t':TypeId} {cs:List Value} (hi:M[i]?=some (.blk g t' cs))
  (hl:cs.length=n * sz) (h1:∀ u∈us,u.oneCell'=true) {M':List Mu} (hM:M.set i (.blk g t' us)=M')
  (h:∀ w',St w0 D0 w' M' D→wpList P ops Q rest (a.put o.dst (goInt (n:Nat))) w'):wpList P ops Q (o::rest) a w:=by
 replace hx:=look_eval hx
 replace hy:=look_eval hy
 subst hM
 obtain ⟨hu,hinfo,hzz,hsz⟩:=ht
 obtain ⟨i0,hi0,hz,hs1,rfl⟩:=info_parts hinfo
 have hr:=hF.rd hd
 refine f6d hgd d s t ho e hu sz (by rw [hi0];simp [hs1]) g 0 n cd A c hx hy w.heap.size us hr h1 t' cs (hF.bkAt hi) (by omega) fun w' hk hg=>h w' ?_
 rw [c3e cs us (by rw [hr.len,hl])] at hk
 exact hF.upd i _ _ hi hg ⟨hk,(hF.mu i _ hi).2⟩ fun g' hg'=>.inl hg'
end
end
section
open Go.RowKit
def a1e (op:Int):Int :=
 if 3≤op∧op≤10 then 5 else if 11≤op∧op≤15 then 3 else if 16≤op∧op≤18 then 4 else if 38≤op∧op≤41 then 1 else if 42≤op∧op≤45 then 2 else if op=47∨op=48 then 6 else 0
theorem f7u (op:Int):(op<3∧a1e op=0∧(op == 47)=false∧(op == 48)=false)∨(3≤op∧op≤10∧a1e op=5)∨(11≤op∧op≤15∧a1e op=3)∨(16≤op∧op≤18∧a1e op=4)∨(19≤op∧op≤37∧a1e op=0∧(op == 47)=false∧(op == 48)=false) ∨
  (38≤op∧op≤41∧a1e op=1)∨(42≤op∧op≤45∧a1e op=2)∨(op=46∧a1e op=0)∨(op=47∧a1e op=6)∨(op=48∧a1e op=6)∨(49≤op∧a1e op=0∧(op == 47)=false∧(op == 48)=false):=by
 have key:∀ a b:Int,a≠b→(a == b)=false:=fun a b h=>by simpa using h
 by_cases h1:op<3
 ·exact .inl ⟨h1,by unfold a1e;repeat rw [if_neg (by omega)],key _ _ (by omega),key _ _ (by omega)⟩
 refine .inr ?_
 by_cases h2:op≤10
 ·exact .inl ⟨by omega,h2,by unfold a1e;rw [if_pos (by omega)]⟩
 refine .inr ?_
 by_cases h3:op≤15
 ·exact .inl ⟨by omega,h3,by unfold a1e;rw [if_neg (by omega),if_pos (by omega)]⟩
 refine .inr ?_
 by_cases h4:op≤18
 ·exact .inl ⟨by omega,h4,by unfold a1e;rw [if_neg (by omega),if_neg (by omega),if_pos (by omega)]⟩
 refine .inr ?_
 by_cases h5:op≤37
 ·exact .inl ⟨by omega,h5,by unfold a1e;repeat rw [if_neg (by omega)],key _ _ (by omega),key _ _ (by omega)⟩
 refine .inr ?_
 by_cases h6:op≤41
 ·exact .inl ⟨by omega,h6,by unfold a1e;rw [if_neg (by omega),if_neg (by omega),if_neg (by omega),if_pos (by omega)]⟩
 refine .inr ?_
 by_cases h7:op≤45
 ·exact .inl ⟨by omega,h7,by unfold a1e;rw [if_neg (by omega),if_neg (by omega),if_neg (by omega),if_neg (by omega),if_pos (by omega)]⟩
 refine .inr ?_
 by_cases h8:op=46
 ·exact .inl ⟨h8,by unfold a1e;repeat rw [if_neg (by omega)]⟩
 refine .inr ?_
 by_cases h9:op=47
 ·exact .inl ⟨h9,by subst h9;rfl⟩
 refine .inr ?_
 by_cases h10:op=48
 ·exact .inl ⟨h10,by subst h10;rfl⟩
 exact .inr ⟨by omega,by unfold a1e;repeat rw [if_neg (by omega)],key _ _ (by omega),key _ _ (by omega)⟩
theorem a2o (i:Ins) (w:World) (hi : -9223372036854775808≤i.op∧i.op≤9223372036854775807) :
  Calls Tryz.prog 39 #[i.val] w fun e w'=>e = .returned (.int .i64 (a1e i.op))∧Bel w w':=by
 obtain ⟨op,rd,rs1,rs2,imm⟩:=i
 simp only at hi ⊢
 unfold Ins.val
 rcases f7u op with ⟨h1,hk,b1,b2⟩|⟨h1,h2,hk⟩|⟨h1,h2,hk⟩|⟨h1,h2,hk⟩|⟨h1,h2,hk,b1,b2⟩|⟨h1,h2,hk⟩|⟨h1,h2,hk⟩|⟨rfl,hk⟩|⟨rfl,hk⟩|⟨rfl,hk⟩|⟨h1,hk,b1,b2⟩
 all_goals
  rw [hk]
  clear hk
  go_enter Tryz.func39,Tryz.ntmps39
  go_wp2
  go_ret
  exact ⟨rfl,Bel.alloc _ _⟩
end
section
open Go.RowKit
def Hold (B:Nat) (Mr:List Mu) (D:List Da) (w:World):Prop:=(∀ m∈Mr,m.ok B w) ∧ ∀ d∈D,d.ok w
theorem St.hold {w0 w:World} {D0 D Dr:List Da} {M Mr:List Mu} (h:St w0 D0 w M D) (hM:∀ m∈Mr,m∈M) (hD:∀ d∈Dr,d∈D):Hold w0.heap.size Mr Dr w :=
 ⟨fun m hm=>by
  obtain ⟨i,hi,e⟩:=List.mem_iff_getElem.1 (hM m hm)
  exact h.mu i m (by rw [List.getElem?_eq_getElem hi,e]),fun d hd=>h.dat d (hD d hd)⟩
section
variable {P:Program} {ops:Array Oper} {Q:Exit→Act→World→Prop} {md:Region.Mode} {S:World→Prop} {a:Act} {o:Oper} {B:Nat} {Mr:List Mu} {Dr:List Da}
theorem a1n {id:Nat} {w w0:World} {D0 D:List Da} {M:List Mu} (hm:P.follows .mixedOrders=true) (hF:St w0 D0 w M D) (Mr:List Mu) (Dr:List Da) (hM:∀ m∈Mr,m∈M) (hD:∀ d∈Dr,d∈D)
  (h:St w0 D0 w.drew M D→Hold w0.heap.size Mr Dr w.drew→wpAnyH P .any ops Q (Hold w0.heap.size Mr Dr) ops.size (Array.replicate ops.size false) a w.drew):(Code.region id ops true).wp P Q a w :=
 wp_region_held hm (h (hF.grow (Bel.drew w)) ((hF.grow (Bel.drew w)).hold hM hD))
theorem Oper.wp_then {w:World} {K:Act→World→Prop} (h:o.wp P a w K (Exit.then K Q)):o.wp P a w K Q:=by
 unfold Oper.wp at *
 generalize (execOp a.eval o).run P w=r at *
 cases r with
 | ok n w'=>
  cases n <;> simp only [Oper.upon] at h ⊢ <;> first|exact h|(exact Calls.mono h (fun e w'' he=>by cases e <;> exact he))
 | halt x w'=>cases x <;> simp only [Oper.upon] at h ⊢ <;> exact h
theorem a2d {fuel:Nat} {listed:Array Bool} {w:World} {i:Nat} {rs:List Nat} (ho:ops.toList[i]?=some o)
  (h:∀ K':Act→World→Prop,Shut (∀ a w,S w→wpAnyH P md ops Q S fuel (listed.setIfInBounds i true) a w→K' a w)→wpList P ops (Exit.then K' Q) [o] a w)
  (hs:AllReadyH P md ops Q S fuel listed a w rs):AllReadyH P md ops Q S fuel listed a w (i::rs):=fun j hj=>by
 rw [Array.getElem?_toList] at ho
 rcases List.mem_cons.1 hj with rfl|hj
 ·have h1:=h (fun a' w'=>S w'∧wpAnyH P md ops Q S fuel (listed.setIfInBounds j true) a' w') (fun a w hS hW=>⟨hS,hW⟩)
  unfold wpOp
  simp only [ho]
  unfold wpList at h1
  split
  ·rename_i hw
   rw [if_pos hw] at h1
   rcases h1 with h1|⟨h1,b,w2,h2⟩
   ·exact .inl (Oper.wp_then h1)
   ·exact .inr ⟨h1,b,w2,h2⟩
  ·rename_i hw
   rw [if_neg hw] at h1
   exact h1
 ·exact hs j hj
theorem f7v {rest:List Oper} {w:World} {x y:Operand} {ts:Array TypeId} (ho:o.op = .call { callee:=.builtin .min,args:=#[x,y],argTypes:=ts }) (hgd:o.guard=none) {k k':IntKind} {p q:Int} (hx:a1b a x=some (.int k p)) (hy:a1b a y=some (.int k' q)) (N:Int) (hN:N=if q<p then q else p)
  (h:wpList P ops Q rest (a.put o.dst (.int k N)) w):wpList P ops Q (o::rest) a w:=f6a hgd x y ts ho k k' p q N (look_eval hx) (look_eval hy) hN h
theorem f7w {rest:List Oper} {w:World} {x y:Operand} {ts:Array TypeId} (ho:o.op = .call { callee:=.builtin .max,args:=#[x,y],argTypes:=ts }) (hgd:o.guard=none) {k k':IntKind} {p q:Int} (hx:a1b a x=some (.int k p)) (hy:a1b a y=some (.int k' q)) (N:Int) (hN:N=if q > p then q else p)
  (h:wpList P ops Q rest (a.put o.dst (.int k N)) w):wpList P ops Q (o::rest) a w:=f6e hgd x y ts ho k k' p q N (look_eval hx) (look_eval hy) hN h
theorem a9c {i t:Nat} {v:Value} {fuel:Nat} {listed:Array Bool} {w:World} (hi:ops.toList[i]?=some o) (hd:o.dst=some t)
  (hs:Region.noSelect ops=true) (hf:Region.free md ops listed i=true) (hr:(Region.ready md ops listed).contains i=true)
  (hQ:∀ c a w,Q (.panic c) (a.put o.dst v) w→Q (.panic c) a w) (hy:YieldsIf P ops S o v a) (hS:S w)
  (h:wpAnyH P md ops Q S fuel (listed.setIfInBounds i true) { a with tmps:=a.tmps.setIfInBounds t v } w):wpAnyH P md ops Q S (fuel+1) listed a w:=by
 rw [Array.getElem?_toList] at hi
 refine wpAnyH_take hi hs hf hr hQ hy hS ?_
 rw [hd]
 exact h
theorem a6t {v v':Value} (h:YieldsIf P ops S o v' a) (e:v'=v):YieldsIf P ops S o v a:=e ▸ h
theorem f7x (hw:Region.wanted o (yielded ops a.tmps)=false):YieldsIf P ops S o undef a:=.inr ⟨hw,rfl⟩
theorem a1u {v:Value} (hw:Region.wanted o (yielded ops a.tmps)=true) (h:∀ w,(execOp a.eval o).run P w = .ok (.value v) w):YieldsIf P ops S o v a:=.inl ⟨hw,fun w _=>h w⟩
theorem f7y {x:Operand} {v:Value} (ho:o.op = .move x) (hx:a1b a x=some v) (hw:Region.wanted o (yielded ops a.tmps)=true):YieldsIf P ops S o v a :=
 a1u hw fun w=>by rw [← look_eval hx];unfold execOp;simp only [ho,Sem.run_pure]
theorem f7z {x:Operand} {v:Value} (ho:o.op = .assign x) (hx:a1b a x=some v) (hw:Region.wanted o (yielded ops a.tmps)=true):YieldsIf P ops S o v a :=
 a1u hw fun w=>by rw [← look_eval hx];unfold execOp;simp only [ho,Sem.run_pure]
theorem f8a {x:Operand} {t e:TypeId} {z:Value} {sz bytes:Nat} {A:Option Addr} {n c:Nat} (ho:o.op = .call { callee:=.builtin .len,args:=#[x],argTypes:=#[t] }) (hx:a1b a x=some (.slice A n c)) (ht:SlT P t e z sz bytes) (hw:Region.wanted o (yielded ops a.tmps)=true):YieldsIf P ops S o (.int .i64 (n:Int)) a:=by
 replace hx:=look_eval hx
 exact a1u hw fun w=>by
  obtain ⟨hu,_,_,_⟩:=ht
  unfold execOp
  simp [ho,resolve,invoke,builtin,hx,Builtin.len_,run_underlying hu,goInt]
theorem f8b {ty:TypeId} {x:Operand} (ho:o.op = .load ty x) {g off:Nat} (hx:a1b a x=some (.pointer (some ⟨g,off,none⟩))) (ht:OneT P ty) (hw:Region.wanted o (yielded ops a.tmps)=true)
  {t:TypeId} {cs:List Value} (hm:Mu.blk g t cs∈Mr) {v:Value} (hv:cs[off]?=some v):YieldsIf P ops (Hold B Mr Dr) o v a:=by
 replace hx:=look_eval hx
 exact .inl ⟨hw,fun w hS=>by
  have hb:(Mu.blk g t cs).ok B w:=hS.1 _ hm
  unfold execOp
  simp only [ho,hx,Instr.loadAt,Instr.sureAddr,Sem.run_bind,Sem.run_pure,Result.andThen_ok,b4g ht (hb.1.cell_of off v hv)]⟩
theorem f8c {ty:TypeId} {x:Operand} (ho:o.op = .load ty x) {g:Nat} (hx:a1b a x=some (.pointer (some ⟨g,0,none⟩))) (hw:Region.wanted o (yielded ops a.tmps)=true)
  {t:TypeId} {cs:List Value} (hm:Mu.blk g t cs∈Mr) (ht:RowTy P ty cs.length):YieldsIf P ops (Hold B Mr Dr) o (.agg cs.toArray) a:=by
 replace hx:=look_eval hx
 exact .inl ⟨hw,fun w hS=>by
  have hb:(Mu.blk g t cs).ok B w:=hS.1 _ hm
  unfold execOp
  simp only [ho,hx,Instr.loadAt,Instr.sureAddr,Sem.run_bind,Sem.run_pure,Result.andThen_ok,hb.1.loadVar ht]⟩
theorem f8d {s f:Nat} {x:Operand} (ho:o.op = .fieldAddr s x f) {g j:Nat} (hx:a1b a x=some (.pointer (some ⟨g,j,none⟩))) {off:Nat} (ht:FldT P s f off) (hw:Region.wanted o (yielded ops a.tmps)=true) :
  YieldsIf P ops S o (.pointer (some ⟨g,j+off,none⟩)) a:=by
 replace hx:=look_eval hx
 exact a1u hw fun w=>by
  unfold execOp
  simp only [ho,hx,b6p ht,a4u,Sem.run_bind,Sem.run_pure,Result.andThen_ok]
theorem b8w {t e:TypeId} {z:Value} {sz bytes:Nat} (ht:SlT P t e z sz bytes) (w:World):P.underlying t=some (.slice e)∧(sizeOf e).run P w = .ok sz w:=by
 obtain ⟨hu,hi,_,_⟩:=ht
 refine ⟨hu,?_⟩
 exact b6d
theorem f8e {t e:TypeId} {x ix:Operand} (ho:o.op = .indexAddr t x ix) {A:Option Addr} {n c:Nat} (hx:a1b a x=some (.slice A n c)) {k:Nat} {ki:IntKind} (hk:a1b a ix=some (.int ki (k:Int)))
  {z:Value} {sz bytes:Nat} (ht:SlT P t e z sz bytes) (hw:Region.wanted o (yielded ops a.tmps)=true) {xs:List Value} (hd:a1a sz A n c xs∈Dr) (hkn:k<n):YieldsIf P ops (Hold B Mr Dr) o (ept A (k * sz)) a:=by
 replace hx:=look_eval hx
 replace hk:=look_eval hk
 exact .inl ⟨hw,fun w hS=>by
  have hr:Rd w w.heap.size sz A n c xs:=hS.2 _ hd
  obtain ⟨g,f,rfl,_,_⟩:=hr.at_ (by omega)
  obtain ⟨hu,hs⟩:=b8w ht w
  have hrun:(Instr.indexAt t (.slice (some ⟨g,f,none⟩) n c) (.int ki (k:Int))).run P w = .ok (ept (some ⟨g,f,none⟩) (k * sz)) w:=by
   simp [Instr.indexAt,run_underlying hu,asIntOf,hs,ept,show (k:Int)<(n:Int) by omega]
   intro h;omega
  unfold execOp
  simp only [ho,hx,hk,hrun,Sem.run_bind,Sem.run_pure,Result.andThen_ok]⟩
theorem f8f {t e:TypeId} {x ix:Operand} (ho:o.op = .indexAddr t x ix) {g n c:Nat} (hx:a1b a x=some (.slice (some ⟨g,0,none⟩) n c)) {k:Nat} {ki:IntKind} (hk:a1b a ix=some (.int ki (k:Int)))
  {z:Value} {sz bytes:Nat} (ht:SlT P t e z sz bytes) (hw:Region.wanted o (yielded ops a.tmps)=true) (hkn:k<n):YieldsIf P ops S o (.pointer (some ⟨g,k * sz,none⟩)) a:=by
 replace hx:=look_eval hx
 replace hk:=look_eval hk
 exact a1u hw fun w=>by
  obtain ⟨hu,hs⟩:=b8w ht w
  have hrun:(Instr.indexAt t (.slice (some ⟨g,0,none⟩) n c) (.int ki (k:Int))).run P w = .ok (.pointer (some ⟨g,k * sz,none⟩)) w:=by
   simp [Instr.indexAt,run_underlying hu,asIntOf,hs,a4u,show (k:Int)<(n:Int) by omega]
   intro h;omega
  unfold execOp
  simp only [ho,hx,hk,hrun,Sem.run_bind,Sem.run_pure,Result.andThen_ok]
theorem f8g {s f:Nat} {x:Operand} (ho:o.op = .fieldAddr s x f) {A:Option Addr} {j:Nat} (hx:a1b a x=some (ept A j)) {off:Nat} (ht:FldT P s f off) (hw:Region.wanted o (yielded ops a.tmps)=true)
  {sz n c:Nat} {xs:List Value} (hd:a1a sz A n c xs∈Dr) (hn:0<n):YieldsIf P ops (Hold B Mr Dr) o (ept A (j+off)) a:=by
 replace hx:=look_eval hx
 exact .inl ⟨hw,fun w hS=>by
  have hr:Rd w w.heap.size sz A n c xs:=hS.2 _ hd
  obtain ⟨g,f0,rfl,_,_⟩:=hr.at_ hn
  rw [c3h]
  unfold execOp
  simp only [ho,hx,ept,Option.map_some,b6p ht,Sem.run_bind,Sem.run_pure,Result.andThen_ok]⟩
theorem f8h {ty:TypeId} {x:Operand} (ho:o.op = .load ty x) {A:Option Addr} {j:Nat} (hx:a1b a x=some (ept A j)) (ht:OneT P ty) (hw:Region.wanted o (yielded ops a.tmps)=true)
  {sz n c:Nat} {xs:List Value} (hd:a1a sz A n c xs∈Dr) {v:Value} (hv:xs[j]?=some v):YieldsIf P ops (Hold B Mr Dr) o v a:=by
 replace hx:=look_eval hx
 exact .inl ⟨hw,fun w hS=>by
  have hr:Rd w w.heap.size sz A n c xs:=hS.2 _ hd
  have hn:0<n:=by
   have h1:=(List.getElem?_eq_some_iff.1 hv).1
   have h2:=hr.len
   rcases Nat.eq_zero_or_pos n with h0|h0
   ·subst h0;omega
   ·exact h0
  obtain ⟨g,f,rfl,_,hc⟩:=hr.at_ hn
  unfold execOp
  simp only [ho,hx,ept,Option.map_some,a4u,Instr.loadAt,Instr.sureAddr,Sem.run_bind,Sem.run_pure,Result.andThen_ok,b4g ht (hc j v hv)]⟩
theorem f8i {ty:TypeId} {x:Operand} (ho:o.op = .load ty x) {A:Option Addr} {j:Nat} (hx:a1b a x=some (ept A j)) (hw:Region.wanted o (yielded ops a.tmps)=true)
  {sz n c:Nat} {xs:List Value} (hd:a1a sz A n c xs∈Dr) (us:List Value) (hu:∀ i u,us[i]?=some u→xs[j+i]?=some u) (ht:RowTy P ty us.length) (h0:0<us.length):YieldsIf P ops (Hold B Mr Dr) o (.agg us.toArray) a:=by
 replace hx:=look_eval hx
 exact .inl ⟨hw,fun w hS=>by
  have hr:Rd w w.heap.size sz A n c xs:=hS.2 _ hd
  have hn:0<n:=by
   exact c8n
  obtain ⟨g,f,rfl,_,hc⟩:=hr.at_ hn
  have hl:=b8q (P:=P) w g (f+j) ty us (fun i u hi=>by rw [Nat.add_assoc];exact hc (j+i) u (hu i u hi)) ht
  unfold execOp
  simp only [ho,hx,ept,Option.map_some,a4u,Instr.loadAt,Instr.sureAddr,Sem.run_bind,Sem.run_pure,Result.andThen_ok,hl]⟩
theorem f8j {t e:TypeId} {x y:Operand} (ho:o.op = .slice t x none (some y) none) {A:Option Addr} {n c N:Nat} (hx:a1b a x=some (.slice A n c)) {ki:IntKind} (hy:a1b a y=some (.int ki (N:Int)))
  {z:Value} {sz bytes:Nat} (ht:SlT P t e z sz bytes) (hw:Region.wanted o (yielded ops a.tmps)=true) (hN:N≤c):YieldsIf P ops S o (.slice A N c) a:=by
 replace hx:=look_eval hx
 replace hy:=look_eval hy
 exact a1u hw fun w=>by
  obtain ⟨hu,hs⟩:=b8w ht w
  have hel:P.elem t=e:=by simp [Program.elem,hu]
  have h1:=run_slice_h (P:=P) (w:=w) t A n c (by rw [hel];exact hu) ki (N:Int) (by omega) (by omega)
  have h2:(Instr.sliceAt t (.slice A n c) none (some (.int ki (N:Int))) none).run P w = .ok (.slice A N c) w:=by
   exact c8j
  unfold execOp
  simp only [ho,hx,hy,Option.map_some,Option.map_none,h2,Sem.run_bind,Sem.run_pure,Result.andThen_ok]
theorem f8k {t e:TypeId} {x y:Operand} (ho:o.op = .slice t x (some y) none none) {A:Option Addr} {n c k:Nat} (hx:a1b a x=some (.slice A n c)) {ki:IntKind} (hy:a1b a y=some (.int ki (k:Int)))
  {z:Value} {sz bytes:Nat} (ht:SlT P t e z sz bytes) (hw:Region.wanted o (yielded ops a.tmps)=true) (hk:k≤n):YieldsIf P ops S o (.slice (cutA A k c sz) (n - k) (c - k)) a:=by
 replace hx:=look_eval hx
 replace hy:=look_eval hy
 exact a1u hw fun w=>by
  obtain ⟨hu,hs⟩:=b8w ht w
  have hel:P.elem t=e:=by simp [Program.elem,hu]
  have h1:=run_slice_l (P:=P) (w:=w) t A n c (by rw [hel];exact hu) ki (k:Int) (by omega) (by omega)
  have h2:(Instr.sliceAt t (.slice A n c) (some (.int ki (k:Int))) none none).run P w = .ok (.slice (cutA A k c sz) (n - k) (c - k)) w:=by
   exact c8o
  unfold execOp
  simp only [ho,hx,hy,Option.map_some,Option.map_none,h2,Sem.run_bind,Sem.run_pure,Result.andThen_ok]
end
end
section
open Go.RowKit
theorem Hold.next {B:Nat} {Mr:List Mu} {Dr:List Da} {w w0 w':World} {D0 D:List Da} {M:List Mu} (_h:Hold B Mr Dr w) (hF:St w0 D0 w' M D) (hM:∀ m∈Mr,m∈M) (hD:∀ d∈Dr,d∈D) (hB:B=w0.heap.size):Hold B Mr Dr w':=by
 subst hB
 exact hF.hold hM hD
end
section
open Go.RowKit
section
variable {w0 w:World} {D0 D:List Da} {M:List Mu} {g1 g2 g3 g4 g5 g6 g7 g8:Nat} {t1 t2 t3 t4 t5 t6 t7 t8:TypeId} {c1 c2 c3 c4 c5 c6 c7 c8:List Value}
theorem St.names1 (h:St w0 D0 w (.blk g1 t1 c1::M) D):∃ a,a=g1:=⟨_,rfl⟩
theorem St.names2 (h:St w0 D0 w (.blk g1 t1 c1 :: .blk g2 t2 c2::M) D):∃ a b,a=g1∧b=g2:=⟨_,_,rfl,rfl⟩
theorem St.names3 (h:St w0 D0 w (.blk g1 t1 c1 :: .blk g2 t2 c2 :: .blk g3 t3 c3::M) D):∃ a b c,a=g1∧b=g2∧c=g3:=⟨_,_,_,rfl,rfl,rfl⟩
theorem St.names4 (h:St w0 D0 w (.blk g1 t1 c1 :: .blk g2 t2 c2 :: .blk g3 t3 c3 :: .blk g4 t4 c4::M) D):∃ a b c d,a=g1∧b=g2∧c=g3∧d=g4:=⟨_,_,_,_,rfl,rfl,rfl,rfl⟩
end
end
end Go.Proofs.YtgnomadgnciifaaGreatDoor
