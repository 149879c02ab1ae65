/- . -/
import Derived.Test.YtgnomadgnciifaaGreatDoorZ1
import Derived.Outline
import Derived.Deep.Cut
import Derived.Laws.Concat
import Derived.Deep.DeepCutAuto
set_option linter.all false
set_option maxRecDepth 100000
set_option maxHeartbeats 16000000
namespace Go.Proofs.YtgnomadgnciifaaGreatDoor
open Go.Proofs.Tryz
section
open Go.RowKit
def af.setRow {a w}(h:af a w){g}(hg:a.heap.size<=g)(cs):af a (w.setRow g cs):=by
 refine ⟨h.os,h.tape,h.output,iG h.size (by rw [size_setRow];exact aM _),λi hi=>?_⟩;rw [setRow_other w g i cs O];exact h.block i hi
def SV : (Tryz.prog.info? 29).map (·.size)=some 32:=by kernel_rfl
def uh {R:Array Value} (h:R.size=32):(Tryz.prog.info? 29).map (·.size)=some R.size:=by rw [h];exact SV
def Kj (w:World) (A B C:Obj):(((w.alloc A).alloc B).alloc C).heap[w.heap.size]?=some A:=by
 rw [Below.heap_alloc _ C _ eX,Below.heap_alloc _ B _ aF];exact qW w A
def x8 (w:World) (A B C:Obj):(((w.alloc A).alloc B).alloc C).heap[w.heap.size+1+1]?=some C:=by
 have:=qW ((w.alloc A).alloc B) C;simpa using this
def KA (l):(ai l).toArray.all (·.oneCell')=true:=by
 rw [Ny];intro u hu;simp only [ai,List.mem_toArray,fQ] at hu;obtain ⟨x,_,rfl⟩:=hu;rfl
def W4 {l:List Nat} (hl:l.length=32) (k:Nat) (u:Value):((ai l).set k u).toArray.size=32:=by simp [lY,hl]
def g7v {l}(hl:l.length=32):(ai l).toArray.size=32:=by simp [lY,hl]
def X0 {l:List Nat} (k x:Nat):((ai l).set k (U (x:Int))).toArray.all (·.oneCell')=true:=by rw [Ht];exact KA _
def XK (l)(s:Stp)(w)(hl:l.length=32)(h1:1<=s.rd)(h2:s.rd<=31)(h3:s.halt=0):Ca 73 #[.agg (ai l).toArray,s.val] w (RB w (.agg (ai (l.set s.rd.toNat s.value)).toArray)):=by
 have b3:(s.halt == 0)=true:=by simp [h3]
 have hk:(ai l)[s.rd.toNat]?=some (U ((l[s.rd.toNat]' O:Nat):Int)):=IU O;have SZ:=W4 hl s.rd.toNat (U (s.value:Int));have ONE:=X0 (l:=l) s.rd.toNat s.value;clear h3;unfold Stp.val;go_enter func73,ntmps73;go_upto_region 3 with (fail);go_wp2_with (refine wpList_load_row F 29 (.tmp 2) ax w.heap.size ax 29 _ (0,0) _ (Kj _ _ _ _) underlying29 F (uh SZ) ?_;refine wpList_store_row F 29 (.tmp 4) (.tmp 23) ax (w.heap.size+1+1) _ ax ax 29 _ (x8 _ _ _ _) (uh SZ) SZ.symm ONE ?_);refine bc (v:=.agg _) (results_cell_row F _ _ (w.heap.size+1+1) 29 _ (0,0) _ ax (setRow_heap _ _ _ _ _ _ (x8 _ _ _ _)) underlying29 F (uh SZ)) F ⟨?_,?_⟩
 .rw [Ht]
 .exact (((af.alloc w _).trans (af.alloc _ _)).trans (af.alloc _ _)).setRow O _
def g7y (l)(s:Stp)(w)(hl:l.length=32)(h:¬ (1<=s.rd/\s.rd<=31/\s.halt=0)):Ca 73 #[.agg (ai l).toArray,s.val] w (RB w (.agg (ai l).toArray)):=by
 have SZ:=g7v hl;have ONE:=KA l;have key:∀ Q:Prop,(¬ 1<=s.rd->Q)->(1<=s.rd -> ¬ s.rd<=31->Q)->(1<=s.rd->s.rd<=31->(s.halt == 0)=false->Q)->Q:=by
  intro Q a b c;by_cases h1:1<=s.rd
  .by_cases h2:s.rd<=31
   .exact c h1 h2 (by simpa using λh3=>h ⟨h1,h2,h3⟩)
   .exact b h1 h2
  .exact a h1
 clear h;unfold Stp.val;refine key _ (λh1=>?_) (λh1 h2=>?_) (λh1 h2 h3=>?_)
 all_goals
  clear key;go_enter func73,ntmps73;go_upto_region 3 with (fail);go_wp2_with (refine wpList_load_row F 29 (.tmp 2) ax w.heap.size ax 29 _ (0,0) _ (Kj _ _ _ _) underlying29 F (uh SZ) ?_;refine wpList_store_row F 29 (.tmp 4) (.tmp 23) ax (w.heap.size+1+1) _ ax ax 29 _ (x8 _ _ _ _) (uh SZ) SZ.symm ONE ?_);refine bc (v:=.agg _) (results_cell_row F _ _ (w.heap.size+1+1) 29 _ (0,0) _ ax (setRow_heap _ _ _ _ _ _ (x8 _ _ _ _)) underlying29 F (uh SZ)) F ⟨rfl,?_⟩;exact (((af.alloc w _).trans (af.alloc _ _)).trans (af.alloc _ _)).setRow O _
def X6 : bF Tryz.prog 22 3 (I 0) 1 8:=⟨underlying22,by kernel_rfl,rfl,by decide⟩
def P1 : bF Tryz.prog 23 28 (U 0) 1 4:=⟨underlying23,by kernel_rfl,rfl,by decide⟩
def RI : bF Tryz.prog 30 114 (.agg #[U 0,U 0]) 2 8:=⟨underlying30,by kernel_rfl,rfl,by decide⟩
def Sb : bF Tryz.prog 31 54 (.agg #[I 0,U 0,I 0,I 0,I 0,I 0,U 0,U 0,I 0,I 0,U 0,U 0,U 0,I 0,I 0,.bool false,.bool false]) 17 120:=⟨underlying31,by kernel_rfl,rfl,by decide⟩
def tySl_32 : bF Tryz.prog 32 109 (.agg #[U 0,.string ⟨#[]⟩]) 2 24:=⟨underlying32,by kernel_rfl,rfl,by decide⟩
def tySl_33 : bF Tryz.prog 33 99 (.slice none 0 0) 1 24:=⟨underlying33,by kernel_rfl,rfl,by decide⟩
def Z8 : bF Tryz.prog 36 118 (.agg #[I 0,U 0,I 0,.string ⟨#[]⟩]) 4 40:=⟨underlying36,by kernel_rfl,rfl,by decide⟩
def Xa : bF Tryz.prog 37 191 (.agg #[U 0,U 0]) 2 8:=⟨underlying37,by kernel_rfl,rfl,by decide⟩
def tySl_40 : bF Tryz.prog 40 57 (.agg #[U 0,U 0,I 0,U 0,U 0,I 0,.bool false,I 0,I 0]) 9 56:=⟨underlying40,by kernel_rfl,rfl,by decide⟩
def Q9 : bF Tryz.prog 66 92 (.agg #[.slice none 0 0,.slice none 0 0,.slice none 0 0,.slice none 0 0]) 4 96:=⟨underlying66,by kernel_rfl,rfl,by decide⟩
def Vc : bF Tryz.prog 72 42 (.agg #[I 0,I 0,I 0,I 0,I 0,I 0,I 0,I 0,.slice none 0 0,.bool false,.slice none 0 0,.slice none 0 0,I 0,U 0,U 0,U 0,U 0,U 0,U 0,U 0,U 0,U 0,U 0,U 0,U 0,U 0,U 0,U 0,U 0,U 0,U 0,U 0,U 0,U 0,U 0,U 0,U 0,U 0,U 0,U 0,U 0,U 0,U 0,U 0,U 0,U 0,.bool false,.slice none 0 0,.slice none 0 0,I 0,.slice none 0 0,I 0,.slice none 0 0,I 0,.slice none 0 0,.slice none 0 0,I 0,I 0,.string ⟨#[]⟩,.slice none 0 0,U 0,.slice none 0 0,I 0,.slice none 0 0]) 64 576:=⟨underlying72,by kernel_rfl,rfl,by decide⟩
def tySl_99 : bF Tryz.prog 99 101 (.agg #[U 0,.bool false,.string ⟨#[]⟩]) 3 24:=⟨underlying99,by kernel_rfl,rfl,by decide⟩
def tySl_104 : bF Tryz.prog 104 5 (.int .u8 0) 1 1:=⟨underlying104,by kernel_rfl,rfl,by decide⟩
def W6 : bF Tryz.prog 136 4 (.bool false) 1 1:=⟨underlying136,by kernel_rfl,rfl,by decide⟩
def tySl_207 : bF Tryz.prog 207 240 (.agg #[I 0,I 0]) 2 16:=⟨underlying207,by kernel_rfl,rfl,by decide⟩
end
section
open Go.RowKit
inductive km (P:Program) (t:TypeId):Prop
 | mk (hu:P.underlying t=some .string)
inductive pb (P:Program) (t e:TypeId):Prop
 | mk (hu:P.underlying t=some (.slice e)) (he:P.underlying e=some (.int .u8)) (hi:(P.info? e).map (·.size)=some 1)
section
variable {P:Program} {ops:Array Oper} {rest:List Oper} {o:Oper} {a:Act} {Q:Exit->Act->World->Prop} {w0 w:World} {D0 D:List Da} {M:List Mu}
def Xm {src dst e x}(ho:o.op = .convert src dst x)(ig:o.guard=none)(E:St w0 D0 w M D)(hs:km P src)(hd:pb P dst e){s}(hx:ac a x=some (.string s))(hsz:s.size<=maxLen)(h:∀ g cap r w',St w0 D0 w' (.blk g e (ck s.data.toList++r)::M) D->s.size+r.length=cap->cap<=maxLen->wpList P ops Q rest (a.put o.dst (.slice (some ⟨g,0,none⟩) s.size cap)) w'):wpList P ops Q (o::rest) a w:=by
 obtain ⟨hs⟩:=hs;obtain ⟨hu,he,_⟩:=hd;refine Zv ig src dst e x ho hs hu he s (ap hx) hsz λcap w' h1 h2 hk hb hl=>h _ _ _ _ (E.push _ (lV hb none) ⟨hk,E.bel.size⟩ λg hg=>?_) eX h2
 simp only [Mu.bl,dF] at hg;omega
def Ze {src dst e x}(ho:o.op = .convert src dst x)(ig:o.guard=none)(E:St w0 D0 w M D)(hs:pb P src e)(hd:km P dst){g n c}(hx:ac a x=some (.slice (some ⟨g,0,none⟩) n c)){i:Nat}{t l r}(hi:M[i]?=some (.blk g t (ck l++r)))(hn:l.length=n)(hc:n<=c)(hm:c<=maxLen)(h:wpList P ops Q rest (a.put o.dst (.string ⟨l.toArray⟩)) w):wpList P ops Q (o::rest) a w:=by
 obtain ⟨hu,he,_⟩:=hs;obtain ⟨hd⟩:=hd;have hr:=(E.bkAt hi).rd (sz:=1) (n:=n) (c:=c) (o:=0) (by rw [ea,jK];omega) hc hm;rw [rh,dP,GR (by rw [jK];omega),cD (by rw [jK];omega)] at hr;exact rM ig src dst e x ho hu he hd hr (ap hx) h
def Gp {w:World} {t:TypeId} (ht:km P t) (s:ByteArray) (ki:IntKind) (k:Nat) (h:k<=s.size):(Instr.sliceAt t (.string s) none (some (.int ki (k:Int))) none).run P w = .ok (.string (s.extract 0 k)) w:=by
 obtain ⟨ht⟩:=ht;rw [run_sliceAt_string (P:=P) w t _ _ _ _ ht,run_slice_string_h (P:=P) w t s ht ki (k:Int) O O,jt]
def Ly {w:World} {t:TypeId} (ht:km P t) (s:ByteArray) (ki:IntKind) (k:Nat) (h:k<=s.size):(Instr.sliceAt t (.string s) (some (.int ki (k:Int))) none none).run P w = .ok (.string (s.extract k s.size)) w:=by
 obtain ⟨ht⟩:=ht;rw [run_sliceAt_string (P:=P) w t _ _ _ _ ht,run_slice_string_l (P:=P) w t s ht ki (k:Int) O O,jt]
def O' {t:TypeId} {x y:Operand} (ho:o.op = .slice t x none (some y) none) (ht:km P t) {s:ByteArray} (hx:ac a x=some (.string s)) {k:Nat} {ki:IntKind} (hy:ac a y=some (.int ki (k:Int))) (hw:Region.wanted o (yielded ops a.tmps)=true) (hk:k<=s.size)(h:wpList P ops Q rest (a.put o.dst (.string (s.extract 0 k))) w):wpList P ops Q (o::rest) a w:=by
 replace hx:=ap hx;replace hy:=ap hy;refine cI hw λK X=>?_
 unfold Oper.wp execOp;simp only [ho,hx,hy,dB,ma,Gp ht s ki k hk,bC,bL,bG];exact X _ _ h
def Oy {t:TypeId} {x y:Operand} (ho:o.op = .slice t x (some y) none none) (ht:km P t) {s:ByteArray} (hx:ac a x=some (.string s)) {k:Nat} {ki:IntKind} (hy:ac a y=some (.int ki (k:Int))) (hw:Region.wanted o (yielded ops a.tmps)=true) (hk:k<=s.size)(h:wpList P ops Q rest (a.put o.dst (.string (s.extract k s.size))) w):wpList P ops Q (o::rest) a w:=by
 replace hx:=ap hx;replace hy:=ap hy;refine cI hw λK X=>?_
 unfold Oper.wp execOp;simp only [ho,hx,hy,dB,ma,Ly ht s ki k hk,bC,bL,bG];exact X _ _ h
def Xq {SS:World->Prop} {t:TypeId} {x y:Operand} (ho:o.op = .slice t x none (some y) none) (ht:km P t) {s:ByteArray} (hx:ac a x=some (.string s)) {k:Nat} {ki:IntKind} (hy:ac a y=some (.int ki (k:Int))) (hw:Region.wanted o (yielded ops a.tmps)=true) (hk:k<=s.size):YieldsIf P ops SS o (.string (s.extract 0 k)) a:=by
 replace hx:=ap hx;replace hy:=ap hy;exact cg hw λw=>by
  unfold execOp;simp only [ho,hx,hy,dB,ma,Gp ht s ki k hk,bC,bL,bG]
def Qg {SS:World->Prop} {t:TypeId} {x y:Operand} (ho:o.op = .slice t x (some y) none none) (ht:km P t) {s:ByteArray} (hx:ac a x=some (.string s)) {k:Nat} {ki:IntKind} (hy:ac a y=some (.int ki (k:Int))) (hw:Region.wanted o (yielded ops a.tmps)=true) (hk:k<=s.size):YieldsIf P ops SS o (.string (s.extract k s.size)) a:=by
 replace hx:=ap hx;replace hy:=ap hy;exact cg hw λw=>by
  unfold execOp;simp only [ho,hx,hy,dB,ma,Ly ht s ki k hk,bC,bL,bG]
def Z6 {dT sT e d s}(ho:o.op = .call { callee:=.builtin .copy,args:=#[d,s],argTypes:=#[dT,sT] })(ig:o.guard=none)(E:St w0 D0 w M D)(ht:pb P dT e){g off n cd}(hx:ac a d=some (.slice (some ⟨g,off,none⟩) n cd)){str}(hy:ac a s=some (.string str)){i t' cs}(hi:M[i]?=some (.blk g t' cs))(hl:off+n<=cs.length){M'}(hM:M.set i (.blk g t' (spl cs off (ck (str.data.toList.take (min str.size n)))))=M')(h:∀ w',St w0 D0 w' M' D->wpList P ops Q rest (a.put o.dst (goInt (min str.size n:Nat))) w'):wpList P ops Q (o::rest) a w:=by
 replace hx:=ap hx;replace hy:=ap hy;subst hM;obtain ⟨hu,he,hsz⟩:=ht;refine BR ig d s dT sT ho e hu hsz g off n cd str hx hy t' cs (E.bkAt hi) O λw' hk hg=>h w' ?_
 exact E.upd i _ _ hi hg ⟨hk,(E.mu i _ hi).2⟩ λg' aD=>.inl aD
end
def pN (l:List UInt8) (at':Nat) (s:List UInt8):List UInt8:=l.take at'++(s.take (l.length - at'))++l.drop (at'+s.length)
def g8g {l s k}(h:k<=l.length):(pN l k s).length=l.length:=by simp [pN];omega
def Ox {l r k}{str:ByteArray}(h:k<=l.length):spl (ck l++r) k (ck (str.data.toList.take (min str.size (l.length - k))))=ck (pN l k str.data.toList)++r:=by
 have hs:str.data.toList.length=str.size:=by simp
 have ht:(str.data.toList.take (min str.size (l.length - k)))=str.data.toList.take (l.length - k):=by
  rcases sw str.size (l.length - k) with h1|h1
  .rw [kZ h1,cD O,cD O]
  .rw [ze h1]
 rw [ht,qF _ _ _ (by simp [jK];omega),jK,GR (by rw [jK];exact h),cK,hs];have h1:(ck l).take k=ck (l.take k):=by simp [ck,List.map_take]
 rw [h1,pN,sJ,sJ,hs];rcases sw str.size (l.length - k) with h2|h2
 .rw [ze h2,List.drop_append_of_le_length (by rw [jK];omega)]
  simp [ck,List.map_drop]
 .rw [kZ h2,show k+(l.length - k)=l.length by omega,sW (show l.length<=k+str.size by omega)]
  have:(ck l++r).drop l.length=r:=by rw [<- jK l,List.drop_left]
  rw [this];simp [ck]
end
section
open Go.RowKit
def j7o : km Tryz.prog 9:=⟨underlying9⟩
def j7p : km Tryz.prog 10:=⟨underlying10⟩
def j7q : km Tryz.prog 11:=⟨underlying11⟩
def j7r : pb Tryz.prog 104 5:=⟨underlying104,underlying5,by kernel_rfl⟩
def bl (s:ByteArray):List UInt8:=s.data.toList
def gy (s):(bl s).length=s.size:=by simp [bl]
def rI {s t}(h:bl s=bl t):s=t:=by
 obtain ⟨⟨s⟩⟩:=s;obtain ⟨⟨t⟩⟩:=t;simp only [bl] at h;subst h;rfl
def xy (l):bl ⟨l.toArray⟩=l:=by simp [bl]
def oe (m:List UInt8) (p:Pu):List UInt8:=if p.addr<m.length then pN m p.addr (bl p.data) else m
def fq (m:List UInt8) (ps:List Pu):List UInt8:=ps.foldl oe m
def Uo (m p):(oe m p).length=m.length:=by
 unfold oe;split
 .exact g8g O
 .rfl
def xT (m ps):(fq m ps).length=m.length:=by
 induction ps generalizing m with
 | nil=>rfl
 | cons p ps ih=>show (fq (oe m p) ps).length=_;rw [ih,Uo]
def wF (m a b):fq m (a++b)=fq (fq m a) b:=yv
def g8j (m a p):fq m (a++[p])=oe (fq m a) p:=by rw [wF];rfl
def bZ (q:List Rq):List Pu:=(q.filter λr=>decide (r.kind=4)).map λr=>⟨r.line,r.data⟩
def dY (C:List (List Wy)):List Pu:=C.flatten.map λv=>⟨v.line,v.data⟩
def Wy.pu (v:Wy):Pu:=⟨v.line,v.data⟩
def lL (ws:List Wy):List Pu:=ws.map Wy.pu
def uw (p q):bZ (p++q)=bZ p++bZ q:=by simp [bZ]
def XH {q:List Rq}{k r}(h:q[k]?=some r)(h4:r.kind=4):bZ (q.take (k+1))=bZ (q.take k)++[⟨r.line,r.data⟩]:=by
 obtain ⟨hl,e⟩:=aK.1 h;rw [iE hl,uw,e];simp [bZ,h4]
def Rx {q:List Rq}{k r}(h:q[k]?=some r)(h4:¬ r.kind=4):bZ (q.take (k+1))=bZ (q.take k):=by
 obtain ⟨hl,e⟩:=aK.1 h;rw [iE hl,uw,e];simp [bZ,h4]
def Q7 (C D):dY (C++D)=dY C++dY D:=by simp [dY]
def g8n {C:List (List Wy)}{k ws}(h:C[k]?=some ws):dY (C.take (k+1))=dY (C.take k)++lL ws:=by
 obtain ⟨hl,e⟩:=aK.1 h;rw [iE hl,Q7,e];simp [dY,lL,Wy.pu]
def PX {ws:List Wy}{j v}(h:ws[j]?=some v):lL (ws.take (j+1))=lL (ws.take j)++[⟨v.line,v.data⟩]:=by
 obtain ⟨hl,e⟩:=aK.1 h;rw [iE hl,lL,lL,nM,e];rfl
def gp (q:List Rq) (m:List UInt8):List UInt8:=fq m (bZ q)
def Mg (q m):(gp q m).length=m.length:=xT _ _
def dR (m:List UInt8) (x:Nat):List UInt8:=(m.drop (x - x % 16)).take 16
def ef (C:List (List Wy)) (v:Wy):Prop:=∃ (k:Nat) (ws:List Wy) (i:Nat),C[k]?=some ws/\ws[i]?=some v
def rW : Wy:=⟨0,false,⟨#[]⟩⟩
def vX (ws:List Wy) (l:Nat):Option Nat:=ws.findIdx? λv=>decide (v.line=l)
def vu (n k:Nat):List Nat->List Wy->Bool
 | _,[]=>true
 | seen,v::r=>(decide (v.line % 16=0) && decide (v.line / 16 % n=k)) && (decide (v.data.size=0\/v.data.size=16) && !(seen.contains v.line)) && vu n k (v.line::seen) r
def vA (n:Nat) (ways:Int):Nat->List (List Wy)->Bool
 | _,[]=>true
 | k,ws::r=>decide ((ws.length:Int)<=ways) && (vu n k [] ws && vA n ways (k+1) r)
def qC (ways:Int) (C:List (List Wy)):Bool :=
 decide (C.length=1\/C.length=2\/C.length=4) && (decide (ways=1\/ways=2) && vA C.length ways 0 C)
def rf (C:List (List Wy)) (k:Nat):List Wy:=C[k]?.getD []
def jY (ways:Int) (C:List (List Wy)) (x:Nat):Nat × Nat × Bool :=
 if qC ways C=true then
  match vX (rf C (x / 16 % C.length)) (x - x % 16) with
  | some i=>(x / 16 % C.length,i,true)
  | none=>(x / 16 % C.length,0,false)
 else (0,0,false)
def sB (C:List (List Wy)) (k i:Nat):Wy:=(rf C k)[i]?.getD rW
def me (ways:Int) (C:List (List Wy)) (x:Nat):List (List Wy) :=
 let f:=jY ways C x
 if f.2.2=true then C.set f.1 (fG (rf C f.1) f.2.1 (sB C f.1 f.2.1)) else C
def Mk (data:ByteArray):ByteArray:=if data.size=16 then data else ⟨#[]⟩
def oP (ways:Int) (C:List (List Wy)) (x:Nat) (data:ByteArray) (dirty:Bool):List (List Wy) × Wy × Bool :=
 if qC ways C=false then (C,rW,false) else
 let f:=jY ways C x
 let ws:=rf C f.1
 let v:=sB C f.1 f.2.1
 if f.2.2=true then (C.set f.1 (fG ws f.2.1 ⟨v.line,v.dirty || dirty,if data.size=16 then data else v.data⟩),rW,false)
 else if (ws.length:Int)<ways then (C.set f.1 (⟨x - x % 16,dirty,Mk data⟩::ws),rW,false)
 else (C.set f.1 (⟨x - x % 16,dirty,Mk data⟩::ws.take (ws.length - 1)),ws[ws.length - 1]?.getD rW,true)
def g8p (d:ByteArray) (f:Nat) (b:ByteArray):ByteArray:=d.extract 0 f++b++d.extract (f+b.size) d.size
def tR (ways:Int) (C:List (List Wy)) (x:Nat) (b:ByteArray):List (List Wy) × Bool :=
 let f:=jY ways C x
 let v:=sB C f.1 f.2.1
 if f.2.2=true/\v.data.size=16/\x % 16+b.size<=16 then (C.set f.1 (fG (rf C f.1) f.2.1 ⟨v.line,true,g8p v.data (x % 16) b⟩),true) else (C,false)
def pg (ways:Int) (C:List (List Wy)) (x:Nat):List (List Wy) :=
 let f:=jY ways C x
 if f.2.2=true then C.set f.1 ((rf C f.1).set f.2.1 ⟨(sB C f.1 f.2.1).line,false,(sB C f.1 f.2.1).data⟩) else C
def eR (ways:Int) (C:List (List Wy)):Wy × Bool :=
 if qC ways C=true then
  match C.flatten.find? λv=>v.dirty with
  | some v=>(v,true)
  | none=>(rW,false)
 else (rW,false)
def dZ (m:ByteArray) (ps:List Pu):ByteArray:=⟨(fq (bl m) ps).toArray⟩
def xN (m:ByteArray) (x:Nat):ByteArray:=⟨(dR (bl m) x).toArray⟩
def nS (ways:Int) (C:List (List Wy)) (q:List Rq) (m:ByteArray) (x:Nat) (left:Int):List (List Wy) × List Rq × Bool :=
 if qC ways C=false then (C,q,false)
 else if (jY ways C x).2.2=true then (me ways C x,q,false)
 else
  let p:=oP ways C x (xN (dZ m (bZ q)) x) false
  if (p.2.2 && (p.2.1.dirty && decide (p.2.1.data.size≠0)))=true then (p.1,q++[⟨4,p.2.1.line,max left 1,p.2.1.data⟩],true) else (p.1,q,false)
def ff (ways:Int) (ss:List Pu) (C:List (List Wy)):List Pu × List (List Wy) × Bool :=
 match ss with
 | []=>([],C,false)
 | s::r=>if (tR ways C s.addr s.data).2=true then (r,(tR ways C s.addr s.data).1,true) else (s::r,C,false)
def tM {β:Type}:∀ {l:List (Nat × β)} {k:Nat} {v:β},l.lookup k=some v->(k,v)∈l
 | [],_,_,h=>by cases h
 | (a,b)::l,k,v,h=>by
  unfold List.lookup at h;split at h
  .rename_i he
   injection h with h;rw [<- h,eq_of_beq he];exact ej _
  .exact eI _ (tM h)
def qB {α β:Type} {f g:α->β}:∀ {l:List α} {x:α},l.map f=l.map g->x∈l->f x=g x
 | y::l,x,h,hx=>by
  simp only [kg,List.cons.injEq] at h;rcases bB.1 hx with rfl|hx
  .exact h.1
  .exact qB h.2 hx
def Aa (k:Nat) (d:Option TypeDesc):Bool:=match d with
 | some (.struct _)=>k == 1
 | some (.array _ _)=>k == 1
 | some _=>k == 0
 | none=>false
def VO {d:Option TypeDesc} (h:Aa 0 d=true):∃ x,d=some x/\(match x with | .struct _ | .array _ _=>false|_=>true)=true:=by
 cases d with
 | none=>cases h
 | some x=>refine ⟨x,rfl,?_⟩;cases x <;> first|rfl|cases h
def g8r {d:Option TypeDesc} (h:Aa 1 d=true):∃ x,d=some x/\(match x with | .struct _ | .array _ _=>true|_=>false)=true:=by
 cases d with
 | none=>cases h
 | some x=>refine ⟨x,rfl,?_⟩;cases x <;> first|rfl|cases h
def Ec : List Nat:=[2,3,4,5,9,12,21,22,23,28,30,31,32,33,36,37,40,65,66,72,99,104,136,152,181,207]
def RF : Ec.map (λx=>(Aa 0 (Tryz.prog.underlying x),(Tryz.prog.info? x).map (·.size)))=Ec.map (λ_=>(true,some 1)):=by kernel_rfl
def ol (ty:TypeId) (h:Ec.elem ty=true):jD Tryz.prog ty:=by
 have e:=qB RF (List.mem_of_elem_eq_true h);simp only [pf] at e;obtain ⟨x,h1,h2⟩:=VO e.1;refine jD.mk x h1 ?_ e.2;cases x <;> first|rfl|cases h2
def EA : List (Nat × Nat):=[(13,2),(24,11),(25,11),(29,32),(34,2),(35,2),(38,3),(39,3),(41,64),(42,64),(47,35),(48,35),(51,5),(52,5),(53,17),(54,17),(56,9),(57,9),(80,64),(81,64),(91,4),(92,4),(100,3),(101,3),(108,2),(109,2),(113,2),(114,2),(117,4),(118,4),(190,2),(191,2),(210,49),(239,2),(240,2),(258,4),(259,4)]
def Z4 : EA.map (λx=>(Aa 1 (Tryz.prog.underlying x.1),(Tryz.prog.info? x.1).map (·.size)))=EA.map (λx=>(true,some x.2)):=by kernel_rfl
def jo (ty n)(h:EA.lookup ty=some n):cO Tryz.prog ty n:=by
 have e:=qB Z4 (tM h);simp only [pf] at e;obtain ⟨x,h1,h2⟩:=g8r e.1;refine cO.mk x h1 ?_ e.2;cases x <;> first|rfl|cases h2
def Cl : List (Nat × List Value):=[(2,[I 0]),(3,[I 0]),(4,[.bool false]),(5,[.int .u8 0]),(9,[.string ⟨#[]⟩]),(12,[.int .u64 0]),(13,[.string ⟨#[]⟩,.int .u64 0]),(21,[.int .i32 0]),(22,[.slice none 0 0]),(23,[.slice none 0 0]),(24,[I 0,I 0,I 0,I 0,I 0,I 0,I 0,I 0,.slice none 0 0,.bool false,.slice none 0 0]),(25,[I 0,I 0,I 0,I 0,I 0,I 0,I 0,I 0,.slice none 0 0,.bool false,.slice none 0 0]),(28,[U 0]),(29,[U 0,U 0,U 0,U 0,U 0,U 0,U 0,U 0,U 0,U 0,U 0,U 0,U 0,U 0,U 0,U 0,U 0,U 0,U 0,U 0,U 0,U 0,U 0,U 0,U 0,U 0,U 0,U 0,U 0,U 0,U 0,U 0]),(30,[.slice none 0 0]),(31,[.slice none 0 0]),(32,[.slice none 0 0]),(33,[.slice none 0 0]),(34,[I 0,.slice none 0 0]),(35,[I 0,.slice none 0 0]),(36,[.slice none 0 0]),(37,[.slice none 0 0]),(38,[.slice none 0 0,U 0,.slice none 0 0]),(39,[.slice none 0 0,U 0,.slice none 0 0]),(40,[.slice none 0 0]),(41,[I 0,I 0,I 0,I 0,I 0,I 0,I 0,I 0,.slice none 0 0,.bool false,.slice none 0 0,.slice none 0 0,I 0,U 0,U 0,U 0,U 0,U 0,U 0,U 0,U 0,U 0,U 0,U 0,U 0,U 0,U 0,U 0,U 0,U 0,U 0,U 0,U 0,U 0,U 0,U 0,U 0,U 0,U 0,U 0,U 0,U 0,U 0,U 0,U 0,U 0,.bool false,.slice none 0 0,.slice none 0 0,I 0,.slice none 0 0,I 0,.slice none 0 0,I 0,.slice none 0 0,.slice none 0 0,I 0,I 0,.string ⟨#[]⟩,.slice none 0 0,U 0,.slice none 0 0,I 0,.slice none 0 0]),(42,[I 0,I 0,I 0,I 0,I 0,I 0,I 0,I 0,.slice none 0 0,.bool false,.slice none 0 0,.slice none 0 0,I 0,U 0,U 0,U 0,U 0,U 0,U 0,U 0,U 0,U 0,U 0,U 0,U 0,U 0,U 0,U 0,U 0,U 0,U 0,U 0,U 0,U 0,U 0,U 0,U 0,U 0,U 0,U 0,U 0,U 0,U 0,U 0,U 0,U 0,.bool false,.slice none 0 0,.slice none 0 0,I 0,.slice none 0 0,I 0,.slice none 0 0,I 0,.slice none 0 0,.slice none 0 0,I 0,I 0,.string ⟨#[]⟩,.slice none 0 0,U 0,.slice none 0 0,I 0,.slice none 0 0]),(47,[U 0,U 0,U 0,U 0,U 0,U 0,U 0,U 0,U 0,U 0,U 0,U 0,U 0,U 0,U 0,U 0,U 0,U 0,U 0,U 0,U 0,U 0,U 0,U 0,U 0,U 0,U 0,U 0,U 0,U 0,U 0,U 0,U 0,.string ⟨#[]⟩,I 0]),(48,[U 0,U 0,U 0,U 0,U 0,U 0,U 0,U 0,U 0,U 0,U 0,U 0,U 0,U 0,U 0,U 0,U 0,U 0,U 0,U 0,U 0,U 0,U 0,U 0,U 0,U 0,U 0,U 0,U 0,U 0,U 0,U 0,U 0,.string ⟨#[]⟩,I 0]),(51,[I 0,I 0,I 0,I 0,U 0]),(52,[I 0,I 0,I 0,I 0,U 0]),(53,[I 0,U 0,I 0,I 0,I 0,I 0,U 0,U 0,I 0,I 0,U 0,U 0,U 0,I 0,I 0,.bool false,.bool false]),(54,[I 0,U 0,I 0,I 0,I 0,I 0,U 0,U 0,I 0,I 0,U 0,U 0,U 0,I 0,I 0,.bool false,.bool false]),(56,[U 0,U 0,I 0,U 0,U 0,I 0,.bool false,I 0,I 0]),(57,[U 0,U 0,I 0,U 0,U 0,I 0,.bool false,I 0,I 0]),(65,[.int .u64 0]),(66,[.slice none 0 0]),(72,[.slice none 0 0]),(80,[I 0,I 0,I 0,I 0,I 0,I 0,I 0,I 0,.slice none 0 0,.bool false,.slice none 0 0,.slice none 0 0,I 0,U 0,U 0,U 0,U 0,U 0,U 0,U 0,U 0,U 0,U 0,U 0,U 0,U 0,U 0,U 0,U 0,U 0,U 0,U 0,U 0,U 0,U 0,U 0,U 0,U 0,U 0,U 0,U 0,U 0,U 0,U 0,U 0,U 0,.bool false,.slice none 0 0,.slice none 0 0,I 0,.slice none 0 0,I 0,.slice none 0 0,I 0,.slice none 0 0,.slice none 0 0,I 0,I 0,.string ⟨#[]⟩,.slice none 0 0,U 0,.slice none 0 0,I 0,.slice none 0 0]),(81,[I 0,I 0,I 0,I 0,I 0,I 0,I 0,I 0,.slice none 0 0,.bool false,.slice none 0 0,.slice none 0 0,I 0,U 0,U 0,U 0,U 0,U 0,U 0,U 0,U 0,U 0,U 0,U 0,U 0,U 0,U 0,U 0,U 0,U 0,U 0,U 0,U 0,U 0,U 0,U 0,U 0,U 0,U 0,U 0,U 0,U 0,U 0,U 0,U 0,U 0,.bool false,.slice none 0 0,.slice none 0 0,I 0,.slice none 0 0,I 0,.slice none 0 0,I 0,.slice none 0 0,.slice none 0 0,I 0,I 0,.string ⟨#[]⟩,.slice none 0 0,U 0,.slice none 0 0,I 0,.slice none 0 0]),(91,[.slice none 0 0,.slice none 0 0,.slice none 0 0,.slice none 0 0]),(92,[.slice none 0 0,.slice none 0 0,.slice none 0 0,.slice none 0 0]),(99,[.slice none 0 0]),(100,[U 0,.bool false,.string ⟨#[]⟩]),(101,[U 0,.bool false,.string ⟨#[]⟩]),(104,[.slice none 0 0]),(108,[U 0,.string ⟨#[]⟩]),(109,[U 0,.string ⟨#[]⟩]),(113,[U 0,U 0]),(114,[U 0,U 0]),(117,[I 0,U 0,I 0,.string ⟨#[]⟩]),(118,[I 0,U 0,I 0,.string ⟨#[]⟩]),(136,[.slice none 0 0]),(152,[I 0]),(181,[.int .u64 0]),(190,[U 0,U 0]),(191,[U 0,U 0]),(207,[.slice none 0 0]),(210,[U 0,U 0,U 0,U 0,U 0,U 0,U 0,U 0,U 0,U 0,U 0,U 0,U 0,U 0,U 0,U 0,U 0,U 0,U 0,U 0,U 0,U 0,U 0,U 0,U 0,U 0,U 0,U 0,U 0,U 0,U 0,U 0,U 0,U 0,U 0,U 0,U 0,U 0,U 0,U 0,U 0,U 0,U 0,U 0,U 0,U 0,U 0,U 0,U 0]),(239,[I 0,I 0]),(240,[I 0,I 0]),(258,[U 0,I 0,.string ⟨#[]⟩,.bool false]),(259,[U 0,I 0,.string ⟨#[]⟩,.bool false])]
def R9 : Cl.map (λx=>((Tryz.prog.info? x.1).bind (·.zero)).map (·.cells))=Cl.map (λx=>some x.2.toArray):=by kernel_rfl
def Um (ty:Nat) (cs:List Value) (h:Cl.lookup ty=some cs):yT Tryz.prog ty cs:=by
 have e:=qB R9 (tM h);cases hq:Tryz.prog.info? ty with
 | none=>simp [hq] at e
 | some i=>
  cases hz:i.zero with
  | none=>simp [hq,hz] at e
  | some z=>exact ⟨z,by simp [hq,hz],by simpa [hq,hz] using e⟩
def D4 : List (Nat × Nat × Value × Nat × Nat):=[(22,3,I 0,1,8),(23,28,U 0,1,4),(30,114,.agg #[U 0,U 0],2,8),(31,54,.agg #[I 0,U 0,I 0,I 0,I 0,I 0,U 0,U 0,I 0,I 0,U 0,U 0,U 0,I 0,I 0,.bool false,.bool false],17,120),(32,109,.agg #[U 0,.string ⟨#[]⟩],2,24),(33,99,.slice none 0 0,1,24),(36,118,.agg #[I 0,U 0,I 0,.string ⟨#[]⟩],4,40),(37,191,.agg #[U 0,U 0],2,8),(40,57,.agg #[U 0,U 0,I 0,U 0,U 0,I 0,.bool false,I 0,I 0],9,56),(66,92,.agg #[.slice none 0 0,.slice none 0 0,.slice none 0 0,.slice none 0 0],4,96),(72,42,.agg #[I 0,I 0,I 0,I 0,I 0,I 0,I 0,I 0,.slice none 0 0,.bool false,.slice none 0 0,.slice none 0 0,I 0,U 0,U 0,U 0,U 0,U 0,U 0,U 0,U 0,U 0,U 0,U 0,U 0,U 0,U 0,U 0,U 0,U 0,U 0,U 0,U 0,U 0,U 0,U 0,U 0,U 0,U 0,U 0,U 0,U 0,U 0,U 0,U 0,U 0,.bool false,.slice none 0 0,.slice none 0 0,I 0,.slice none 0 0,I 0,.slice none 0 0,I 0,.slice none 0 0,.slice none 0 0,I 0,I 0,.string ⟨#[]⟩,.slice none 0 0,U 0,.slice none 0 0,I 0,.slice none 0 0],64,576),(99,101,.agg #[U 0,.bool false,.string ⟨#[]⟩],3,24),(104,5,.int .u8 0,1,1),(136,4,.bool false,1,1),(207,240,.agg #[I 0,I 0],2,16)]
def P2 : D4.map (λx=>(Tryz.prog.underlying x.1,(Tryz.prog.info? x.2.1).map (λi=>(i.zero,i.size,i.bytes)),x.2.2.1.cells.size,Nat.blt 0 x.2.2.2.1))=D4.map (λx=>(some (.slice x.2.1),some (some x.2.2.1,x.2.2.2.1,x.2.2.2.2),x.2.2.2.1,true)):=by kernel_rfl
def fS (t e z sz bytes)(h:D4.lookup t=some (e,z,sz,bytes)):bF Tryz.prog t e z sz bytes:=by
 have e:=qB P2 (tM h);simp only [pf] at e;exact ⟨e.1,e.2.1,e.2.2.1,ce e.2.2.2⟩
def AG : List (Nat × Nat):=[(2500,0),(2501,1),(2502,2),(2503,3),(2504,4),(2505,5),(2506,6),(2507,7),(2508,8),(2509,9),(2510,10),(3500,0),(3501,1),(3900,0),(3901,1),(3902,2),(4200,0),(4201,11),(4202,12),(4203,13),(4204,45),(4205,46),(4206,47),(4207,48),(4208,49),(4209,50),(4210,51),(4211,53),(4212,55),(4213,56),(4214,57),(4215,58),(4216,59),(4217,62),(4218,63),(4800,0),(4801,1),(4802,33),(4803,34),(5200,0),(5201,1),(5202,2),(5203,3),(5204,4),(5400,0),(5401,1),(5402,2),(5403,7),(5404,8),(5405,9),(5406,10),(5407,11),(5408,12),(5409,13),(5410,14),(5411,15),(5412,16),(5700,0),(5701,1),(5702,2),(5703,3),(5704,4),(5705,5),(5706,6),(5707,7),(5708,8),(8100,0),(9200,0),(9201,1),(9202,2),(9203,3),(10100,0),(10101,1),(10102,2),(10900,0),(10901,1),(11400,0),(11401,1),(11800,0),(11801,1),(11802,2),(11803,3),(19100,0),(19101,1),(24000,0),(24001,1),(25900,0),(25901,1),(25902,2),(25903,3)]
def rE (d:Option TypeDesc) (f:Nat):Option (Nat × Nat):=match d with
 | some (.struct fs)=>fs[f]?.map λx=>(x.offset,x.type)
 | _=>none
def X2 : AG.map (λx=>((rE (Tryz.prog.underlying (x.1 / 100)) (x.1 % 100)).map (·.1),((rE (Tryz.prog.underlying (x.1 / 100)) (x.1 % 100)).bind λy=>(Tryz.prog.info? y.2).map λi=>Nat.blt 0 i.size)))=AG.map (λx=>(some x.2,some true)):=by kernel_rfl
def Qs (q o)(h : AG.lookup q = some o): lD Tryz.prog (q / 100) (q % 100) o := by
  have e := qB X2 (tM h);simp only [pf] at e;obtain ⟨e1, e2⟩ := e;cases hu : Tryz.prog.underlying (q / 100) with
  | none => simp [hu, rE] at e1
  | some d =>
    cases d <;> first
      | (simp [hu, rE] at e1; done)
      | (rename_i fs
         cases hf : fs[q % 100]? with
         | none => simp [hu, rE, hf] at e1
         | some fl =>
           cases hi : Tryz.prog.info? fl.type with
           | none => simp [hu, rE, hf, hi] at e2
           | some i => exact ⟨fs, fl, i.size, hu, hf, by simpa [hu, rE, hf] using e1, by simp [hi], by have : Nat.blt 0 i.size = true := (by simpa [hu, rE, hf, hi] using e2); have := ce this; omega⟩)
def rx (s f o:Nat) (h:AG.lookup (s * 100+f)=some o) (hf:f<100:=by decide):lD Tryz.prog s f o:=by
 have:=Qs (s * 100+f) o h
 rwa [show (s * 100+f) / 100=s by omega,show (s * 100+f) % 100=f by omega] at this
def BC : List Nat:=[9,10,11]
def TD : BC.map (λx=>Tryz.prog.underlying x)=BC.map (λ_=>some .string):=by kernel_rfl
def sf (ty:TypeId) (h:BC.elem ty=true):km Tryz.prog ty:=⟨qB TD (List.mem_of_elem_eq_true h)⟩
def Cx : List (Nat × Nat):=[(104,5)]
def SY : Cx.map (λx=>(Tryz.prog.underlying x.1,Tryz.prog.underlying x.2,(Tryz.prog.info? x.2).map (·.size)))=Cx.map (λx=>(some (.slice x.2),some (.int .u8),some 1)):=by kernel_rfl
def AD (t e)(h:Cx.lookup t=some e):pb Tryz.prog t e:=by
 have e:=qB SY (tM h);simp only [pf] at e;exact ⟨e.1,e.2.1,e.2.2⟩
end
section
open Go.RowKit
def cE {α:Type} {D:List α}:∀ x∈([]:List α),x∈D:=λ_ h=>by cases h
def eZ {α:Type} {d:α} {l D:List α} (h:d∈D) (t:∀ e∈l,e∈D):∀ e∈d::l,e∈D:=λe he=>by
 rcases bB.1 he with rfl|he
 .exact h
 .exact t e he
def lN {α:Type} {l D:List α} (h:∀ e∈l,e∈D:=by ((repeat (refine eZ ?_ ?_;focus (exact au)));exact λd h=>by (repeat (first|exact h|refine eI _ ?_)))):∀ e∈l,e∈D:=h
class mR (v:Value):Prop where
 one:v.oneCell'=true
class gQ (xs:List Value):Prop where
 one:∀ u∈xs,u.oneCell'=true
instance oneInt (k:IntKind) (n:Int):mR (.int k n):=⟨rfl⟩
instance oneBool (b:Bool):mR (.bool b):=⟨rfl⟩
instance oneStr (s:ByteArray):mR (.string s):=⟨rfl⟩
instance oneSl (A:Option Addr) (n c:Nat):mR (.slice A n c):=⟨rfl⟩
instance oneNil : gQ []:=⟨uu⟩
instance oneCons (v:Value) (l:List Value) [mR v] [gQ l]:gQ (v::l):=⟨wm mR.one gQ.one⟩
instance oneTake (l:List Value) (k:Nat) [gQ l]:gQ (l.take k):=⟨NE gQ.one k⟩
instance oneDrop (l:List Value) (k:Nat) [gQ l]:gQ (l.drop k):=⟨drop_one gQ.one k⟩
def ls (M:List Mu) (v:Value):Prop:=v.oneCell'=true \/ ∃ (i:Nat) (e:TypeId) (sz n:Nat) (xs:List Value),M[i]?=some (.own v e sz n xs)
def St.oneM {w0 w D0 D M}(h:St w0 D0 w M D){v}(hv:ls M v):v.oneCell'=true:=by
 rcases hv with h1|⟨i,e,sz,n,xs,hi⟩
 .exact h1
 .exact h.ownOne hi
def qP {M l}[gQ l]:∀ u∈l,ls M u:=λu hu=>.inl (gQ.one u hu)
class Rows {α:Type} (f:List α->List Value) (cells:outParam (α->List Value)) (sz:outParam Nat):Prop where
 flat:∀ q,f q=q.flatMap cells
 len:∀ r,(cells r).length=sz
 one:∀ r,∀ u∈cells r,u.oneCell'=true
 pos:0<sz
section
variable {α:Type} {f:List α->List Value} {cells:α->List Value} {sz:Nat}
def Rows.length [H:Rows f cells sz](q):(f q).length=q.length * sz:=by
 rw [H.flat]
 induction q with
 | nil=>simp
 | cons r q ih=>rw [AO,ea,H.len,ih,ft,oa];omega
def Rows.append [H:Rows f cells sz](p q):f (p++q)=f p++f q:=by rw [H.flat,H.flat,H.flat,sV]
def Rows.single [H:Rows f cells sz] (r:α):f [r]=cells r:=by rw [H.flat];simp
def Rows.take [H:Rows f cells sz] (q:List α) (k:Nat):(f q).take (k * sz)=f (q.take k):=by
 rw [H.flat,H.flat]
 induction q generalizing k with
 | nil=>simp
 | cons r q ih=>
  cases k with
  | zero=>simp
  | succ k=>rw [AO,List.take_append,H.len,cD (by rw [H.len,oa];omega),show (k+1) * sz - sz=k * sz by rw [oa];omega,ih,uT,AO]
def Rows.drop [H:Rows f cells sz] (q:List α) (k:Nat):(f q).drop (k * sz)=f (q.drop k):=by
 rw [H.flat,H.flat]
 induction q generalizing k with
 | nil=>simp
 | cons r q ih=>
  cases k with
  | zero=>simp
  | succ k=>rw [AO,List.drop_append,H.len,sW (by rw [H.len,oa];omega),show (k+1) * sz - sz=k * sz by rw [oa];omega,ih,List.drop_succ_cons,kR]
def Rows.el [H:Rows f cells sz]{q k}{v:α}(h:q[k]?=some v){i u}(hu:(cells v)[i]?=some u):(f q)[k * sz+i]?=some u:=by
 obtain ⟨hl,e⟩:=aK.1 h;have hi:i<sz:=by have:=(aK.1 hu).1;rwa [H.len] at this
 have h1:(f q).drop (k * sz)=cells v++f (q.drop (k+1)):=by
  rw [H.drop,mn hl,e,<- H.single,<- H.append];rfl
 have h2:(f q)[k * sz+i]?=((f q).drop (k * sz))[i]?:=by rw [l7]
 rw [h2,h1,lm (by rw [H.len];exact hi),hu]
def Rows.el0 [H:Rows f cells sz]{q k}{v:α}(h:q[k]?=some v){u}(hu:(cells v)[0]?=some u):(f q)[k * sz]?=some u:=H.el h hu
def Rows.sub [H:Rows f cells sz]{q k}{v:α}(h:q[k]?=some v):∀ i u,(cells v)[i]?=some u->(f q)[k * sz+i]?=some u:=λ_ _ hu=>H.el h hu
def Rows.spl [H:Rows f cells sz]{q k}{r:α}(hk:k<q.length):spl (f q) (k * sz) (cells r)=f (q.set k r):=by
 have h1:(k+1) * sz<=q.length * sz:=zg _ hk;rw [oa,Nat.one_mul] at h1;rw [qF _ _ _ (by rw [H.length,H.len];exact h1),H.len,show k * sz+sz=(k+1) * sz by rw [oa,Nat.one_mul],H.take,H.drop,LQ,aa hk,H.append,<- H.single r,lc,<- H.append];rfl
end
section
variable {P:Program} {ops:Array Oper} {rest:List Oper} {o:Oper} {a:Act} {Q:Exit->Act->World->Prop} {w0 w:World} {D0 D:List Da} {M:List Mu}
def gj {ty:TypeId} {x:Operand} {v:Value} {cs:List Value} (ho:o.op = .box ty x) (E:St w0 D0 w M D) (hx:ac a x=some v)(h:∀ g w',St w0 D0 w' (.blk g ty cs::M) D->wpList P ops Q rest (a.put o.dst (.pointer (some ⟨g,0,none⟩))) w') (ig:o.guard=none:=by rfl) (hc:v.cells=cs.toArray:=by exact rfl):wpList P ops Q (o::rest) a w :=
 ZT ho ig E hx cs hc h
def bK {ty:TypeId} {cs:List Value} (ho:o.op = .alloc ty) (E:St w0 D0 w M D)(h:∀ g w',St w0 D0 w' (.blk g ty cs::M) D->wpList P ops Q rest (a.put o.dst (.pointer (some ⟨g,0,none⟩))) w') (ig:o.guard=none:=by rfl) (hz:yT P ty cs:=by exact Um _ _ rfl):wpList P ops Q (o::rest) a w :=
 RD ho ig E cs hz h
def bP {ty:TypeId} {x:Operand} {g off i:Nat} {t:TypeId} {cs:List Value} {v:Value} (ho:o.op = .load ty x) (E:St w0 D0 w M D) (hx:ac a x=some (.pointer (some ⟨g,off,none⟩)))(h:wpList P ops Q rest (a.put o.dst v) w) (ht:jD P ty:=by exact ol _ rfl) (hw:Region.wanted o (yielded ops a.tmps)=true:=by rfl) (hi:M[i]?=some (.blk g t cs):=by exact fd) (hv:cs[off]?=some v:=by first|exact rfl|assumption):wpList P ops Q (o::rest) a w :=
 Oq ho E hx ht hw hi hv h
def cV {ty:TypeId} {x:Operand} {g i:Nat} {t:TypeId} {cs:List Value} {v:Value} (ho:o.op = .load ty x) (E:St w0 D0 w M D) (hx:ac a x=some (.pointer (some ⟨g,0,none⟩)))(h:wpList P ops Q rest (a.put o.dst v) w) (hw:Region.wanted o (yielded ops a.tmps)=true:=by rfl) (hi:M[i]?=some (.blk g t cs):=by exact fd) (ht:cO P ty cs.length:=by exact jo _ _ rfl) (hv : .agg cs.toArray=v:=by exact rfl):wpList P ops Q (o::rest) a w :=
 Tm ho E hx hw hi ht hv h
def du {ty:TypeId} {x:Operand} {g off i:Nat} {t:TypeId} {cs:List Value} {v:Value} {n:Nat} (ho:o.op = .load ty x) (E:St w0 D0 w M D) (hx:ac a x=some (.pointer (some ⟨g,off,none⟩)))(h:wpList P ops Q rest (a.put o.dst v) w) (hw:Region.wanted o (yielded ops a.tmps)=true:=by rfl) (hi:M[i]?=some (.blk g t cs):=by exact fd) (ht:cO P ty n:=by exact jo _ _ rfl) (hn:off+n<=cs.length:=by decide) (hv : .agg ((cs.drop off).take n).toArray=v:=by exact rfl):wpList P ops Q (o::rest) a w:=by
 have hl:((cs.drop off).take n).length=n:=by simp;omega
 exact U2 ho E hx hw hi ((cs.drop off).take n) (by rwa [hl]) (λj u hu=>by
  rw [kF] at hu;split at hu
  .rwa [l7] at hu
  .cases hu) hv h
def bz {ty:TypeId} {x y:Operand} {g off i:Nat} {t:TypeId} {cs:List Value} {v:Value} {M':List Mu} (ho:o.op = .store ty x y) (E:St w0 D0 w M D) (hx:ac a x=some (.pointer (some ⟨g,off,none⟩))) (hy:ac a y=some v)(h:∀ w',St w0 D0 w' M' D->wpList P ops Q rest (a.put o.dst undef) w') (ht:jD P ty:=by exact ol _ rfl) (hw:Region.wanted o (yielded ops a.tmps)=true:=by rfl) (hi:M[i]?=some (.blk g t cs):=by exact fd)(iv:off<cs.length:=by first|assumption|(simp;done)|(simp;omega)) (h1:ls M v:=by first|exact .inl mR.one|exact .inl F|exact .inr ⟨0,_,_,_,_,rfl⟩|exact .inr ⟨1,_,_,_,_,rfl⟩|exact .inr ⟨2,_,_,_,_,rfl⟩|exact .inr ⟨3,_,_,_,_,rfl⟩|exact .inr ⟨4,_,_,_,_,rfl⟩) (hM:M.set i (.blk g t (cs.set off v))=M':=by first|(simp only [zF];exact rfl)|(simp only [zF];done)|exact rfl):wpList P ops Q (o::rest) a w :=
 Qr ho E hx hy ht hw hi iv (E.oneM h1) hM h
def aW {ty:TypeId} {x y:Operand} {g i:Nat} {t:TypeId} {cs us:List Value} {M':List Mu} (ho:o.op = .store ty x y) (E:St w0 D0 w M D) (hx:ac a x=some (.pointer (some ⟨g,0,none⟩))) (hy:ac a y=some (.agg us.toArray))(h:∀ w',St w0 D0 w' M' D->wpList P ops Q rest (a.put o.dst undef) w') (hw:Region.wanted o (yielded ops a.tmps)=true:=by rfl) (hi:M[i]?=some (.blk g t cs):=by exact fd) (i8:us.length=cs.length:=by exact rfl) (ht:cO P ty us.length:=by exact jo _ _ rfl)(h1:∀ u∈us,ls M u:=by first|exact qP|((repeat (first|exact Ao|refine FY (by first|exact .inl mR.one|exact .inl F|exact .inr ⟨0,_,_,_,_,rfl⟩|exact .inr ⟨1,_,_,_,_,rfl⟩|exact .inr ⟨2,_,_,_,_,rfl⟩|exact .inr ⟨3,_,_,_,_,rfl⟩|exact .inr ⟨4,_,_,_,_,rfl⟩) ?_)) <;> exact Ao)) (hM:M.set i (.blk g t us)=M':=by first|(simp only [zF];exact rfl)|(simp only [zF];done)|exact rfl):wpList P ops Q (o::rest) a w :=
 Xb ho E hx us hy hw hi i8 ht (λu hu=>E.oneM (h1 u hu)) hM h
def jd {ty:TypeId} {x y:Operand} {g off i:Nat} {t:TypeId} {cs us:List Value} {M':List Mu} (ho:o.op = .store ty x y) (E:St w0 D0 w M D) (hx:ac a x=some (.pointer (some ⟨g,off,none⟩))) (hy:ac a y=some (.agg us.toArray))(h:∀ w',St w0 D0 w' M' D->wpList P ops Q rest (a.put o.dst undef) w') (hw:Region.wanted o (yielded ops a.tmps)=true:=by rfl) (hi:M[i]?=some (.blk g t cs):=by exact fd) (i8:off+us.length<=cs.length:=by decide) (ht:cO P ty us.length:=by exact jo _ _ rfl)(h1:∀ u∈us,ls M u:=by exact qP) (hM:M.set i (.blk g t (spl cs off us))=M':=by first|(simp only [zF];exact rfl)|(simp only [zF];done)|exact rfl):wpList P ops Q (o::rest) a w :=
 Iq ho E hx us hy hw hi i8 ht (λu hu=>E.oneM (h1 u hu)) hM h
def vP {ty:TypeId} {x:Operand} {g off i n c:Nat} {e:TypeId} {sz:Nat} {xs:List Value} {v:Value} (ho:o.op = .load ty x) (E:St w0 D0 w M D) (hx:ac a x=some (.pointer (some ⟨g,off,none⟩)))(h:wpList P ops Q rest (a.put o.dst v) w) (ht:jD P ty:=by exact ol _ rfl) (hw:Region.wanted o (yielded ops a.tmps)=true:=by rfl) (hi:M[i]?=some (.own (.slice (some ⟨g,0,none⟩) n c) e sz n xs):=by exact fd)(hv:xs[off]?=some v:=by first|exact rfl|assumption|exact Rows.el bI F|exact Rows.el0 bI F):wpList P ops Q (o::rest) a w :=
 OY ho E hx ht hw hi hv h
def ju {ty:TypeId} {x y:Operand} {g off i n c:Nat} {e:TypeId} {sz:Nat} {xs:List Value} {v:Value} {M':List Mu} (ho:o.op = .store ty x y) (E:St w0 D0 w M D) (hx:ac a x=some (.pointer (some ⟨g,off,none⟩))) (hy:ac a y=some v)(h:∀ w',St w0 D0 w' M' D->wpList P ops Q rest (a.put o.dst undef) w') (ht:jD P ty:=by exact ol _ rfl) (hw:Region.wanted o (yielded ops a.tmps)=true:=by rfl) (hi:M[i]?=some (.own (.slice (some ⟨g,0,none⟩) n c) e sz n xs):=by exact fd)(iv:off<xs.length:=by first|assumption|(simp;done)|(simp;omega)) (h1:ls M v:=by first|exact .inl mR.one|exact .inl F|exact .inr ⟨0,_,_,_,_,rfl⟩|exact .inr ⟨1,_,_,_,_,rfl⟩|exact .inr ⟨2,_,_,_,_,rfl⟩) (hM:M.set i (.own (.slice (some ⟨g,0,none⟩) n c) e sz n (xs.set off v))=M':=by first|(simp only [zF];exact rfl)|(simp only [zF];done)|exact rfl):wpList P ops Q (o::rest) a w :=
 Pb ho E hx hy ht hw hi iv (E.oneM h1) hM h
def rB {t e:TypeId} {x ix:Operand} {A:Option Addr} {n c k:Nat} {ki:IntKind} {z:Value} {sz bytes:Nat} {xs:List Value} (ho:o.op = .indexAddr t x ix) (E:St w0 D0 w M D) (hx:ac a x=some (.slice A n c)) (hk:ac a ix=some (.int ki (k:Int)))(h:wpList P ops Q rest (a.put o.dst (cu A (k * sz))) w) (ht:bF P t e z sz bytes:=by exact fS _ _ _ _ _ rfl) (hw:Region.wanted o (yielded ops a.tmps)=true:=by rfl) (hd:ab sz A n c xs∈D:=by exact au) (ik:k<n:=by (first|assumption|omega|exact mT bI|exact ng _)):wpList P ops Q (o::rest) a w :=
 OJ ho E hx hk ht hw hd ik h
def xM {t e:TypeId} {x ix:Operand} {g n c k:Nat} {ki:IntKind} {z:Value} {sz bytes:Nat} (ho:o.op = .indexAddr t x ix) (hx:ac a x=some (.slice (some ⟨g,0,none⟩) n c)) (hk:ac a ix=some (.int ki (k:Int)))(h:wpList P ops Q rest (a.put o.dst (.pointer (some ⟨g,k * sz,none⟩))) w) (ht:bF P t e z sz bytes:=by exact fS _ _ _ _ _ rfl) (hw:Region.wanted o (yielded ops a.tmps)=true:=by rfl) (ik:k<n:=by (first|assumption|omega|exact mT bI|exact ng _)):wpList P ops Q (o::rest) a w :=
 O2 ho hx hk ht hw ik h
def EW {s f:Nat} {x:Operand} {A:Option Addr} {j off sz n c:Nat} {xs:List Value} (ho:o.op = .fieldAddr s x f) (E:St w0 D0 w M D) (hx:ac a x=some (cu A j))(h:wpList P ops Q rest (a.put o.dst (cu A (j+off))) w) (ht:lD P s f off:=by exact rx _ _ _ rfl) (hw:Region.wanted o (yielded ops a.tmps)=true:=by rfl) (hd:ab sz A n c xs∈D:=by exact au) (hn:0<n:=by (first|assumption|omega)):wpList P ops Q (o::rest) a w :=
 Va ho hx ht hw E hd hn h
def pv {s f:Nat} {x:Operand} {g j off:Nat} (ho:o.op = .fieldAddr s x f) (hx:ac a x=some (.pointer (some ⟨g,j,none⟩)))(h:wpList P ops Q rest (a.put o.dst (.pointer (some ⟨g,j+off,none⟩))) w) (ht:lD P s f off:=by exact rx _ _ _ rfl) (hw:Region.wanted o (yielded ops a.tmps)=true:=by rfl):wpList P ops Q (o::rest) a w :=
 QV ho hx ht hw h
def sk {ty:TypeId} {x:Operand} {A:Option Addr} {j sz n c:Nat} {xs:List Value} {v:Value} (ho:o.op = .load ty x) (E:St w0 D0 w M D) (hx:ac a x=some (cu A j))(h:wpList P ops Q rest (a.put o.dst v) w) (ht:jD P ty:=by exact ol _ rfl) (hw:Region.wanted o (yielded ops a.tmps)=true:=by rfl) (hd:ab sz A n c xs∈D:=by exact au) (hv:xs[j]?=some v:=by first|assumption|exact Rows.el bI F|exact Rows.el0 bI F):wpList P ops Q (o::rest) a w :=
 VF ho E hx ht hw hd hv h
def fA {ty:TypeId} {x:Operand} {A:Option Addr} {j sz n c:Nat} {xs us:List Value} {v:Value} (ho:o.op = .load ty x) (E:St w0 D0 w M D) (hx:ac a x=some (cu A j))(h:wpList P ops Q rest (a.put o.dst v) w) (hw:Region.wanted o (yielded ops a.tmps)=true:=by rfl) (hd:ab sz A n c xs∈D:=by exact au) (hu:∀ i u,us[i]?=some u->xs[j+i]?=some u:=by exact Rows.sub bI) (ht:cO P ty us.length:=by exact jo _ _ rfl) (h0:0<us.length:=by exact vM _) (hv : .agg us.toArray=v:=by exact rfl):wpList P ops Q (o::rest) a w :=
 UH ho E hx hw hd us hu ht h0 hv h
def F9 {t e:TypeId} {x y:Operand} {A:Option Addr} {n c N:Nat} {ki:IntKind} {z:Value} {sz bytes:Nat} {xs:List Value} (ho:o.op = .slice t x none (some y) none) (E:St w0 D0 w M D) (hx:ac a x=some (.slice A n c)) (hy:ac a y=some (.int ki (N:Int)))(h:St w0 D0 w M (ab sz A N c (xs.take (N * sz))::D)->wpList P ops Q rest (a.put o.dst (.slice A N c)) w) (ht:bF P t e z sz bytes:=by exact fS _ _ _ _ _ rfl) (hw:Region.wanted o (yielded ops a.tmps)=true:=by rfl) (hd:ab sz A n c xs∈D:=by exact au) (hN:N<=n:=by (first|assumption|omega)):wpList P ops Q (o::rest) a w :=
 YF ho E hx hy ht hw hd hN h
def ro {t e:TypeId} {x y:Operand} {A:Option Addr} {n c k:Nat} {ki:IntKind} {z:Value} {sz bytes:Nat} {xs:List Value} (ho:o.op = .slice t x (some y) none none) (E:St w0 D0 w M D) (hx:ac a x=some (.slice A n c)) (hy:ac a y=some (.int ki (k:Int)))(h:St w0 D0 w M (ab sz (fW A k c sz) (n - k) (c - k) (xs.drop (k * sz))::D)->wpList P ops Q rest (a.put o.dst (.slice (fW A k c sz) (n - k) (c - k))) w) (ht:bF P t e z sz bytes:=by exact fS _ _ _ _ _ rfl) (hw:Region.wanted o (yielded ops a.tmps)=true:=by rfl) (hd:ab sz A n c xs∈D:=by exact au) (hk:k<=n:=by (first|assumption|omega)):wpList P ops Q (o::rest) a w :=
 TM ho E hx hy ht hw hd hk h
def iD {t e:TypeId} {x:Operand} {z:Value} {sz bytes:Nat} {v:Value} {us:List Value} (ho:o.op = .buildSlice t 1 #[(0,x)]) (E:St w0 D0 w M D) (hx:ac a x=some v)(h:∀ g w',St w0 D0 w' (.own (.slice (some ⟨g,0,none⟩) 1 1) e sz 1 us::M) D->wpList P ops Q rest (a.put o.dst (.slice (some ⟨g,0,none⟩) 1 1)) w') (ig:o.guard=none:=by rfl) (ht:bF P t e z sz bytes:=by exact fS _ _ _ _ _ rfl) (hv:v.cells=us.toArray:=by exact rfl) (hl:us.length=sz:=by exact rfl) (hb:sz<=1000:=by decide):wpList P ops Q (o::rest) a w :=
 g6x ho ig E ht hx us hv hl hb h
def nU {t e:TypeId} {z:Value} {sz bytes:Nat} (ho:o.op = .buildSlice t 0 #[]) (E:St w0 D0 w M D)(h:∀ g w',St w0 D0 w' (.own (.slice (some ⟨g,0,none⟩) 0 0) e sz 0 []::M) D->wpList P ops Q rest (a.put o.dst (.slice (some ⟨g,0,none⟩) 0 0)) w') (ig:o.guard=none:=by rfl) (ht:bF P t e z sz bytes:=by exact fS _ _ _ _ _ rfl):wpList P ops Q (o::rest) a w :=
 Un ho ig E ht h
def oq {t e:TypeId} {s x:Operand} {z:Value} {sz bytes:Nat} {v:Value} {g m j i n:Nat} {us xs:List Value} {M':Value->List Mu} (ho:o.op = .call { callee:=.builtin .append,args:=#[s,x],argTypes:=#[t,t] }) (E:St w0 D0 w M D)(hs:ac a s=some v) (hx:ac a x=some (.slice (some ⟨g,0,none⟩) m m)) (h:∀ v' w',St w0 D0 w' (M' v') D->wpList P ops Q rest (a.put o.dst v') w') (ig:o.guard=none:=by rfl) (ht:bF P t e z sz bytes:=by exact fS _ _ _ _ _ rfl)(hj:M[j]?=some (.own (.slice (some ⟨g,0,none⟩) m m) e sz m us):=by exact fd) (hi:M[i]?=some (.own v e sz n xs):=by exact fd)(h1:∀ u∈us,ls M u:=by first|exact qP|((repeat (first|exact Ao|refine FY (by first|exact .inl mR.one|exact .inl F|exact .inr ⟨0,_,_,_,_,rfl⟩|exact .inr ⟨1,_,_,_,_,rfl⟩|exact .inr ⟨2,_,_,_,_,rfl⟩|exact .inr ⟨3,_,_,_,_,rfl⟩|exact .inr ⟨4,_,_,_,_,rfl⟩) ?_)) <;> exact Ao))(h63:(n+m) * bytes<=140737488355328:=by omega) (hm:n+m<=9223372036854775807:=by omega) (hM:∀ v',(M.set i (.own v' e sz (n+m) (xs++us))).eraseIdx j=M' v':=by first|(simp only [zF];exact λ_=>rfl)|(simp only [zF];done)|exact λ_=>rfl):wpList P ops Q (o::rest) a w :=
 g6z ho ig E ht hs hx hj hi (λu hu=>E.oneM (h1 u hu)) h63 hm hM h
def tq {t e:TypeId} {s x:Operand} {z:Value} {sz bytes:Nat} {v:Value} {A:Option Addr} {m c i n:Nat} {us xs:List Value} {M':Value->List Mu} (ho:o.op = .call { callee:=.builtin .append,args:=#[s,x],argTypes:=#[t,t] }) (E:St w0 D0 w M D)(hs:ac a s=some v) (hx:ac a x=some (.slice A m c)) (h:∀ v' w',St w0 D0 w' (M' v') D->wpList P ops Q rest (a.put o.dst v') w') (ig:o.guard=none:=by rfl) (ht:bF P t e z sz bytes:=by exact fS _ _ _ _ _ rfl)(hd:ab sz A m c us∈D:=by exact au) (hi:M[i]?=some (.own v e sz n xs):=by exact fd) (h1:∀ u∈us,ls M u:=by exact qP)(h63:(n+m) * bytes<=140737488355328:=by omega) (hm:n+m<=9223372036854775807:=by omega) (hM:∀ v',M.set i (.own v' e sz (n+m) (xs++us))=M' v':=by first|(simp only [zF];exact λ_=>rfl)|(simp only [zF];done)|exact λ_=>rfl):wpList P ops Q (o::rest) a w :=
 XF ho ig E ht hs hx hd hi (λu hu=>E.oneM (h1 u hu)) h63 hm hM h
def yu {t e:TypeId} {l c:Operand} {z:Value} {sz bytes:Nat} {kl kc:IntKind} {N:Int} {n:Nat} (ho:o.op = .makeSlice t l c) (E:St w0 D0 w M D) (hl:ac a l=some (.int kl 0)) (hc:ac a c=some (.int kc N))(h:∀ g w',St w0 D0 w' (.own (.slice (some ⟨g,0,none⟩) 0 n) e sz 0 []::M) D->wpList P ops Q rest (a.put o.dst (.slice (some ⟨g,0,none⟩) 0 n)) w') (ig:o.guard=none:=by rfl) (ht:bF P t e z sz bytes:=by exact fS _ _ _ _ _ rfl)(hN:N=(n:Int):=by first|exact rfl|omega) (hb:bytes * n<=281474976710656:=by omega) (hm:n<=maxLen:=by unfold maxLen;omega):wpList P ops Q (o::rest) a w :=
 CV ho ig E ht hl hc n hN hb hm h
def mb {t e:TypeId} {l c:Operand} {z:Value} {sz bytes:Nat} {kl kc:IntKind} {L N:Int} (n:Nat) {zs:List Value} (ho:o.op = .makeSlice t l c) (E:St w0 D0 w M D) (hl:ac a l=some (.int kl L)) (hc:ac a c=some (.int kc N))(h:∀ g w',St w0 D0 w' (.blk g e zs::M) D->wpList P ops Q rest (a.put o.dst (.slice (some ⟨g,0,none⟩) n n)) w') (ig:o.guard=none:=by rfl) (ht:bF P t e z sz bytes:=by exact fS _ _ _ _ _ rfl)(hL:L=(n:Int):=by first|exact rfl|omega) (hN:N=(n:Int):=by first|exact rfl|omega) (hb:bytes * n<=281474976710656:=by omega) (hm:n<=maxLen:=by unfold maxLen;omega) (he:(madeCells z.cells (n * sz)).toList=zs:=by exact rfl):wpList P ops Q (o::rest) a w :=
 Mm ho ig E ht hl hc n hL hN hb hm he h
def BK {t e:TypeId} {d s:Operand} {z:Value} {sz bytes:Nat} {g n cd:Nat} {A:Option Addr} {c i:Nat} {us cs:List Value} {t':TypeId} {M':List Mu} (ho:o.op = .call { callee:=.builtin .copy,args:=#[d,s],argTypes:=#[t,t] }) (E:St w0 D0 w M D)(hx:ac a d=some (.slice (some ⟨g,0,none⟩) n cd)) (hy:ac a s=some (.slice A n c)) (h:∀ w',St w0 D0 w' M' D->wpList P ops Q rest (a.put o.dst (goInt (n:Nat))) w') (ig:o.guard=none:=by rfl) (ht:bF P t e z sz bytes:=by exact fS _ _ _ _ _ rfl)(hd:ab sz A n c us∈D:=by exact au) (hi:M[i]?=some (.blk g t' cs):=by exact fd) (hl:cs.length=n * sz:=by first|exact rfl|(simp [madeCells];done)|(simp [madeCells];omega)) (h1:∀ u∈us,ls M u:=by exact qP) (hM:M.set i (.blk g t' us)=M':=by first|(simp only [zF];exact rfl)|(simp only [zF];done)|exact rfl):wpList P ops Q (o::rest) a w :=
 KR ho ig E ht hx hy hd hi hl (λu hu=>E.oneM (h1 u hu)) hM h
def yD {x y:Operand} {ts:Array TypeId} {k k':IntKind} {p q:Int} (N:Int) (ho:o.op = .call { callee:=.builtin .min,args:=#[x,y],argTypes:=ts }) (hx:ac a x=some (.int k p)) (hy:ac a y=some (.int k' q))(h:wpList P ops Q rest (a.put o.dst (.int k N)) w) (ig:o.guard=none:=by rfl) (hN:N=if q<p then q else p:=by first|(split <;> omega)|omega):wpList P ops Q (o::rest) a w:=WR ho ig hx hy N hN h
def xE {x y:Operand} {ts:Array TypeId} {k k':IntKind} {p q:Int} (N:Int) (ho:o.op = .call { callee:=.builtin .max,args:=#[x,y],argTypes:=ts }) (hx:ac a x=some (.int k p)) (hy:ac a y=some (.int k' q))(h:wpList P ops Q rest (a.put o.dst (.int k N)) w) (ig:o.guard=none:=by rfl) (hN:N=if q > p then q else p:=by first|(split <;> omega)|omega):wpList P ops Q (o::rest) a w:=ZC ho ig hx hy N hN h
def S8 {src dst e:TypeId} {x:Operand} {s:ByteArray} (ho:o.op = .convert src dst x) (E:St w0 D0 w M D) (hx:ac a x=some (.string s))(h:∀ g cap r w',St w0 D0 w' (.blk g e (ck s.data.toList++r)::M) D->s.size+r.length=cap->cap<=maxLen->wpList P ops Q rest (a.put o.dst (.slice (some ⟨g,0,none⟩) s.size cap)) w') (ig:o.guard=none:=by rfl)(hs:km P src:=by exact sf _ rfl) (hd:pb P dst e:=by exact AD _ _ rfl) (hsz:s.size<=maxLen:=by first|assumption|(unfold maxLen;omega)):wpList P ops Q (o::rest) a w :=
 Xm ho ig E hs hd hx hsz h
def w_string {src dst e:TypeId} {x:Operand} {g n c i:Nat} {t:TypeId} {l:List UInt8} {r:List Value} (ho:o.op = .convert src dst x) (E:St w0 D0 w M D) (hx:ac a x=some (.slice (some ⟨g,0,none⟩) n c))(h:wpList P ops Q rest (a.put o.dst (.string ⟨l.toArray⟩)) w) (ig:o.guard=none:=by rfl) (hs:pb P src e:=by exact AD _ _ rfl) (hd:km P dst:=by exact sf _ rfl) (hi:M[i]?=some (.blk g t (ck l++r)):=by exact fd) (hn:l.length=n:=by (first|assumption|omega)) (hc:n<=c:=by (first|assumption|omega)) (hm:c<=maxLen:=by first|assumption|(unfold maxLen;omega)):wpList P ops Q (o::rest) a w :=
 Ze ho ig E hs hd hx hi hn hc hm h
def Pc {t:TypeId} {x y:Operand} {s:ByteArray} {k:Nat} {ki:IntKind} (ho:o.op = .slice t x none (some y) none) (hx:ac a x=some (.string s)) (hy:ac a y=some (.int ki (k:Int)))(h:wpList P ops Q rest (a.put o.dst (.string (s.extract 0 k))) w) (ht:km P t:=by exact sf _ rfl) (hw:Region.wanted o (yielded ops a.tmps)=true:=by rfl) (hk:k<=s.size:=by (first|assumption|omega)):wpList P ops Q (o::rest) a w:=O' ho ht hx hy hw hk h
def Wq {t:TypeId} {x y:Operand} {s:ByteArray} {k:Nat} {ki:IntKind} (ho:o.op = .slice t x (some y) none none) (hx:ac a x=some (.string s)) (hy:ac a y=some (.int ki (k:Int)))(h:wpList P ops Q rest (a.put o.dst (.string (s.extract k s.size))) w) (ht:km P t:=by exact sf _ rfl) (hw:Region.wanted o (yielded ops a.tmps)=true:=by rfl) (hk:k<=s.size:=by (first|assumption|omega)):wpList P ops Q (o::rest) a w:=Oy ho ht hx hy hw hk h
def Y9 {dT sT e:TypeId} {d s:Operand} {g off n cd:Nat} {str:ByteArray} {i:Nat} {t':TypeId} {l:List UInt8} {r:List Value} {M':List Mu} (ho:o.op = .call { callee:=.builtin .copy,args:=#[d,s],argTypes:=#[dT,sT] }) (E:St w0 D0 w M D)(hx:ac a d=some (.slice (some ⟨g,off,none⟩) n cd)) (hy:ac a s=some (.string str)) (h:∀ w',St w0 D0 w' M' D->wpList P ops Q rest (a.put o.dst (goInt (min str.size n:Nat))) w') (ig:o.guard=none:=by rfl) (ht:pb P dT e:=by exact AD _ _ rfl)(hi:M[i]?=some (.blk g t' (ck l++r)):=by exact fd) (hl:off+n=l.length:=by (first|assumption|omega)) (hM:M.set i (.blk g t' (ck (pN l off str.data.toList)++r))=M':=by first|(simp only [zF];exact rfl)|(simp only [zF];done)|exact rfl):wpList P ops Q (o::rest) a w:=by
 have e1:=Ox (l:=l) (r:=r) (k:=off) (str:=str) O;rw [show l.length - off=n by omega] at e1;rw [<- e1] at hM;exact Z6 ho ig E ht hx hy hi (by rw [ea,jK];omega) hM h
def eL {fn:Func} {p:Tmp} {ty t:TypeId} {g i:Nat} {cs:List Value} {tmps:Array Value} (h:fn.results=#[.cell p ty]) (E:St w0 D0 w M D) (hp:tmps.getD p undef = .pointer (some ⟨g,0,none⟩):=by rfl) (hi:M[i]?=some (.blk g t cs):=by exact fd) (ht:cO P ty cs.length:=by exact jo _ _ rfl) :(results fn tmps).run P w = .ok (.agg cs.toArray) w:=Yt h hp (E.bkAt hi) ht
def oS {fn:Func} {p q:Tmp} {ty t:TypeId} {g i:Nat} {cs:List Value} {tmps:Array Value} (h:fn.results=#[.cell p ty,.tmp q]) (E:St w0 D0 w M D) (hp:tmps.getD p undef = .pointer (some ⟨g,0,none⟩):=by rfl) (hi:M[i]?=some (.blk g t cs):=by exact fd) (ht:cO P ty cs.length:=by exact jo _ _ rfl) :(results fn tmps).run P w = .ok (.tuple #[.agg cs.toArray,tmps.getD q undef]) w:=G3 h hp (E.bkAt hi) ht
def uQ {fn:Func} {p q q':Tmp} {ty t:TypeId} {g i:Nat} {cs:List Value} {tmps:Array Value} (h:fn.results=#[.tmp q,.cell p ty,.tmp q']) (E:St w0 D0 w M D) (hp:tmps.getD p undef = .pointer (some ⟨g,0,none⟩):=by rfl) (hi:M[i]?=some (.blk g t cs):=by exact fd) (ht:cO P ty cs.length:=by exact jo _ _ rfl) :(results fn tmps).run P w = .ok (.tuple #[tmps.getD q undef,.agg cs.toArray,tmps.getD q' undef]) w:=UV h hp (E.bkAt hi) ht
def za {fn:Func} {p q q':Tmp} {ty t:TypeId} {g i:Nat} {cs:List Value} {tmps:Array Value} (h:fn.results=#[.cell p ty,.tmp q,.tmp q']) (E:St w0 D0 w M D) (hp:tmps.getD p undef = .pointer (some ⟨g,0,none⟩):=by rfl) (hi:M[i]?=some (.blk g t cs):=by exact fd) (ht:cO P ty cs.length:=by exact jo _ _ rfl) :(results fn tmps).run P w = .ok (.tuple #[.agg cs.toArray,tmps.getD q undef,tmps.getD q' undef]) w:=SO h hp (E.bkAt hi) ht
def rR {fn:Func} {p p' q:Tmp} {ty t ty' t':TypeId} {g g' i i':Nat} {cs cs':List Value} {tmps:Array Value} (h:fn.results=#[.cell p ty,.cell p' ty',.tmp q]) (E:St w0 D0 w M D) (hp:tmps.getD p undef = .pointer (some ⟨g,0,none⟩):=by rfl) (hi:M[i]?=some (.blk g t cs):=by exact fd) (ht:cO P ty cs.length:=by exact jo _ _ rfl)(mZ:tmps.getD p' undef = .pointer (some ⟨g',0,none⟩):=by rfl) (bm:M[i']?=some (.blk g' t' cs'):=by exact fd) (bV:cO P ty' cs'.length:=by exact jo _ _ rfl) :(results fn tmps).run P w = .ok (.tuple #[.agg cs.toArray,.agg cs'.toArray,tmps.getD q undef]) w:=g5l h hp (E.bkAt hi) ht mZ (E.bkAt bm) bV
end
section
variable {P:Program} {ops:Array Oper} {Q:Exit->Act->World->Prop} {md:Region.Mode} {S:World->Prop} {a:Act} {o:Oper} {B:Nat} {Mr:List Mu} {Dr:List Da}
def eu {i t:Nat} {v:Value} {fuel:Nat} {i9:Array Bool} {w:World} (hi:ops.toList[i]?=some o) (hy:YieldsIf P ops S o v a) (G:S w)(h:wpAnyH P md ops Q S fuel (i9.setIfInBounds i true) { a with tmps:=a.tmps.setIfInBounds t v } w) (hd:o.dst=some t:=by rfl)(hs:Region.noSelect ops=true:=by kernel_rfl) (hf:Region.free md ops i9 i=true:=by kernel_rfl) (hr:(Region.ready md ops i9).contains i=true:=by kernel_rfl)(hQ:∀ c a w,Q (.panic c) (a.put o.dst v) w->Q (.panic c) a w:=by exact λ_ _ _ h=>h):wpAnyH P md ops Q S (fuel+1) i9 a w :=
 th hi hd hs hf hr hQ hy G h
def kH (hw:Region.wanted o (yielded ops a.tmps)=false:=by rfl):YieldsIf P ops S o undef a:=Vv hw
def yW {x:Operand} {v:Value} (ho:o.op = .move x) (hx:ac a x=some v) (hw:Region.wanted o (yielded ops a.tmps)=true:=by rfl):YieldsIf P ops S o v a:=PN ho hx hw
def Hj {x:Operand} {v:Value} (ho:o.op = .assign x) (hx:ac a x=some v) (hw:Region.wanted o (yielded ops a.tmps)=true:=by rfl):YieldsIf P ops S o v a:=UO ho hx hw
def Hh {x:Operand} {t e:TypeId} {z:Value} {sz bytes:Nat} {A:Option Addr} {n c:Nat} (ho:o.op = .call { callee:=.builtin .len,args:=#[x],argTypes:=#[t] }) (hx:ac a x=some (.slice A n c)) (ht:bF P t e z sz bytes:=by exact fS _ _ _ _ _ rfl) (hw:Region.wanted o (yielded ops a.tmps)=true:=by rfl):YieldsIf P ops S o (I (n:Int)) a:=Zd ho hx ht hw
def Jd {x:Operand} {t:TypeId} {s:ByteArray} (ho:o.op = .call { callee:=.builtin .len,args:=#[x],argTypes:=#[t] }) (hx:ac a x=some (.string s)) (ht:km P t:=by exact sf _ rfl) (hw:Region.wanted o (yielded ops a.tmps)=true:=by rfl):YieldsIf P ops S o (I (s.size:Int)) a:=by
 replace hx:=ap hx;obtain ⟨hu⟩:=ht;exact cg hw λw=>by
  unfold execOp;simp [ho,resolve,invoke,builtin,hx,Builtin.len_,eH hu,goInt]
def mz {ty:TypeId} {x:Operand} {g off:Nat} {t:TypeId} {cs:List Value} {v:Value} (ho:o.op = .load ty x) (hx:ac a x=some (.pointer (some ⟨g,off,none⟩))) (ht:jD P ty:=by exact ol _ rfl) (hw:Region.wanted o (yielded ops a.tmps)=true:=by rfl)(hm:Mu.blk g t cs∈Mr:=by exact au) (hv:cs[off]?=some v:=by exact rfl):YieldsIf P ops (fR B Mr Dr) o v a:=Tw ho hx ht hw hm hv
def oI {ty:TypeId} {x:Operand} {g:Nat} {t:TypeId} {cs:List Value} {v:Value} (ho:o.op = .load ty x) (hx:ac a x=some (.pointer (some ⟨g,0,none⟩))) (hw:Region.wanted o (yielded ops a.tmps)=true:=by rfl)(hm:Mu.blk g t cs∈Mr:=by exact au) (ht:cO P ty cs.length:=by exact jo _ _ rfl) (hv : .agg cs.toArray=v:=by exact rfl):YieldsIf P ops (fR B Mr Dr) o v a:=by subst hv;exact g7j ho hx hw hm ht
def vZ {s f:Nat} {x:Operand} {g j off:Nat} (ho:o.op = .fieldAddr s x f) (hx:ac a x=some (.pointer (some ⟨g,j,none⟩))) (ht:lD P s f off:=by exact rx _ _ _ rfl) (hw:Region.wanted o (yielded ops a.tmps)=true:=by rfl) :YieldsIf P ops S o (.pointer (some ⟨g,j+off,none⟩)) a:=W7 ho hx ht hw
def zn {t e:TypeId} {x ix:Operand} {A:Option Addr} {n c k:Nat} {ki:IntKind} {z:Value} {sz bytes:Nat} {xs:List Value} (ho:o.op = .indexAddr t x ix) (hx:ac a x=some (.slice A n c)) (hk:ac a ix=some (.int ki (k:Int)))(ht:bF P t e z sz bytes:=by exact fS _ _ _ _ _ rfl) (hw:Region.wanted o (yielded ops a.tmps)=true:=by rfl) (hd:ab sz A n c xs∈Dr:=by exact au) (ik:k<n:=by (first|assumption|omega|exact mT bI|exact ng _)):YieldsIf P ops (fR B Mr Dr) o (cu A (k * sz)) a:=TZ ho hx hk ht hw hd ik
def zR {t e:TypeId} {x ix:Operand} {g n c k:Nat} {ki:IntKind} {z:Value} {sz bytes:Nat} (ho:o.op = .indexAddr t x ix) (hx:ac a x=some (.slice (some ⟨g,0,none⟩) n c)) (hk:ac a ix=some (.int ki (k:Int)))(ht:bF P t e z sz bytes:=by exact fS _ _ _ _ _ rfl) (hw:Region.wanted o (yielded ops a.tmps)=true:=by rfl) (ik:k<n:=by (first|assumption|omega|exact mT bI|exact ng _)):YieldsIf P ops S o (.pointer (some ⟨g,k * sz,none⟩)) a:=VX ho hx hk ht hw ik
def vE {s f:Nat} {x:Operand} {A:Option Addr} {j off sz n c:Nat} {xs:List Value} (ho:o.op = .fieldAddr s x f) (hx:ac a x=some (cu A j)) (ht:lD P s f off:=by exact rx _ _ _ rfl) (hw:Region.wanted o (yielded ops a.tmps)=true:=by rfl)(hd:ab sz A n c xs∈Dr:=by exact au) (hn:0<n:=by (first|assumption|omega)):YieldsIf P ops (fR B Mr Dr) o (cu A (j+off)) a:=T9 ho hx ht hw hd hn
def ph {ty:TypeId} {x:Operand} {A:Option Addr} {j sz n c:Nat} {xs:List Value} {v:Value} (ho:o.op = .load ty x) (hx:ac a x=some (cu A j)) (ht:jD P ty:=by exact ol _ rfl) (hw:Region.wanted o (yielded ops a.tmps)=true:=by rfl)(hd:ab sz A n c xs∈Dr:=by exact au) (hv:xs[j]?=some v:=by first|assumption|exact Rows.el bI F|exact Rows.el0 bI F):YieldsIf P ops (fR B Mr Dr) o v a:=g7o ho hx ht hw hd hv
def la {ty:TypeId} {x:Operand} {A:Option Addr} {j sz n c:Nat} {xs us:List Value} {v:Value} (ho:o.op = .load ty x) (hx:ac a x=some (cu A j)) (hw:Region.wanted o (yielded ops a.tmps)=true:=by rfl)(hd:ab sz A n c xs∈Dr:=by exact au) (hu:∀ i u,us[i]?=some u->xs[j+i]?=some u:=by exact Rows.sub bI) (ht:cO P ty us.length:=by exact jo _ _ rfl) (h0:0<us.length:=by exact vM _) (hv : .agg us.toArray=v:=by exact rfl):YieldsIf P ops (fR B Mr Dr) o v a:=by
 subst hv;exact Yb ho hx hw hd us hu ht h0
def Nx {t e:TypeId} {x y:Operand} {A:Option Addr} {n c N:Nat} {ki:IntKind} {z:Value} {sz bytes:Nat} (ho:o.op = .slice t x none (some y) none) (hx:ac a x=some (.slice A n c)) (hy:ac a y=some (.int ki (N:Int)))(ht:bF P t e z sz bytes:=by exact fS _ _ _ _ _ rfl) (hw:Region.wanted o (yielded ops a.tmps)=true:=by rfl) (hN:N<=c:=by (first|assumption|omega)):YieldsIf P ops S o (.slice A N c) a:=TL ho hx hy ht hw hN
def JW {t e:TypeId} {x y:Operand} {A:Option Addr} {n c k:Nat} {ki:IntKind} {z:Value} {sz bytes:Nat} (ho:o.op = .slice t x (some y) none none) (hx:ac a x=some (.slice A n c)) (hy:ac a y=some (.int ki (k:Int)))(ht:bF P t e z sz bytes:=by exact fS _ _ _ _ _ rfl) (hw:Region.wanted o (yielded ops a.tmps)=true:=by rfl) (hk:k<=n:=by (first|assumption|omega)):YieldsIf P ops S o (.slice (fW A k c sz) (n - k) (c - k)) a:=T3 ho hx hy ht hw hk
def Fw {t:TypeId} {x y:Operand} {s:ByteArray} {k:Nat} {ki:IntKind} (ho:o.op = .slice t x none (some y) none) (hx:ac a x=some (.string s)) (hy:ac a y=some (.int ki (k:Int))) (ht:km P t:=by exact sf _ rfl) (hw:Region.wanted o (yielded ops a.tmps)=true:=by rfl) (hk:k<=s.size:=by (first|assumption|omega)) :YieldsIf P ops S o (.string (s.extract 0 k)) a:=Xq ho ht hx hy hw hk
def GA {t:TypeId} {x y:Operand} {s:ByteArray} {k:Nat} {ki:IntKind} (ho:o.op = .slice t x (some y) none none) (hx:ac a x=some (.string s)) (hy:ac a y=some (.int ki (k:Int))) (ht:km P t:=by exact sf _ rfl) (hw:Region.wanted o (yielded ops a.tmps)=true:=by rfl) (hk:k<=s.size:=by (first|assumption|omega)) :YieldsIf P ops S o (.string (s.extract k s.size)) a:=Qg ho ht hx hy hw hk
end
structure Out (w:World) (D0:List Da) (w':World) (ds:List Da):Prop where
 bel:af w w'
 ok:∀ d∈ds,d.ok w'
 from_:∀ d∈ds,From w D0 d
section
variable {w0 w w':World} {D0 D D1 ds:List Da} {M:List Mu}
def St.out (h:St w0 D0 w M D) (hd:∀ d∈ds,d∈D):Out w0 D0 w ds:=⟨h.bel,λd hm=>h.dat d (hd d hm),λd hm=>h.src d (hd d hm)⟩
def St.call (h:St w0 D0 w M D) (ho:Out w D1 w' ds) (hD:∀ d∈D1,d∈D):St w0 D0 w' M (ds++D):=by
 have h':=h.grow ho.bel;refine ⟨h'.bel,h'.mu,h'.apart,λd hd=>?_,λd hd i m hm g aP a2=>?_,λd hd=>?_⟩
 .rcases dv.1 hd with hd|hd
  .exact ho.ok d hd
  .exact h'.dat d hd
 .rcases dv.1 hd with hd|hd
  .rcases ho.from_ d hd g a2 with h1|⟨e,he,h1⟩
   .have:=((h.mu i m hm).lt aP).2;omega
   .exact h.sep e (hD e he) i m hm g aP h1
  .exact h.sep d hd i m hm g aP a2
 .rcases dv.1 hd with hd|hd
  .exact (ho.from_ d hd).trans h.bel.size λe he=>h.src e (hD e he)
  .exact h.src d hd
def St.callA {d1 d2:Da} (h:St w0 D0 w M D) (ho:Out w D1 w' [d1,d2]) (hD:∀ d∈D1,d∈D:=by ((repeat (first|exact cE|refine eZ au ?_)) <;> exact cE)):St w0 D0 w' M (d1::d2::D):=h.call ho hD
def St.call1A {d1:Da} (h:St w0 D0 w M D) (ho:Out w D1 w' [d1]) (hD:∀ d∈D1,d∈D:=by ((repeat (first|exact cE|refine eZ au ?_)) <;> exact cE)):St w0 D0 w' M (d1::D):=h.call ho hD
def St.call3A {d1 d2 d3:Da} (h:St w0 D0 w M D) (ho:Out w D1 w' [d1,d2,d3]) (hD:∀ d∈D1,d∈D:=by ((repeat (first|exact cE|refine eZ au ?_)) <;> exact cE)):St w0 D0 w' M (d1::d2::d3::D):=h.call ho hD
def St.outA (h:St w0 D0 w M D) (hd:∀ d∈ds,d∈D:=by ((repeat (first|exact cE|refine eZ au ?_)) <;> exact cE)):Out w0 D0 w ds:=h.out hd
def St.lessA (h:St w0 D0 w M D) (D':List Da) (hD:∀ d∈D',d∈D:=by ((repeat (first|exact cE|refine eZ au ?_)) <;> exact cE)):St w0 D0 w M D':=h.lessD hD
def St.rdA (h:St w0 D0 w M D) {sz n c:Nat} {A:Option Addr} {xs:List Value} (hd:ab sz A n c xs∈D:=by exact au):Rd w w.heap.size sz A n c xs:=h.rd hd
def fR.nextA {B:Nat} {Mr:List Mu} {Dr:List Da} {w1:World} (_h:fR B Mr Dr w1) (E:St w0 D0 w' M D) (hM:∀ m∈Mr,m∈M:=by first|exact λ_ h=>h|((repeat (first|exact cE|refine eZ au ?_)) <;> exact cE)) (hD:∀ d∈Dr,d∈D:=by first|exact λ_ h=>h|((repeat (first|exact cE|refine eZ au ?_)) <;> exact cE)) (hB:B=w0.heap.size:=by exact rfl):fR B Mr Dr w':=_h.next E hM hD hB
end
section
variable {P:Program} {md:Region.Mode} {ops:Array Oper} {o:Oper} {a a1:Act} {Q:Exit->Act->World->Prop} {S:World->Prop} {T:List Nat} {t i fuel:Nat} {v:Value} {i9:Array Bool} {w:World}
structure ZE (md:Region.Mode) (ops:Array Oper) (o:Oper) (a:Act) (Q:Exit->Act->World->Prop) (t:Nat) (v:Value) (i9:Array Bool) (i:Nat) (a1:Act):Prop where
 hd:o.dst=some t
 hs:Region.noSelect ops=true
 hf:Region.free md ops i9 i=true
 hr:(Region.ready md ops i9).contains i=true
 hQ:∀ c a w,Q (.panic c) (a.put o.dst v) w->Q (.panic c) a w
 ha:({ a with tmps:=a.tmps.setIfInBounds t v }:Act)=a1
def zE (hd:o.dst=some t:=by rfl) (hs:Region.noSelect ops=true:=by kernel_rfl) (hf:Region.free md ops i9 i=true:=by kernel_rfl) (hr:(Region.ready md ops i9).contains i=true:=by kernel_rfl) (hQ:∀ c a w,Q (.panic c) (a.put o.dst v) w->Q (.panic c) a w:=by exact λ_ _ _ h=>h) (ha:({ a with tmps:=a.tmps.setIfInBounds t v }:Act)=a1:=by first|(simp only [zA,Nat.reduceAdd];exact rfl)|(simp only [zA,Nat.reduceAdd];done)|exact rfl):ZE md ops o a Q t v i9 i a1:=⟨hd,hs,hf,hr,hQ,ha⟩
def zk (G:S w) (h:wpAnyH P md ops Q S fuel (i9.setIfInBounds i true) a1 w) (hi:ops.toList[i]?=some o) (hy:YieldsIf P ops S o v a) (e:ZE md ops o a Q t v i9 i a1):wpAnyH P md ops Q S (fuel+1) i9 a w:=th hi e.hd e.hs e.hf e.hr e.hQ hy G (e.ha ▸ h)
def cX (i:Nat) (G:S w) (h:wpAnyH P md ops Q S fuel (i9.setIfInBounds i true) a1 w) (hi:ops.toList[i]?=some o:=by exact rfl) (hy:YieldsIf P ops S o v a:=by first|exact mz F F|exact oI F F|exact ph F F|exact la F F) (e:ZE md ops o a Q t v i9 i a1:=by exact zE):wpAnyH P md ops Q S (fuel+1) i9 a w:=zk G h hi hy e
def az (i:Nat) (G:S w) (h:wpAnyH P md ops Q S fuel (i9.setIfInBounds i true) a1 w) (hi:ops.toList[i]?=some o:=by exact rfl) (hy:YieldsIf P ops S o v a:=by first|exact vZ F F|exact vE F F) (e:ZE md ops o a Q t v i9 i a1:=by exact zE):wpAnyH P md ops Q S (fuel+1) i9 a w:=zk G h hi hy e
def pz (i:Nat) (G:S w) (h:wpAnyH P md ops Q S fuel (i9.setIfInBounds i true) a1 w) (hi:ops.toList[i]?=some o:=by exact rfl) (hy:YieldsIf P ops S o v a:=by first|exact zn F F F|exact zR F F F) (e:ZE md ops o a Q t v i9 i a1:=by exact zE):wpAnyH P md ops Q S (fuel+1) i9 a w:=zk G h hi hy e
def jf (i:Nat) (G:S w) (h:wpAnyH P md ops Q S fuel (i9.setIfInBounds i true) a1 w) (hi:ops.toList[i]?=some o:=by exact rfl) (hy:YieldsIf P ops S o v a:=by first|exact Hh F F|exact Jd F F) (e:ZE md ops o a Q t v i9 i a1:=by exact zE):wpAnyH P md ops Q S (fuel+1) i9 a w:=zk G h hi hy e
def rG (i:Nat) (G:S w) (h:wpAnyH P md ops Q S fuel (i9.setIfInBounds i true) a1 w) (hi:ops.toList[i]?=some o:=by exact rfl) (hy:YieldsIf P ops S o v a:=by first|exact Nx F F F|exact JW F F F|exact Fw F F F|exact GA F F F) (e:ZE md ops o a Q t v i9 i a1:=by exact zE):wpAnyH P md ops Q S (fuel+1) i9 a w:=zk G h hi hy e
def Jv (i:Nat) (G:S w) (h:wpAnyH P md ops Q S fuel (i9.setIfInBounds i true) a1 w) (hi:ops.toList[i]?=some o:=by exact rfl) (hy:YieldsIf P ops S o v a:=by first|exact Wp F F F|exact Nx F F F|exact JW F F F|exact Fw F F F|exact GA F F F) (e:ZE md ops o a Q t v i9 i a1:=by exact zE):wpAnyH P md ops Q S (fuel+1) i9 a w:=zk G h hi hy e
def fC (i:Nat) (G:S w) (h:wpAnyH P md ops Q S fuel (i9.setIfInBounds i true) a1 w) (hi:ops.toList[i]?=some o:=by exact rfl) (hy:YieldsIf P ops S o v a:=by first|exact mz F F|exact oI F F|exact qR F F|exact ph F F|exact la F F|exact la F F (hu:=by assumption)) (e:ZE md ops o a Q t v i9 i a1:=by exact zE):wpAnyH P md ops Q S (fuel+1) i9 a w:=zk G h hi hy e
def lW (i:Nat) (G:S w) (h:wpAnyH P md ops Q S fuel (i9.setIfInBounds i true) a1 w) (hi:ops.toList[i]?=some o:=by exact rfl) (hy:YieldsIf P ops S o v a:=by first|exact mz F F|exact oI F F|exact qR F F|exact ph F F|exact la F F) (e:ZE md ops o a Q t v i9 i a1:=by exact zE):wpAnyH P md ops Q S (fuel+1) i9 a w:=zk G h hi hy e
def jj (i:Nat) (G:S w) (h:wpAnyH P md ops Q S fuel (i9.setIfInBounds i true) a1 w) (hi:ops.toList[i]?=some o:=by exact rfl) (hy:YieldsIf P ops S o v a:=by first|exact yW F F|exact kH) (e:ZE md ops o a Q t v i9 i a1:=by exact zE):wpAnyH P md ops Q S (fuel+1) i9 a w:=zk G h hi hy e
def cP (i:Nat) (G:S w) (h:wpAnyH P md ops Q S fuel (i9.setIfInBounds i true) a1 w) (hi:ops.toList[i]?=some o:=by exact rfl) (hy:YieldsIf P ops S o v a:=by first|exact vZ F F|exact vE F F|exact kH) (e:ZE md ops o a Q t v i9 i a1:=by exact zE):wpAnyH P md ops Q S (fuel+1) i9 a w:=zk G h hi hy e
def zc (i:Nat) (G:S w) (h:wpAnyH P md ops Q S fuel (i9.setIfInBounds i true) a1 w) (hi:ops.toList[i]?=some o:=by exact rfl) (hy:YieldsIf P ops S o v a:=by first|exact mz F F|exact oI F F|exact qR F F|exact ph F F|exact la F F|exact la F F (hu:=by assumption)|exact kH) (e:ZE md ops o a Q t v i9 i a1:=by exact zE):wpAnyH P md ops Q S (fuel+1) i9 a w:=zk G h hi hy e
def oC (i:Nat) (G:S w) (h:wpAnyH P md ops Q S fuel (i9.setIfInBounds i true) a1 w) (hi:ops.toList[i]?=some o:=by exact rfl) (hy:YieldsIf P ops S o v a:=by first|exact Hh F F|exact Jd F F|exact kH) (e:ZE md ops o a Q t v i9 i a1:=by exact zE):wpAnyH P md ops Q S (fuel+1) i9 a w:=zk G h hi hy e
def dx (i:Nat) (G:S w) (h:wpAnyH P md ops Q S fuel (i9.setIfInBounds i true) a1 w) (hi:ops.toList[i]?=some o:=by exact rfl) (hy:YieldsIf P ops S o v a:=by first|exact mz F F (hv:=by with_reducible assumption)|exact mz F F|exact oI F F|exact qR F F|exact ph F F|exact la F F|exact la F F (hu:=by assumption)) (e:ZE md ops o a Q t v i9 i a1:=by exact zE):wpAnyH P md ops Q S (fuel+1) i9 a w:=zk G h hi hy e
def jl (i:Nat) (G:S w) (h:wpAnyH P md ops Q S fuel (i9.setIfInBounds i true) a1 w) (hi:ops.toList[i]?=some o:=by exact rfl) (hy:YieldsIf P ops S o v a:=by first|exact mz F F (hv:=by with_reducible assumption)|exact mz F F|exact oI F F|exact qR F F|exact ph F F|exact la F F|exact la F F (hu:=by assumption)|exact kH) (e:ZE md ops o a Q t v i9 i a1:=by exact zE):wpAnyH P md ops Q S (fuel+1) i9 a w:=zk G h hi hy e
def qT (i:Nat) (G:S w) (h:wpAnyH P md ops Q S fuel (i9.setIfInBounds i true) a1 w) (hi:ops.toList[i]?=some o:=by exact rfl) (hy:YieldsIf P ops S o v a:=by first|exact y_ixP F F F|exact zn F F F|exact zR F F F) (e:ZE md ops o a Q t v i9 i a1:=by exact zE):wpAnyH P md ops Q S (fuel+1) i9 a w:=zk G h hi hy e
def Bd (i:Nat) (G:S w) (h:wpAnyH P md ops Q S fuel (i9.setIfInBounds i true) a1 w) (hi:ops.toList[i]?=some o:=by exact rfl) (hy:YieldsIf P ops S o v a:=by first|exact zn F F F|exact zR F F F|exact kH) (e:ZE md ops o a Q t v i9 i a1:=by exact zE):wpAnyH P md ops Q S (fuel+1) i9 a w:=zk G h hi hy e
def pH (i:Nat) (G:S w) (h:wpAnyH P md ops Q S fuel (i9.setIfInBounds i true) a1 w) (hi:ops.toList[i]?=some o:=by exact rfl) (hy:YieldsIf P ops S o v a:=by first|exact mz F F|exact oI F F|exact qR F F|exact ph F F|exact la F F|exact kH) (e:ZE md ops o a Q t v i9 i a1:=by exact zE):wpAnyH P md ops Q S (fuel+1) i9 a w:=zk G h hi hy e
def xb (i:Nat) (G:S w) (h:wpAnyH P md ops Q S fuel (i9.setIfInBounds i true) a1 w) (hi:ops.toList[i]?=some o:=by exact rfl) (hy:YieldsIf P ops S o v a:=by first|exact mz F F|exact y_ld1o F F|exact oI F F|exact ph F F|exact la F F|exact la F F (hu:=by assumption)) (e:ZE md ops o a Q t v i9 i a1:=by exact zE):wpAnyH P md ops Q S (fuel+1) i9 a w:=zk G h hi hy e
def an (i:Nat) (G:S w) (h:wpAnyH P md ops Q S fuel (i9.setIfInBounds i true) a1 w) (hi:ops.toList[i]?=some o:=by exact rfl) (hy:YieldsIf P ops S o v a:=by exact yW rfl rfl) (e:ZE md ops o a Q t v i9 i a1:=by exact zE):wpAnyH P md ops Q S (fuel+1) i9 a w:=zk G h hi hy e
def cA (i:Nat) (G:S w) (h:wpAnyH P md ops Q S fuel (i9.setIfInBounds i true) a1 w) (hi:ops.toList[i]?=some o:=by exact rfl) (hy:YieldsIf P ops S o v a:=by exact Hj rfl rfl) (e:ZE md ops o a Q t v i9 i a1:=by exact zE):wpAnyH P md ops Q S (fuel+1) i9 a w:=zk G h hi hy e
def Ex (i:Nat) (G:S w) (h:wpAnyH P md ops Q S fuel (i9.setIfInBounds i true) a1 w) (hi:ops.toList[i]?=some o:=by exact rfl) (hy:YieldsIf P ops S o v a:=by exact Pp rfl rfl U0) (e:ZE md ops o a Q t v i9 i a1:=by exact zE):wpAnyH P md ops Q S (fuel+1) i9 a w:=zk G h hi hy e
def UJ (i:Nat) (G:S w) (h:wpAnyH P md ops Q S fuel (i9.setIfInBounds i true) a1 w) (hi:ops.toList[i]?=some o:=by exact rfl) (hy:YieldsIf P ops S o v a:=by exact XT rfl rfl rfl) (e:ZE md ops o a Q t v i9 i a1:=by exact zE):wpAnyH P md ops Q S (fuel+1) i9 a w:=zk G h hi hy e
def g9d (i:Nat) (G:S w) (h:wpAnyH P md ops Q S fuel (i9.setIfInBounds i true) a1 w) (hi:ops.toList[i]?=some o:=by exact rfl) (hy:YieldsIf P ops S o v a:=by exact Tu rfl rfl rfl) (e:ZE md ops o a Q t v i9 i a1:=by exact zE):wpAnyH P md ops Q S (fuel+1) i9 a w:=zk G h hi hy e
def IC (i:Nat) (G:S w) (h:wpAnyH P md ops Q S fuel (i9.setIfInBounds i true) a1 w) (hi:ops.toList[i]?=some o:=by exact rfl) (hy:YieldsIf P ops S o v a:=by exact RT (j:=⟨(k:Int),rd,rs1,rs2,imm⟩) rfl rfl rfl) (e:ZE md ops o a Q t v i9 i a1:=by exact zE):wpAnyH P md ops Q S (fuel+1) i9 a w:=zk G h hi hy e
def va (i:Nat) (G:S w) (h:wpAnyH P md ops Q S fuel (i9.setIfInBounds i true) a1 w) (hi:ops.toList[i]?=some o:=by exact rfl) (hy:YieldsIf P ops S o v a:=by exact TC rfl rfl rfl rfl) (e:ZE md ops o a Q t v i9 i a1:=by exact zE):wpAnyH P md ops Q S (fuel+1) i9 a w:=zk G h hi hy e
def EK (i:Nat) (G:S w) (h:wpAnyH P md ops Q S fuel (i9.setIfInBounds i true) a1 w) (hi:ops.toList[i]?=some o:=by exact rfl) (hy:YieldsIf P ops S o v a:=by exact Sm rfl rfl rfl) (e:ZE md ops o a Q t v i9 i a1:=by exact zE):wpAnyH P md ops Q S (fuel+1) i9 a w:=zk G h hi hy e
end
def zp {P:Program} {md:Region.Mode} {ops:Array Oper} {o:Oper} {a:Act} {Q:Exit->Act->World->Prop} {S:World->Prop} {t fuel:Nat} {v:Value} {a1:Act} {i9:Array Bool} {w:World} (i:Nat) (G:S w) (h:wpAnyH P md ops Q S fuel (i9.setIfInBounds i true) a1 w) (hi:ops.toList[i]?=some o:=by exact rfl) (hd:o.dst=some t:=by rfl) (hs:Region.noSelect ops=true:=by kernel_rfl) (hf:Region.free md ops i9 i=true:=by kernel_rfl) (hr:(Region.ready md ops i9).contains i=true:=by kernel_rfl) (hQ:∀ c a w,Q (.panic c) (a.put o.dst v) w->Q (.panic c) a w:=by exact λ_ _ _ h=>h) (hy:YieldsIf P ops S o v a:=by first|exact nJ kH ax|(apply cg;(· rfl);(intro w;go_simp;done))|(apply cg;(· rfl);(intro w;go_simp;with_reducible rfl))|(apply cg;(· rfl);(intro w;simp only [Wy.cells];go_simp;with_reducible rfl))) (ha:({ a with tmps:=a.tmps.setIfInBounds t v }:Act)=a1:=by first|(simp only [zA,Nat.reduceAdd];exact rfl)|(simp only [zA,Nat.reduceAdd];done)|exact rfl):wpAnyH P md ops Q S (fuel+1) i9 a w:=th hi hd hs hf hr hQ hy G (ha ▸ h)
def aO {B:Nat} {Mr:List Mu} {Dr:List Da} {w0 w1 w':World} {D0 D:List Da} {M:List Mu} (_h:fR B Mr Dr w1) (E:St w0 D0 w' M D) (hM:∀ m∈Mr,m∈M:=by first|exact λ_ h=>h|exact λ_ h=>eI _ (h)|exact λ_ h=>eI _ (eI _ (h))|exact λ_ h=>eI _ (eI _ (eI _ (h)))|exact λ_ h=>eI _ (eI _ (eI _ (eI _ (h))))|((repeat (first|exact cE|refine eZ au ?_)) <;> exact cE)) (hD:∀ d∈Dr,d∈D:=by first|exact λ_ h=>h|exact λ_ h=>eI _ (h)|exact λ_ h=>eI _ (eI _ (h))|exact λ_ h=>eI _ (eI _ (eI _ (h)))|exact λ_ h=>eI _ (eI _ (eI _ (eI _ (h))))|((repeat (first|exact cE|refine eZ au ?_)) <;> exact cE)) (hB:B=w0.heap.size:=by exact rfl):fR B Mr Dr w':=_h.next E hM hD hB
def aB {P:Program} {md:Region.Mode} {ops:Array Oper} {Q:Exit->Act->World->Prop} {S:World->Prop} {fuel:Nat} {i9:Array Bool} {a:Act} {o:Oper} {w:World} (i:Nat) (h:∀ K':Act->World->Prop,Shut (∀ a w,S w->wpAnyH P md ops Q S fuel (i9.setIfInBounds i true) a w->K' a w)->wpList P ops (Exit.then K' Q) [o] a w) (hr:Region.ready md ops i9=[i]:=by kernel_rfl) (ho:ops.toList[i]?=some o:=by exact rfl):wpAnyH P md ops Q S (fuel+1) i9 a w:=wpAnyH_ready (rs:=[i]) hr aF (dK ho h AllReadyH.nil)
def bt {P:Program} {md:Region.Mode} {ops:Array Oper} {Q:Exit->Act->World->Prop} {S:World->Prop} {fuel:Nat} {i9:Array Bool} {a:Act} {w:World} (h:Q .normal a w) (hr:Region.ready md ops i9=[]:=by kernel_rfl):wpAnyH P md ops Q S fuel i9 a w:=wpAnyH_done hr h _
end
section
open Go.RowKit
def Rows.set1 {α:Type}{f:List α->List Value}{cells:α->List Value}{sz}[H:Rows f cells sz]{q k}{v r:α}(h:q[k]?=some v){i u}(hi:i<sz)(hc:cells r=(cells v).set i u):(f q).set (k * sz+i) u=f (q.set k r):=by
 obtain ⟨hl,e⟩:=aK.1 h;have il:(f (q.take k)).length=k * sz:=by rw [H.length,cK,kZ O]
 have e1:f q=f (q.take k)++(cells v++f (q.drop (k+1))):=by
  conv=>lhs;rw [<- sR k q,mn hl,e]
  rw [H.append,show v::q.drop (k+1)=[v]++q.drop (k+1) from rfl,H.append,H.single]
 have e2:f (q.set k r)=f (q.take k)++(cells r++f (q.drop (k+1))):=by
  rw [LQ,aa hl,H.append,show r::q.drop (k+1)=[r]++q.drop (k+1) from rfl,H.append,H.single]
 rw [e1,e2,oV _ _ O,il,v8,AL _ _ (by rw [H.len];exact hi),hc]
section
variable {P:Program} {ops:Array Oper} {rest:List Oper} {o:Oper} {a:Act} {Q:Exit->Act->World->Prop} {S:World->Prop}
def YS {w x y t t' p q}(ho:o.op = .binOp .add t x y t')(hx:ac a x=some (.string p))(hy:ac a y=some (.string q))(hs:p.size+q.size<=9223372036854775807):(execOp a.eval o).run P w = .ok (.value (.string (p++q))) w:=by
 replace hx:=ap hx;replace hy:=ap hy;unfold execOp;simp [ho,hx,hy,eqGuard,binOp_string_add,run_string_add_sum w p q hs]
def rL {x y:Operand} {t t':TypeId} {p q:ByteArray} (ho:o.op = .binOp .add t x y t') (hx:ac a x=some (.string p)) (hy:ac a y=some (.string q)) (hs:p.size+q.size<=9223372036854775807:=by first|omega|(simp only [ByteArray.size_append,Bb];omega)) (hw:Region.wanted o (yielded ops a.tmps)=true:=by rfl) :YieldsIf P ops S o (.string (p++q)) a:=cg hw λw=>YS ho hx hy hs
def sb {x y:Operand} {t t':TypeId} {p q r:Int} (ho:o.op = .binOp .add t x y t') (hx:ac a x=some (I p)) (hy:ac a y=some (I q)) (hr:p+q=r:=by assumption) (h1 : -9223372036854775808<=r:=by omega) (h2:r<=9223372036854775807:=by omega) (hw:Region.wanted o (yielded ops a.tmps)=true:=by rfl) :YieldsIf P ops S o (I r) a:=cg hw λw=>by
 replace hx:=ap hx;replace hy:=ap hy;subst hr;unfold execOp;have b':IntKind.i64.wrap (p+q)=p+q:=by simp only [IntKind.wrap,IntKind.bits,IntKind.signed];simp;omega
 simp only [ho,hx,hy];go_simp
end
end
section
open Go.RowKit
def P7 (l):∀ u∈ai l,u.oneCell'=true:=λu hu=>by
 obtain ⟨x,_,rfl⟩:=fQ.1 hu;rfl
instance u32vOneC (l:List Nat):gQ (ai l):=⟨P7 l⟩
def OG {l:List Nat} {k x:Nat} (h:l[k]?=some x):(ai l)[k * 1]?=some (U (x:Int)):=by rw [dP];simp [ai,h]
def Rd.u32vlen {w B n c A l}(h:Rd w B 1 A n c (ai l)):l.length=n:=by have:=h.len;rw [lY] at this;omega
def Gw (l:List Nat) (k:Nat):(ai l).take k=ai (l.take k):=by simp [ai,List.map_take]
end
section
open Go.RowKit
def lB (T:List Nat) (i9:Array Bool):Prop:=∀ t∈T,i9.getD t false=false
def jO {T:List Nat} {i9:Array Bool} {p:Prop} (t:Nat) (ht:T.contains t=true) (hl:i9.getD t false=true):lB T i9->p:=λh=>by
 have:=h t (by simpa using ht);rw [hl] at this;cases this
def lB.of_set {T i9 i}(h:lB T (i9.setIfInBounds i true)):lB T i9:=λt ht=>by
 have h1:=h t ht;cases h2:i9.getD t false with
 | false=>rfl
 | true=>rw [getD_set_true h2] at h1;cases h1
def lB.set {T i9 i}(h:lB T i9)(hi:i ∉ T):lB T (i9.setIfInBounds i true):=λt ht=>by
 have hne:i≠t:=λe=>hi (by rw [e];exact ht)
 rw [getD_set_ne false hne];exact h t ht
def Closed (md:Region.Mode) (ops:Array Oper) (i9:Array Bool):Prop:=∀ (j:Nat) (o:Oper),ops[j]?=some o->i9.getD j false=true -> ∀ e∈o.after,Region.binds md e=true->i9.getD e.on false=true
def nD (md:Region.Mode) (ops:Array Oper) (i9:Array Bool):Bool:=(List.range ops.size).all λj=>!i9.getD j false || ((ops[j]?).map (·.after.all λe=>!Region.binds md e || i9.getD e.on false)).getD true
def g9h {md:Region.Mode}{ops i9}(h:nD md ops i9=true):Closed md ops i9:=λj o ho hl e he hb=>by
 unfold nD at h;rw [uS] at h;have h1:=h j (List.mem_range.2 (wR.1 ho).1);simp only [ho,hl,dB,tn,Bool.not_true,ui,Ny] at h1;have h2:=h1 e he;simpa [hb] using h2
def Closed.set {md:Region.Mode}{ops i9}(h:Closed md ops i9){j}(hj:j∈Region.ready md ops i9):Closed md ops (i9.setIfInBounds j true):=λk o ho hl e he hb=>by
 by_cases hkj:k=j
 .subst hkj
  obtain ⟨_,o',a3,hall⟩:=mem_ready.1 hj;rw [ho] at a3;injection a3 with a3;subst a3;exact getD_set_true (hall e he hb)
 .rw [getD_set_ne false (Ne.symm hkj)] at hl
  exact getD_set_true (h k o ho hl e he hb)
def behind (md:Region.Mode) (ops:Array Oper) (i:Nat):Nat->Nat->Bool
 | 0,_=>false
 | f+1,t=>match ops[t]? with
  | none=>false
  | some o=>o.after.any λe=>Region.binds md e && (e.on == i || behind md ops i f e.on)
def GY {md:Region.Mode}{ops i i9}(hc:Closed md ops i9):∀ (f t:Nat),behind md ops i f t=true->i9.getD t false=true->i9.getD i false=true
 | 0,t,h,_=>by cases h
 | f+1,t,h,hl=>by
  unfold behind at h;split at h
  .cases h
  .rename_i o ho
   obtain ⟨e,he,hb⟩:=Array.any_eq_true'.1 h;simp only [fi,Bool.or_eq_true,beq_iff_eq] at hb;have h1:=hc t o ho hl e he hb.1;rcases hb.2 with h2|h2
   .rwa [h2] at h1
   .exact GY hc f e.on h2 h1
def D6 {i9:Array Bool}{i}(h:i9.getD i true=false):i9.getD i false=false:=by
 rcases qg i i9.size with h'|h'
 .simp [h'] at h ⊢;exact h
 .simp [Array.getElem?_eq_none h'] at h
section
variable {P:Program} {ops:Array Oper} {Q:Exit->Act->World->Prop} {md:Region.Mode} {S:World->Prop} {T:List Nat} {a:Act} {w:World} {fuel:Nat} {i9:Array Bool} {o:Oper}
def fm (P:Program) (md:Region.Mode) (ops:Array Oper) (Q:Exit->Act->World->Prop) (S:World->Prop) (T:List Nat):Nat->Array Bool->Act->World->Prop
 | 0,i9,a,w=>Region.ready md ops i9=[]/\Q .normal a w
 | fuel+1,i9,a,w=>(Region.ready md ops i9=[]->Q .normal a w) /\
  ∀ i∈Region.ready md ops i9,wpOp P ops Q i (λa' w'=>(lB T (i9.setIfInBounds i true)->S w')/\fm P md ops Q S T fuel (i9.setIfInBounds i true) a' w') a w
def Jt : ∀ (fuel:Nat) (i9:Array Bool) (a:Act) (w:World),fm P md ops Q S T fuel i9 a w->wpAny P md ops Q fuel i9 a w
 | 0,_,_,_,h=>h
 | fuel+1,_,_,_,h=>⟨h.1,λi hi=>wpOp_mono (λa' w' h'=>Jt fuel _ a' w' h'.2) (h.2 i hi)⟩
def O3 {i:Nat} {oi:Oper} {v:Value} (hi:ops[i]?=some oi) (a5:∀ (j:Nat) (o:Oper) cs b,ops[j]?=some o->o.op ≠ .select cs b)(hQ:∀ c a w,Q (.panic c) (a.put oi.dst v) w->Q (.panic c) a w) (bo:i ∉ T) (hT:∀ t∈T,behind md ops i ops.size t=true) :∀ (fuel:Nat) (i9:Array Bool) (a:Act) (w:World),Closed md ops i9 -> (∀ j oj,ops[j]?=some oj->j≠i->i9.getD j true=false->(∀ e∈oj.after,Region.binds md e=true->e.on≠i)->oi.apart ops oj=true) -> i∈Region.ready md ops i9->YieldsIf P ops S oi v a->S w -> fm P md ops Q S T fuel (i9.setIfInBounds i true) (a.put oi.dst v) w->fm P md ops Q S T (fuel+1) i9 a w:=by
 intro fuel
 induction fuel with
 | zero=>
  intro i9 a w _ _ hr hy G H;refine ⟨λh=>AM,λj hj=>?_⟩;by_cases ad:j=i
  .subst ad;exact hy.wpOp hi G ⟨λ_=>G,H⟩
  .have:=ready_mono hj ad
   rw [H.1] at this;cases this
 | succ fuel ih=>
  intro i9 a w aX a6 hr hy G H;refine ⟨λh=>AM,λj hj=>?_⟩;by_cases ad:j=i
  .subst ad;exact hy.wpOp hi G ⟨λ_=>G,H⟩
  .have h1:=H.2 j (ready_mono hj ad)
   obtain ⟨a7,oj,aZ,hall⟩:=mem_ready.1 hj;have bq:=(mem_ready.1 hr).1;have br:∀ e∈oj.after,Region.binds md e=true->e.on≠i:=λe he hb heq=>by
    have h1:=hall e he hb;rw [heq,D6 bq] at h1;cases h1
   have h2:=wpOp_putIf aZ (a6 j oj aZ ad a7 br) (λcs b=>a5 i oi cs b hi) (λcs b=>a5 j oj cs b aZ) hQ hy h1;have bS:=aX.set hj;have bT:=ready_mono hr (Ne.symm ad);have bs:∀ k ok,ops[k]?=some ok->k≠i->(i9.setIfInBounds j true).getD k true=false ->
     (∀ e∈ok.after,Region.binds md e=true->e.on≠i)->oi.apart ops ok=true:=λk ok hk bu a8 iz=>by
    refine a6 k ok hk bu ?_ iz;by_cases hjk:j=k
    .subst hjk;exact a7
    .rw [getD_set_ne true hjk] at a8;exact a8
   have bX:lB T (i9.setIfInBounds j true):=λt ht=>by
    cases h3:(i9.setIfInBounds j true).getD t false with
    | false=>rfl
    | true=>
     have:=GY bS _ _ (hT t ht) h3;rw [D6 (mem_ready.1 bT).1] at this;cases this
   refine wpOp_mono (λa' w' h3=>?_) h2;have a9:S w':=h3.2.1 (by rw [AH _ _ (Ne.symm ad)];exact bX.set bo);refine ⟨λ_=>a9,ih (i9.setIfInBounds j true) a' w' bS bs bT h3.1 a9 ?_⟩;rw [AH _ _ ad];exact h3.2.2
def P8 {i:Nat} {oi:Oper} {v:Value} (hi:ops[i]?=some oi) (a5:∀ (j:Nat) (o:Oper) cs b,ops[j]?=some o->o.op ≠ .select cs b)(hQ:∀ c a w,Q (.panic c) (a.put oi.dst v) w->Q (.panic c) a w) (bo:i ∉ T) :∀ (fuel:Nat) (i9:Array Bool) (a:Act) (w:World),(∀ j oj,ops[j]?=some oj->j≠i->i9.getD j true=false->(∀ e∈oj.after,Region.binds md e=true->e.on≠i)->oi.apart ops oj=true) -> i∈Region.ready md ops i9->YieldsIf P ops (λ_=>True) oi v a->(lB T i9->S w) -> fm P md ops Q S T fuel (i9.setIfInBounds i true) (a.put oi.dst v) w->fm P md ops Q S T (fuel+1) i9 a w:=by
 intro fuel
 induction fuel with
 | zero=>
  intro i9 a w _ hr hy G H;refine ⟨λh=>AM,λj hj=>?_⟩;by_cases ad:j=i
  .subst ad;exact hy.wpOp hi di ⟨λh=>G h.of_set,H⟩
  .have:=ready_mono hj ad
   rw [H.1] at this;cases this
 | succ fuel ih=>
  intro i9 a w a6 hr hy G H;refine ⟨λh=>AM,λj hj=>?_⟩;by_cases ad:j=i
  .subst ad;exact hy.wpOp hi di ⟨λh=>G h.of_set,H⟩
  .have h1:=H.2 j (ready_mono hj ad)
   obtain ⟨a7,oj,aZ,hall⟩:=mem_ready.1 hj;have bq:=(mem_ready.1 hr).1;have br:∀ e∈oj.after,Region.binds md e=true->e.on≠i:=λe he hb heq=>by
    have h1:=hall e he hb;rw [heq,D6 bq] at h1;cases h1
   have h2:=wpOp_putIf aZ (a6 j oj aZ ad a7 br) (λcs b=>a5 i oi cs b hi) (λcs b=>a5 j oj cs b aZ) hQ hy h1;have bs:∀ k ok,ops[k]?=some ok->k≠i->(i9.setIfInBounds j true).getD k true=false ->
     (∀ e∈ok.after,Region.binds md e=true->e.on≠i)->oi.apart ops ok=true:=λk ok hk bu a8 iz=>by
    refine a6 k ok hk bu ?_ iz;by_cases hjk:j=k
    .subst hjk;exact a7
    .rw [getD_set_ne true hjk] at a8;exact a8
   refine wpOp_mono (λa' w' h3=>?_) h2;have a9:lB T (i9.setIfInBounds j true)->S w':=λh4=>h3.2.1 (by rw [AH _ _ (Ne.symm ad)];exact h4.set bo)
   refine ⟨a9,ih (i9.setIfInBounds j true) a' w' bs (ready_mono hr (Ne.symm ad)) h3.1 a9 ?_⟩;rw [AH _ _ ad];exact h3.2.2
def mJ (hr:Region.ready md ops i9=[]) (h:Q .normal a w):∀ fuel,fm P md ops Q S T fuel i9 a w
 | 0=>⟨hr,h⟩
 | _+1=>⟨λ_=>h,by rw [hr];simp⟩
def dH (P:Program) (md:Region.Mode) (ops:Array Oper) (Q:Exit->Act->World->Prop) (S:World->Prop) (T:List Nat) (fuel:Nat) (i9:Array Bool) (a:Act) (w:World) (rs:List Nat):Prop :=
 ∀ i∈rs,wpOp P ops Q i (λa' w'=>(lB T (i9.setIfInBounds i true)->S w')/\fm P md ops Q S T fuel (i9.setIfInBounds i true) a' w') a w
def dH.nil : dH P md ops Q S T fuel i9 a w []:=λ_ h=>by cases h
def ev {rs}(hr:Region.ready md ops i9=rs)(hne:rs≠[])(h:dH P md ops Q S T fuel i9 a w rs):fm P md ops Q S T (fuel+1) i9 a w :=
 ⟨λh0=>absurd (hr ▸ h0) hne,hr ▸ h⟩
def et {i rs}(ho:ops.toList[i]?=some o)(h:∀ K':Act->World->Prop,Shut (∀ a w,(lB T (i9.setIfInBounds i true)->S w)->fm P md ops Q S T fuel (i9.setIfInBounds i true) a w->K' a w)->wpList P ops (Exit.then K' Q) [o] a w)(hs:dH P md ops Q S T fuel i9 a w rs):dH P md ops Q S T fuel i9 a w (i::rs):=λj hj=>by
 rw [uc] at ho;rcases bB.1 hj with rfl|hj
 .have h1:=h (λa' w'=>(lB T (i9.setIfInBounds j true)->S w')/\fm P md ops Q S T fuel (i9.setIfInBounds j true) a' w') (λa w G hW=>⟨G,hW⟩)
  unfold wpOp;simp only [ho];unfold wpList at h1;split
  .rename_i hw
   rw [aa hw] at h1;rcases h1 with h1|⟨h1,b,w2,h2⟩
   .exact .inl (Oper.wp_then h1)
   .exact .inr ⟨h1,b,w2,h2⟩
  .rename_i hw
   rw [Y hw] at h1;exact h1
 .exact hs j hj
def mA {id w0 D0 D M}(T)(hm:P.follows .mixedOrders=true)(E:St w0 D0 w M D)(Mr Dr)(hM:∀ m∈Mr,m∈M)(hD:∀ d∈Dr,d∈D)(h:St w0 D0 w.drew M D->fR w0.heap.size Mr Dr w.drew->fm P .any ops Q (fR w0.heap.size Mr Dr) T ops.size (Array.replicate ops.size false) a w.drew):(Code.region id ops true).wp P Q a w :=
 wp_region_any hm (Jt _ _ _ _ (h (E.grow (af.drew w)) ((E.grow (af.drew w)).hold hM hD)))
def yX {i t:Nat} {v:Value} (hi:ops.toList[i]?=some o) (hy:YieldsIf P ops S o v a) (G:S w)(h:fm P md ops Q S T fuel (i9.setIfInBounds i true) { a with tmps:=a.tmps.setIfInBounds t v } w) (hd:o.dst=some t:=by rfl)(hs:Region.noSelect ops=true:=by kernel_rfl) (hf:Region.free md ops i9 i=true:=by kernel_rfl) (hr:(Region.ready md ops i9).contains i=true:=by kernel_rfl) (aX:nD md ops i9=true:=by kernel_rfl)(hT:(!T.contains i && T.all λt=>behind md ops i ops.size t)=true:=by kernel_rfl) (hQ:∀ c a w,Q (.panic c) (a.put o.dst v) w->Q (.panic c) a w:=by exact λ_ _ _ h=>h):fm P md ops Q S T (fuel+1) i9 a w:=by
 rw [uc] at hi;simp only [fi,Bool.not_eq_true',uS] at hT;refine O3 hi (Region.noSelect_spec hs) hQ (by simpa using hT.1) hT.2 fuel i9 a w (g9h aX) (Region.free_spec hi hf) (by simpa using hr) hy G ?_;rw [hd];exact h
def oA {i t:Nat} {v:Value} (hi:ops.toList[i]?=some o) (hy:YieldsIf P ops (λ_=>True) o v a) (G:lB T i9->S w)(h:fm P md ops Q S T fuel (i9.setIfInBounds i true) { a with tmps:=a.tmps.setIfInBounds t v } w) (hd:o.dst=some t:=by rfl)(hs:Region.noSelect ops=true:=by kernel_rfl) (hf:Region.free md ops i9 i=true:=by kernel_rfl) (hr:(Region.ready md ops i9).contains i=true:=by kernel_rfl)(hT:(!T.contains i)=true:=by kernel_rfl) (hQ:∀ c a w,Q (.panic c) (a.put o.dst v) w->Q (.panic c) a w:=by exact λ_ _ _ h=>h):fm P md ops Q S T (fuel+1) i9 a w:=by
 rw [uc] at hi;refine P8 hi (Region.noSelect_spec hs) hQ (by simpa using hT) fuel i9 a w (Region.free_spec hi hf) (by simpa using hr) hy G ?_;rw [hd];exact h
end
section
variable {P:Program} {md:Region.Mode} {ops:Array Oper} {o:Oper} {a a1:Act} {Q:Exit->Act->World->Prop} {S:World->Prop} {T:List Nat} {t i fuel:Nat} {v:Value} {i9:Array Bool} {w:World}
def xj (hd:o.dst=some t:=by rfl) (hs:Region.noSelect ops=true:=by kernel_rfl) (hf:Region.free md ops i9 i=true:=by kernel_rfl) (hr:(Region.ready md ops i9).contains i=true:=by kernel_rfl) (aX:nD md ops i9=true:=by kernel_rfl) (hT:(!T.contains i && T.all λt=>behind md ops i ops.size t)=true:=by kernel_rfl) (hQ:∀ c a w,Q (.panic c) (a.put o.dst v) w->Q (.panic c) a w:=by exact λ_ _ _ h=>h) (ha:({ a with tmps:=a.tmps.setIfInBounds t v }:Act)=a1:=by first|(simp only [zA,Nat.reduceAdd];exact rfl)|(simp only [zA,Nat.reduceAdd];done)|exact rfl):ZE md ops o a Q t v i9 i a1/\nD md ops i9=true/\(!T.contains i && T.all λt=>behind md ops i ops.size t)=true:=⟨⟨hd,hs,hf,hr,hQ,ha⟩,aX,hT⟩
def zt (G:S w) (h:fm P md ops Q S T fuel (i9.setIfInBounds i true) a1 w) (hi:ops.toList[i]?=some o) (hy:YieldsIf P ops S o v a) (e:ZE md ops o a Q t v i9 i a1/\nD md ops i9=true/\(!T.contains i && T.all λt=>behind md ops i ops.size t)=true):fm P md ops Q S T (fuel+1) i9 a w:=yX hi hy G (e.1.ha ▸ h) e.1.hd e.1.hs e.1.hf e.1.hr e.2.1 e.2.2 e.1.hQ
def bi (i:Nat) (G:S w) (h:fm P md ops Q S T fuel (i9.setIfInBounds i true) a1 w) (hi:ops.toList[i]?=some o:=by exact rfl) (hy:YieldsIf P ops S o v a:=by first|exact vZ F F|exact vE F F) (e:ZE md ops o a Q t v i9 i a1/\nD md ops i9=true/\(!T.contains i && T.all λt=>behind md ops i ops.size t)=true:=by exact xj):fm P md ops Q S T (fuel+1) i9 a w:=zt G h hi hy e
def lE (i:Nat) (G:S w) (h:fm P md ops Q S T fuel (i9.setIfInBounds i true) a1 w) (hi:ops.toList[i]?=some o:=by exact rfl) (hy:YieldsIf P ops S o v a:=by first|exact mz F F|exact oI F F|exact qR F F|exact ph F F|exact la F F|exact la F F (hu:=by assumption)) (e:ZE md ops o a Q t v i9 i a1/\nD md ops i9=true/\(!T.contains i && T.all λt=>behind md ops i ops.size t)=true:=by exact xj):fm P md ops Q S T (fuel+1) i9 a w:=zt G h hi hy e
def zt2 (i:Nat) (G:S w) (h:fm P md ops Q S T fuel (i9.setIfInBounds i true) a1 w) (hi:ops.toList[i]?=some o:=by exact rfl) (hy:YieldsIf P ops S o v a:=by first|exact zn F F F|exact zR F F F) (e:ZE md ops o a Q t v i9 i a1/\nD md ops i9=true/\(!T.contains i && T.all λt=>behind md ops i ops.size t)=true:=by exact xj):fm P md ops Q S T (fuel+1) i9 a w:=zt G h hi hy e
def jz (i:Nat) (G:S w) (h:fm P md ops Q S T fuel (i9.setIfInBounds i true) a1 w) (hi:ops.toList[i]?=some o:=by exact rfl) (hy:YieldsIf P ops S o v a:=by first|exact mz F F (hv:=by with_reducible assumption)|exact mz F F|exact oI F F|exact qR F F|exact ph F F|exact la F F|exact la F F (hu:=by assumption)) (e:ZE md ops o a Q t v i9 i a1/\nD md ops i9=true/\(!T.contains i && T.all λt=>behind md ops i ops.size t)=true:=by exact xj):fm P md ops Q S T (fuel+1) i9 a w:=zt G h hi hy e
def cZ (i:Nat) (G:S w) (h:fm P md ops Q S T fuel (i9.setIfInBounds i true) a1 w) (hi:ops.toList[i]?=some o:=by exact rfl) (hy:YieldsIf P ops S o v a:=by exact yW rfl rfl) (e:ZE md ops o a Q t v i9 i a1/\nD md ops i9=true/\(!T.contains i && T.all λt=>behind md ops i ops.size t)=true:=by exact xj):fm P md ops Q S T (fuel+1) i9 a w:=zt G h hi hy e
end
def zq {P:Program} {md:Region.Mode} {ops:Array Oper} {o:Oper} {a:Act} {Q:Exit->Act->World->Prop} {S:World->Prop} {T:List Nat} {t fuel:Nat} {v:Value} {a1:Act} {i9:Array Bool} {w:World} (i:Nat) (G:S w) (h:fm P md ops Q S T fuel (i9.setIfInBounds i true) a1 w) (hi:ops.toList[i]?=some o:=by exact rfl) (hd:o.dst=some t:=by rfl) (hs:Region.noSelect ops=true:=by kernel_rfl) (hf:Region.free md ops i9 i=true:=by kernel_rfl) (hr:(Region.ready md ops i9).contains i=true:=by kernel_rfl) (aX:nD md ops i9=true:=by kernel_rfl) (hT:(!T.contains i && T.all λt=>behind md ops i ops.size t)=true:=by kernel_rfl) (hQ:∀ c a w,Q (.panic c) (a.put o.dst v) w->Q (.panic c) a w:=by exact λ_ _ _ h=>h) (hy:YieldsIf P ops S o v a:=by first|exact nJ kH ax|(apply cg;(· rfl);(intro w;go_simp;done))|(apply cg;(· rfl);(intro w;go_simp;with_reducible rfl))|(apply cg;(· rfl);(intro w;simp only [Wy.cells];go_simp;with_reducible rfl))) (ha:({ a with tmps:=a.tmps.setIfInBounds t v }:Act)=a1:=by first|(simp only [zA,Nat.reduceAdd];exact rfl)|(simp only [zA,Nat.reduceAdd];done)|exact rfl):fm P md ops Q S T (fuel+1) i9 a w:=yX hi hy G (ha ▸ h) hd hs hf hr aX hT hQ
end
section
open Go.RowKit
def xe (a:Act):List (Nat × Operand)->Option (List (Nat × Value))
 | []=>some []
 | x::r=>match ac a x.2,xe a r with
  | some v,some vs=>some ((x.1,v)::vs)
  | _,_=>none
def Fg {a}:∀ {l:List (Nat × Operand)} {vs:List (Nat × Value)},xe a l=some vs->l.map (λx=>(x.1,a.eval x.2))=vs
 | [],vs,h=>Option.some.inj h
 | x::r,vs,h=>by
  unfold xe at h;split at h
  .rename_i v ws hv hw
   injection h with h;rw [<- h,kg,Fg hw,ap hv]
  .cases h
section
variable {P:Program} {ops:Array Oper} {rest:List Oper} {o:Oper} {a:Act} {Q:Exit->Act->World->Prop} {w:World} {S:World->Prop}
def g9k {t}{parts:Array (Nat × Operand)}{vs:List (Nat × Value)}{cs:List Value}(ho:o.op = .build t parts)(hl:xe a parts.toList=some vs)(hb:P.built t vs=some cs.toArray):(execOp a.eval o).run P w = .ok (.value (.agg cs.toArray)) w:=by
 have hp:(parts.map λ(x:Nat × Operand)=>(x.1,a.eval x.2)).toList=vs:=by
  rw [Array.toList_map];exact Fg hl
 have hr:=run_build (P:=P) w t (parts.map λ(x:Nat × Operand)=>(x.1,a.eval x.2)) cs.toArray (by rw [hp];exact hb);unfold execOp;simp only [ho];simp only [bC,hr,bG,bL]
def nN {t:TypeId} {parts:Array (Nat × Operand)} {vs:List (Nat × Value)} {cs:List Value} (ho:o.op = .build t parts) (hl:xe a parts.toList=some vs) (hb:P.built t vs=some cs.toArray)(h:wpList P ops Q rest (a.put o.dst (.agg cs.toArray)) w) (hw:Region.wanted o (yielded ops a.tmps)=true:=by rfl):wpList P ops Q (o::rest) a w:=by
 refine cI hw λK X=>?_
 unfold Oper.wp;rw [g9k ho hl hb];exact X _ _ h
def rZ {t e:TypeId} {n k:Nat} {ki:IntKind} {x ix:Operand} {cs:List Value} {v:Value} (ho:o.op = .index t x ix) (hx:ac a x=some (.agg cs.toArray)) (hk:ac a ix=some (.int ki (k:Int)))(ht:P.underlying t=some (.array n e)) (he:∃ d,P.underlying e=some d/\(∀ fs,d ≠ .struct fs)/\(∀ m f,d ≠ .array m f)) (hs:(P.info? e).map (·.size)=some 1) (h:wpList P ops Q rest (a.put o.dst v) w)(ik:k<n:=by decide) (hv:cs[k]?=some v:=by exact rfl) (hw:Region.wanted o (yielded ops a.tmps)=true:=by rfl):wpList P ops Q (o::rest) a w:=by
 replace hx:=ap hx;replace hk:=ap hk;obtain ⟨d,hd,ca,hd2⟩:=he;refine cI hw λK X=>?_
 have hsz:(sizeOf e).run P w = .ok 1 w:=by
  cases hq:P.info? e with
  | none=>simp [hq] at hs
  | some i=>
   simp only [hq,dB,dF] at hs;simp [sizeOf,typeInfo,hq,hs]
 have hagg:(isAgg e).run P w = .ok false w:=by
  unfold isAgg;rw [bC,eH hd w];cases d <;> simp_all
 have hp:(part e cs.toArray k).run P w = .ok v w:=by
  unfold part;rw [bC,hagg];simp [bG,hv]
 have hk1:k * 1=k:=dP k;have ip:(Instr.index t (.agg cs.toArray) (.int ki (k:Int))).run P w = .ok v w:=by
  unfold Instr.index;simp [eH ht,asIntOf,hsz,hp,show (k:Int)<(n:Int) by omega];intro h;omega
 unfold Oper.wp execOp;simp only [ho,hx,hk,ip,bC,bL,bG];exact X _ _ h
end
end
section
open Go.RowKit
namespace Me
def cleanN (k:Nat):Nat:=if k<=16 then 16 else if k<=32 then 32 else if k<=64 then 64 else if k<=128 then 128 else 256
def cleanL (l:List UInt8):List UInt8:=l.take 256++List.replicate (cleanN (l.take 256).length - (l.take 256).length) 0
def cleanN_cases (k:Nat):cleanN k=16\/cleanN k=32\/cleanN k=64\/cleanN k=128\/cleanN k=256:=by
 unfold cleanN;repeat' split
 all_goals simp
def g9l {k}(h:k<=256):k<=cleanN k:=by
 unfold cleanN;repeat' split
 all_goals omega
def cleanL_len (l):(cleanL l).length=cleanN (min 256 l.length):=by
 have:=g9l (k:=min 256 l.length) O;simp only [cleanL,ea,cK,qj];omega
def u8infoM : (Tryz.prog.info? 5).map (λi=>(i.zero,i.size,i.bytes))=some (some (.int .u8 0),1,1):=by kernel_rfl
def g9m (k:Nat) (a:List UInt8) (h:a.length<=k):spl (ck (List.replicate k 0)) 0 (ck a)=ck (a++List.replicate (k - a.length) 0):=by
 rw [qF _ _ _ (by rw [jK,jK,qj];omega),sJ,jK];simp [ck]
def zeros_made (k:Nat):(madeCells (Value.cells (.int .u8 0)) (k * 1)).toList=ck (List.replicate k 0):=by
 rw [dP];refine (vx _ _).trans ?_;simp [ck]
def cleanN_of {n k}(hk:k=16\/k=32\/k=64\/k=128\/k=256)(bd:k=16\/k<2 * n)(h:n<=k):cleanN n=k:=by
 unfold cleanN;rcases hk with h|h|h|h|h <;> subst h <;> (repeat' split) <;> omega
def J6 {M m k}(hM:M=m.take 256)(hk:cleanN M.length=k):M++List.replicate (k - M.length) 0=cleanL m:=by
 subst hk hM;rfl
def FG {a b:List UInt8} (h:a=b):Ending.returned (.string ⟨a.toArray⟩) = .returned (.string ⟨b.toArray⟩):=by rw [h]
def Clean_any (m w)(hm:m.size<=9223372036854775807):Ca 27 #[.string m] w (RB w (.string ⟨(cleanL m.data.toList).toArray⟩)):=by
 obtain ⟨i0,hi,be,a4,pe⟩:=info_parts u8infoM;have bh:∀ (k:Nat) (M:ByteArray) (W:World),M.size<=k->k<=256->Bk W w.heap.size 5 (spl (madeCells (Value.cells (.int .u8 0)) (k * 1)).toList 0 (ck (M.data.toList.take (min M.size k)))) ->
   Rd W W.heap.size 1 (some ⟨w.heap.size,0,none⟩) k k (ck (M.data.toList++List.replicate (k - M.data.toList.length) 0)):=by
  intro k M W h1 h2 hb;rw [zeros_made,cD xR,g9m _ _ (by rw [ly];exact h1)] at hb;have:=hb.rd (sz:=1) (n:=k) (c:=k) (o:=0) (by rw [jK,ea,qj,ly];omega) (aM _) eT
  rwa [rh,cD (by rw [jK,ea,qj,ly];omega)] at this
 by_cases h:256<m.size
 .go_enter func27,ntmps27
  go_wp2;have bw:=xz m 0 256;have b1:=Bb m 0 256;rw [rh] at bw;generalize m.extract 0 256=M at *;have hM:M.size<=256:=by omega
  have Hm:=V bw;clear bw b1;go_loop [3] (λz=>∃ k:Nat,(k=16\/k=32\/k=64\/k=128\/k=256)/\(k=16\/k<2 * M.size)/\z = I (k:Int)) (λz=>512 - (intOf z).toNat);case atStart=>exact ⟨16,by omega,by omega,rfl⟩
  case round=>
   obtain ⟨k,hk,bd,rfl⟩:=hrel;by_cases hlt:k<M.size
   .go_wp2
    go_round;case rel=>exact ⟨2 * k,by omega,by omega,by go_num⟩
    case measure=>exact zM
   .have Hk:=V (cleanN_of hk bd (show M.size<=k by omega))
    have uR:=V (λW=>bh k M W O O);clear bh;go_wp2_with ((first|(at_make;refine wpList_make_full _ F _ _ 104 ax w.heap.size 5 i0 (.int .u8 0) 1 underlying104 hi be a4 _ _ _ _ k ax ax F F xr eT (aM _) ?_;intro w1 ir hg;have bx:=Bk.of_own ir F)|(refine BR F _ _ 104 9 ax 5 underlying104 (by rw [hi];simp [a4]) w.heap.size 0 k k M ax ax 5 _ bx (by have:=ir.1;omega) ?_;intro w2 KV bA)|refine KQ ?_));go_ret;exact ⟨FG (J6 Hm.out xX),((af.refl w).grown hg aF).grown bA aF⟩
 .go_enter func27,ntmps27
  go_wp2;go_loop [3] (λz=>∃ k:Nat,(k=16\/k=32\/k=64\/k=128\/k=256)/\(k=16\/k<2 * m.size)/\z = I (k:Int)) (λz=>512 - (intOf z).toNat);case atStart=>exact ⟨16,by omega,by omega,rfl⟩
  case round=>
   obtain ⟨k,hk,bd,rfl⟩:=hrel;by_cases hlt:k<m.size
   .go_wp2
    go_round;case rel=>exact ⟨2 * k,by omega,by omega,by go_num⟩
    case measure=>exact zM
   .have Hk:=V (cleanN_of hk bd (show m.size<=k by omega))
    have uR:=V (λW=>bh k m W O O);clear bh;go_wp2_with ((first|(at_make;refine wpList_make_full _ F _ _ 104 ax w.heap.size 5 i0 (.int .u8 0) 1 underlying104 hi be a4 _ _ _ _ k ax ax F F xr eT (aM _) ?_;intro w1 ir hg;have bx:=Bk.of_own ir F)|(refine BR F _ _ 104 9 ax 5 underlying104 (by rw [hi];simp [a4]) w.heap.size 0 k k m ax ax 5 _ bx (by have:=ir.1;omega) ?_;intro w2 KV bA)|refine KQ ?_));go_ret;exact ⟨FG (J6 (by rw [cD xR]) xX),((af.refl w).grown hg aF).grown bA aF⟩
end Me
end
section
open Go.RowKit Go.Sort
def mh (x:Nat) (w:World) (hx:x<4294967296) :Ca 63 #[U (x:Int)] w λe w'=>e = .returned (U ((x - x % 16:Nat):Int)) /\ ∃ d,w'=w.drewN d:=by
 have h1:(0:Int)<=(x:Int) - (x:Int) % 16:=by omega
 go_enter func63,ntmps63;go_wp2;go_ret;exact ⟨dI O,0,rfl⟩
def Mi : cO Tryz.prog 35 2:=⟨_,underlying35,rfl,by kernel_rfl⟩
def II (ways:Int) (A:Option Addr) (n c x:Nat) (w:World) (hn:n=1\/n=2\/n=4) (hx:x<4294967296) :Ca 139 #[.agg #[I ways,.slice A n c],U (x:Int)] w (RB w (I ((x / 16 % n:Nat):Int))):=by
 rcases hn with rfl|rfl|rfl
 all_goals
  go_enter func139,ntmps139;go_wp2;go_ret;exact ⟨xl O,af.alloc _ _⟩
def CR (A:Option Addr) (n c:Nat) (q:List Wy) (x:Nat) (w:World) (hr:Rd w w.heap.size 3 A n c (bv q)) (at':Nat) (b:Bool) (hb:(b=true /\ ∃ v,At q x at' v /\ ∀ j<at',∀ u,q[j]?=some u->u.line≠x)\/(b=false/\at'=0/\pP q x)) :Ca 140 #[.slice A n c,U (x:Int)] w (RB w (.tuple #[I (at':Int),.bool b])):=by
 have hc1:=hr.le;have aN:=hr.mx;unfold maxLen at aN;have Hn:=V hr.wyslen;have Hb:=V hb;clear hb;go_enter func140,ntmps140;go_wp2;go_loopw [10] (λi wr=>∃ k:Nat,k<=n/\i = I (k:Int)/\(∀ j<k,∀ u,q[j]?=some u->u.line≠x)/\af w wr) (λi _=>n - (intOf i).toNat);case atStart=>exact ⟨0,by omega,rfl,λj h=>absurd h O,af.refl w⟩
 case round=>
  obtain ⟨k,hk,rfl,hall,ii⟩:=hrel;have a0:=V hall;clear hall;by_cases ik:k<n
  .obtain ⟨hl,g,o,rfl,hg,jH⟩:=(hr.bel ii).wyselem ik
   replace jH:=V jH;have eY:q[k]?=some (q[k]'hl):=ba hl;obtain ⟨v,hv⟩:∃ v,q[k]'hl=v:=⟨_,rfl⟩;rw [hv] at jH eY;clear hv;replace eY:=V eY;by_cases hx:v.line=x
   .have hxb:((v.line:Int) == (x:Int))=true:=by simp [hx]
    have bJ:Hid (b=true/\at'=k):=by
     rcases Hb.out with ⟨aJ,u,ha,hf⟩|⟨aJ,_,nC⟩
     .refine ⟨aJ,?_⟩
      rcases wM at' k with h|h|h
      .exact absurd ha.line (a0.out at' h u ha.is)
      .exact h
      .exact absurd hx (hf k h v eY.out)
     .exact absurd hx (nC v (oh.2 ⟨k,eY.out⟩))
    clear hx;go_wp2_with ((first|refine NI ?_|(refine vw ax 101 (.tmp 7) (.tmp 14) ax wr.heap.size v.cells ax ax 101 uq ?_ F w9 v.one ?_;exact Bk.new wr _ uq;intro w1 hk1 cW aE al;have c0:w1.cell? ⟨wr.heap.size,0,none⟩=some (U (v.line:Int)):=hk1.cell 0;clear cW aE)));go_ret2;obtain ⟨rfl,rfl⟩:=bJ.out;exact ⟨rfl,ii.trans (al _ (af.alloc _ _) (aM _))⟩
   .have hxb:((v.line:Int) == (x:Int))=false:=by rw [pI];omega
    replace hx:=V hx;go_wp2_with ((first|refine NI ?_|(refine vw ax 101 (.tmp 7) (.tmp 14) ax wr.heap.size v.cells ax ax 101 uq ?_ F w9 v.one ?_;exact Bk.new wr _ uq;intro w1 hk1 cW aE al;have c0:w1.cell? ⟨wr.heap.size,0,none⟩=some (U (v.line:Int)):=hk1.cell 0;clear cW aE)));go_roundw;case rel=>
     refine ⟨k+1,by omega,by go_num,λj hj u hu=>?_,ii.trans (al _ (af.alloc _ _) (aM _))⟩;rcases qg j k with h|h
     .exact a0.out j h u hu
     .obtain rfl:j=k:=by omega
      have e:=eY.out;rw [hu] at e;injection e with e;rw [e];exact hx.out
    case measure=>exact zM
  .obtain rfl:k=n:=by omega
   have bJ:Hid (b=false/\at'=0):=by
    rcases Hb.out with ⟨aJ,u,ha,hf⟩|⟨aJ,h0,nC⟩
    .have hl:=(aK.1 ha.is).1
     exact absurd ha.line (a0.out at' rA u ha.is)
    .exact ⟨aJ,h0⟩
   go_wp2;go_ret2;obtain ⟨rfl,rfl⟩:=bJ.out;exact ⟨rfl,ii⟩
end
section
open Go.RowKit
section
variable {P:Program} {ops:Array Oper} {rest:List Oper} {o:Oper} {a:Act} {Q:Exit->Act->World->Prop} {S:World->Prop}
def XV {w x y t t' k p q}(ho:o.op = .binOp .neq t x y t')(hx:ac a x=some (.int k p))(hy:ac a y=some (.int k q))(hne:¬ (p=q)):(execOp a.eval o).run P w = .ok (.value (.bool true)) w:=by
 replace hx:=ap hx;replace hy:=ap hy;unfold execOp;simp only [ho,hx,hy];go_simp
def Vz {w x y t t' k p q}(ho:o.op = .binOp .eql t x y t')(hx:ac a x=some (.int k p))(hy:ac a y=some (.int k q))(hne:¬ (p=q)):(execOp a.eval o).run P w = .ok (.value (.bool false)) w:=by
 replace hx:=ap hx;replace hy:=ap hy;unfold execOp;simp only [ho,hx,hy];go_simp
def zS {w:World} {x y:Operand} {t t':TypeId} {k:IntKind} {p q:Int} (ho:o.op = .binOp .neq t x y t') (hx:ac a x=some (.int k p)) (hy:ac a y=some (.int k q)) (h:wpList P ops Q rest (a.put o.dst (.bool true)) w) (hne:¬ (p=q):=by assumption) (hw:Region.wanted o (yielded ops a.tmps)=true:=by rfl):wpList P ops Q (o::rest) a w:=by
 refine cI hw λK X=>?_
 unfold Oper.wp;rw [XV ho hx hy hne];exact X _ _ h
def qi {w:World} {x y:Operand} {t t':TypeId} {k:IntKind} {p q:Int} (ho:o.op = .binOp .eql t x y t') (hx:ac a x=some (.int k p)) (hy:ac a y=some (.int k q)) (h:wpList P ops Q rest (a.put o.dst (.bool false)) w) (hne:¬ (p=q):=by assumption) (hw:Region.wanted o (yielded ops a.tmps)=true:=by rfl):wpList P ops Q (o::rest) a w:=by
 refine cI hw λK X=>?_
 unfold Oper.wp;rw [Vz ho hx hy hne];exact X _ _ h
inductive UC (P:Program) (s f off:Nat):Prop
 | mk (fs:Array Field) (fl:Field) (hu:P.underlying s=some (.struct fs)) (hf:fs[f]?=some fl) (ho:fl.offset=off) (h1:jD P fl.type)
end
end
section
open Go.RowKit
namespace Wd
def Fs : (Tryz.prog.info? 5).map (λi=>(i.zero,i.size,i.bytes))=some (some (.int .u8 0),1,1):=by kernel_rfl
def Rm {a b c}(h:a=b):Ending.returned (.tuple #[U a,I c]) = .returned (.tuple #[U b,I c]):=by rw [h]
def Oo {s:ByteArray}{k}(h:s.size<=4)(hlt:k<s.size):bits BinOp.or IntKind.u32 ((dl (s.data.toList.take k):Nat):Int) (((s[k]'hlt).toNat:Int) % 4294967296 * 2 ^ (8 * k) % 4294967296)=((dl (s.data.toList.take (k+1)):Nat):Int):=by
 have hl:k<s.data.toList.length:=by simpa using hlt
 have hb:=(s[k]'hlt).toNat_lt;have he:(s[k]'hlt)=s.data.toList[k]'hl:=rfl;have h2:=OM (b:=(s[k]'hlt).toNat) O (show k<4 by omega);rw [UN hl,<- he,<- u32_or_nat _ _ (tS eX) h2];congr 1;rw [show (((s[k]'hlt).toNat:Nat):Int) % 4294967296=((s[k]'hlt).toNat:Int) by omega,qy,<- m0];omega
def LW (s w)(h:s.size<=4):Ca 169 #[.string s] w λe w'=>e = .returned (.tuple #[U (dl s.data.toList:Int),I 0]) /\ ∃ n,w'=w.drewN n:=by
 go_enter func169,ntmps169;go_wp2;go_loop [4,11] (λx i=>∃ k:Nat,k<=s.size/\i = I (k:Int)/\x = U (dl (s.data.toList.take k):Int)) (λ_ i=>s.size - (intOf i).toNat);case atStart=>exact ⟨0,by omega,rfl,rfl⟩
 case round=>
  obtain ⟨k,hk,rfl,rfl⟩:=hrel;by_cases hlt:k<s.size
  .have Hs:=V (Oo h hlt)
   go_wp2;go_round;case rel=>exact ⟨k+1,by omega,by go_num,by rw [Hs.out]⟩
   case measure=>exact zM
  .go_wp2
   go_ret2;exact ⟨Rm (by rw [cD eX]),0,rfl⟩
def pn (x s k:Nat):List Value:=ck (bytesL x k)++List.replicate (s - k) (.int .u8 0)
def UE {x s k}(h:k<=s):(pn x s k).length=s:=by simp [pn,jK,qE];omega
def XX {x s k}(h:k<s):(pn x s k).set k (.int .u8 ((x / 2 ^ (8 * k) % 256:Nat):Int))=pn x s (k+1):=by
 have hl:(ck (bytesL x k)).length=k:=by rw [jK,qE]
 unfold pn;rw [oV _ _ (by rw [hl];exact aM _),hl,uL,show s - k=(s - (k+1))+1 by omega,List.replicate_succ,fL,Fx,sJ];simp [ck]
def Bytes_any (x:Nat) (s:Nat) (w:World) (hx:x<4294967296) (h:s<=4) :Ca 129 #[U (x:Int),I (s:Int)] w (RB w (.tuple #[.string ⟨(bytesL x s).toArray⟩,I 0])):=by
 obtain ⟨i0,hi,be,a4,pe⟩:=info_parts Fs;go_enter func129,ntmps129;go_wp2_with (at_make;refine wpList_make_full _ F _ _ 104 ax w.heap.size 5 i0 (.int .u8 0) 1 underlying104 hi be a4 _ _ _ _ s ax ax F F xr eT (aM _) ?_;intro w1 ir hg);have ii:af w w1:=(af.refl w).grown hg aF;have hlt:w.heap.size<w1.heap.size:=(ir.lt w.heap.size F).2;rw [show (madeCells (Value.cells (.int .u8 0)) (s * 1)).toList=pn x s 0 by rw [dP];exact vx _ _] at ir;go_loopw [17] (λi wr=>∃ k:Nat,k<=s/\i = I (k:Int)/\wr.ownsRow w.heap.size 5 1 (.slice (some ⟨w.heap.size,0,none⟩) s s) s (pn x s k)/\af w wr) (λi _=>s - (intOf i).toNat);case atStart=>exact ⟨0,by omega,rfl,ir,ii⟩
 case round=>
  obtain ⟨k,hk,rfl,ir,ii⟩:=hrel;by_cases b2:k<s
  .have hl:=UE (x:=x) hk
   have hc:=ir.cellAt k O;rw [ba O] at hc;obtain ⟨u,hu⟩:∃ u,u=(pn x s k)[k]' O:=⟨_,rfl⟩;rw [<- hu] at hc;have hf:=ir.frozenAt k;have Ho:=V (ir.stored k (.int .u8 ((x / 2 ^ (8 * k) % 256:Nat):Int)));clear hu ir hl;go_wp2;go_roundw;case rel=>
    have h1:=Ho.out.1;rw [XX b2] at h1;rw [show ((x:Int) / 2 ^ (8 * k) % 256)=((x / 2 ^ (8 * k) % 256:Nat):Int) by rw [yH];omega];exact ⟨k+1,by omega,by go_num,h1,ii.setCell (aM _) _⟩
   case measure=>exact zM
  .obtain rfl:k=s:=by omega
   rw [show pn x k k=ck (bytesL x k) by simp [pn]] at ir;obtain ⟨A,c,e,hr⟩:=Rd.of_own ir;injection e with e1 _ e2;subst e1 e2;have Hr:=V hr;clear hr;go_wp2_with (refine Q2 ?_);go_ret2;exact ⟨rfl,ii⟩
end Wd
end
section
open Go.RowKit
namespace Me
def vv (zs:List Nat):List Value:=zs.map λ(z:Nat)=>Value.int .u32 (z:Int)
def Xo (zs):(vv zs).length=zs.length:=by simp [vv]
def PU {zs k}(h:k<zs.length):(vv zs)[k]?=some (U ((zs[k]'h:Nat):Int)):=by simp [vv,h]
def Fetch_yes (A:Option Addr) (n c B:Nat) (zs:List Nat) (pc:Nat) (w:World) (hr:Rd w B 1 A n c (vv zs)) (hp:pc<4294967296) (h4:pc % 4=0) (hl:pc / 4<zs.length) :Ca 79 #[.slice A n c,U (pc:Int)] w λe w'=>e = .returned (.tuple #[U ((zs[pc / 4]'hl:Nat):Int),.bool true]) /\ ∃ n,w'=w.drewN n:=by
 have hc1:=hr.le;have aN:=hr.mx;have hn:=hr.len;rw [Xo,dP] at hn;unfold maxLen at aN;obtain ⟨g,o,u,rfl,_,hu,hc⟩:=hr.cell1 (k:=pc / 4) O;rw [PU hl] at hu;obtain rfl:_=u:=by injection hu
 have Hn:=V hn;clear hu hn hr;have hlt:pc / 4<n:=by have:=Hn.out;omega
 have h5:((pc:Int) % 4 != 0)=false:=by rw [bne_eq_false_iff_eq];omega
 go_enter func79,ntmps79;go_wp2;go_ret2;exact ⟨rfl,0,rfl⟩
def Fetch_no (A:Option Addr) (n c B:Nat) (zs:List Nat) (pc:Nat) (w:World) (hr:Rd w B 1 A n c (vv zs)) (hp:pc<4294967296) (h:pc % 4≠0\/n<=pc / 4) :Ca 79 #[.slice A n c,U (pc:Int)] w λe w'=>e = .returned (.tuple #[U 0,.bool false]) /\ ∃ n,w'=w.drewN n:=by
 have hc1:=hr.le;have aN:=hr.mx;unfold maxLen at aN;clear hr;by_cases h4:pc % 4=0
 .have h6:n<=pc / 4:=by omega
  have h5:((pc:Int) % 4 != 0)=false:=by rw [bne_eq_false_iff_eq];omega
  clear h;go_enter func79,ntmps79;go_wp2;go_ret2;exact ⟨rfl,0,rfl⟩
 .have h5:((pc:Int) % 4 != 0)=true:=by rw [bne_iff_ne];omega
  clear h;go_enter func79,ntmps79;go_wp2;go_ret2;exact ⟨rfl,0,rfl⟩
end Me
end
section
open Go.RowKit
def nk (e:En):Bool:=if e.halt=0 then (if ae e.inst.op=6 then false else if ae e.inst.op=3\/ae e.inst.op=4\/ae e.inst.op=5 then e.known else true) else false
def wJ (op:Int):ae op=0\/ae op=1\/ae op=2\/ae op=3\/ae op=4\/ae op=5\/ae op=6:=by
 unfold ae;repeat' split
 all_goals simp
def U5 (e w)(hi : I6 e.inst.op):Ca 105 #[e.val] w (RB w (.bool (nk e))):=by
 obtain ⟨b,hb⟩:∃ b,nk e=b:=⟨_,rfl⟩;rw [hb];have HK:=V (λW=>ec e.inst W hi);unfold Ins.val at HK;unfold nk at hb;by_cases h0:e.halt=0
 .rw [aa h0] at hb
  have b0:(e.halt != 0)=false:=by simp [h0]
  unfold En.val;rcases wJ e.inst.op with hk|hk|hk|hk|hk|hk|hk
  all_goals
   rw [hk] at HK hb;clear hk h0;simp at hb;subst hb;go_enter func105,ntmps105;go_wp2_with (go_at_call 39;refine (HK.out _).mono ?_;rintro x w1 ⟨rfl,aJ⟩;obtain ⟨hc1,hf1⟩:=MN aJ);go_ret;exact ⟨rfl,(af.alloc _ _).trans aJ⟩
 .rw [Y h0] at hb
  have b0:(e.halt != 0)=true:=by simpa using h0
  clear h0;subst hb;unfold En.val;go_enter func105,ntmps105;go_wp2;go_ret;exact ⟨rfl,af.alloc _ _⟩
def eV : List En->Nat
 | []=>0
 | e::r=>if nk e then eV r+1 else 0
def Oc (l):eV l<=l.length:=by
 induction l with
 | nil=>simp [eV]
 | cons e r ih=>unfold eV;split <;> simp <;> omega
def ZP {l k}(hk:k<l.length)(h:∀ j (hj:j<l.length),j<k->nk l[j]=true)(hn:nk l[k]=false):eV l=k:=by
 induction l generalizing k with
 | nil=>simp at hk
 | cons e r ih=>
  cases k with
  | zero=>unfold eV;simp at hn;simp [hn]
  | succ k=>
   have h0:=h 0 aF O;simp at h0;unfold eV;rw [aa h0,ih yp (λj hj hjk=>by have:=h (j+1) (by simpa using hj) O;simpa using this) (by simpa using hn)]
def QF {l}(h:∀ j (hj:j<l.length),nk l[j]=true):eV l=l.length:=by
 induction l with
 | nil=>rfl
 | cons e r ih=>
  have h0:=h 0 aF;simp at h0;unfold eV;rw [aa h0,ih (λj hj=>by have:=h (j+1) (by simpa using hj);simpa using this)]
  simp
def Kx (q:List En):Prop:=∀ e∈q,I6 e.inst.op
def GL (A n c q w)(hr:Rd w w.heap.size 17 A n c (ens q))(hq:Kx q):Ca 42 #[.slice A n c] w (RB w (I (eV q:Int))):=by
 have hc1:=hr.le;have aN:=hr.mx;unfold maxLen at aN;have Hn:=V hr.enslen;have Hq:=V hq;clear hq;go_enter func42,ntmps42;go_wp2;go_loopw [7] (λi wr=>∃ k:Nat,k<=n/\i = I (k:Int)/\(∀ j (hj:j<q.length),j<k->nk q[j]=true)/\af w wr) (λi _=>n - (intOf i).toNat);case atStart=>exact ⟨0,by omega,rfl,λj hj h=>absurd h O,af.refl w⟩
 case round=>
  obtain ⟨k,hk,rfl,hall,ii⟩:=hrel;have a0:=V hall;clear hall;by_cases ik:k<n
  .obtain ⟨hl,g,o,rfl,hg,jH⟩:=(hr.bel ii).enselem ik
   replace jH:=V jH;have HS:=V (λW=>U5 (q[k]'hl) W (Hq.out _ (wQ hl)));obtain ⟨e,he⟩:∃ e,q[k]'hl=e:=⟨_,rfl⟩;cases hs:nk (q[k]'hl)
   .have Hf:=V (ZP hl a0.out hs)
    rw [hs] at HS;clear hs;rw [he] at HS jH;clear he;go_wp2_with ((first|refine Hv ?_|(refine vw F 54 (.tmp 4) (.tmp 11) ax wr.heap.size e.cells ax ax 54 tP ?_ F vo e.one ?_;exact Bk.new wr _ tP;intro w1 hk1 cW aE al;replace aE:=V aE;replace al:=al)|(go_at_call 105;refine (HS.out _).mono ?_;rintro x w2 ⟨rfl,hb2⟩)));go_ret;exact ⟨xl (by rw [Hf.out]),ii.trans ((al _ (af.alloc _ _) (aM _)).trans hb2)⟩
   .have Hs:=V hs
    rw [hs] at HS;clear hs;rw [he] at HS jH;clear he;go_wp2_with ((first|refine Hv ?_|(refine vw F 54 (.tmp 4) (.tmp 11) ax wr.heap.size e.cells ax ax 54 tP ?_ F vo e.one ?_;exact Bk.new wr _ tP;intro w1 hk1 cW aE al;replace aE:=V aE;replace al:=al)|(go_at_call 105;refine (HS.out _).mono ?_;rintro x w2 ⟨rfl,hb2⟩)));go_roundw;case rel=>
     refine ⟨k+1,by omega,by go_num,λj hj h=>?_,ii.trans ((al _ (af.alloc _ _) (aM _)).trans hb2)⟩;rcases qg j k with h'|h'
     .exact a0.out j hj h'
     .obtain rfl:j=k:=by omega
      exact Hs.out
    case measure=>exact zM
  .obtain rfl:k=n:=by omega
   have Hf:=V (QF λj hj=>a0.out j hj rA);go_wp2;go_ret;exact ⟨xl (by rw [Hf.out,Hn.out]),ii⟩
end
section
open Go.RowKit
section
variable {P:Program} {ops:Array Oper} {rest:List Oper} {o:Oper} {a:Act} {Q:Exit->Act->World->Prop} {w0 w:World} {D0 D:List Da} {M:List Mu} {S:World->Prop} {B:Nat} {Mr:List Mu} {Dr:List Da}
def OD {w x y ts k k' p q N}(ho:o.op = .call { callee:=.builtin .min,args:=#[x,y],argTypes:=ts })(hx:ac a x=some (.int k p))(hy:ac a y=some (.int k' q))(hN:N=if q<p then q else p):(execOp a.eval o).run P w = .ok (.value (.int k N)) w:=by
 replace hx:=ap hx;replace hy:=ap hy;have ip:=λts t=>run_min_int2 (P:=P) w ts t k k' p q
 unfold execOp;simp only [ho,resolve,invoke,builtin,bC,bL,bG,nj,kg,mf,hx,hy,ip];rw [<- hN]
def Sm {x y:Operand} {ts:Array TypeId} {k k':IntKind} {p q N:Int} (ho:o.op = .call { callee:=.builtin .min,args:=#[x,y],argTypes:=ts }) (hx:ac a x=some (.int k p)) (hy:ac a y=some (.int k' q)) (hN:Hid (N=if q<p then q else p):=by assumption) (hw:Region.wanted o (yielded ops a.tmps)=true:=by rfl) :YieldsIf P ops S o (.int k N) a:=cg hw λw=>OD ho hx hy hN.out
def vT {x y:Operand} {ts:Array TypeId} {k k':IntKind} {p q N:Int} (ho:o.op = .call { callee:=.builtin .min,args:=#[x,y],argTypes:=ts }) (hx:ac a x=some (.int k p)) (hy:ac a y=some (.int k' q))(h:wpList P ops Q rest (a.put o.dst (.int k N)) w) (ig:o.guard=none:=by rfl) (hN:Hid (N=if q<p then q else p):=by assumption):wpList P ops Q (o::rest) a w:=yD N ho hx hy h ig hN.out
def St.swap {x y}(h:St w0 D0 w (x::y::M) D):St w0 D0 w (y::x::M) D :=
 h.less ⟨λi=>if i=0 then 1 else if i=1 then 0 else i,λi j e=>by
  dsimp only at e
  repeat' split at e
  all_goals omega,λi m hm=>by
  match i with
  | 0=>exact hm
  | 1=>exact hm
  | i+2=>exact hm⟩ λd hd=>hd
end
def gF {α:Type} (f:α->α) (T:List α) (j:Nat):List α:=(T.map f).take j++T.drop j
section
variable {α:Type} {f:α->α} {T:List α} {j:Nat} {s:α}
def Ft : gF f T 0=T:=by simp [gF]
def Jr : (gF f T j).length=T.length:=by simp [gF];omega
def Jf (h:T[j]?=some s):(gF f T j)[j]?=some s:=by
 have hj:=(aK.1 h).1;unfold gF;rw [kU eX];simp [cK,kZ (show j<=T.length by omega),h]
def FZ (h:T[j]?=some s):(gF f T j).set j (f s)=gF f T (j+1):=by
 obtain ⟨hj,e⟩:=aK.1 h;unfold gF;rw [oV _ _ eX,iE (by simpa using hj),mn hj];simp [cK,kZ (show j<=T.length by omega),e]
def FM (h:T.length<=j):gF f T j=T.map f:=by
 unfold gF;rw [cD pZ,sW h,rK]
end
end
section
open Go.RowKit
def hZ (op:Int):Bool:=decide (1<=op/\op<=4) || decide (11<=op/\op<=15) || decide (19<=op/\op<=45)
def bp (i:Ins):Int:=if hZ i.op=true then i.rd else 0
def iY (q:List En) (reg:Int):Nat->Int
 | 0=>-1
 | n+1=>match q[n]? with
  | some e=>if bp e.inst=reg then (n:Int) else iY q reg n
  | none=>iY q reg n
def dM (q:List En) (i reg:Int):Int:=if reg<1\/31<reg then -1 else iY q reg (min i q.length).toNat
def Hg (q:List En) (reg:Int):∀ n,iY q reg n<(n:Int)
 | 0=>by simp [iY]
 | n+1=>by
  have ih:=Hg q reg n;unfold iY;split
  .split <;> omega
  .omega
def z9 {q i reg}(h:0<=dM q i reg):dM q i reg<i/\dM q i reg<(q.length:Int):=by
 unfold dM at h ⊢;split at h
 .omega
 .rename_i hr
  rw [Y hr];have:=Hg q reg (min i q.length).toNat;omega
def na (q:List En) (rs:List Int) (i:Nat) (reg:Int):Int:=if 0<=dM q i reg then rs[(dM q i reg).toNat]?.getD (-1) else -1
def EL (q:List En) (rs:List Int) (i:Nat) (e:En):Int :=
 if ae e.inst.op=3 then (if eV q<i then (i:Int) else -1) else max (na q rs i e.inst.rs1) (na q rs i e.inst.rs2)
def gh (q:List En):Nat->List Int
 | 0=>[]
 | n+1=>gh q n++[match q[n]? with
  | some e=>EL q (gh q n) n e
  | none=>-1]
def zO (q:List En):List Int:=gh q q.length
def tQ (q):∀ n,(gh q n).length=n
 | 0=>rfl
 | n+1=>by simp [gh,tQ q n]
def rt (q:List En) (n:Nat):Int:=(gh q (n+1))[n]?.getD (-1)
def NF (q){m n}(h:n<m):(gh q m)[n]?=some (rt q n):=by
 induction m with
 | zero=>omega
 | succ m ih=>
  rcases qg n m with h1|h1
  .rw [gh,lm (by rw [tQ];exact h1)];exact ih h1
  .obtain rfl:n=m:=by omega
   unfold rt;rw [gh,kU (by rw [tQ];omega),tQ]
   simp
def zP (q:List En) (i:Nat) (reg:Int):Int:=if 0<=dM q i reg then rt q (dM q i reg).toNat else -1
def AX (q:List En) (i:Nat) (reg:Int):na q (gh q i) i reg=zP q i reg:=by
 unfold na zP;split
 .rename_i h
  have:=z9 h;rw [NF q O];rfl
 .rfl
def M8 {q:List En} {n:Nat} {e:En} (h:q[n]?=some e):rt q n=if ae e.inst.op=3 then (if eV q<n then (n:Int) else -1) else max (zP q n e.inst.rs1) (zP q n e.inst.rs2):=by
 unfold rt;rw [gh,kU (by rw [tQ];omega),tQ];simp only [uL,mI,tn,h,EL,AX]
def ZR {q n e}(h:q[n]?=some e):gh q (n+1)=gh q n++[rt q n]:=by
 rw [gh,M8 h];simp only [h,EL,AX]
def oQ (q:List En) (i reg:Int):Bool:=decide (0<=dM q i reg) && decide (0<=rt q (dM q i reg).toNat)
end
section
open Go.RowKit
section
variable {P:Program} {ops:Array Oper} {rest:List Oper} {o:Oper} {a:Act} {Q:Exit->Act->World->Prop} {w0 w:World} {D0 D:List Da} {M:List Mu}
end
end
section
open Go.RowKit
def Cv {z:Nat} (h:z<4294967296):IntKind.u32.wrap (z:Int)=(z:Int):=by
 simp only [IntKind.wrap,IntKind.bits,IntKind.signed];simp;omega
section
variable {P:Program} {ops:Array Oper} {rest:List Oper} {o:Oper} {a:Act} {Q:Exit->Act->World->Prop} {S:World->Prop}
def ZK {w:World} {x y:Operand} {t t':TypeId} {p q:Nat} (ho:o.op = .binOp .quo t x y t') (hx:ac a x=some (U (p:Int))) (hy:ac a y=some (U (q:Int))) (hp:p<4294967296) (hq:0<q):(execOp a.eval o).run P w = .ok (.value (U ((p / q:Nat):Int))) w:=by
 replace hx:=ap hx;replace hy:=ap hy;have h0:¬ ((q:Int)=0):=by omega
 unfold execOp;simp only [ho,hx,hy];go_simp;rw [Y O,<- wk,Cv (fJ (kK p q) hp)]
def Sp {w:World} {x y:Operand} {t t':TypeId} {p q:Nat} (ho:o.op = .binOp .rem t x y t') (hx:ac a x=some (U (p:Int))) (hy:ac a y=some (U (q:Int))) (hp:p<4294967296) (hq:0<q):(execOp a.eval o).run P w = .ok (.value (U ((p % q:Nat):Int))) w:=by
 replace hx:=ap hx;replace hy:=ap hy;have h0:¬ ((q:Int)=0):=by omega
 unfold execOp;simp only [ho,hx,hy];go_simp;rw [Y O,CI O]
def jn {w:World} {x y:Operand} {t t':TypeId} {p q r:Nat} (ho:o.op = .binOp .rem t x y t') (hx:ac a x=some (U (p:Int))) (hy:ac a y=some (U (q:Int))) (h:wpList P ops Q rest (a.put o.dst (U (r:Int))) w) (hr:Hid (p % q=r):=by assumption) (hp:p<4294967296:=by (first|assumption|omega)) (hq:0<q:=by (first|assumption|omega)) (hw:Region.wanted o (yielded ops a.tmps)=true:=by rfl):wpList P ops Q (o::rest) a w:=by
 refine cI hw λK X=>?_
 unfold Oper.wp;rw [Sp ho hx hy hp hq,hr.out];exact X _ _ h
def AE {w:World} {x y:Operand} {t t':TypeId} {k:IntKind} {p q:Int} (ho:o.op = .binOp .eql t x y t') (hx:ac a x=some (.int k p)) (hy:ac a y=some (.int k q)) (h:wpList P ops Q rest (a.put o.dst (.bool true)) w) (hne:Hid (p=q):=by assumption) (hw:Region.wanted o (yielded ops a.tmps)=true:=by rfl):wpList P ops Q (o::rest) a w:=by
 replace hx:=ap hx;replace hy:=ap hy;have b4:=hne.out;subst b4;refine cI hw λK X=>?_
 have ip:(execOp a.eval o).run P w = .ok (.value (.bool true)) w:=by
  unfold execOp;simp only [ho,hx,hy];go_simp
 unfold Oper.wp;rw [ip];exact X _ _ h
end
end
section
open Go.RowKit
def uF (e:En):Bool:=decide (ae e.inst.op=3\/ae e.inst.op=4\/ae e.inst.op=2\/ae e.inst.op=5)
def mD (e:En):List Int:=if ae e.inst.op=3\/ae e.inst.op=4 then [e.inst.rs1] else [e.inst.rs1,e.inst.rs2]
def qG (mode:Int) (q:List En) (i:Nat) (e:En):Bool :=
 if uF e=false then true else if mode=0 then true else if mode=1 then (mD e).all (λr=>!oQ q i r) else if mode=2 then decide (i<=eV q) else false
end
section
open Go.RowKit
def af.ofDrew {w w'}(h:∃ d,w'=w.drewN d):af w w':=by obtain ⟨d,rfl⟩:=h;exact af.drewN _ d
section
variable {P:Program} {ops:Array Oper} {Q:Exit->Act->World->Prop} {S:World->Prop} {a:Act} {o:Oper} {B:Nat} {Mr:List Mu} {Dr:List Da}
def qR {ty:TypeId} {x:Operand} {g off n:Nat} {t:TypeId} {cs:List Value} {v:Value} (ho:o.op = .load ty x) (hx:ac a x=some (.pointer (some ⟨g,off,none⟩))) (hw:Region.wanted o (yielded ops a.tmps)=true:=by rfl)(hm:Mu.blk g t cs∈Mr:=by exact au) (ht:cO P ty n:=by exact jo _ _ rfl) (hn:off+n<=cs.length:=by exact ce rfl) (hv : .agg ((cs.drop off).take n).toArray=v:=by exact rfl):YieldsIf P ops (fR B Mr Dr) o v a:=by
 subst hv;replace hx:=ap hx;have hl:((cs.drop off).take n).length=n:=by simp;omega
 exact .inl ⟨hw,λw G=>by
  have hb:(Mu.blk g t cs).ok B w:=G.1 _ hm
  have hl:=zy (P:=P) w g off ty ((cs.drop off).take n) (λj u hu=>by
   rw [kF] at hu;split at hu
   .rw [l7] at hu
    exact hb.1.cell_of (off+j) u hu
   .cases hu) (by rwa [hl])
  unfold execOp
  simp only [ho,hx,Instr.loadAt,Instr.sureAddr,bC,bL,bG,hl]⟩
end
end
section
open Go.RowKit
section
variable {w0 w w':World} {D0 D:List Da} {M:List Mu} {A:Option Addr} {t:TypeId} {xs:List Value} {i:Nat}
def Xe {B}(h:(Mu.row A t xs).ok B w){sz n c}(hl:xs.length=n * sz)(hs:0<sz)(hc:n<=c)(hm:c<=maxLen):Rd w w.heap.size sz A n c xs :=
 ⟨hl,hc,hm,λhn=>by
  obtain ⟨g,pre,post,rfl,hb,hB⟩:=h (by rw [hl];exact Nat.mul_pos hn hs);refine ⟨g,pre.length,rfl,hb.lt,λj u hu=>?_⟩
  rw [hb.cell,kU O,v8,lm (aK.1 hu).1,hu]⟩
def St.rowRd (h:St w0 D0 w M D)(hi:M[i]?=some (.row A t xs)){sz n c}(hl:xs.length=n * sz)(hs:0<sz)(hc:n<=c)(hm:c<=maxLen):Rd w w.heap.size sz A n c xs:=Xe (h.mu i _ hi) hl hs hc hm
def St.rowAt (h:St w0 D0 w M D) (hi:M[i]?=some (.row A t xs)) (hx:0<xs.length):∃ g pre post,A=some ⟨g,pre.length,none⟩/\Bk w g t (pre++(xs++post))/\w0.heap.size<=g:=h.mu i _ hi hx
def ER {B g o:Nat} (h:(Mu.row (some ⟨g,o,none⟩) t xs).ok B w) (j:Nat) (u:Value) (hu:xs[j]?=some u):w.cell? ⟨g,o+j,none⟩=some u:=by
 obtain ⟨g',pre,post,e,hb,hB⟩:=h (fJ (mB _) (aK.1 hu).1);simp only [dF,Addr.mk.injEq,and_true] at e;obtain ⟨rfl,rfl⟩:=e;rw [hb.cell,kU O,v8,lm (aK.1 hu).1,hu]
def h1d (pre post xs us:List Value) (off:Nat) (i8:off+us.length<=xs.length):spl (pre++(xs++post)) (pre.length+off) us=pre++(spl xs off us++post):=by
 induction us generalizing xs off with
 | nil=>rfl
 | cons v r ih=>
  rw [ft] at i8;rw [spl,spl,oV _ _ O,v8,AL _ _ O,lZ];exact ih (xs.set off v) (off+1) (by rw [cw];omega)
def St.rowDrop (h:St w0 D0 w M D)(hi:M[i]?=some (.row A t xs))(sz k n c)(hl:xs.length=n * sz)(hk:k<=n)(hc:n<=c):St w0 D0 w (M.set i (.row (fW A k c sz) t (xs.drop (k * sz)))) D:=by
 have h0:(Mu.row A t xs).ok w0.heap.size w:=h.mu i _ hi;have hbl:∀ g,(Mu.row (fW A k c sz) t (xs.drop (k * sz))).bl=some g->(Mu.row A t xs).bl=some g:=by
  intro g hg;simp only [Mu.bl,nX] at hg ⊢;split at hg
  .rename_i hx
   rw [aa O];cases A with
   | none=>simp [fW] at hg
   | some a=>
    simp only [fW] at hg;split at hg
    .exact hg
    .simp only [Addr.add,dB,dF] at hg ⊢
     rw [<- hg];split <;> rfl
  .cases hg
 refine h.upd i _ _ hi (lV (af.refl w) _) ?_ λg hg=>.inl (hbl g hg)
 intro hx;rw [nX] at hx;obtain ⟨g,pre,post,rfl,hb,hB⟩:=h0 O;have b5:¬ c=k:=by
  rintro rfl;have:=zg sz hc;omega
 refine ⟨g,pre++xs.take (k * sz),post,?_,?_,hB⟩
 .simp only [fW,Y b5,dB,Addr.add,ea,cK]
  rw [kZ O];split <;> simp_all
 .rw [lc,<- lc (xs.take _),sR]
  exact hb
def St.ownRow (h:St w0 D0 w M D){v e sz n}(hi:M[i]?=some (.own v e sz n xs)):∃ A c,v = .slice A n c/\n<=c/\c<=maxLen/\St w0 D0 w (M.set i (.row A e xs)) D:=by
 have ir:=h.ownAt hi;have hbl:∀ A c,v = .slice A n c -> ∀ g,(Mu.row A e xs).bl=some g->(Mu.own v e sz n xs).bl=some g:=by
  rintro A c rfl g hg;simp only [Mu.bl] at hg;split at hg
  .rcases ir.2 with ⟨h1,_⟩|⟨g',cap,cur,h1,_⟩
   .injection h1 with h1;subst h1;cases hg
   .injection h1 with h1;subst h1;exact hg
  .cases hg
 rcases ir.2 with ⟨h1,h2⟩|⟨g,cap,cur,h1,hB,hg,b6,b7,iy,b8⟩
 .subst h1
  subst h2;refine ⟨none,0,rfl,aM _,by unfold maxLen;omega,h.upd i _ _ hi (lV (af.refl w) _) ?_ λg hg=>.inl (hbl _ _ F g hg)⟩;intro hx;have:=ir.1;omega
 .subst h1
  refine ⟨some ⟨g,0,none⟩,cap,rfl,b6,b7,h.upd i _ _ hi (lV (af.refl w) _) ?_ λg hg=>.inl (hbl _ _ F g hg)⟩;intro hx;refine ⟨g,[],cur.toList.drop (n * sz),rfl,⟨(0,0),?_,by intro i _;omega⟩,hB⟩;rw [kR,<- b8,sR];exact hg
def St.rowData (h:St w0 D0 w M D)(hi:M[i]?=some (.row A t xs)){sz n c}(hl:xs.length=n * sz)(hs:0<sz)(hc:n<=c)(hm:c<=maxLen):St w0 D0 w (M.eraseIdx i) (ab sz A n c xs::D):=by
 have hr:=h.rowRd hi hl hs hc hm;have hbl:∀ g,(ab sz A n c xs).bl g->(Mu.row A t xs).bl=some g:=by
  rintro g ⟨hn,o,s,rfl⟩;simp only [Mu.bl];rw [aa (by rw [hl];exact Nat.mul_pos hn hs)];rfl
 have h':=h.drop i;refine ⟨h.bel,h'.mu,h'.apart,λd hd=>?_,λd hd j m bb g aP a2=>?_,λd hd=>?_⟩
 .rcases bB.1 hd with rfl|hd
  .exact hr
  .exact h.dat d hd
 .rcases bB.1 hd with rfl|hd
  .rw [sy] at bb
   split at bb
   .exact h.apart j i m _ O bb hi g aP (hbl g a2)
   .exact h.apart (j+1) i m _ O bb hi g aP (hbl g a2)
  .exact h'.sep d hd j m bb g aP a2
 .rcases bB.1 hd with rfl|hd
  .exact From.new λg hg=>((h.mu i _ hi).lt (hbl g hg)).1
  .exact h.src d hd
def St.rowNil (h:St w0 D0 w M D)(A t):St w0 D0 w (.row A t []::M) D :=
 h.push _ (lV (af.refl w) none) (λhx=>absurd hx aF) λg hg=>by simp [Mu.bl] at hg
def St.front (h:St w0 D0 w M D) (i:Nat) {m:Mu} (hi:M[i]?=some m):St w0 D0 w (m::M.eraseIdx i) D :=
 h.less ⟨λj=>match j with|0=>i|j+1=>if j<i then j else j+1,λa b e=>by
  cases a with
  | zero=>
   cases b with
   | zero=>rfl
   | succ b=>dsimp only at e;split at e <;> omega
  | succ a=>
   cases b with
   | zero=>dsimp only at e;split at e <;> omega
   | succ b=>dsimp only at e;split at e <;> split at e <;> omega,λj m' hm=>by
  cases j with
  | zero=>simp only [mI,dF] at hm;subst hm;exact hi
  | succ j=>
   rw [pT,sy] at hm;dsimp only;split
   .rename_i hj;rwa [aa hj] at hm
   .rename_i hj;rwa [Y hj] at hm⟩ λd hd=>hd
end
section
variable {P:Program} {ops:Array Oper} {rest:List Oper} {o:Oper} {a:Act} {Q:Exit->Act->World->Prop} {w0 w:World} {D0 D:List Da} {M:List Mu}
def iH {t e:TypeId} {x ix:Operand} {A:Option Addr} {n c k i:Nat} {ki:IntKind} {z:Value} {sz bytes:Nat} {tr:TypeId} {xs:List Value} (ho:o.op = .indexAddr t x ix) (E:St w0 D0 w M D) (hx:ac a x=some (.slice A n c)) (hk:ac a ix=some (.int ki (k:Int)))(h:wpList P ops Q rest (a.put o.dst (cu A (k * sz))) w) (ht:bF P t e z sz bytes:=by exact fS _ _ _ _ _ rfl) (hw:Region.wanted o (yielded ops a.tmps)=true:=by rfl) (hi:M[i]?=some (.row A tr xs):=by exact fd) (hl:0<xs.length:=by assumption) (ik:k<n:=by (first|assumption|omega|exact mT bI|exact ng _)):wpList P ops Q (o::rest) a w:=by
 replace hx:=ap hx;replace hk:=ap hk;obtain ⟨g,pre,post,rfl,_,_⟩:=E.rowAt hi hl;refine cI hw λK X=>?_
 obtain ⟨hu,hi,_,_⟩:=ht;have hs:(sizeOf e).run P w = .ok sz w:=by
  cases hq:P.info? e with
  | none=>simp [hq] at hi
  | some i=>
   simp only [hq,dB,dF,pf] at hi;simp [sizeOf,typeInfo,hq,hi.2.1]
 have ip:(Instr.indexAt t (.slice (some ⟨g,pre.length,none⟩) n c) (.int ki (k:Int))).run P w = .ok (cu (some ⟨g,pre.length,none⟩) (k * sz)) w:=by
  simp [Instr.indexAt,eH hu,asIntOf,hs,cu,show (k:Int)<(n:Int) by omega];intro h;omega
 unfold Oper.wp execOp;simp only [ho,hx,hk,ip,bC,bL,bG];exact X _ _ h
def qL {s f:Nat} {x:Operand} {A:Option Addr} {j off i:Nat} {tr:TypeId} {xs:List Value} (ho:o.op = .fieldAddr s x f) (E:St w0 D0 w M D) (hx:ac a x=some (cu A j))(h:wpList P ops Q rest (a.put o.dst (cu A (j+off))) w) (ht:lD P s f off:=by exact rx _ _ _ rfl) (hw:Region.wanted o (yielded ops a.tmps)=true:=by rfl) (hi:M[i]?=some (.row A tr xs):=by exact fd) (hl:0<xs.length:=by assumption):wpList P ops Q (o::rest) a w:=by
 replace hx:=ap hx;obtain ⟨g,pre,post,rfl,_,_⟩:=E.rowAt hi hl;refine cI hw λK X=>?_
 rw [Dy] at h;simp only [dB] at h;unfold Oper.wp execOp;simp only [ho,hx,cu,dB,vQ ht,bC,bL,bG];exact X _ _ h
def sK {ty:TypeId} {x:Operand} {A:Option Addr} {j i:Nat} {tr:TypeId} {xs:List Value} {v:Value} (ho:o.op = .load ty x) (E:St w0 D0 w M D) (hx:ac a x=some (cu A j))(h:wpList P ops Q rest (a.put o.dst v) w) (ht:jD P ty:=by exact ol _ rfl) (hw:Region.wanted o (yielded ops a.tmps)=true:=by rfl) (hi:M[i]?=some (.row A tr xs):=by exact fd) (hv:xs[j]?=some v:=by first|assumption|exact Rows.el bI F|exact Rows.el0 bI F):wpList P ops Q (o::rest) a w:=by
 replace hx:=ap hx;obtain ⟨g,pre,post,rfl,_,_⟩:=E.rowAt hi (fJ (mB _) (aK.1 hv).1);have hc:=ER (E.mu i _ hi) j v hv;refine cI hw λK X=>?_
 unfold Oper.wp execOp;simp only [ho,hx,cu,dB,kv,Instr.loadAt,Instr.sureAddr,bC,bL,bG,tJ ht hc];exact X _ _ h
def lk {ty:TypeId} {x:Operand} {A:Option Addr} {j i:Nat} {tr:TypeId} {xs us:List Value} {v:Value} (ho:o.op = .load ty x) (E:St w0 D0 w M D) (hx:ac a x=some (cu A j))(h:wpList P ops Q rest (a.put o.dst v) w) (hw:Region.wanted o (yielded ops a.tmps)=true:=by rfl) (hi:M[i]?=some (.row A tr xs):=by exact fd) (hu:∀ i u,us[i]?=some u->xs[j+i]?=some u:=by exact Rows.sub bI) (ht:cO P ty us.length:=by exact jo _ _ rfl) (h0:0<us.length:=by exact vM _) (hv : .agg us.toArray=v:=by exact rfl):wpList P ops Q (o::rest) a w:=by
 replace hx:=ap hx;have h1:=hu 0 _ (ba h0);obtain ⟨g,pre,post,rfl,_,_⟩:=E.rowAt hi (fJ (mB _) (aK.1 h1).1);refine tX hw ty x ho g (pre.length+j) Dw us v hv.symm (λi' u bm=>?_) ht h;have:=ER (E.mu i _ hi) (j+i') u (hu i' u bm)
 rwa [lZ]
def h1e {ty:TypeId} {x y:Operand} {A:Option Addr} {j i:Nat} {tr:TypeId} {xs us:List Value} {M':List Mu} (ho:o.op = .store ty x y) (E:St w0 D0 w M D) (hx:ac a x=some (cu A j)) (hy:ac a y=some (.agg us.toArray))(h:∀ w',St w0 D0 w' M' D->wpList P ops Q rest (a.put o.dst undef) w') (hw:Region.wanted o (yielded ops a.tmps)=true:=by rfl) (hi:M[i]?=some (.row A tr xs):=by exact fd)(i8:j+us.length<=xs.length:=by assumption) (h0:0<us.length:=by exact vM _) (ht:cO P ty us.length:=by exact jo _ _ rfl) (h1:∀ u∈us,ls M u:=by exact qP) (hM:M.set i (.row A tr (spl xs j us))=M':=by first|(simp only [zF];exact rfl)|(simp only [zF];done)|exact rfl):wpList P ops Q (o::rest) a w:=by
 replace hx:=ap hx;replace hy:=ap hy;subst hM;obtain ⟨g,pre,post,rfl,hb,bj⟩:=E.rowAt hi O;refine Cq hw ty x y ho g (pre.length+j) us Dw hy tr _ hb (by simp only [ea];omega) ht (λu hu=>E.oneM (h1 u hu)) λw' hk hs a3 hbe=>h w' ?_
 have bk:=E.bel;have bR:=hbe _ bk bj;have hbl:(Mu.row (some ⟨g,pre.length,none⟩) tr xs).bl=some g:=by simp only [Mu.bl];rw [aa O];rfl
 refine E.upd i _ _ hi ⟨bR.os.trans bk.os.symm,bR.tape.trans bk.tape.symm,bR.output.trans bk.output.symm,by omega,λk _ hne=>a3 k (λe=>hne (by rw [e,hbl]))⟩ ?_ λg' aD=>.inl (by
  rw [hbl];simp only [Mu.bl,iJ] at aD;rw [aa O] at aD
  exact aD)
 intro _;rw [h1d _ _ _ _ _ i8] at hk;exact ⟨g,pre,post,rfl,hk,bj⟩
def w_st1R {ty:TypeId} {x y:Operand} {A:Option Addr} {j i:Nat} {tr:TypeId} {xs:List Value} {v:Value} {M':List Mu} (ho:o.op = .store ty x y) (E:St w0 D0 w M D) (hx:ac a x=some (cu A j)) (hy:ac a y=some v)(h:∀ w',St w0 D0 w' M' D->wpList P ops Q rest (a.put o.dst undef) w') (ht:jD P ty:=by exact ol _ rfl) (hw:Region.wanted o (yielded ops a.tmps)=true:=by rfl) (hi:M[i]?=some (.row A tr xs):=by exact fd)(iv:j<xs.length:=by assumption) (h1:v.oneCell'=true:=by exact mR.one) (hM:M.set i (.row A tr (xs.set j v))=M':=by first|(simp only [zF];exact rfl)|(simp only [zF];done)|exact rfl):wpList P ops Q (o::rest) a w:=by
 replace hx:=ap hx;replace hy:=ap hy;subst hM;obtain ⟨g,pre,post,rfl,hb,bj⟩:=E.rowAt hi O;have hbl:(Mu.row (some ⟨g,pre.length,none⟩) tr xs).bl=some g:=by simp only [Mu.bl];rw [aa O];rfl
 have hg:w.grownBy (w.setCell ⟨g,pre.length+j,none⟩ v) (some g):=⟨rfl,rfl,rfl,by simp [World.setCell],λk hk hne=>pU w _ v k (λe=>hne (by rw [e]))⟩
 have b9:=E.upd i _ (.row (some ⟨g,pre.length,none⟩) tr (xs.set j v)) hi (by rw [hbl];exact hg) (by
  intro _;refine ⟨g,pre,post,rfl,?_,bj⟩;have:=hb.set_ (pre.length+j) v
  rwa [oV _ _ O,v8,AL _ _ iv] at this) λg' aD=>.inl (by
  rw [hbl];simp only [Mu.bl,cw] at aD;rw [aa O] at aD
  exact aD)
 refine cI hw λK X=>?_
 have hk:=X _ _ (h _ b9);have hc:w.cell? ⟨g,pre.length+j,none⟩=some xs[j]:=ER (E.mu i _ hi) j _ (ba iv);have io:=hb.frozen (i:=pre.length+j) (by simp only [ea];omega);unfold Oper.wp execOp;simp only [ho,hx,hy,cu,dB,kv,Instr.storeAt,Instr.sureAddr,bC,bL,bG,C5 ht hc io h1];exact hk
end
end
section
open Go.RowKit Wd
def ay (a b:Nat):Nat:=(a+b) % 4294967296
def hU (a b:Nat):Nat:=(a+4294967296 - b) % 4294967296
def sg (a:Nat):Int:=if a<2147483648 then a else a - 4294967296
def un (x:Int):Nat:=(x % 4294967296).toNat
def dL (x:Nat):Nat:=x - x % 16
def kX (b:Bool):Nat:=if b then 1 else 0
def aH (op:Int) (a b:Nat):Nat :=
 if op=28\/op=19 then ay a b
 else if op=29 then hU a b
 else if op=37\/op=24 then a &&& b
 else if op=36\/op=23 then a ||| b
 else if op=33\/op=22 then a ^^^ b
 else if op=30\/op=25 then a * 2 ^ (b % 32) % 4294967296
 else if op=34\/op=26 then a / 2 ^ (b % 32)
 else if op=35\/op=27 then un (sg a / 2 ^ (b % 32))
 else if op=31\/op=20 then kX (decide (sg a<sg b))
 else if op=32\/op=21 then kX (decide (a<b))
 else if op=1 then b
 else 0
def fc (op:Int) (a b:Nat):Nat :=
 if op=38 then a * b % 4294967296
 else if op=39 then un (sg a * sg b / 4294967296)
 else if op=40 then un (sg a * b / 4294967296)
 else if op=41 then a * b / 4294967296
 else 0
def eh (op:Int) (a b:Nat):Bool :=
 if op=5 then decide (a=b) else if op=6 then decide (a≠b) else if op=7 then decide (sg a<sg b) else if op=8 then decide (sg b<=sg a) else if op=9 then decide (a<b) else if op=10 then decide (b<=a) else false
def gH (i:Ins) (pc a b:Nat):Nat :=
 if i.op=3\/eh i.op a b=true then ay pc i.imm else if i.op=4 then (let n:=ay a i.imm;n - n % 2) else ay pc 4
def jC (op:Int):Bool:=decide (op=42\/op=44)
def aR (op:Int) (w:Nat):Nat:=if jC op=true/\2147483648<=w then 4294967296 - w else w
def lJ (op:Int) (s w:Nat):Nat:=if jC op=true/\2147483648<=w then (4294967296 - s) % 4294967296 else s
def eB (op:Int) (a b:Nat):Nat :=
 if op=42\/op=43 then (if b=0 then 4294967295 else lJ op (aR op a / aR op b) (a ^^^ b))
 else if op=44\/op=45 then (if b=0 then a else lJ op (aR op a % aR op b) a)
 else 0
def iR : Nat->Nat->Nat
 | 0,_=>0
 | n+1,x=>if x=0 then 0 else iR n (x / 2)+1
def eJ (op:Int) (a b:Nat):Int :=
 if op<42\/45<op then 0 else if b=0\/aR op a<aR op b then 2 else 2+(iR 32 (aR op a):Int) - (iR 32 (aR op b):Int)+1
def kI (op:Int):Bool:=decide (op=1\/(11<=op/\op<=15)\/(19<=op/\op<=27))
def jw (i:Ins) (pc a b:Nat):Nat :=
 if ae i.op=1 then fc i.op a b else if ae i.op=2 then eB i.op a b else if i.op=2 then ay pc i.imm else if i.op=3\/i.op=4 then ay pc 4
 else aH i.op a (if kI i.op=true then i.imm else b)
def aU (op:Int):Int:=if op=11\/op=14\/op=16 then 1 else if op=12\/op=15\/op=17 then 2 else if op=13\/op=18 then 4 else 0
def ci : List Nat:=[0,0x37,0x17,0x6F,0x67,0x63,0x1063,0x4063,0x5063,0x6063,0x7063,0x03,0x1003,0x2003,0x4003,0x5003,0x23,0x1023,0x2023,
 0x13,0x2013,0x3013,0x4013,0x6013,0x7013,0x1013,0x5013,0x40005013,0x33,0x40000033,0x1033,0x2033,0x3033,0x4033,0x5033,0x40005033,0x6033,0x7033,
 0x02000033,0x02001033,0x02002033,0x02003033,0x02004033,0x02005033,0x02006033,0x02007033,0x0F,0x73,0x00100073]
def fr (f:Int):Nat :=
 if f=8 then 0xFFFFFFFF else if f=1\/f=3 then 0xFE00707F else if f=2\/f=4\/f=5 then 0x707F else if f=6\/f=7 then 0x7F else 0
def aI (op:Int):Int :=
 if op<1\/48<op then 0 else if op<=2 then 6 else if op=3 then 7 else if op=4 then 2 else if op<=10 then 5 else if op<=15 then 2 else if op<=18 then 4 else if op<=24 then 2 else if op<=27 then 3 else if op<=45 then 1 else 8
def cH (f:Int):Bool × Bool × Bool:=if f=1 then (true,true,true) else if f=2\/f=3 then (true,true,false) else if f=4\/f=5 then (false,true,true) else if f=6\/f=7 then (true,false,false) else (false,false,false)
def av (f:Int):List (Int × Int) × Nat :=
 if f=2 then ([(20,12)],0) else if f=3 then ([(20,5)],0) else if f=4 then ([(7,5),(25,7)],0) else if f=5 then ([(8,4),(25,6),(7,1),(31,1)],1)
 else if f=6 then ([(12,20)],12) else if f=7 then ([(21,10),(20,1),(12,8),(31,1)],1) else ([],0)
def bW (w:Nat) (parts:List (Int × Int)):Nat × Int:=parts.foldl (λs p=>(aw s.1 s.2 p.2 (aV w p.1 p.2),s.2+p.2)) (0,0)
def jy (v:Nat) (parts:List (Int × Int)):Nat × Nat:=parts.foldl (λs p=>(aw s.1 p.1 p.2 s.2,s.2 / 2 ^ p.2.toNat)) (0,v)
def bn (op:Int) (w:Nat):Ins :=
 let f:=aI op
 let h:=cH f
 let n:=av f
 let g:=bW w n.1
 let imm:=g.1 * 2 ^ n.2 % 4294967296
 ⟨op,if h.1 then aV w 7 5 else 0,if h.2.1 then aV w 15 5 else 0,if h.2.2 then aV w 20 5 else 0,if f=3 then imm else cJ imm (g.2+n.2)⟩
def js (w:Nat):Nat->Nat->Option Nat
 | 0,_=>none
 | n+1,op=>if w &&& fr (aI op)=ci[op]?.getD 0 then some op else js w n (op+1)
def df (w:Nat):Option Ins:=match js w 48 1 with
 | some op=>some (bn op w)
 | none=>none
def lF : Ins:=⟨0,0,0,0,0⟩
def eO (i j:Ins):Bool:=decide (i.op=j.op) && decide (i.rd=j.rd) && decide (i.rs1=j.rs1) && decide (i.rs2=j.rs2) && decide (i.imm=j.imm)
def fk (i:Ins):Nat :=
 let f:=aI i.op
 let n:=av f
 let w0:=(ci[i.op.toNat]?.getD 0) ||| (jy (i.imm / 2 ^ n.2) n.1).1
 let h:=cH f
 let w1:=if h.1 then aw w0 7 5 (un i.rd) else w0
 let w2:=if h.2.1 then aw w1 15 5 (un i.rs1) else w1
 if h.2.2 then aw w2 20 5 (un i.rs2) else w2
def kG (i:Ins):Bool:=decide (aI i.op≠0) && eO (bn i.op (fk i)) i
def eE (prog:List Nat) (pc:Nat):Option Nat:=if pc % 4=0 then prog[pc / 4]? else none
def iI (op:Int) (b:ByteArray):Nat :=
 if ae op≠3\/(b.size:Int)≠aU op then 0 else if op=11 then cJ (dl (bl b)) 8 else if op=12 then cJ (dl (bl b)) 16 else dl (bl b)
def dc (n a:Nat) (k:Int):Bool:=decide ((k=1\/k=2\/k=4)/\(a:Int) % k=0/\(a:Int)+k<=n)
def fT (m:ByteArray) (a:Nat) (k:Int):ByteArray:=if dc m.size a k then m.extract a (a+k.toNat) else ⟨#[]⟩
def dX (e : En) (a b : Nat) : En :=
  if e.is ≠ 0 \/ ae e.inst.op = 3 \/ ae e.inst.op = 4 then e else
  let v := if bp e.inst ≠ 0 then jw e.inst e.pc a b else 0
  if ae e.inst.op = 1 then { e with is := 1, value := v, next := ay e.pc 4, left := 3 }
  else if ae e.inst.op = 2 then { e with is := 1, value := v, next := ay e.pc 4, took := eJ e.inst.op a b, left := eJ e.inst.op a b }
  else if ae e.inst.op = 5 then
    (if gH e.inst e.pc a b % 4 = 0 then { e with is := 1, value := v, next := gH e.inst e.pc a b, left := 1 }
     else { e with is := 1, value := 0, next := ay e.pc 4, left := 1, halt := 3 })
  else { e with is := 1, value := v, next := ay e.pc 4, left := 1 }
def eo (e:En) (size:Nat) (a:Nat):En :=
 if (ae e.inst.op≠3/\ae e.inst.op≠4)\/e.is≠0\/e.known=true then e else
 if dc size (ay a e.inst.imm) (aU e.inst.op)=true then { e with addr:=ay a e.inst.imm,known:=true }
 else { e with addr:=ay a e.inst.imm,halt:=if ae e.inst.op=4 then 5 else 4,is:=3 }
def goE (e:En):En :=
 if e.is≠1 then e else if e.left - 1<=0 then { e with left:=0,is:=3,known:=if ae e.inst.op=5/\e.halt=0 then true else e.known } else { e with left:=e.left - 1 }
def gc (e:En) (b:ByteArray):En :=
 if ae e.inst.op≠3\/e.known=false\/(e.is≠0/\e.is≠2) then e else { e with is:=1,left:=1,value:=if bp e.inst≠0 then iI e.inst.op b else 0 }
def nE (w:Nat) (s:Int):Nat:=dl (bytesL w s.toNat)
def jm (e:En) (b:Nat):En :=
 if ae e.inst.op≠4\/e.known=false\/e.is≠0 then e else { e with is:=3,value:=nE b (aU e.inst.op) }
def aY (e:En):Stp :=
 if e.halt≠0 then ⟨e.pc,e.pc,0,0,if e.halt=4\/e.halt=5 then e.addr else 0,0,false,e.halt,0⟩
 else if ae e.inst.op=4 then ⟨e.pc,ay e.pc 4,bp e.inst,e.value,e.addr,aU e.inst.op,true,0,0⟩
 else
  let v:=if bp e.inst≠0 then e.value else 0
  if ae e.inst.op=3 then ⟨e.pc,ay e.pc 4,bp e.inst,v,e.addr,aU e.inst.op,false,0,0⟩
  else if ae e.inst.op=2 then ⟨e.pc,ay e.pc 4,bp e.inst,v,0,0,false,0,e.took⟩
  else if ae e.inst.op=5 then ⟨e.pc,e.next,bp e.inst,v,0,0,false,0,0⟩
  else ⟨e.pc,ay e.pc 4,bp e.inst,v,0,0,false,0,0⟩
def eg (q:List En) (regs:List Nat) (i reg:Int):Nat × Bool :=
 if reg=0 then (0,true) else if reg<0\/31<reg then (0,false) else
 if dM q i reg<0 then (regs[reg.toNat]?.getD 0,true) else
 match q[(dM q i reg).toNat]? with
 | some e=>if e.is=3/\e.halt=0 then (e.value,true) else (0,false)
 | none=>(0,false)
def eC (q:List En) (regs:List Nat) (i:Nat):Nat × Nat × Bool :=
 match q[i]? with
 | some e=>((eg q regs i e.inst.rs1).1,(eg q regs i e.inst.rs2).1,(eg q regs i e.inst.rs1).2 && (eg q regs i e.inst.rs2).2)
 | none=>(0,0,false)
def gu (e:En):Bool:=decide (ae e.inst.op=5) && (e.known && decide (e.next≠e.guess))
def kz (q:List En):Option Nat:=q.findIdx? gu
def jk (q:List En) (i:Nat) (e:En):List En:=q.take i++[{ e with guess:=e.next }]
def ew (e:En):Bool :=
 if e.is<0\/3<e.is then false
 else if (e.is=1/\e.left<=0)\/(e.is≠1/\e.left≠0) then false
 else if e.is=2/\(ae e.inst.op≠3\/e.known=false) then false
 else if e.halt≠0/\e.is≠3 /\ ¬ (e.is=1/\ae e.inst.op=5/\e.halt=3) then false
 else if kG e.inst=false then decide (e.halt=1\/e.halt=2) else true
def rp : List En->Bool
 | []=>true
 | [e]=>ew e
 | e::f::r=>ew e && (decide (e.no<f.no) && rp (f::r))
def mj (q:List En):Bool:=decide (q.length<=8) && rp q
def dh (no:Int) (f:Fe) (prog:List Nat):En :=
 let z:En:=⟨no,f.pc,lF,f.guess,0,0,0,0,0,0,0,false,false⟩
 match eE prog f.pc with
 | none=>{ z with halt:=1,is:=3 }
 | some w=>match df w with
  | none=>{ z with halt:=2,is:=3 }
  | some i=>if i.op=47 then { z with inst:=i,halt:=6,is:=3 } else if i.op=48 then { z with inst:=i,halt:=7,is:=3 } else { z with inst:=i }
def kE (a:Nat) (n:Int):Nat:=a+(max n 0).toNat
def fO (a:Nat) (n:Int) (b:Nat) (m:Int):Bool:=decide (0<n) && decide (0<m) && (decide (a<kE b m) && decide (b<kE a n))
def nR (a:Nat) (n:Int) (b:Nat) (m:Int):Bool:=decide (0<m) && (decide (a<=b) && decide (kE b m<=kE a n))
structure Sd where
 addr:Nat
 size:Int
 data:ByteArray
 there:Bool
def fU (w:Nat) (s:Int):ByteArray:=⟨(bytesL w s.toNat).toArray⟩
def Sd.ofE (e:En):Sd:=⟨e.addr,aU e.inst.op,fU e.value (aU e.inst.op),decide (e.is=3)⟩
def Sd.ofP (p:Pu):Sd:=⟨p.addr,p.data.size,p.data,true⟩
def lg (q:List En) (ss:List Pu):List Sd:=(q.reverse.filter λe=>decide (ae e.inst.op=4)).map Sd.ofE++ss.reverse.map Sd.ofP
def jp (at':Nat) (n:Int):List Sd->Int × ByteArray
 | []=>(2,⟨#[]⟩)
 | s::r=>if fO s.addr s.size at' n=false then jp at' n r else
  if nR s.addr s.size at' n=false\/s.there=false then (0,⟨#[]⟩) else (1,s.data.extract (at' - s.addr) (at' - s.addr+n.toNat))
def jI (q:List En) (ss:List Pu) (i:Nat):Int × ByteArray :=
 match q[i]? with
 | none=>(0,⟨#[]⟩)
 | some e=>if ae e.inst.op≠3 then (0,⟨#[]⟩) else
  if (q.take i).any (λf=>decide (ae f.inst.op=4) && (!f.known || decide (f.halt≠0))) then (0,⟨#[]⟩) else jp e.addr (aU e.inst.op) (lg (q.take i) ss)
def kS (kind:Int):Int:=if kind=2 then 1 else if kind=3\/kind=4 then 2 else 0
def eK (width:Int) (kinds:List Int):List Bool->Nat->Int->Bool->Bool->List Int
 | [],_,_,_,_=>[]
 | c::r,i,n,d,m=>
  if width<=n then [] else if c=false then eK width kinds r (i+1) n d m else
  let u:=kS (kinds[i]?.getD 0)
  if (u=1/\d=true)\/(u=2/\m=true) then eK width kinds r (i+1) n d m
  else (i:Int)::eK width kinds r (i+1) (n+1) (d || decide (u=1)) (m || decide (u=2))
structure Cf where
 mode:Int
 width:Int
 rob:Int
 queue:Int
 stores:Int
 slots:Int
 sets:Int
 ways:Int
 lat:List Int
 tables:Bool
 tape:List Nat
def bE (a b n:Int):Int:=if max n a<b then max n a else b
def bf (c : Cf) : Cf :=
  { mode := bE 0 2 c.mode, width := bE 1 2 c.width, rob := bE 2 8 c.rob, queue := bE 1 4 c.queue, stores := bE 1 4 c.stores, slots := bE 2 6 c.slots,
    sets := if bE 1 4 c.sets = 3 then 2 else bE 1 4 c.sets, ways := bE 1 2 c.ways, lat := (c.lat.take 64).map (bE 1 8), tables := c.tables, tape := c.tape.take 64 }
def mt (a b n:Int):Bool:=decide (a<=n) && decide (n<=b)
def qc (c:Cf):Bool :=
 c.lat.all (mt 1 8) && (mt 0 2 c.mode && (mt 1 2 c.width && (mt 2 8 c.rob && (mt 1 4 c.queue && (mt 1 4 c.stores && (mt 2 6 c.slots && (mt 1 4 c.sets && (decide (c.sets≠3) && (mt 1 2 c.ways &&
  (decide (c.lat.length<=64) && decide (c.tape.length<=64)))))))))))
def kC (c:Cf) (k:Int):Int:=if (bf c).lat.length=0 then 1 else ((bf c).lat[(max k 0 % (bf c).lat.length).toNat]?).getD 0
def ra (c:Cf) (k:Int) (pc:Nat):Nat:=if (bf c).tape.length=0 then ay pc 4 else ((bf c).tape[(max k 0 % (bf c).tape.length).toNat]?).getD 0
structure Gu where
 slots:List Sl
 hist:Nat
 rets:List Nat
def ky (g:Gu):Bool:=decide (g.slots.length=8) && (decide (g.hist<8) && decide (g.rets.length<=4))
def lx (g:Gu) (pc:Nat):Nat:=(pc / 4 ^^^ g.hist) % 8
def tL (i:Ins):Bool:=decide ((i.op=3\/i.op=4)/\i.rd=1)
def qe (i:Ins):Bool:=decide (i.op=4/\i.rd=0/\i.rs1=1)
def s0 : Sl:=⟨0,0⟩
def wP : Gu:=⟨List.replicate 8 s0,0,[]⟩
def oz (g:Gu) (pc:Nat) (i:Ins):Nat :=
 if ky g=false\/ae i.op≠5 then ay pc 4
 else if qe i=true/\0<g.rets.length then g.rets[g.rets.length - 1]?.getD 0
 else let s:=g.slots[lx g pc]?.getD s0
  if s.pc=pc /\ ¬ (s.pc=0/\s.next=0) then s.next else ay pc 4
def gw (g:Gu) (pc next:Nat) (i:Ins):Gu :=
 if ky g=false\/ae i.op≠5 then g else
 ⟨g.slots.set (lx g pc) ⟨pc,next⟩,(2 * g.hist+if next=ay pc 4 then 0 else 1) % 8,
  if tL i=true then (if 4<g.rets.length+1 then (g.rets++[ay pc 4]).drop 1 else g.rets++[ay pc 4])
  else if qe i=true/\0<g.rets.length then g.rets.take (g.rets.length - 1) else g.rets⟩
def DU (q:List Rq) (kind:Int) (line:Nat) (left:Int) (data:ByteArray):List Rq:=q++[⟨kind,line,max left 1,data⟩]
def bU : List Rq->List Rq × Option Rq
 | []=>([],none)
 | r::q=>if 0<r.left - 1 then ({ r with left:=r.left - 1 }::q,none) else (q,some { r with left:=r.left - 1 })
def kN (q:List Rq) (line:Nat) (kind:Int):Bool:=q.any λr=>decide (r.line=line) && decide (r.kind=kind)
def rX (q:List Rq):Nat:=(q.filter λr=>decide (r.kind≠4)).length
structure ak where
 conf:Cf
 prog:List Nat
 cycle:Int
 regs:List Nat
 fetch:Nat
 stop:Bool
 fetched:List Fe
 rob:List En
 next:Int
 stores:List Pu
 dways:Int
 data:List (List Wy)
 wways:Int
 words:List (List Wy)
 bus:List Rq
 asked:Int
 guessed:Int
 mem:ByteArray
 guess:Gu
 halt:Int
 retired:List Stp
def fy (k:ak) (kind:Int) (line:Nat) (data:ByteArray):ak:={ k with bus:=DU k.bus kind line (kC k.conf k.asked) data,asked:=k.asked+1 }
def mw (k:ak) (first:Bool):Bool:=if first=true then decide ((rX k.bus:Int)<k.conf.slots) else decide ((rX k.bus:Int)<k.conf.slots - 1)
def jA (k:ak) (line:Nat):ak :=
 let r:=nS k.dways k.data k.bus k.mem line (kC k.conf k.asked)
 { k with data:=r.1,bus:=r.2.1,asked:=if r.2.2=true then k.asked+1 else k.asked }
def cF (k:ak):ByteArray:=dZ k.mem (bZ k.bus++dY k.data++k.stores)
def kO (k:ak) (e:En):ByteArray:=fT (cF k) e.addr (aU e.inst.op)
def fH (k:ak) (line:Nat) (e:En):En:=if e.is=2/\dL e.addr=line then gc { e with filled:=true } (kO k e) else e
def dr (k:ak):ak :=
 let t:=bU k.bus
 let k1:={ k with bus:=t.1 }
 match t.2 with
 | none=>k1
 | some d=>
  if d.kind=1 then { k1 with rob:=k1.rob.map (fH k1 d.line) }
  else if d.kind=2 then { k1 with words:=(oP k1.wways k1.words d.line ⟨#[]⟩ false).1 }
  else if d.kind=3 then jA k1 d.line
  else if d.kind=4 then { k1 with mem:=dZ k1.mem [⟨d.line,d.data⟩] }
  else k1
def storeAt (regs:List Nat) (q:List En) (i:Nat):List En :=
 match q[i]? with
 | none=>q
 | some e=>if ae e.inst.op≠4 then q else if (eg q regs i e.inst.rs2).2=true then q.set i (jm e (eg q regs i e.inst.rs2).1) else q
def kp (regs:List Nat) (q:List En):List En:=(List.range q.length).foldl (storeAt regs) q
def bQ (k:ak):ak :=
 if k.halt≠0 then k else
 let q:=kp k.regs (k.rob.map goE)
 match kz q with
 | none=>{ k with rob:=q }
 | some i=>match q[i]? with
  | none=>{ k with rob:=q }
  | some e=>{ k with rob:=jk q i e,fetch:=e.next,fetched:=[],stop:=false }
def gx (s:Stp):Bool:=s.store && (decide (s.halt=0) && decide (s.size=1\/s.size=2\/s.size=4))
def eU (regs:List Nat) (s:Stp):List Nat:=if 1<=s.rd/\s.rd<=31/\s.halt=0 then regs.set s.rd.toNat s.value else regs
def dw (k:ak):ak × Bool :=
 if k.halt≠0 then (k,false) else
 match k.rob with
 | []=>(k,false)
 | e::r=>
  if e.is≠3 then (k,false) else
  let s:=aY e
  if s.halt≠0 then ({ k with retired:=k.retired++[s],halt:=s.halt,rob:=[],fetched:=[],stop:=true },false)
  else if s.store=true/\k.conf.stores<=k.stores.length then (k,false)
  else
   let k1:={ k with retired:=k.retired++[s] }
   let k2:=if gx s=true then { k1 with stores:=k1.stores++[⟨s.addr,fU s.value s.size⟩] } else k1
   let k3:=if ae e.inst.op=3 then jA k2 s.addr else k2
   ({ k3 with regs:=eU k3.regs s,guess:=gw k3.guess s.pc s.next e.inst,rob:=r },true)
def gr (f:ak->ak × Bool):Nat->ak->ak
 | 0,k=>k
 | n+1,k=>if (f k).2=true then gr f n (f k).1 else (f k).1
def eA (k:ak):ak:=gr dw k.conf.width.toNat k
def li (k:ak) (i:Nat):Bool :=
 match k.rob[i]? with
 | none=>false
 | some e=>
  if e.is≠0 then false else
  let may:=qG k.conf.mode k.rob i e
  let there:=(eg k.rob k.regs i e.inst.rs1).2
  if ae e.inst.op=3 then e.known || (there && may)
  else if ae e.inst.op=4 then !e.known && (there && may)
  else (eC k.rob k.regs i).2.2 && may
def tx (k:ak) (line:Nat):Bool:=(jY k.dways k.data line).2.2 || k.rob.any λe=>e.filled && decide (dL e.addr=line)
def fN (k:ak) (i:Nat):ak :=
 match k.rob[i]? with
 | none=>k
 | some e=>
  if e.known=false then k else
  let d:=jI k.rob k.stores i
  let line:=dL e.addr
  if d.1=1 then { k with rob:=k.rob.set i (gc e d.2) }
  else if d.1≠2 then k
  else if tx k line=true then { k with rob:=k.rob.set i (gc e (kO k e)) }
  else if kN k.bus line 1=true then { k with rob:=k.rob.set i { e with is:=2 } }
  else if mw k (decide (i<=eV k.rob))=true/\kN k.bus line 3=false then
   { fy k 1 line ⟨#[]⟩ with rob:=k.rob.set i { e with is:=2 } }
  else k
def startK (k:ak) (i:Nat):ak :=
 match k.rob[i]? with
 | none=>k
 | some e=>
  let s:=eC k.rob k.regs i
  if ae e.inst.op=4 then { k with rob:=k.rob.set i (eo e k.mem.size s.1) }
  else if ae e.inst.op=3 then fN { k with rob:=k.rob.set i (eo e k.mem.size s.1) } i
  else { k with rob:=k.rob.set i (dX e s.1 s.2.1) }
def zK (k:ak):List Int:=k.rob.map λe=>ae e.inst.op
def tC (k:ak):List Bool:=(List.range k.rob.length).map (li k)
def wj (k:ak):Bool:=k.rob.any λe=>decide (ae e.inst.op=2) && decide (e.is=1)
def dJ (k:ak):ak :=
 if k.halt≠0 then k else (eK k.conf.width (zK k) (tC k) 0 0 (wj k) false).foldl (λk i=>startK k i.toNat) k
def iC (k:ak):ak × Bool :=
 if k.conf.rob<=k.rob.length then (k,false) else
 match k.fetched with
 | []=>(k,false)
 | f::r=>({ k with rob:=k.rob++[dh k.next f k.prog],next:=k.next+1,fetched:=r },true)
def fP (k:ak):ak:=if k.halt≠0 then k else gr iC k.conf.width.toNat k
def dG (k:ak) (w:Nat):Nat × ak :=
 match df w with
 | none=>(ay k.fetch 4,k)
 | some i=>if ae i.op≠5 then (ay k.fetch 4,k) else
  if k.conf.tables=true then (oz k.guess k.fetch i,k) else (ra k.conf k.guessed k.fetch,{ k with guessed:=k.guessed+1 })
def iX (k:ak):ak × Bool :=
 if k.stop=true\/k.conf.queue<=k.fetched.length then (k,false) else
 match eE k.prog k.fetch with
 | none=>({ k with fetched:=k.fetched++[⟨k.fetch,ay k.fetch 4⟩],stop:=true },false)
 | some w=>
  let line:=dL k.fetch
  if (jY k.wways k.words line).2.2=false then
   (if kN k.bus line 2=false/\mw k false=true then fy k 2 line ⟨#[]⟩ else k,false)
  else
   let k1:={ k with words:=me k.wways k.words line }
   let b:=dG k1 w
   ({ b.2 with fetched:=b.2.fetched++[⟨k.fetch,b.1⟩],fetch:=b.1 },true)
def fo (k:ak):ak:=if k.halt≠0 then k else gr iX k.conf.width.toNat k
def lu (k:ak):ak :=
 let d:=ff k.dways k.stores k.data
 let k1:={ k with stores:=d.1,data:=d.2.1 }
 let k2:=match d.2.2,k1.stores with
  | false,p::_=>if kN k1.bus (dL p.addr) 3=false/\mw k1 true=true then fy k1 3 (dL p.addr) ⟨#[]⟩ else k1
  | _,_=>k1
 if k2.stores≠[]\/k2.halt=0 then k2 else
 let y:=eR k2.dways k2.data
 if y.2=true/\y.1.data.size≠0 then { fy k2 4 y.1.line y.1.data with data:=pg k2.dways k2.data y.1.line } else k2
def pK (ways:Int) (C:List (List Wy)) (c:Cf):Bool:=qC ways C && (decide ((C.length:Int)=c.sets) && decide (ways=c.ways))
def ou (m:ByteArray):ByteArray:=⟨(Me.cleanL m.data.toList).toArray⟩
def kT (k:ak):Bool :=
 qc k.conf && decide (k.prog.length<=64) && decide (bl k.mem=Me.cleanL (bl k.mem)) && (mj k.rob && decide ((k.rob.length:Int)<=k.conf.rob)) && k.rob.all (λe=>decide (e.no<k.next)) &&
 (pK k.dways k.data k.conf && (pK k.wways k.words k.conf && ky k.guess)) && (decide ((k.fetched.length:Int)<=k.conf.queue) && decide ((k.stores.length:Int)<=k.conf.stores)) &&
 k.stores.all (λp=>dc k.mem.size p.addr p.data.size)
def fB (k:ak):ak :=
 if kT k=true then lu (fo (fP (dJ (eA (bQ (dr { k with cycle:=k.cycle+1 })))))) else k
def gm (c : Cf) (prog : List Nat) (m : ByteArray) : ak :=
  { conf := bf c, prog := prog.take 64, cycle := 0, regs := List.replicate 32 0, fetch := 0, stop := false, fetched := [], rob := [], next := 1, stores := [],
    dways := (bf c).ways, data := List.replicate (bf c).sets.toNat [], wways := (bf c).ways, words := List.replicate (bf c).sets.toNat [], bus := [], asked := 0, guessed := 0,
    mem := ou m, guess := wP, halt := 0, retired := [] }
def runK : Nat->ak->ak
 | 0,k=>k
 | n+1,k=>runK n (fB k)
end
section
open Go.RowKit
inductive nA (o:Oper) (ops:Array Oper) (tmps:Array Value):Prop
 | mk (h:Region.wanted o (yielded ops tmps)=true)
def nA.of_none {o ops tmps}(h:o.guard=none):nA o ops tmps:=⟨by unfold Region.wanted;rw [h]⟩
def nA.of_some {o ops tmps j b}(h:o.guard=some (j,b))(hy:yielded ops tmps j=some b):nA o ops tmps:=⟨by unfold Region.wanted;rw [h];simp [hy]⟩
section
variable {P:Program} {ops:Array Oper} {rest:List Oper} {o:Oper} {a:Act} {Q:Exit->Act->World->Prop} {w:World}
def lA {s f:Nat} {x:Operand} {g j off:Nat} (ho:o.op = .fieldAddr s x f) (hx:ac a x=some (.pointer (some ⟨g,j,none⟩))) (hw:nA o ops a.tmps)(h:wpList P ops Q rest (a.put o.dst (.pointer (some ⟨g,j+off,none⟩))) w) (ht:lD P s f off:=by exact rx _ _ _ rfl):wpList P ops Q (o::rest) a w:=pv ho hx h ht hw.1
def je {s f:Nat} {x:Operand} {g j off:Nat} (ho:o.op = .fieldAddr s x f) (hx:ac a x=some (.pointer (some ⟨g,j,none⟩)))  (h:wpList P ops Q rest (a.put o.dst (.pointer (some ⟨g,j+off,none⟩))) w) (ht:lD P s f off:=by exact rx _ _ _ rfl) (hw:nA o ops a.tmps:=by first|exact nA.of_none F|exact nA.of_some F F):wpList P ops Q (o::rest) a w:=lA ho hx hw h ht
def FS {s f:Nat} {x:Operand} {w0:World} {D0 D:List Da} {M:List Mu} {A:Option Addr} {j off sz n c:Nat} {xs:List Value} (ho:o.op = .fieldAddr s x f) (E:St w0 D0 w M D) (hx:ac a x=some (cu A j)) (hw:nA o ops a.tmps)(h:wpList P ops Q rest (a.put o.dst (cu A (j+off))) w) (ht:lD P s f off:=by exact rx _ _ _ rfl) (hd:ab sz A n c xs∈D:=by exact au) (hn:0<n:=by (first|assumption|omega|exact mT bI|exact ng _)):wpList P ops Q (o::rest) a w:=EW ho E hx h ht hw.1 hd hn
def fj {j b c}(hg:o.guard=some (j,b))(hy:yielded ops a.tmps j=some c)(hc:(c == b)=false)(h:wpList P ops Q rest (a.put o.dst undef) w):wpList P ops Q (o::rest) a w :=
 wpList_skip (by unfold Region.wanted;rw [hg];simp only [hy];cases b <;> cases c <;> first|rfl|cases hc) h
end
end
end Go.Proofs.YtgnomadgnciifaaGreatDoor
