/- . -/
import Derived.Test.YtgnomadgnciifaaGreatDoorZ4
import Derived.Lib.BitFns
set_option linter.all false
set_option maxRecDepth 100000
set_option maxHeartbeats 16000000
namespace Go.Proofs.YtgnomadgnciifaaGreatDoor
variable {p:Prop}
open Go.Proofs.Tryz
def ut (h:p:=by
 have E:=St.start w [] zN;go_enter func146,ntmps146;go_wp2_with ((first|((refine Vs F E F F ?_;clear E;intro Z J E);refine zs ?_)|((refine w_sp4 F E F F F F ?_;clear E;intro Z J E);refine zs ?_)|((first|refine aL ?_|(refine am ?_;clear E;intro Z J E));refine zs ?_)));go_returns;obtain ⟨A,c,e1,ad⟩:=E.freeze 0 aC
 injection e1 with e1 _ e2
 exact ⟨_,_,rfl,by subst e1 e2;exact ad.outA⟩):=h
def uD (h:p:=by
 go_enter func219,ntmps219;go_wp2;go_ret
 exact ⟨jB Ending.returned (jB Value.bool (by first|rfl|(rw [qU ha,qU hb])|(rw [qU ha,qU hb];simp;done)|(simp;done)|(simp [bne];done)|(rw [oT];simp;omega))),rfl⟩):=h
def BO (h:p:=by
 have E:=St.start w [] zN;go_enter func146,ntmps146;go_wp2_with (((first|refine aL ?_|(refine am ?_;clear E;intro Z J E));refine zs ?_));go_returns;have ic:=E.nil 240 2;obtain ⟨A,c,e1,ad⟩:=ic.freeze 0 aC
 injection e1 with e1 _ e2
 exact ⟨none,0,rfl,by subst e1 e2;exact ad.outA⟩):=h
def Cn (h:p:=by
 (go_wp2_with ((try refine zs ?_);(first|refine ot ?_|(refine oE ?_;clear E;intro Z J E)|(refine aq ?_;clear E;intro vN J E))));go_roundw;case rel=>exact ⟨k+1,by omega,by go_num,hb,E.drop 0⟩
 case measure=>exact zM):=h
def A7 (h:p:=by
 go_enter func206,ntmps206;go_wp2;go_ret
 exact ⟨dI (by first|exact m38 a b ha hb|exact Ud a b ha hb|(rw [DQ ha,DQ hb];exact Jg _)|(rw [DQ ha];exact Jg _)),rfl⟩):=h
def IG (h:p:=by
 have hb2:bits .and .u32 (b:Int) 31=((b % 32:Nat):Int):=by rw [<- nat_mask5];exact u32_and_nat b 31 hb O
 have hb3:b % 32<32:=dy _ O;have h1:=u32_and_nat a b ha hb;have h2:=u32_or_nat a b ha hb;have h3:=u32_xor_nat a b ha hb;go_enter func209,ntmps209;go_wp2_with (go_at_call 217;refine (oy _ _).mono ?_;rintro e w' ⟨rfl,rfl⟩);go_ret
 exact ⟨dI (e_sltu a b ha hb),rfl⟩):=h
def JT (h:p:=by
 have hb2:bits .and .u32 (b:Int) 31=((b % 32:Nat):Int):=by rw [<- nat_mask5];exact u32_and_nat b 31 hb O
 have hb3:b % 32<32:=dy _ O;have h1:=u32_and_nat a b ha hb;have h2:=u32_or_nat a b ha hb;have h3:=u32_xor_nat a b ha hb;go_enter func209,ntmps209;go_wp2_with (go_at_call 217;refine (oy _ _).mono ?_;rintro e w' ⟨rfl,rfl⟩);go_ret
 exact ⟨dI (OX a b ha hb),rfl⟩):=h
def Jk (h:p:=by
 have hb2:bits .and .u32 (b:Int) 31=((b % 32:Nat):Int):=by rw [<- nat_mask5];exact u32_and_nat b 31 hb O
 have hb3:b % 32<32:=dy _ O;have h1:=u32_and_nat a b ha hb;have h2:=u32_or_nat a b ha hb;have h3:=u32_xor_nat a b ha hb;go_enter func209,ntmps209;go_wp2_with (go_at_call 217;refine (oy _ _).mono ?_;rintro e w' ⟨rfl,rfl⟩);go_ret
 exact ⟨dI (e_and a b ha hb),rfl⟩):=h
def Gd (h:p:=by
 have hb2:bits .and .u32 (b:Int) 31=((b % 32:Nat):Int):=by rw [<- nat_mask5];exact u32_and_nat b 31 hb O
 have hb3:b % 32<32:=dy _ O;have h1:=u32_and_nat a b ha hb;have h2:=u32_or_nat a b ha hb;have h3:=u32_xor_nat a b ha hb;go_enter func209,ntmps209;go_wp2_with (go_at_call 217;refine (oy _ _).mono ?_;rintro e w' ⟨rfl,rfl⟩);go_ret
 exact ⟨dI (Qt a b ha hb),rfl⟩):=h
def FC (h:p:=by
 have hb2:bits .and .u32 (b:Int) 31=((b % 32:Nat):Int):=by rw [<- nat_mask5];exact u32_and_nat b 31 hb O
 have hb3:b % 32<32:=dy _ O;have h1:=u32_and_nat a b ha hb;have h2:=u32_or_nat a b ha hb;have h3:=u32_xor_nat a b ha hb;go_enter func209,ntmps209;go_wp2_with (go_at_call 217;refine (oy _ _).mono ?_;rintro e w' ⟨rfl,rfl⟩);go_ret
 exact ⟨dI (QA a b ha hb),rfl⟩):=h
def MO (h:p:=by
 have hb2:bits .and .u32 (b:Int) 31=((b % 32:Nat):Int):=by rw [<- nat_mask5];exact u32_and_nat b 31 hb O
 have hb3:b % 32<32:=dy _ O;have h1:=u32_and_nat a b ha hb;have h2:=u32_or_nat a b ha hb;have h3:=u32_xor_nat a b ha hb;go_enter func209,ntmps209;go_wp2_with (go_at_call 217;refine (oy _ _).mono ?_;rintro e w' ⟨rfl,rfl⟩);go_ret
 exact ⟨dI (OB a b ha hb),rfl⟩):=h
def Nb (h:p:=by
 have hb2:bits .and .u32 (b:Int) 31=((b % 32:Nat):Int):=by rw [<- nat_mask5];exact u32_and_nat b 31 hb O
 have hb3:b % 32<32:=dy _ O;have h1:=u32_and_nat a b ha hb;have h2:=u32_or_nat a b ha hb;have h3:=u32_xor_nat a b ha hb;go_enter func209,ntmps209;go_wp2_with (go_at_call 217;refine (oy _ _).mono ?_;rintro e w' ⟨rfl,rfl⟩);go_ret
 exact ⟨dI (PB a b ha hb),rfl⟩):=h
def FX (h:p:=by
 have hb2:bits .and .u32 (b:Int) 31=((b % 32:Nat):Int):=by rw [<- nat_mask5];exact u32_and_nat b 31 hb O
 have hb3:b % 32<32:=dy _ O;have h1:=u32_and_nat a b ha hb;have h2:=u32_or_nat a b ha hb;have h3:=u32_xor_nat a b ha hb;go_enter func209,ntmps209;go_wp2_with (go_at_call 217;refine (oy _ _).mono ?_;rintro e w' ⟨rfl,rfl⟩);go_ret
 exact ⟨dI (Zj a b ha hb),rfl⟩):=h
def Jm (h:p:=by
 have hb2:bits .and .u32 (b:Int) 31=((b % 32:Nat):Int):=by rw [<- nat_mask5];exact u32_and_nat b 31 hb O
 have hb3:b % 32<32:=dy _ O;have h1:=u32_and_nat a b ha hb;have h2:=u32_or_nat a b ha hb;have h3:=u32_xor_nat a b ha hb;go_enter func209,ntmps209;go_wp2_with (go_at_call 217;refine (oy _ _).mono ?_;rintro e w' ⟨rfl,rfl⟩);go_ret
 exact ⟨dI (e_or a b ha hb),rfl⟩):=h
def MA (h:p:=by
 (go_wp2_with ((try refine zs ?_);(first|refine ot ?_|(refine oE ?_;clear E;intro Z J E)|(refine aq ?_;clear E;intro vN J E))));go_ret
 exact ⟨by unfold rj;rw [hR.out];rfl,E.bel⟩):=h
def Ok (h:p:=by
 cases hq:P.info? e with
 | none=>simp [hq] at hi
 | some i=>
  have:i.size=1:=by simpa [hq] using hi
  simp [sizeOf,typeInfo,hq,this]):=h
section
open Go.RowKit Wd
section
variable {P:Program} {ops:Array Oper} {rest:List Oper} {o:Oper} {a:Act} {Q:Exit->Act->World->Prop} {w0 w:World} {D0 D:List Da} {M:List Mu} {B:Nat} {Mr:List Mu} {Dr:List Da} {S:World->Prop}
inductive BJ (P:Program) (t e:TypeId) (n:Nat):Prop
 | mk (hu:P.underlying t=some (.array n e)) (hi:(P.info? e).map (·.size)=some 1)
def X5 {w:World} {t e:TypeId} {gl n k:Nat} {ki:IntKind} (ht:BJ P t e n) (hk:k<n):(Instr.indexAt t (.pointer (some ⟨gl,0,none⟩)) (.int ki (k:Int))).run P w = .ok (cu (some ⟨gl,0,none⟩) (k * 1)) w:=by
 obtain ⟨hu,hi⟩:=ht;have hs:(sizeOf e).run P w = .ok 1 w:=by
  exact Ok
 simp [Instr.indexAt,eH hu,asIntOf,hs,cu,Instr.sureAddr,show (k:Int)<(n:Int) by omega];intro h;omega
def Pp {t e:TypeId} {gl n k:Nat} {ix:Operand} {ki:IntKind} (ho:o.op = .indexAddr t (.global gl) ix) (hk:ac a ix=some (.int ki (k:Int))) (ht:BJ P t e n) (ik:k<n:=by (first|assumption|omega|exact mT bI|exact ng _)) (hw:Region.wanted o (yielded ops a.tmps)=true:=by rfl) :YieldsIf P ops S o (cu (some ⟨gl,0,none⟩) (k * 1)) a:=by
 replace hk:=ap hk;have hg:a.eval (.global gl) = .pointer (some ⟨gl,0,none⟩):=rfl;refine cg hw λw=>?_
 unfold execOp;simp only [ho,hk,hg,X5 ht ik,bC,bL,bG]
def Vm {w t e z bytes}(ht:bF P t e z 2 bytes)(hz:z.cells=#[I 0,I 0])(p q r s):(Instr.buildSlice t 2 #[(0,.agg #[I p,I q]),(1,.agg #[I r,I s])]).run P w = .ok (.slice (some ⟨w.heap.size,0,none⟩) 2 2) (w.alloc (.cells #[I p,I q,I r,I s] e)):=by
 obtain ⟨hu,hi,aO,hp⟩:=ht;obtain ⟨i,ak,al,cW,_⟩:=info_parts hi;refine run_buildSlice w t e 2 _ #[I p,I q,I r,I s] i z hu ak al qz qz ?_;rw [cW,show Array.range (2 * 2)=#[0,1,2,3] from rfl,hz];simp [Instr.fill,Value.cells]
def h2m {w t e z bytes}(ht:bF P t e z 2 bytes)(hz:z.cells=#[I 0,I 0])(p q r s p' q' r' s'):(Instr.buildSlice t 4 #[(0,.agg #[I p,I q]),(1,.agg #[I r,I s]),(2,.agg #[I p',I q']),(3,.agg #[I r',I s'])]).run P w = .ok (.slice (some ⟨w.heap.size,0,none⟩) 4 4) (w.alloc (.cells #[I p,I q,I r,I s,I p',I q',I r',I s'] e)):=by
 obtain ⟨hu,hi,aO,hp⟩:=ht;obtain ⟨i,ak,al,cW,_⟩:=info_parts hi;refine run_buildSlice w t e 4 _ #[I p,I q,I r,I s,I p',I q',I r',I s'] i z hu ak al qz qz ?_;rw [cW,show Array.range (4 * 2)=#[0,1,2,3,4,5,6,7] from rfl,hz];simp [Instr.fill,Value.cells]
def Ih {w:World}(hb:w0.heap.size<=w.heap.size){e sz n}(cs)(hl:cs.length=n * sz)(hn:n<=100):(w.alloc (.cells cs.toArray e)).ownsRow w0.heap.size e sz (.slice (some ⟨w.heap.size,0,none⟩) n n) n cs :=
 ⟨hl,.inr ⟨w.heap.size,n,cs.toArray,rfl,hb,qW w _,aM _,by unfold maxLen;omega,by simp [hl],by rw [cD (by simp [hl])]⟩⟩
def Vs {t e:TypeId} {x y:Operand} {z:Value} {bytes:Nat} {p q r s:Int} (ho:o.op = .buildSlice t 2 #[(0,x),(1,y)]) (E:St w0 D0 w M D) (hx:ac a x=some (.agg #[I p,I q])) (hy:ac a y=some (.agg #[I r,I s]))(h:∀ g w',St w0 D0 w' (.own (.slice (some ⟨g,0,none⟩) 2 2) e 2 2 [I p,I q,I r,I s]::M) D->wpList P ops Q rest (a.put o.dst (.slice (some ⟨g,0,none⟩) 2 2)) w') (ig:o.guard=none:=by rfl) (ht:bF P t e z 2 bytes:=by exact fS _ _ _ _ _ rfl) (hz:z.cells=#[I 0,I 0]:=by rfl):wpList P ops Q (o::rest) a w:=by
 refine kr ig λK X=>?_
 have aD:St w0 D0 (w.alloc (.cells #[I p,I q,I r,I s] e)) (.own (.slice (some ⟨w.heap.size,0,none⟩) 2 2) e 2 2 [I p,I q,I r,I s]::M) D :=
  E.push _ (lV (af.alloc w _) none) (Ih E.bel.size [I p,I q,I r,I s] F O) λg hg=>by simp only [Mu.bl,Value.ownBlock,dF] at hg;omega
 have hk:=X _ _ (h _ _ aD);replace hx:=ap hx;replace hy:=ap hy;unfold Oper.wp execOp;simp only [ho,nj,kg,mf,hx,hy,Vm ht hz,bC,bL,bG];exact hk
def w_sp4 {t e:TypeId} {x y x' y':Operand} {z:Value} {bytes:Nat} {p q r s p' q' r' s':Int} (ho:o.op = .buildSlice t 4 #[(0,x),(1,y),(2,x'),(3,y')]) (E:St w0 D0 w M D) (hx:ac a x=some (.agg #[I p,I q])) (hy:ac a y=some (.agg #[I r,I s])) (m9:ac a x'=some (.agg #[I p',I q'])) (aE:ac a y'=some (.agg #[I r',I s']))(h:∀ g w',St w0 D0 w' (.own (.slice (some ⟨g,0,none⟩) 4 4) e 2 4 [I p,I q,I r,I s,I p',I q',I r',I s']::M) D->wpList P ops Q rest (a.put o.dst (.slice (some ⟨g,0,none⟩) 4 4)) w') (ig:o.guard=none:=by rfl) (ht:bF P t e z 2 bytes:=by exact fS _ _ _ _ _ rfl) (hz:z.cells=#[I 0,I 0]:=by rfl):wpList P ops Q (o::rest) a w:=by
 refine kr ig λK X=>?_
 have aD:St w0 D0 (w.alloc (.cells #[I p,I q,I r,I s,I p',I q',I r',I s'] e)) (.own (.slice (some ⟨w.heap.size,0,none⟩) 4 4) e 2 4 [I p,I q,I r,I s,I p',I q',I r',I s']::M) D :=
  E.push _ (lV (af.alloc w _) none) (Ih E.bel.size [I p,I q,I r,I s,I p',I q',I r',I s'] F O) λg hg=>by simp only [Mu.bl,Value.ownBlock,dF] at hg;omega
 have hk:=X _ _ (h _ _ aD);replace hx:=ap hx;replace hy:=ap hy;replace m9:=ap m9;replace aE:=ap aE;unfold Oper.wp execOp;simp only [ho,nj,kg,mf,hx,hy,m9,aE,h2m ht hz,bC,bL,bG];exact hk
end
def xD (op:Int):aI op=0\/aI op=1\/aI op=2\/aI op=3\/aI op=4\/aI op=5\/aI op=6\/aI op=7\/aI op=8:=by
 unfold aI
 repeat' split
 all_goals simp
def m8 (op:Int):jU op=aI op:=rfl
def US (w):Ca 183 #[I 0] w λe w'=>e = .returned (U (fr 0:Int))/\w'=w:=by
 go_enter func183,ntmps183;go_wp2;go_ret;exact ⟨rfl,rfl⟩
def NV (w):Ca 106 #[I 0] w λe w'=>e = .returned (.tuple #[.bool (cH 0).1,.bool (cH 0).2.1,.bool (cH 0).2.2])/\w'=w:=by
 go_enter func106,ntmps106;go_wp2;go_returns;exact ⟨rfl,rfl⟩
def Rj (w):Ca 183 #[I 1] w λe w'=>e = .returned (U (fr 1:Int))/\w'=w:=by
 go_enter func183,ntmps183;go_wp2;go_ret;exact ⟨rfl,rfl⟩
def E8 (w):Ca 106 #[I 1] w λe w'=>e = .returned (.tuple #[.bool (cH 1).1,.bool (cH 1).2.1,.bool (cH 1).2.2])/\w'=w:=by
 go_enter func106,ntmps106;go_wp2;go_returns;exact ⟨rfl,rfl⟩
def YH (w):Ca 183 #[I 2] w λe w'=>e = .returned (U (fr 2:Int))/\w'=w:=by
 go_enter func183,ntmps183;go_wp2;go_ret;exact ⟨rfl,rfl⟩
def Oh (w):Ca 106 #[I 2] w λe w'=>e = .returned (.tuple #[.bool (cH 2).1,.bool (cH 2).2.1,.bool (cH 2).2.2])/\w'=w:=by
 go_enter func106,ntmps106;go_wp2;go_returns;exact ⟨rfl,rfl⟩
def YB (w):Ca 183 #[I 3] w λe w'=>e = .returned (U (fr 3:Int))/\w'=w:=by
 go_enter func183,ntmps183;go_wp2;go_ret;exact ⟨rfl,rfl⟩
def Fv (w):Ca 106 #[I 3] w λe w'=>e = .returned (.tuple #[.bool (cH 3).1,.bool (cH 3).2.1,.bool (cH 3).2.2])/\w'=w:=by
 go_enter func106,ntmps106;go_wp2;go_returns;exact ⟨rfl,rfl⟩
def h2r (w):Ca 183 #[I 4] w λe w'=>e = .returned (U (fr 4:Int))/\w'=w:=by
 go_enter func183,ntmps183;go_wp2;go_ret;exact ⟨rfl,rfl⟩
def GB (w):Ca 106 #[I 4] w λe w'=>e = .returned (.tuple #[.bool (cH 4).1,.bool (cH 4).2.1,.bool (cH 4).2.2])/\w'=w:=by
 go_enter func106,ntmps106;go_wp2;go_returns;exact ⟨rfl,rfl⟩
def QP (w):Ca 183 #[I 5] w λe w'=>e = .returned (U (fr 5:Int))/\w'=w:=by
 go_enter func183,ntmps183;go_wp2;go_ret;exact ⟨rfl,rfl⟩
def JU (w):Ca 106 #[I 5] w λe w'=>e = .returned (.tuple #[.bool (cH 5).1,.bool (cH 5).2.1,.bool (cH 5).2.2])/\w'=w:=by
 go_enter func106,ntmps106;go_wp2;go_returns;exact ⟨rfl,rfl⟩
def Wi (w):Ca 183 #[I 6] w λe w'=>e = .returned (U (fr 6:Int))/\w'=w:=by
 go_enter func183,ntmps183;go_wp2;go_ret;exact ⟨rfl,rfl⟩
def Ja (w):Ca 106 #[I 6] w λe w'=>e = .returned (.tuple #[.bool (cH 6).1,.bool (cH 6).2.1,.bool (cH 6).2.2])/\w'=w:=by
 go_enter func106,ntmps106;go_wp2;go_returns;exact ⟨rfl,rfl⟩
def WZ (w):Ca 183 #[I 7] w λe w'=>e = .returned (U (fr 7:Int))/\w'=w:=by
 go_enter func183,ntmps183;go_wp2;go_ret;exact ⟨rfl,rfl⟩
def Jb (w):Ca 106 #[I 7] w λe w'=>e = .returned (.tuple #[.bool (cH 7).1,.bool (cH 7).2.1,.bool (cH 7).2.2])/\w'=w:=by
 go_enter func106,ntmps106;go_wp2;go_returns;exact ⟨rfl,rfl⟩
def WD (w):Ca 183 #[I 8] w λe w'=>e = .returned (U (fr 8:Int))/\w'=w:=by
 go_enter func183,ntmps183;go_wp2;go_ret;exact ⟨rfl,rfl⟩
def MM (w):Ca 106 #[I 8] w λe w'=>e = .returned (.tuple #[.bool (cH 8).1,.bool (cH 8).2.1,.bool (cH 8).2.2])/\w'=w:=by
 go_enter func106,ntmps106;go_wp2;go_returns;exact ⟨rfl,rfl⟩
def WI (f:Int) (w:World) (h:f=0\/f=1\/f=2\/f=3\/f=4\/f=5\/f=6\/f=7\/f=8):Ca 183 #[I f] w λe w'=>e = .returned (U (fr f:Int))/\w'=w:=by
 rcases h with rfl|rfl|rfl|rfl|rfl|rfl|rfl|rfl|rfl
 .exact US w
 .exact Rj w
 .exact YH w
 .exact YB w
 .exact h2r w
 .exact QP w
 .exact Wi w
 .exact WZ w
 .exact WD w
def h2x (f:Int) (w:World) (h:f=0\/f=1\/f=2\/f=3\/f=4\/f=5\/f=6\/f=7\/f=8):Ca 106 #[I f] w λe w'=>e = .returned (.tuple #[.bool (cH f).1,.bool (cH f).2.1,.bool (cH f).2.2])/\w'=w:=by
 rcases h with rfl|rfl|rfl|rfl|rfl|rfl|rfl|rfl|rfl
 .exact NV w
 .exact E8 w
 .exact Oh w
 .exact Fv w
 .exact GB w
 .exact JU w
 .exact Ja w
 .exact Jb w
 .exact MM w
def dQ (l:List (Int × Int)):List pt:=l.map λp=>⟨p.1,p.2⟩
instance spnsRows : Rows dk pt.cells 2:=⟨λ_=>rfl,λ_=>rfl,pt.one,by decide⟩
def MC (w):Ca 146 #[I 0] w λe w'=>∃ A c,e = .returned (.tuple #[.slice A (av 0).1.length c,I ((av 0).2:Int)])/\Out w [] w' [ab 2 A (av 0).1.length c (dk (dQ (av 0).1))]:=by
 exact BO
def LD (w):Ca 146 #[I 1] w λe w'=>∃ A c,e = .returned (.tuple #[.slice A (av 1).1.length c,I ((av 1).2:Int)])/\Out w [] w' [ab 2 A (av 1).1.length c (dk (dQ (av 1).1))]:=by
 exact BO
def Fq (w):Ca 146 #[I 8] w λe w'=>∃ A c,e = .returned (.tuple #[.slice A (av 8).1.length c,I ((av 8).2:Int)])/\Out w [] w' [ab 2 A (av 8).1.length c (dk (dQ (av 8).1))]:=by
 exact BO
def L8 (w):Ca 146 #[I 2] w λe w'=>∃ A c,e = .returned (.tuple #[.slice A (av 2).1.length c,I ((av 2).2:Int)])/\Out w [] w' [ab 2 A (av 2).1.length c (dk (dQ (av 2).1))]:=by
 exact ut
def Mz (w):Ca 146 #[I 3] w λe w'=>∃ A c,e = .returned (.tuple #[.slice A (av 3).1.length c,I ((av 3).2:Int)])/\Out w [] w' [ab 2 A (av 3).1.length c (dk (dQ (av 3).1))]:=by
 exact ut
def Kc (w):Ca 146 #[I 4] w λe w'=>∃ A c,e = .returned (.tuple #[.slice A (av 4).1.length c,I ((av 4).2:Int)])/\Out w [] w' [ab 2 A (av 4).1.length c (dk (dQ (av 4).1))]:=by
 exact ut
def IP (w):Ca 146 #[I 5] w λe w'=>∃ A c,e = .returned (.tuple #[.slice A (av 5).1.length c,I ((av 5).2:Int)])/\Out w [] w' [ab 2 A (av 5).1.length c (dk (dQ (av 5).1))]:=by
 exact ut
def Jn (w):Ca 146 #[I 6] w λe w'=>∃ A c,e = .returned (.tuple #[.slice A (av 6).1.length c,I ((av 6).2:Int)])/\Out w [] w' [ab 2 A (av 6).1.length c (dk (dQ (av 6).1))]:=by
 exact ut
def Kz (w):Ca 146 #[I 7] w λe w'=>∃ A c,e = .returned (.tuple #[.slice A (av 7).1.length c,I ((av 7).2:Int)])/\Out w [] w' [ab 2 A (av 7).1.length c (dk (dQ (av 7).1))]:=by
 exact ut
def Tv (f:Int) (w:World) (h:f=0\/f=1\/f=2\/f=3\/f=4\/f=5\/f=6\/f=7\/f=8):Ca 146 #[I f] w λe w'=>∃ A c,e = .returned (.tuple #[.slice A (av f).1.length c,I ((av f).2:Int)])/\Out w [] w' [ab 2 A (av f).1.length c (dk (dQ (av f).1))]:=by
 rcases h with rfl|rfl|rfl|rfl|rfl|rfl|rfl|rfl|rfl
 .exact MC w
 .exact LD w
 .exact L8 w
 .exact Mz w
 .exact Kc w
 .exact IP w
 .exact Jn w
 .exact Kz w
 .exact Fq w
end
section
open Go.RowKit Wd
def oy (b w):Ca 217 #[.bool b] w λe w'=>e = .returned (U (kX b:Int))/\w'=w:=by
 cases b
 all_goals
  go_enter func217,ntmps217;go_wp2;go_ret;exact ⟨rfl,rfl⟩
def qU {a:Nat} (h:a<4294967296):wrap32 (a:Int)=sg a:=by
 unfold wrap32 sg;split <;> omega
def B7 (x:Int):((un x:Nat):Int)=x % 4294967296:=by unfold un;omega
def vy (x:Int):un x<4294967296:=by unfold un;omega
def UD (a s:Nat):(a:Int) * 2 ^ s % 4294967296=((a * 2 ^ s % 4294967296:Nat):Int):=by
 rw [qy];omega
def E3 (a s:Nat):(a:Int) / 2 ^ s=((a / 2 ^ s:Nat):Int):=by
 rw [qy];omega
def h3a (b):kX b<4294967296:=by cases b <;> decide
def Gv {op a b}(ha:a<4294967296)(hb:b<4294967296):aH op a b<4294967296:=by
 unfold aH ay hU;have h1:a &&& b<4294967296:=fJ Nat.and_le_left ha;have h2:a ||| b<4294967296:=Nat.or_lt_two_pow (n:=32) ha hb
 have h3:a ^^^ b<4294967296:=sH (n:=32) ha hb;have h4:a / 2 ^ (b % 32)<4294967296:=fJ (kK _ _) ha;have h5:=vy (sg a / 2 ^ (b % 32));have h6:=h3a
 repeat' split
 all_goals first|assumption|exact h6 _|omega
section
variable (a b:Nat) (ha:a<4294967296) (hb:b<4294967296)
include ha hb
theorem OX : ((a:Int)+(b:Int)) % 4294967296=((ay a b:Nat):Int):=by unfold ay;omega
theorem O6 : ((a:Int) - (b:Int)) % 4294967296=((hU a b:Nat):Int):=by unfold hU;omega
theorem e_and : ((a &&& b:Nat):Int)=((a &&& b:Nat):Int):=rfl
theorem e_or : ((a ||| b:Nat):Int)=((a ||| b:Nat):Int):=rfl
theorem Qt : ((a ^^^ b:Nat):Int)=((a ^^^ b:Nat):Int):=rfl
theorem QA : (a:Int) * 2 ^ (b % 32) % 4294967296=((a * 2 ^ (b % 32) % 4294967296:Nat):Int):=UD a _
theorem OB : (a:Int) / 2 ^ (b % 32)=((a / 2 ^ (b % 32):Nat):Int):=E3 a _
theorem PB : wrap32 (a:Int) / 2 ^ (b % 32) % 4294967296=((un (sg a / 2 ^ (b % 32)):Nat):Int):=by rw [qU ha,B7]
theorem Zj : ((kX (decide (wrap32 (a:Int)<wrap32 (b:Int))):Nat):Int)=((kX (decide (sg a<sg b)):Nat):Int):=by rw [qU ha,qU hb]
theorem e_sltu : ((kX (decide (a<b)):Nat):Int)=((kX (decide (a<b)):Nat):Int):=rfl
theorem Op : ((b:Nat):Int)=((b:Nat):Int):=rfl
end
def S0 (a b:Nat) (w:World) (ha:a<4294967296) (hb:b<4294967296) :Ca 209 #[I 28,U (a:Int),U (b:Int)] w λe w'=>e = .returned (U (aH 28 a b:Int))/\w'=w:=by
 rw [show aH 28 a b=ay a b from by simp [aH]];exact JT
def TJ (a b:Nat) (w:World) (ha:a<4294967296) (hb:b<4294967296) :Ca 209 #[I 19,U (a:Int),U (b:Int)] w λe w'=>e = .returned (U (aH 19 a b:Int))/\w'=w:=by
 rw [show aH 19 a b=ay a b from by simp [aH]];exact JT
def Yg (a b:Nat) (w:World) (ha:a<4294967296) (hb:b<4294967296) :Ca 209 #[I 29,U (a:Int),U (b:Int)] w λe w'=>e = .returned (U (aH 29 a b:Int))/\w'=w:=by
 rw [show aH 29 a b=hU a b from by simp [aH]];have hb2:bits .and .u32 (b:Int) 31=((b % 32:Nat):Int):=by rw [<- nat_mask5];exact u32_and_nat b 31 hb O
 have hb3:b % 32<32:=dy _ O;have h1:=u32_and_nat a b ha hb;have h2:=u32_or_nat a b ha hb;have h3:=u32_xor_nat a b ha hb;go_enter func209,ntmps209;go_wp2_with (go_at_call 217;refine (oy _ _).mono ?_;rintro e w' ⟨rfl,rfl⟩);go_ret;exact ⟨dI (O6 a b ha hb),rfl⟩
def Ue (a b:Nat) (w:World) (ha:a<4294967296) (hb:b<4294967296) :Ca 209 #[I 37,U (a:Int),U (b:Int)] w λe w'=>e = .returned (U (aH 37 a b:Int))/\w'=w:=by
 rw [show aH 37 a b=a &&& b from by simp [aH]];exact Jk
def Pq (a b:Nat) (w:World) (ha:a<4294967296) (hb:b<4294967296) :Ca 209 #[I 24,U (a:Int),U (b:Int)] w λe w'=>e = .returned (U (aH 24 a b:Int))/\w'=w:=by
 rw [show aH 24 a b=a &&& b from by simp [aH]];exact Jk
def Uh (a b:Nat) (w:World) (ha:a<4294967296) (hb:b<4294967296) :Ca 209 #[I 36,U (a:Int),U (b:Int)] w λe w'=>e = .returned (U (aH 36 a b:Int))/\w'=w:=by
 rw [show aH 36 a b=a ||| b from by simp [aH]];exact Jm
def RR (a b:Nat) (w:World) (ha:a<4294967296) (hb:b<4294967296) :Ca 209 #[I 23,U (a:Int),U (b:Int)] w λe w'=>e = .returned (U (aH 23 a b:Int))/\w'=w:=by
 rw [show aH 23 a b=a ||| b from by simp [aH]];exact Jm
def h3k (a b:Nat) (w:World) (ha:a<4294967296) (hb:b<4294967296) :Ca 209 #[I 33,U (a:Int),U (b:Int)] w λe w'=>e = .returned (U (aH 33 a b:Int))/\w'=w:=by
 rw [show aH 33 a b=a ^^^ b from by simp [aH]];exact Gd
def TG (a b:Nat) (w:World) (ha:a<4294967296) (hb:b<4294967296) :Ca 209 #[I 22,U (a:Int),U (b:Int)] w λe w'=>e = .returned (U (aH 22 a b:Int))/\w'=w:=by
 rw [show aH 22 a b=a ^^^ b from by simp [aH]];exact Gd
def VS (a b:Nat) (w:World) (ha:a<4294967296) (hb:b<4294967296) :Ca 209 #[I 30,U (a:Int),U (b:Int)] w λe w'=>e = .returned (U (aH 30 a b:Int))/\w'=w:=by
 rw [show aH 30 a b=a * 2 ^ (b % 32) % 4294967296 from by simp [aH]];exact FC
def h3n (a b:Nat) (w:World) (ha:a<4294967296) (hb:b<4294967296) :Ca 209 #[I 25,U (a:Int),U (b:Int)] w λe w'=>e = .returned (U (aH 25 a b:Int))/\w'=w:=by
 rw [show aH 25 a b=a * 2 ^ (b % 32) % 4294967296 from by simp [aH]];exact FC
def VJ (a b:Nat) (w:World) (ha:a<4294967296) (hb:b<4294967296) :Ca 209 #[I 34,U (a:Int),U (b:Int)] w λe w'=>e = .returned (U (aH 34 a b:Int))/\w'=w:=by
 rw [show aH 34 a b=a / 2 ^ (b % 32) from by simp [aH]];exact MO
def X1 (a b:Nat) (w:World) (ha:a<4294967296) (hb:b<4294967296) :Ca 209 #[I 26,U (a:Int),U (b:Int)] w λe w'=>e = .returned (U (aH 26 a b:Int))/\w'=w:=by
 rw [show aH 26 a b=a / 2 ^ (b % 32) from by simp [aH]];exact MO
def XG (a b:Nat) (w:World) (ha:a<4294967296) (hb:b<4294967296) :Ca 209 #[I 35,U (a:Int),U (b:Int)] w λe w'=>e = .returned (U (aH 35 a b:Int))/\w'=w:=by
 rw [show aH 35 a b=un (sg a / 2 ^ (b % 32)) from by simp [aH]];exact Nb
def h3r (a b:Nat) (w:World) (ha:a<4294967296) (hb:b<4294967296) :Ca 209 #[I 27,U (a:Int),U (b:Int)] w λe w'=>e = .returned (U (aH 27 a b:Int))/\w'=w:=by
 rw [show aH 27 a b=un (sg a / 2 ^ (b % 32)) from by simp [aH]];exact Nb
def OT (a b:Nat) (w:World) (ha:a<4294967296) (hb:b<4294967296) :Ca 209 #[I 31,U (a:Int),U (b:Int)] w λe w'=>e = .returned (U (aH 31 a b:Int))/\w'=w:=by
 rw [show aH 31 a b=kX (decide (sg a<sg b)) from by simp [aH]];exact FX
def Zo (a b:Nat) (w:World) (ha:a<4294967296) (hb:b<4294967296) :Ca 209 #[I 20,U (a:Int),U (b:Int)] w λe w'=>e = .returned (U (aH 20 a b:Int))/\w'=w:=by
 rw [show aH 20 a b=kX (decide (sg a<sg b)) from by simp [aH]];exact FX
def h3u (a b:Nat) (w:World) (ha:a<4294967296) (hb:b<4294967296) :Ca 209 #[I 32,U (a:Int),U (b:Int)] w λe w'=>e = .returned (U (aH 32 a b:Int))/\w'=w:=by
 rw [show aH 32 a b=kX (decide (a<b)) from by simp [aH]];exact IG
def Ui (a b:Nat) (w:World) (ha:a<4294967296) (hb:b<4294967296) :Ca 209 #[I 21,U (a:Int),U (b:Int)] w λe w'=>e = .returned (U (aH 21 a b:Int))/\w'=w:=by
 rw [show aH 21 a b=kX (decide (a<b)) from by simp [aH]];exact IG
def H' (a b:Nat) (w:World) (ha:a<4294967296) (hb:b<4294967296) :Ca 209 #[I 1,U (a:Int),U (b:Int)] w λe w'=>e = .returned (U (aH 1 a b:Int))/\w'=w:=by
 rw [show aH 1 a b=b from by simp [aH]];have hb2:bits .and .u32 (b:Int) 31=((b % 32:Nat):Int):=by rw [<- nat_mask5];exact u32_and_nat b 31 hb O
 have hb3:b % 32<32:=dy _ O;have h1:=u32_and_nat a b ha hb;have h2:=u32_or_nat a b ha hb;have h3:=u32_xor_nat a b ha hb;go_enter func209,ntmps209;go_wp2_with (go_at_call 217;refine (oy _ _).mono ?_;rintro e w' ⟨rfl,rfl⟩);go_ret;exact ⟨dI (Op a b ha hb),rfl⟩
def QK (op:Int):(op=28\/op=19\/op=29\/op=37\/op=24\/op=36\/op=23\/op=33\/op=22\/op=30\/op=25\/op=34\/op=26\/op=35\/op=27\/op=31\/op=20\/op=32\/op=21\/op=1) \/ (∀ a b,aH op a b=0)/\(op == 28)=false/\(op == 19)=false/\(op == 29)=false/\(op == 37)=false/\(op == 24)=false/\(op == 36)=false/\(op == 23)=false/\(op == 33)=false/\(op == 22)=false/\(op == 30)=false/\(op == 25)=false/\(op == 34)=false/\(op == 26)=false/\(op == 35)=false/\(op == 27)=false/\(op == 31)=false/\(op == 20)=false/\(op == 32)=false/\(op == 21)=false/\(op == 1)=false:=by
 by_cases h:(op=28\/op=19\/op=29\/op=37\/op=24\/op=36\/op=23\/op=33\/op=22\/op=30\/op=25\/op=34\/op=26\/op=35\/op=27\/op=31\/op=20\/op=32\/op=21\/op=1)
 .exact .inl h
 .have key:∀ k:Int,op≠k->(op == k)=false:=λk hk=>by simpa using hk
  refine .inr ⟨λa b=>?_,?_⟩
  .unfold aH
   repeat rw [Y O]
  .refine ⟨key _ ?_,key _ ?_,key _ ?_,key _ ?_,key _ ?_,key _ ?_,key _ ?_,key _ ?_,key _ ?_,key _ ?_,key _ ?_,key _ ?_,key _ ?_,key _ ?_,key _ ?_,key _ ?_,key _ ?_,key _ ?_,key _ ?_,key _ ?_⟩ <;> omega
def Dx (op:Int) (a b:Nat) (w:World) (ha:a<4294967296) (hb:b<4294967296) :Ca 209 #[I op,U (a:Int),U (b:Int)] w λe w'=>e = .returned (U (aH op a b:Int))/\w'=w:=by
 rcases QK op with h|⟨h0,h⟩
 .rcases h with rfl|rfl|rfl|rfl|rfl|rfl|rfl|rfl|rfl|rfl|rfl|rfl|rfl|rfl|rfl|rfl|rfl|rfl|rfl|rfl
  .exact S0 a b w ha hb
  .exact TJ a b w ha hb
  .exact Yg a b w ha hb
  .exact Ue a b w ha hb
  .exact Pq a b w ha hb
  .exact Uh a b w ha hb
  .exact RR a b w ha hb
  .exact h3k a b w ha hb
  .exact TG a b w ha hb
  .exact VS a b w ha hb
  .exact h3n a b w ha hb
  .exact VJ a b w ha hb
  .exact X1 a b w ha hb
  .exact XG a b w ha hb
  .exact h3r a b w ha hb
  .exact OT a b w ha hb
  .exact Zo a b w ha hb
  .exact h3u a b w ha hb
  .exact Ui a b w ha hb
  .exact H' a b w ha hb
 .obtain ⟨b1,b2,b3,b4,b5,b6,b7,b8,b9,b10,b11,b12,b13,b14,b15,b16,b17,b18,b19,b20⟩:=h
  rw [h0];go_enter func209,ntmps209;go_wp2;go_ret;exact ⟨rfl,rfl⟩
end
section
open Go.RowKit Wd
def YP (A:Option Addr) (n c:Nat) (q:List En) (k:Nat) (e:En) (w:World) (hr:Rd w w.heap.size 17 A n c (ens q)) (aX:n<=1000) (hu:q[k]?=some e) :Ca 71 #[.slice A n c,I (k:Int)] w λx w'=>∃ v,x = .returned v/\af w w'/\w'.ownsRow w.heap.size 54 17 v (k+1) (ens (jk q k e)):=by
 have E:=St.start w [ab 17 A n c (ens q)] (zC hr zN);have hc1:=hr.le;have aN:=hr.mx;unfold maxLen at aN;have hn:=hr.enslen;have ik:k<n:=by have:=(aK.1 hu).1;omega
 clear hr;obtain ⟨no,pc,⟨op,rd,rs1,rs2,imm⟩,guess,is,left,value,next,addr,halt,took,known,filled⟩:=e
 have ja:=V (show ens (jk q k ⟨no,pc,⟨op,rd,rs1,rs2,imm⟩,guess,is,left,value,next,addr,halt,took,known,filled⟩)=ens (q.take k)++(⟨no,pc,⟨op,rd,rs1,rs2,imm⟩,next,is,left,value,next,addr,halt,took,known,filled⟩:En).cells by
  unfold jk ens;rw [sV];simp)
 go_enter func71,ntmps71;go_upto_region 5 with ((try refine zs ?_);(first|refine yf ?_|(refine bJ ?_;clear E;intro Z J E)|(refine aq ?_;clear E;intro vN J E)));replace E:=E.clip (N:=k) (ej _) O;rw [ZM] at E;refine bA aj E _ _ (λ_ h=>h) (λ_ h=>h) ?_;clear E;intro E C;refine an 0 C ?_;refine an 1 C ?_;refine an 2 C ?_;refine va 3 C ?_;refine lW 4 C ?_;refine aB 5 (λK X=>?_);go_wp2_with ((first|(refine iD F E F ?_;clear E;intro Z J E)|(refine nU F E ?_;clear E;intro Z J E));refine zs ?_);have C:=C.nextA E;refine X.out _ _ C ?_;clear X;refine zs ?_;refine aB 6 (λK X=>?_);go_wp2_with ((first|((refine tU F E F F ?_);clear E;intro vN J E;(try refine zs ?_))|((first|refine aL ?_|(refine am ?_;clear E;intro Z J E));refine zs ?_)));have C:=C.nextA E;refine X.out _ _ C ?_;clear X;refine zs ?_;refine cA 7 C ?_;refine bt ?_;(go_wp2;go_ret;exact ⟨_,rfl,E.bel,by rw [ja.out];exact E.ownAt aC⟩)
def tN (l:List (Int × Int)):Prop:=l.length<=4 /\ ∀ p∈l,(0<=p.1/\p.1<=31)/\(1<=p.2/\p.2<=32)
def jJ (f:Int):tN (av f).1:=by
 unfold av
 repeat' split
 all_goals exact ⟨by decide,by decide⟩
def Jp {x}{l:List (Int × Int)}{k}{p:Int × Int}(h:l[k]?=some p):bW x (l.take (k+1))=(aw (bW x (l.take k)).1 (bW x (l.take k)).2 p.2 (aV x p.1 p.2),(bW x (l.take k)).2+p.2):=by
 obtain ⟨hl,e⟩:=aK.1 h;rw [iE hl,e];unfold bW;rw [yv];rfl
def oH {x:Nat} (hx:x<4294967296) {l:List (Int × Int)} (h:tN l) (k:Nat) (hk:k<=l.length):(bW x (l.take k)).1<4294967296/\0<=(bW x (l.take k)).2/\(bW x (l.take k)).2<=32 * k:=by
 induction k with
 | zero=>exact ⟨by simp [bW],by simp [bW],by simp [bW]⟩
 | succ k ih=>
  obtain ⟨p,hp⟩:∃ p,l[k]?=some p:=⟨_,ba O⟩;have:=h.2 p (aQ hp);obtain ⟨i1,i2,i3⟩:=ih O;rw [Jp hp];exact ⟨mM _ _ _ i1,by dsimp only;omega,by dsimp only;omega⟩
def Lg {l:List (Int × Int)} {k:Nat} {p:Int × Int} (h:l[k]?=some p):(dQ l)[k]?=some ⟨p.1,p.2⟩:=by simp [dQ,h]
def ql (A:Option Addr) (c x:Nat) (l:List (Int × Int)) (w:World) (hr:Rd w w.heap.size 2 A l.length c (dk (dQ l))) (hl:tN l) (hx:x<4294967296) :Ca 187 #[U (x:Int),.slice A l.length c] w (RB w (.tuple #[U ((bW x l).1:Int),I (bW x l).2])):=by
 have E:=St.start w [ab 2 A l.length c (dk (dQ l))] (zC hr zN);have h4:=hl.1;have hc1:=hr.le;have aN:=hr.mx;unfold maxLen at aN;replace hl:=V hl;obtain ⟨n,hn⟩:∃ n,l.length=n:=⟨_,rfl⟩;rw [hn] at E h4 hc1 ⊢;have Hn:=V hn;clear hn hr;go_enter func187,ntmps187;go_wp2_with (((first|refine aA ?_|(refine am ?_;clear E;intro Z J E));refine zs ?_));go_loopw [6,7,12] (λv s i wr=>∃ k:Nat,k<=n/\i = I (k:Int)/\v = U ((bW x (l.take k)).1:Int)/\s = I (bW x (l.take k)).2/\St w [ab 2 A n c (dk (dQ l))] wr [] [ab 2 A n c (dk (dQ l))]) (λ_ _ i _=>n - (intOf i).toNat);case atStart=>exact ⟨0,by omega,rfl,rfl,rfl,E⟩
 case round=>
  obtain ⟨k,hk,rfl,rfl,rfl,E⟩:=hrel;by_cases ik:k<n
  .obtain ⟨p,hp⟩:∃ p,l[k]?=some p:=⟨_,ba rA⟩
   have hu:=Lg hp;have aF:=hl.out.2 p (aQ hp);obtain ⟨b1,b2,b3⟩:=oH hx hl.out k rA;have hs:=V (Jp (x:=x) hp);obtain ⟨p1,p2⟩:=p;dsimp only at hs hu aF;have pl:=V (λW=>zV x p1 p2 W hx ⟨by omega,by omega⟩ ⟨by omega,by omega⟩);have jx:=fh x p1 p2;generalize H:(bW x (l.take k)).1=g1 at *;generalize G:(bW x (l.take k)).2=g2 at *;generalize aV x p1 p2=fv at *;have R:=V (λW=>DH g1 g2 p2 fv W b1 jx ⟨by omega,by omega⟩ ⟨by omega,by omega⟩);replace H:=V H;replace G:=V G;replace hp:=V hp;go_upto_region 5 with ((first|refine WG ?_|((first|refine aA ?_|(refine am ?_;clear E;intro Z J E));refine zs ?_)));refine bA aj E _ _ (λ_ h=>h) (λ_ h=>h) ?_;clear E;intro E C;refine an 0 C ?_;refine an 1 C ?_;refine az 2 C ?_;refine cX 3 C ?_;refine an 4 C ?_;refine az 5 C ?_;refine cX 6 C ?_;refine az 7 C ?_;refine cX 8 C ?_;refine aB 9 (λK X=>?_);go_wp2_with ((first|(go_at_call 186;refine (pl.out _).mono ?_;rintro x J ⟨rfl,hd⟩;replace E:=E.grow (af.ofDrew hd);clear hd)|(go_at_call 148;refine (R.out _).mono ?_;rintro x J ⟨rfl,hd⟩;replace E:=E.grow (af.ofDrew hd);clear hd)));have C:=C.nextA E;refine X.out _ _ C ?_;clear X;refine zs ?_;refine aB 10 (λK X=>?_);go_wp2_with ((first|(go_at_call 186;refine (pl.out _).mono ?_;rintro x J ⟨rfl,hd⟩;replace E:=E.grow (af.ofDrew hd);clear hd)|(go_at_call 148;refine (R.out _).mono ?_;rintro x J ⟨rfl,hd⟩;replace E:=E.grow (af.ofDrew hd);clear hd)));have C:=C.nextA E;refine X.out _ _ C ?_;clear X;refine zs ?_;refine cA 11 C ?_;refine bt ?_;(go_wp2_with (((first|refine aA ?_|(refine am ?_;clear E;intro Z J E));refine zs ?_));go_roundw;(case rel=>exact ⟨k+1,by omega,by go_num,by rw [hs.out],by rw [hs.out],E.drop 0⟩);(case measure=>exact zM))
  .obtain rfl:k=n:=by omega
   go_wp2_with (((first|refine aA ?_|(refine am ?_;clear E;intro Z J E));refine zs ?_));go_returns;rw [show l.take k=l from by rw [cD rA]];exact ⟨rfl,E.bel⟩
end
section
open Go.RowKit Wd
section
variable (a b:Nat) (ha:a<4294967296) (hb:b<4294967296)
include ha hb
theorem Tj : -2147483648<=sg a/\sg a<=2147483647:=by unfold sg;split <;> omega
theorem m38 : (a:Int) * (b:Int) % 4294967296=((a * b % 4294967296:Nat):Int):=by rw [Int.natCast_emod,m0];rfl
end
def Wj (op:Int) (a b:Nat) (ha:a<4294967296) (hb:b<4294967296):fc op a b<4294967296:=by
 unfold fc;have h1:=vy (sg a * sg b / 4294967296);have h2:=vy (sg a * b / 4294967296);have h3:a * b / 4294967296<4294967296:=by
  rw [Nat.div_lt_iff_lt_mul O];exact Nat.mul_lt_mul'' ha hb
 repeat' split
 all_goals omega
def Jg (p:Int):IntKind.u64.wrap (wrap64 p) / 4294967296 % 4294967296=((un (p / 4294967296):Nat):Int):=by
 rw [B7];simp only [IntKind.wrap,IntKind.bits,IntKind.signed,wrap64]
 simp
 omega
def DQ {a:Nat} (h:a<4294967296):wrap64 (wrap32 (a:Int))=sg a:=by
 rw [qU h];have:=Tj a 0 h O;unfold wrap64;omega
def Ud (a b:Nat) (ha:a<4294967296) (hb:b<4294967296):IntKind.u64.wrap ((a:Int) * (b:Int)) / 4294967296 % 4294967296=((a * b / 4294967296:Nat):Int):=by
 have h:a * b<18446744073709551616:=Nat.mul_lt_mul'' ha hb;rw [<- m0];generalize a * b=p at *;simp only [IntKind.wrap,IntKind.bits,IntKind.signed]
 simp
 omega
def Wf (a b:Nat) (w:World) (ha:a<4294967296) (hb:b<4294967296) :Ca 206 #[I 38,U (a:Int),U (b:Int)] w λe w'=>e = .returned (U (fc 38 a b:Int))/\w'=w:=by
 rw [show fc 38 a b=a * b % 4294967296 from by simp [fc]];exact A7
def h4d (a b:Nat) (w:World) (ha:a<4294967296) (hb:b<4294967296) :Ca 206 #[I 39,U (a:Int),U (b:Int)] w λe w'=>e = .returned (U (fc 39 a b:Int))/\w'=w:=by
 rw [show fc 39 a b=un (sg a * sg b / 4294967296) from by simp [fc]];exact A7
def Pw (a b:Nat) (w:World) (ha:a<4294967296) (hb:b<4294967296) :Ca 206 #[I 40,U (a:Int),U (b:Int)] w λe w'=>e = .returned (U (fc 40 a b:Int))/\w'=w:=by
 rw [show fc 40 a b=un (sg a * b / 4294967296) from by simp [fc]];exact A7
def QO (a b:Nat) (w:World) (ha:a<4294967296) (hb:b<4294967296) :Ca 206 #[I 41,U (a:Int),U (b:Int)] w λe w'=>e = .returned (U (fc 41 a b:Int))/\w'=w:=by
 rw [show fc 41 a b=a * b / 4294967296 from by simp [fc]];exact A7
def D5 (op:Int) (a b:Nat) (w:World) (ha:a<4294967296) (hb:b<4294967296) :Ca 206 #[I op,U (a:Int),U (b:Int)] w λe w'=>e = .returned (U (fc op a b:Int))/\w'=w:=by
 by_cases h:op=38\/op=39\/op=40\/op=41
 .rcases h with rfl|rfl|rfl|rfl
  .exact Wf a b w ha hb
  .exact h4d a b w ha hb
  .exact Pw a b w ha hb
  .exact QO a b w ha hb
 .have key:∀ k:Int,op≠k->(op == k)=false:=λk hk=>by simpa using hk
  have b1:=key 38 O;have b2:=key 39 O;have b3:=key 40 O;have b4:=key 41 O;rw [show fc op a b=0 from by unfold fc;repeat rw [Y O]];clear h key;go_enter func206,ntmps206;go_wp2;go_ret;exact ⟨rfl,rfl⟩
def YD (a b:Nat) (w:World) (ha:a<4294967296) (hb:b<4294967296) :Ca 219 #[I 5,U (a:Int),U (b:Int)] w λe w'=>e = .returned (.bool (eh 5 a b))/\w'=w:=by
 rw [show eh 5 a b=decide (a=b) from by simp [eh]];exact uD
def ZL (a b:Nat) (w:World) (ha:a<4294967296) (hb:b<4294967296) :Ca 219 #[I 6,U (a:Int),U (b:Int)] w λe w'=>e = .returned (.bool (eh 6 a b))/\w'=w:=by
 rw [show eh 6 a b=decide (a≠b) from by simp [eh]];exact uD
def XS (a b:Nat) (w:World) (ha:a<4294967296) (hb:b<4294967296) :Ca 219 #[I 7,U (a:Int),U (b:Int)] w λe w'=>e = .returned (.bool (eh 7 a b))/\w'=w:=by
 rw [show eh 7 a b=decide (sg a<sg b) from by simp [eh]];exact uD
def Sj (a b:Nat) (w:World) (ha:a<4294967296) (hb:b<4294967296) :Ca 219 #[I 8,U (a:Int),U (b:Int)] w λe w'=>e = .returned (.bool (eh 8 a b))/\w'=w:=by
 rw [show eh 8 a b=decide (sg b<=sg a) from by simp [eh]];exact uD
def TU (a b:Nat) (w:World) (ha:a<4294967296) (hb:b<4294967296) :Ca 219 #[I 9,U (a:Int),U (b:Int)] w λe w'=>e = .returned (.bool (eh 9 a b))/\w'=w:=by
 rw [show eh 9 a b=decide (a<b) from by simp [eh]];exact uD
def SN (a b:Nat) (w:World) (ha:a<4294967296) (hb:b<4294967296) :Ca 219 #[I 10,U (a:Int),U (b:Int)] w λe w'=>e = .returned (.bool (eh 10 a b))/\w'=w:=by
 rw [show eh 10 a b=decide (b<=a) from by simp [eh]];exact uD
def XZ (op:Int) (a b:Nat) (w:World) (ha:a<4294967296) (hb:b<4294967296) :Ca 219 #[I op,U (a:Int),U (b:Int)] w λe w'=>e = .returned (.bool (eh op a b))/\w'=w:=by
 by_cases h:op=5\/op=6\/op=7\/op=8\/op=9\/op=10
 .rcases h with rfl|rfl|rfl|rfl|rfl|rfl
  .exact YD a b w ha hb
  .exact ZL a b w ha hb
  .exact XS a b w ha hb
  .exact Sj a b w ha hb
  .exact TU a b w ha hb
  .exact SN a b w ha hb
 .have key:∀ k:Int,op≠k->(op == k)=false:=λk hk=>by simpa using hk
  have b1:=key 5 O;have b2:=key 6 O;have b3:=key 7 O;have b4:=key 8 O;have b5:=key 9 O;have b6:=key 10 O;rw [show eh op a b=false from by unfold eh;repeat rw [Y O]];clear h key;go_enter func219,ntmps219;go_wp2;go_ret;exact ⟨rfl,rfl⟩
def I3 (op:Int):(op=42/\jC op=true)\/(op=44/\jC op=true)\/((op == 42)=false/\(op == 44)=false/\jC op=false):=by
 by_cases h1:op=42
 .exact .inl ⟨h1,by simp [jC,h1]⟩
 by_cases h2:op=44
 .exact .inr (.inl ⟨h2,by simp [jC,h2]⟩)
 exact .inr (.inr ⟨by simpa using h1,by simpa using h2,by simp [jC,h1,h2]⟩)
def I4 {a:Nat} (h:a<4294967296) (hs:2147483648<=a):wrap32 (a:Int)<0:=by unfold wrap32;omega
def Ky {a:Nat} (hs:¬ 2147483648<=a):¬ wrap32 (a:Int)<0:=by unfold wrap32;omega
def ny {op a}(h:a<4294967296):aR op a<4294967296:=by unfold aR;split <;> omega
def Cu {a:Nat} (h:a<4294967296):(-(a:Int)) % 4294967296=(((4294967296 - a) % 4294967296:Nat):Int):=by omega
def sp (op:Int) (a:Nat) (w:World) (ha:a<4294967296) :Ca 210 #[I op,U (a:Int)] w λe w'=>e = .returned (U (aR op a:Int))/\w'=w:=by
 by_cases hs:2147483648<=a
 .have hn:=I4 ha hs
  rcases I3 op with ⟨rfl,hb⟩|⟨rfl,hb⟩|⟨b1,b2,hb⟩
  .rw [show aR 42 a=4294967296 - a from by unfold aR;rw [aa ⟨hb,hs⟩]]
   clear hb;go_enter func210,ntmps210;go_wp2;go_ret;exact ⟨dI (by rw [Cu ha];omega),rfl⟩
  .rw [show aR 44 a=4294967296 - a from by unfold aR;rw [aa ⟨hb,hs⟩]]
   clear hb;go_enter func210,ntmps210;go_wp2;go_ret;exact ⟨dI (by rw [Cu ha];omega),rfl⟩
  .rw [show aR op a=a from by unfold aR;rw [Y (by rw [hb];simp)]]
   clear hb;go_enter func210,ntmps210;go_wp2;go_ret;exact ⟨rfl,rfl⟩
 .have hn:=Ky hs
  rw [show aR op a=a from by unfold aR;rw [Y (by rintro ⟨_,h⟩;exact hs h)]];rcases I3 op with ⟨rfl,hb⟩|⟨rfl,hb⟩|⟨b1,b2,hb⟩
  all_goals
   clear hb hs;go_enter func210,ntmps210;go_wp2;go_ret;exact ⟨rfl,rfl⟩
end
section
open Go.RowKit Go.Sort
def h4n {w A n c S A2 n2 c2 q2}(hr:bT w w.heap.size A n c S)(h2:Rd w w.heap.size 3 A2 n2 c2 (bv q2)):∀ d∈[ab 1 A n c (cj S),cR S,ab 3 A2 n2 c2 (bv q2)],d.ok w:=by
 intro d hd;rcases bB.1 hd with rfl|hd
 .exact hr.rd
 .rcases bB.1 hd with rfl|hd
  .exact hr.sets
  .obtain rfl:=dm.1 hd
   exact h2
end
section
open Go.RowKit
instance pusRows : Rows bD Pu.cells 2:=⟨λ_=>rfl,λ_=>rfl,Pu.one,by decide⟩
def Rq.one (r:Rq):∀ u∈r.cells,u.oneCell'=true:=λu hu=>AR [r] u (by simpa [bg] using hu)
instance rqsRows : Rows bg Rq.cells 4:=⟨λ_=>rfl,λ_=>rfl,Rq.one,by decide⟩
instance rqsOne (q:List Rq):gQ (bg q):=⟨AR q⟩
def Rd.rqslen {w B n c A q}(h:Rd w B 4 A n c (bg q)):q.length=n:=by
 have hn:=h.len;rw [yJ] at hn;omega
section
variable {P:Program} {ops:Array Oper} {o:Oper} {a:Act} {S:World->Prop}
def ZJ {w:World} {t e:TypeId} {g n c k:Nat} {ki:IntKind} (ht:pb P t e) (hk:k<n) (hn:n<=c):(Instr.sliceAt t (.slice (some ⟨g,0,none⟩) n c) (some (.int ki (k:Int))) none none).run P w = .ok (.slice (some ⟨g,k,none⟩) (n - k) (c - k)) w:=by
 obtain ⟨hu,he,hi⟩:=ht;have hs:(sizeOf e).run P w = .ok 1 w:=by
  exact Ok
 have hel:P.elem t=e:=by simp [Program.elem,hu]
 have h1:=run_slice_l (P:=P) (w:=w) t (some ⟨g,0,none⟩) n c nK ki (k:Int) O O;rw [run_sliceAt_slice (P:=P) (w:=w) t _ _ _ _ nK,h1,hel,hs];simp only [bG,sliced,jt];rw [Y O];simp [kv]
def Wp {t e:TypeId} {x y:Operand} {g n c k:Nat} {ki:IntKind} (ho:o.op = .slice t x (some y) none none) (hx:ac a x=some (.slice (some ⟨g,0,none⟩) n c)) (hy:ac a y=some (.int ki (k:Int)))(ht:pb P t e:=by exact AD _ _ rfl) (hw:Region.wanted o (yielded ops a.tmps)=true:=by rfl) (hk:k<n:=by (first|assumption|omega)) (hn:n<=c:=by (first|assumption|omega)):YieldsIf P ops S o (.slice (some ⟨g,k,none⟩) (n - k) (c - k)) a:=by
 replace hx:=ap hx;replace hy:=ap hy;exact cg hw λw=>by
  unfold execOp;simp only [ho,hx,hy,dB,ma,ZJ ht hk hn,bC,bL,bG]
end
section
variable {P:Program} {ops:Array Oper} {rest:List Oper} {o:Oper} {a:Act} {Q:Exit->Act->World->Prop} {w0 w:World} {D0 D:List Da} {M:List Mu}
end
def mX (m:ByteArray) (ps:List Pu):ByteArray:=⟨(fq (bl m) ps).toArray⟩
def N6 (m ps):bl (mX m ps)=fq (bl m) ps:=xy _
def zf (m ps):(mX m ps).size=m.size:=by rw [<- gy,N6,xT,gy]
def MU (m ps qs):mX (mX m ps) qs=mX m (ps++qs):=by
 unfold mX;rw [wF,show bl ⟨(fq (bl m) ps).toArray⟩=fq (bl m) ps from xy _]
def OV {q}(h:∀ r∈q,r.line<4294967296):∀ p∈bZ q,p.addr<4294967296:=λp hp=>by
 obtain ⟨r,hr,rfl⟩:=fQ.1 hp;exact h r (vG.1 hr).1
def Oz {S}{k:Nat}{A n c q}(h:S[k]?=some ⟨A,n,c,q⟩):(aZ S)[k]?=some q:=by
 obtain ⟨hl,e⟩:=aK.1 h;rw [EO hl,e]
def TF {S}(h:kP S):∀ p∈dY (aZ S),p.addr<4294967296:=λp hp=>by
 obtain ⟨v,hv,rfl⟩:=fQ.1 hp;obtain ⟨ws,hw,hv⟩:=vH.1 hv;obtain ⟨s,hs,rfl⟩:=fQ.1 hw;exact (h s hs v hv).1
def qb (m:ByteArray) (x:Nat):ByteArray:=⟨(dR (bl m) x).toArray⟩
def LF (m:ByteArray) (x:Nat):bl (qb m x)=dR (bl m) x:=xy _
def Xl (m:ByteArray) (x:Nat):qb m (x - x % 16)=qb m x:=by
 unfold qb dR;rw [show x - x % 16 - (x - x % 16) % 16=x - x % 16 by omega]
def Zc {m x}(h:m.size<=x - x % 16):qb m x=⟨#[]⟩:=by
 unfold qb dR;rw [sW (by rw [gy];exact h)];rfl
def ZN {m x n}(h:x - x % 16<m.size)(hn:n=min (m.size - (x - x % 16)) 16):(m.extract (x - x % 16) m.size).extract 0 n=qb m x:=by
 apply rI;rw [LF,dR];unfold bl;rw [xz,xz,rh];have hl:m.data.toList.length=m.size:=gy m;rw [show ((m.data.toList.take m.size).drop (x - x % 16))=m.data.toList.drop (x - x % 16) by rw [cD O]];subst hn;rcases sw (m.size - (x - x % 16)) 16 with h1|h1
 .rw [kZ h1,cD (by rw [nX,hl];exact aM _),cD (by rw [nX,hl];exact h1)]
 .rw [ze h1]
end
section
open Go.RowKit Wd
def Rs {q k e}(h:∀ f∈q.take k,gu f=false)(he:q[k]?=some e)(hw:gu e=true):kz q=some k:=by
 obtain ⟨hl,hk⟩:=aK.1 he;unfold kz;rw [z4];refine ⟨hl,by rw [hk];exact hw,λj hj=>?_⟩;have:=h q[j] (by rw [List.mem_take_iff_getElem];exact ⟨j,by omega,rfl⟩);simp [this]
def h4w {q}(h:∀ f∈q,gu f=false):kz q=none:=by
 unfold kz;rw [x9];exact h
def DA {α:Type}{p:α->Prop}{q:List α}{k}{e:α}(h:∀ f∈q.take k,p f)(he:q[k]?=some e)(hp:p e):∀ f∈q.take (k+1),p f:=by
 obtain ⟨hl,hk⟩:=aK.1 he;intro f hf;rw [iE hl,hk] at hf;rcases dv.1 hf with hf|hf
 .exact h f hf
 .obtain rfl:=dm.1 hf
  exact hp
def rj (q:List En):Int:=match kz q with|some i=>(i:Int)|none=>-1
def GF (A n c q w)(hr:Rd w w.heap.size 17 A n c (ens q))(hq:dp q):Ca 11 #[.slice A n c] w (RB w (I (rj q))):=by
 have E:=St.start w [ab 17 A n c (ens q)] (zC hr zN);have hc1:=hr.le;have aN:=hr.mx;unfold maxLen at aN;have hn:=V hr.enslen;replace hq:=V hq;clear hr;go_enter func11,ntmps11;go_wp2_with (((first|refine aL ?_|(refine am ?_;clear E;intro Z J E));refine zs ?_));go_loopw [7] (λi wr=>∃ k:Nat,k<=n/\i = I (k:Int)/\Hid (∀ f∈q.take k,gu f=false)/\St w [ab 17 A n c (ens q)] wr [] [ab 17 A n c (ens q)]) (λi _=>n - (intOf i).toNat);case atStart=>exact ⟨0,by omega,rfl,V (λf hf=>by simp at hf),E⟩
 case round=>
  obtain ⟨k,hk,rfl,L,E⟩:=hrel;by_cases ik:k<n
  .obtain ⟨e,hu⟩:∃ e,q[k]?=some e:=⟨_,ba uJ⟩
   have ho:=(hq.out e (aQ hu)).op;obtain ⟨no,pc,⟨op,rd,rs1,rs2,imm⟩,guess,is,left,value,next,addr,halt,took,known,filled⟩:=e;have HK:=V (λW=>ec ⟨op,rd,rs1,rs2,imm⟩ W ho);dsimp only at HK;obtain ⟨κ,hκ⟩:∃ κ,ae op=κ:=⟨_,rfl⟩;rw [hκ] at HK;by_cases h5:κ=5
   .subst h5
    cases known
    .have hb:gu ⟨no,pc,⟨op,rd,rs1,rs2,imm⟩,guess,is,left,value,next,addr,halt,took,false,filled⟩=false:=by simp [gu]
     replace hb:=V (DA L.out hu hb);clear hκ;exact Cn
    .by_cases hg:next=guess
     .have hb:gu ⟨no,pc,⟨op,rd,rs1,rs2,imm⟩,guess,is,left,value,next,addr,halt,took,true,filled⟩=false:=by simp [gu,hg]
      replace hb:=V (DA L.out hu hb);subst hg;clear hκ;exact Cn
     .have hb:gu ⟨no,pc,⟨op,rd,rs1,rs2,imm⟩,guess,is,left,value,next,addr,halt,took,true,filled⟩=true:=by simp [gu,hg,hκ]
      have hR:=V (Rs L.out hu hb);have G:¬ ((next:Int)=(guess:Int)):=by omega
      clear hκ hg hb;exact MA
   .have hb:gu ⟨no,pc,⟨op,rd,rs1,rs2,imm⟩,guess,is,left,value,next,addr,halt,took,known,filled⟩=false:=by simp [gu,hκ,h5]
    replace hb:=V (DA L.out hu hb);have b5:(κ == 5)=false:=by simpa using h5
    clear hκ h5;exact Cn
  .obtain rfl:k=n:=by omega
   have hR:=V (h4w (by have:=L.out;rwa [cD uJ] at this));exact MA
def Ig {x}{l:List (Int × Int)}{k}{p:Int × Int}(h:l[k]?=some p):jy x (l.take (k+1))=(aw (jy x (l.take k)).1 p.1 p.2 (jy x (l.take k)).2,(jy x (l.take k)).2 / 2 ^ p.2.toNat):=by
 obtain ⟨hl,e⟩:=aK.1 h;rw [iE hl,e];unfold jy;rw [yv];rfl
def Na {x:Nat} (hx:x<4294967296) {l:List (Int × Int)} (h:tN l) (k:Nat) (hk:k<=l.length):(jy x (l.take k)).1<4294967296/\(jy x (l.take k)).2<4294967296:=by
 induction k with
 | zero=>exact ⟨by simp [jy],by simpa [jy] using hx⟩
 | succ k ih=>
  obtain ⟨p,hp⟩:∃ p,l[k]?=some p:=⟨_,ba O⟩;obtain ⟨i1,i2⟩:=ih O;rw [Ig hp];exact ⟨mM _ _ _ i1,fJ (kK _ _) i2⟩
def Yc (A:Option Addr) (c x:Nat) (l:List (Int × Int)) (w:World) (hr:Rd w w.heap.size 2 A l.length c (dk (dQ l))) (hl:tN l) (hx:x<4294967296) :Ca 147 #[U (x:Int),.slice A l.length c] w (RB w (U ((jy x l).1:Int))):=by
 have E:=St.start w [ab 2 A l.length c (dk (dQ l))] (zC hr zN);have h4:=hl.1;have hc1:=hr.le;have aN:=hr.mx;unfold maxLen at aN;replace hl:=V hl;obtain ⟨n,hn⟩:∃ n,l.length=n:=⟨_,rfl⟩;rw [hn] at E h4 hc1 ⊢;have Hn:=V hn;clear hn hr;go_enter func147,ntmps147;go_wp2_with (((first|refine aA ?_|(refine am ?_;clear E;intro Z J E));refine zs ?_));go_loopw [0,5,10] (λv s i wr=>∃ k:Nat,k<=n/\i = I (k:Int)/\v = U ((jy x (l.take k)).2:Int)/\s = U ((jy x (l.take k)).1:Int)/\St w [ab 2 A n c (dk (dQ l))] wr [] [ab 2 A n c (dk (dQ l))]) (λ_ _ i _=>n - (intOf i).toNat);case atStart=>exact ⟨0,by omega,rfl,rfl,rfl,E⟩
 case round=>
  obtain ⟨k,hk,rfl,rfl,rfl,E⟩:=hrel;by_cases ik:k<n
  .obtain ⟨p,hp⟩:∃ p,l[k]?=some p:=⟨_,ba rA⟩
   have hu:=Lg hp;have aF:=hl.out.2 p (aQ hp);obtain ⟨b1,b2⟩:=Na hx hl.out k rA;have hs:=V (Ig (x:=x) hp);obtain ⟨p1,p2⟩:=p;dsimp only at hs hu aF;obtain ⟨m,rfl⟩:=jS (show 0<=p2 by omega);generalize H:(jy x (l.take k)).1=g1 at *;generalize G:(jy x (l.take k)).2=g2 at *;have R:=V (λW=>DH g1 p1 (m:Int) g2 W b1 b2 ⟨by omega,by omega⟩ ⟨by omega,by omega⟩);replace H:=V H;replace G:=V G;replace hp:=V hp;go_wp2_with ((first|refine g1y ?_|(go_at_call 148;refine (R.out _).mono ?_;rintro x J ⟨rfl,hd⟩;replace E:=E.grow (af.ofDrew hd);clear hd)|((first|refine aA ?_|(refine am ?_;clear E;intro Z J E));refine zs ?_)));go_roundw;case rel=>exact ⟨k+1,by omega,by go_num,by rw [hs.out];exact jB (Value.int .u32) (E3 g2 m),by rw [hs.out],E.drop 0⟩
   case measure=>exact zM
  .obtain rfl:k=n:=by omega
   go_wp2_with (((first|refine aA ?_|(refine am ?_;clear E;intro Z J E));refine zs ?_));go_ret;rw [show l.take k=l from by rw [cD rA]];exact ⟨rfl,E.bel⟩
end
section
open Go.RowKit Go.Sort
def LI (A:Option Addr) (n c:Nat) (q:List Rq) (kind:Int) (line:Nat) (left:Int) (data:ByteArray) (w:World) (hr:Rd w w.heap.size 4 A n c (bg q)) (hn:n<=1000000) (hl : I6 left) :Ca 142 #[.slice A n c,I kind,U (line:Int),I left,.string data] w λe w'=>∃ A2 c2,e = .returned (.slice A2 (n+1) c2)/\Out w [ab 4 A n c (bg q)] w' [ab 4 A2 (n+1) c2 (bg (q++[⟨kind,line,max left 1,data⟩]))]:=by
 have E:=St.start w [ab 4 A n c (bg q)] (zC hr zN);obtain ⟨M,hM,hM2⟩:∃ M:Int,M=(if (1:Int) > left then 1 else left)/\M=max left 1:=⟨max left 1,by split <;> omega,rfl⟩;have aP:Hid (bg q++[I kind,U (line:Int),I M,.string data]=bg (q++[⟨kind,line,max left 1,data⟩])):=V (by rw [Wo,<- hM2];rfl);clear hM2;replace hM:=V hM;go_enter func142,ntmps142;go_wp2_with ((first|refine TY ?_|(refine Wn ?_;clear E;intro Z J E)|((first|refine aA ?_|(refine am ?_;clear E;intro Z J E));refine zs ?_)));rw [jR,kR,aP.out] at E;obtain ⟨A2,c2,rfl,E⟩:=E.freeze 0 aC
 (try simp only [zF] at E);go_ret;exact ⟨A2,c2,rfl,E.outA⟩
end
end Go.Proofs.YtgnomadgnciifaaGreatDoor
