/- . -/
import Derived.Test.YtgnomadgnciifaaGreatDoorZ30
set_option linter.unusedVariables false
set_option linter.unusedSimpArgs false
set_option linter.unusedSectionVars false
set_option maxRecDepth 100000
set_option maxHeartbeats 16000000
namespace Go.Proofs.YtgnomadgnciifaaGreatDoor
theorem d8i {p:Prop} (h:p:=by
 go_roundw
 case rel=>exact ⟨j+1,by omega,by go_num,hup2,⟨hF.drop 0⟩⟩
 case measure=>first|(simp [intOf];done)|(simp [intOf];omega)):p:=h
section
open Go.RowKit Wd
inductive MS (w0:World) (D0 D:List Da) (M:List Mu) (g:Nat) (k:Kern) (s:Sls) (w:World):Prop
 | mk (hF:St w0 D0 w (.blk g 81 (mcells k s) :: .row s.robA 54 (ens k.rob)::M) (kD k s++D))
structure Fit (k:Kern) (s:Sls):Prop where
 data:a1j s.dS=k.data
 words:a1j s.wS=k.words
 robC:k.rob.length≤s.robC
 robM:s.robC≤maxLen
 feO:s.feO=false
 stO:s.stO=false
 reO:s.reO=false
def c6a (line:Nat) (e:En):Bool:=e.filled && decide (a1w e.addr=line)
theorem d8j {p:En→Bool} {q:List En} {j:Nat} {e:En} (h:∀ f∈q.take j,p f=false) (he:q[j]?=some e) (hp:p e=false):∀ f∈q.take (j+1),p f=false:=by
 obtain ⟨hl,hk⟩:=List.getElem?_eq_some_iff.1 he
 intro f hf
 rw [List.take_succ_eq_append_getElem hl,hk] at hf
 rcases List.mem_append.1 hf with hf|hf
 ·exact h f hf
 ·obtain rfl:=List.mem_singleton.1 hf
  exact hp
theorem h5c {p:En→Bool} {q:List En} {j:Nat} {e:En} (he:q[j]?=some e) (hp:p e=true):q.any p=true:=List.any_eq_true.2 ⟨e,List.mem_of_getElem? he,hp⟩
theorem h5d {p:En→Bool} {q:List En} (h:∀ f∈q,p f=false):q.any p=false:=List.any_eq_false.2 (fun f hf=>by rw [h f hf];decide)
theorem b3t {w0 w:World} {D0 D:List Da} {M:List Mu} {g:Nat} {k:Kern} {s:Sls} {B:Int} (hk:KOk B k) (hfit:Fit k s) (line:Nat) (hline:line<4294967296) (hS:MS w0 D0 D M g k s w) :
  Calls Tryz.prog 179 #[.pointer (some ⟨g,0,none⟩),.int .u32 (line:Int)] w fun x w'=>x = .returned (.bool (b1f k line))∧MS w0 D0 D M g k s w':=by
 obtain ⟨hF⟩:=hS
 have hR:Hid (b1f k line=((a4m k.dways k.data line).2.2 || k.rob.any (c6a line))):=Lib.hid rfl
 have hfr:=b3q k.dways k.data line
 obtain ⟨k1,k2,b,hfk⟩:∃ k1 k2 b,a4m k.dways k.data line=(k1,k2,b):=⟨_,_,_,rfl⟩
 rw [hfk] at hR hfr
 dsimp only at hR hfr
 rw [← hfit.data] at hfr
 have HFi:=Lib.hid (fun (W:World) (h1:RdS W W.heap.size s.dA k.data.length s.dC s.dS)=>a7d hline (by rw [← hfit.data] at *;have:=hk.dok;rw [← hfit.data] at this;exact this.sok) hfr W h1)
 clear hfk
 replace hfr:=Lib.hid hfr
 have hn16:=hk.roblen
 (simp only [kD,zL] at hF)
 cases b
 ·go_enter Tryz.func179,Tryz.ntmps179
  go_wp2_with ((try simp only [zA,Nat.reduceAdd]);(first|refine c7j ?_|(refine a9w ?_;clear hF;(first|intro gN wN hF|intro wN hF|intro hF))|(go_at_call 63;refine (HLi.out _).mono ?_;rintro x wN ⟨rfl,d,rfl⟩;replace hF:=hF.grow (Bel.drewN _ d))|(refine a1d ?_;clear hF;intro vN wN hF)))
  go_loopw [28] (fun i wr=>∃ j:Nat,j≤k.rob.length∧i = .int .i64 (j:Int)∧Hid (∀ f∈k.rob.take j,c6a line f=false)∧MS w0 D0 D M g k s wr) (fun i _=>k.rob.length - (intOf i).toNat)
  case atStart=>exact ⟨0,by omega,rfl,Lib.hid (fun f hf=>by simp at hf),⟨hF⟩⟩
  case round=>
   clear hF
   obtain ⟨j,hj,rfl,hup,⟨hF⟩⟩:=hrel
   (simp only [kD,zL] at hF)
   by_cases hjn:j<k.rob.length
   ·obtain ⟨e,hu⟩:∃ e,k.rob[j]?=some e:=⟨_,List.getElem?_eq_getElem hjn⟩
    have he:=hk.rob e (List.mem_of_getElem? hu)
    have hlen:0<(ens k.rob).length:=by rw [a4l];omega
    obtain ⟨no,pc,⟨op,rd,rs1,rs2,imm⟩,guess,is,left,value,next,addr,halt,took,known,filled⟩:=e
    have HLi:=Lib.hid (fun W=>a6u addr W he.a)
    have hB:Hid (c6a line ⟨no,pc,⟨op,rd,rs1,rs2,imm⟩,guess,is,left,value,next,addr,halt,took,known,filled⟩=(filled && decide (addr - addr % 16=line))):=Lib.hid rfl
    obtain ⟨L,hL⟩:∃ L,addr - addr % 16=L:=⟨_,rfl⟩
    rw [hL] at HLi hB
    clear hL he
    cases filled
    ·have hup2:=Lib.hid (d8j hup.out hu (by rw [hB.out];rfl))
     clear hB
     go_wp2_with ((try simp only [zA,Nat.reduceAdd]);(first|refine c7j ?_|(refine a9w ?_;clear hF;(first|intro gN wN hF|intro wN hF|intro hF))|(go_at_call 63;refine (HLi.out _).mono ?_;rintro x wN ⟨rfl,d,rfl⟩;replace hF:=hF.grow (Bel.drewN _ d))|(refine a1d ?_;clear hF;intro vN wN hF)))
     exact d8i
    ·by_cases hLl:L=line
     ·have hans:Hid (b1f k line=true):=Lib.hid (by rw [hR.out,h5c hu (by rw [hB.out];simp [hLl])];rfl)
      have heq:Hid ((L:Int)=(line:Int)):=Lib.hid (by omega)
      clear hB hLl hR hup
      go_wp2_with ((try simp only [zA,Nat.reduceAdd]);(first|refine b7u ?_|(refine a9w ?_;clear hF;(first|intro gN wN hF|intro wN hF|intro hF))|(go_at_call 63;refine (HLi.out _).mono ?_;rintro x wN ⟨rfl,d,rfl⟩;replace hF:=hF.grow (Bel.drewN _ d))|(refine a1d ?_;clear hF;intro vN wN hF)))
      go_ret
      exact ⟨by rw [hans.out];rfl,⟨hF.drop 0⟩⟩
     ·have hup2:=Lib.hid (d8j hup.out hu (by rw [hB.out];simp [hLl]))
      have hne:¬ ((L:Int)=(line:Int)):=by omega
      clear hB hLl
      go_wp2_with ((try simp only [zA,Nat.reduceAdd]);(first|refine b7u ?_|(refine a9w ?_;clear hF;(first|intro gN wN hF|intro wN hF|intro hF))|(go_at_call 63;refine (HLi.out _).mono ?_;rintro x wN ⟨rfl,d,rfl⟩;replace hF:=hF.grow (Bel.drewN _ d))|(refine a1d ?_;clear hF;intro vN wN hF)))
      exact d8i
   ·obtain rfl:j=k.rob.length:=by omega
    have hans:Hid (b1f k line=false):=Lib.hid (by rw [hR.out,h5d (by have:=hup.out;rwa [List.take_length] at this)];rfl)
    clear hR
    go_wp2_with ((try simp only [zA,Nat.reduceAdd]);(first|refine b7u ?_|(refine a9w ?_;clear hF;(first|intro gN wN hF|intro wN hF|intro hF))|(go_at_call 63;refine (HLi.out _).mono ?_;rintro x wN ⟨rfl,d,rfl⟩;replace hF:=hF.grow (Bel.drewN _ d))|(refine a1d ?_;clear hF;intro vN wN hF)))
    go_ret
    exact ⟨by rw [hans.out];rfl,⟨hF⟩⟩
 ·rw [hR.out]
  go_enter Tryz.func179,Tryz.ntmps179
  go_wp2_with ((try simp only [zA,Nat.reduceAdd]);(first|refine b7u ?_|(refine a9w ?_;clear hF;(first|intro gN wN hF|intro wN hF|intro hF))|(go_at_call 63;refine (HLi.out _).mono ?_;rintro x wN ⟨rfl,d,rfl⟩;replace hF:=hF.grow (Bel.drewN _ d))|(refine a1d ?_;clear hF;intro vN wN hF)))
  go_ret
  exact ⟨rfl,⟨hF⟩⟩
end
section
open Go.RowKit
section
variable {P:Program} {ops:Array Oper} {rest:List Oper} {o:Oper} {a:Act} {Q:Exit→Act→World→Prop} {w0 w:World} {D0 D:List Da} {M:List Mu} {S:World→Prop}
def AtP (A:Option Addr):Prop:=∃ g o,A=some ⟨g,o,none⟩
theorem St.rowP (h:St w0 D0 w M D) {i:Nat} {A:Option Addr} {t:TypeId} {xs:List Value} (hi:M[i]?=some (.row A t xs)) (hl:0<xs.length):Hid (AtP A):=by
 obtain ⟨g,pre,post,rfl,_,_⟩:=h.rowAt hi hl
 exact Lib.hid ⟨_,_,rfl⟩
theorem h5e {t e:TypeId} {x ix:Operand} {A:Option Addr} {n c k:Nat} {ki:IntKind} {z:Value} {sz bytes:Nat} (ho:o.op = .indexAddr t x ix) (hx:a1b a x=some (.slice A n c)) (hk:a1b a ix=some (.int ki (k:Int))) (hA:AtP A)
  (ht:SlT P t e z sz bytes) (hkn:k<n):(execOp a.eval o).run P w = .ok (.value (ept A (k * sz))) w:=by
 replace hx:=look_eval hx
 replace hk:=look_eval hk
 obtain ⟨g,off,rfl⟩:=hA
 obtain ⟨hu,hi,_,_⟩:=ht
 have hs:(sizeOf e).run P w = .ok sz w:=by
  cases hq:P.info? e with
  | none=>simp [hq] at hi
  | some i=>
   simp only [hq,Option.map_some,Option.some.injEq,Prod.mk.injEq] at hi
   simp [sizeOf,typeInfo,hq,hi.2.1]
 have hrun:(Instr.indexAt t (.slice (some ⟨g,off,none⟩) n c) (.int ki (k:Int))).run P w = .ok (ept (some ⟨g,off,none⟩) (k * sz)) w:=by
  simp [Instr.indexAt,run_underlying hu,asIntOf,hs,ept,show (k:Int)<(n:Int) by omega]
  intro h;omega
 unfold execOp
 simp only [ho,hx,hk,hrun,Sem.run_bind,Sem.run_pure,Result.andThen_ok]
theorem y_ixP {t e:TypeId} {x ix:Operand} {A:Option Addr} {n c k:Nat} {ki:IntKind} {z:Value} {sz bytes:Nat} (ho:o.op = .indexAddr t x ix) (hx:a1b a x=some (.slice A n c)) (hk:a1b a ix=some (.int ki (k:Int)))
  (hA:Hid (AtP A):=by with_reducible assumption) (ht:SlT P t e z sz bytes:=by exact a3o _ _ _ _ _ rfl) (hw:Region.wanted o (yielded ops a.tmps)=true:=by rfl) (hkn:k<n:=by (first|assumption|omega|exact Nat.zero_lt_of_lt (by assumption)|exact Nat.succ_pos _)):YieldsIf P ops S o (ept A (k * sz)) a :=
 a1u hw fun w=>h5e ho hx hk hA.out ht hkn
theorem a5r {ty:TypeId} {x y:Operand} {A:Option Addr} {k i:Nat} {tr:TypeId} {q:List En} {f:En} {M':List Mu} (ho:o.op = .store ty x y) (hF:St w0 D0 w M D) (hx:a1b a x=some (ept A (k * 17))) (hy:a1b a y=some f.val)
  (h:∀ w',St w0 D0 w' M' D→wpList P ops Q rest (a.put o.dst undef) w') (hw:Region.wanted o (yielded ops a.tmps)=true:=by rfl) (hi:M[i]?=some (.row A tr (ens q)):=by exact zat)
  (hk:k<q.length:=by (first|assumption|omega|exact Nat.zero_lt_of_lt (by assumption)|exact Nat.succ_pos _)) (ht:RowTy P ty 17:=by exact tyRow _ _ rfl) (hM:M.set i (.row A tr (ens (q.set k f)))=M':=by first|(simp only [zF];exact rfl)|(simp only [zF];done)|exact rfl):wpList P ops Q (o::rest) a w:=by
 refine g2d (us:=f.cells) ho hF hx hy h hw hi ?_ (by show 0<17;omega) ht (fun u hu=>.inl (f.one u hu)) ?_
 ·have hl:f.cells.length=17:=rfl
  rw [a4l,hl];omega
 ·rw [Rows.spl (f:=ens) hk];exact hM
theorem w_fromR {t e:TypeId} {x y:Operand} {A:Option Addr} {n c k i:Nat} {ki:IntKind} {z:Value} {sz bytes:Nat} {tr:TypeId} {xs:List Value} {M':List Mu} (ho:o.op = .slice t x (some y) none none) (hF:St w0 D0 w M D) (hx:a1b a x=some (.slice A n c)) (hy:a1b a y=some (.int ki (k:Int)))
  (h:St w0 D0 w M' D→wpList P ops Q rest (a.put o.dst (.slice (cutA A k c sz) (n - k) (c - k))) w) (ht:SlT P t e z sz bytes:=by exact a3o _ _ _ _ _ rfl) (hw:Region.wanted o (yielded ops a.tmps)=true:=by rfl) (hi:M[i]?=some (.row A tr xs):=by exact zat) (hl:xs.length=n * sz:=by assumption) (hk:k≤n:=by (first|assumption|omega)) (hc:n≤c:=by (first|assumption|omega))
  (hM:M.set i (.row (cutA A k c sz) tr (xs.drop (k * sz)))=M':=by first|(simp only [zF];exact rfl)|(simp only [zF];done)|exact rfl):wpList P ops Q (o::rest) a w:=by
 subst hM
 replace hx:=look_eval hx
 replace hy:=look_eval hy
 have hF':=hF.rowDrop hi sz k n c hl hk hc
 refine a2c hw fun K hK=>?_
 have hk':=hK _ _ (h hF')
 obtain ⟨hu,hi',_,_⟩:=ht
 have hs:(sizeOf e).run P w = .ok sz w:=by
  cases hq:P.info? e with
  | none=>simp [hq] at hi'
  | some i=>
   simp only [hq,Option.map_some,Option.some.injEq,Prod.mk.injEq] at hi'
   simp [sizeOf,typeInfo,hq,hi'.2.1]
 have hel:P.elem t=e:=by simp [Program.elem,hu]
 have h1:=run_slice_l (P:=P) (w:=w) t A n c (by rw [hel];exact hu) ki (k:Int) (by omega) (by omega)
 have h2:(Instr.sliceAt t (.slice A n c) (some (.int ki (k:Int))) none none).run P w = .ok (.slice (cutA A k c sz) (n - k) (c - k)) w:=by
  rw [run_sliceAt_slice (P:=P) (w:=w) t _ _ _ _ (by rw [hel];exact hu),h1,hel,hs]
  simp only [Result.andThen_ok,sliced,Int.toNat_natCast,cutA]
 unfold Oper.wp execOp
 simp only [ho,hx,hy,Option.map_some,Option.map_none,h2,Sem.run_bind,Sem.run_pure,Result.andThen_ok]
 exact hk'
theorem St.nilZ (h:St w0 D0 w M D) (sz:Nat):St w0 D0 w M (a1a sz none 0 0 []::D) :=
 h.part _ ⟨by simp,Nat.le_refl _,by unfold maxLen;omega,fun hn=>absurd hn (by omega)⟩ fun g hg=>by obtain ⟨hn,_⟩:=hg;omega
end
def a6s (f:En→En) (j:Nat) (q:List En):List En:=(q.take j).map f++q.drop j
theorem d8k (f:En→En) (j:Nat) (q:List En):(a6s f j q).length=q.length:=by simp [a6s];omega
theorem d8l (f:En→En) (q:List En):a6s f q.length q=q.map f:=by simp [a6s]
theorem c6b {f:En→En} {j:Nat} {q:List En} {e:En} (h:q[j]?=some e):(a6s f j q)[j]?=some e:=by
 have hl:=(List.getElem?_eq_some_iff.1 h).1
 unfold a6s
 rw [List.getElem?_append_right (by simp;omega)]
 simp only [List.length_map,List.length_take,Nat.min_eq_left (Nat.le_of_lt hl),Nat.sub_self,List.getElem?_drop,Nat.add_zero]
 exact h
theorem c6c {f:En→En} {j:Nat} {q:List En} {e:En} (h:q[j]?=some e):(a6s f j q).set j (f e)=a6s f (j+1) q:=by
 obtain ⟨hl,he⟩:=List.getElem?_eq_some_iff.1 h
 unfold a6s
 rw [List.set_append_right _ _ (by simp;omega)]
 simp only [List.length_map,List.length_take,Nat.min_eq_left (Nat.le_of_lt hl),Nat.sub_self]
 rw [List.drop_eq_getElem_cons hl,he,List.set_cons_zero,List.take_succ_eq_append_getElem hl,he,List.map_append,List.append_assoc]
 rfl
theorem b3u {k:Kern} {s:Sls} (q:List En) (h:q.length=k.rob.length):mcells { k with rob:=q } s=mcells k s:=by
 unfold mcells
 dsimp only
 rw [h]
end
section
open Go.RowKit Wd
theorem c6d (n lo hi:Int) (w:World) (h1:lo≤n) (h2:n≤hi):Calls Tryz.prog 119 #[.int .i64 n,.int .i64 lo,.int .i64 hi] w fun e w'=>e = .returned (.bool true)∧Bel w w':=by
 have d1:decide (lo≤n)=true:=decide_eq_true h1
 have d2:decide (n≤hi)=true:=decide_eq_true h2
 clear h1 h2
 go_enter Tryz.func119,Tryz.ntmps119
 go_wp2
 go_ret
 exact ⟨rfl,Bel.refl _⟩
theorem h5f (c:Cf) (Al:Option Addr) (cl:Nat) (At:Option Addr) (ct:Nat) (w:World) (h:a8a c=true) (hr:Rd w w.heap.size 1 Al c.lat.length cl (a1i c.lat)) :
  Calls Tryz.prog 53 #[.agg (cfC c Al cl At ct).toArray] w fun e w'=>e = .returned (.bool true)∧Bel w w':=by
 have hF:=St.start w [a1a 1 Al c.lat.length cl (a1i c.lat)] (fun d hd=>by obtain rfl:=List.mem_singleton.1 hd;exact hr)
 clear hr
 have hb:=b7n h
 have h3:¬ (c.sets=3):=by
  simp only [a8a,Bool.and_eq_true,decide_eq_true_eq] at h
  exact h.2.2.2.2.2.2.2.2.1
 have hall:Hid (∀ (j:Nat) (x:Int),c.lat[j]?=some x→1≤x∧x≤8):=Lib.hid (by
  intro j x hx
  simp only [a8a,Bool.and_eq_true,List.all_eq_true] at h
  have:=h.1 x (List.mem_of_getElem? hx)
  simpa [a5t] using this)
 obtain ⟨⟨a1,a2⟩,⟨b1,b2⟩,⟨c1,c2⟩,⟨d1,d2⟩,⟨e1,e2⟩,⟨f1,f2⟩,⟨g1,g2⟩,⟨i1,i2⟩,hl,ht⟩:=hb
 clear h
 obtain ⟨mode,width,rob,queue,stores,slots,sets,ways,lat,tables,tape⟩:=c
 dsimp only at *
 unfold cfC
 dsimp only
 obtain ⟨nl,hnl⟩:∃ n,lat.length=n:=⟨_,rfl⟩
 obtain ⟨nt,hnt⟩:∃ n,tape.length=n:=⟨_,rfl⟩
 rw [hnl] at hF hl
 rw [hnt] at ht
 rw [hnl,hnt]
 replace hnl:=Lib.hid hnl
 replace hnt:=Lib.hid hnt
 have k1:decide ((nl:Int)≤64)=true:=decide_eq_true (by omega)
 have k2:decide ((nt:Int)≤64)=true:=decide_eq_true (by omega)
 have k3:(sets != 3)=true:=by simpa using h3
 go_enter Tryz.func53,Tryz.ntmps53
 go_wp2_with ((try simp only [zA,Nat.reduceAdd]);(first|refine a3d ?_|(go_at_call 119;refine (c6d _ _ _ _ (by first|assumption|omega) (by first|assumption|omega)).mono ?_;rintro x wN ⟨rfl,hb⟩;replace hF:=hF.grow hb;clear hb)|(refine a1s ?_;clear hF;(first|intro gN wN hF|intro wN hF|intro hF))|(refine a1d ?_;clear hF;intro vN wN hF)))
 obtain ⟨g9,rfl⟩:=hF.names1
 go_loopw [9] (fun ix wr=>∃ j:Nat,j≤nl∧ix = .int .i64 (j:Int)∧St w [a1a 1 Al nl cl (a1i lat)] wr [.blk g9 25 [.int .i64 mode,.int .i64 width,.int .i64 rob,.int .i64 queue,.int .i64 stores,.int .i64 slots,.int .i64 sets,.int .i64 ways,.slice Al nl cl,.bool tables,.slice At nt ct]] [a1a 1 Al nl cl (a1i lat)]) (fun ix _=>nl - (intOf ix).toNat)
 case atStart=>exact ⟨0,by omega,rfl,hF⟩
 case round=>
  clear hF
  obtain ⟨j,hj,rfl,hF⟩:=hrel
  by_cases hjn:j<nl
  ·obtain ⟨x,hx⟩:∃ x,lat[j]?=some x:=⟨_,List.getElem?_eq_getElem (by have:=hnl.out;omega)⟩
   have hxe:=d6h hx
   obtain ⟨x1,x2⟩:=hall.out j x hx
   clear hx
   go_wp2_with ((try simp only [zA,Nat.reduceAdd]);(first|refine a3d ?_|(go_at_call 119;refine (c6d _ _ _ _ (by first|assumption|omega) (by first|assumption|omega)).mono ?_;rintro x wN ⟨rfl,hb⟩;replace hF:=hF.grow hb;clear hb)|(refine a1s ?_;clear hF;(first|intro gN wN hF|intro wN hF|intro hF))|(refine a1d ?_;clear hF;intro vN wN hF)))
   go_roundw
   case rel=>exact ⟨j+1,by omega,by go_num,hF⟩
   case measure=>first|(simp [intOf];done)|(simp [intOf];omega)
  ·obtain rfl:j=nl:=by omega
   go_wp2_with ((try simp only [zA,Nat.reduceAdd]);(first|refine a3d ?_|(go_at_call 119;refine (c6d _ _ _ _ (by first|assumption|omega) (by first|assumption|omega)).mono ?_;rintro x wN ⟨rfl,hb⟩;replace hF:=hF.grow hb;clear hb)|(refine a1s ?_;clear hF;(first|intro gN wN hF|intro wN hF|intro hF))|(refine a1d ?_;clear hF;intro vN wN hF)))
   go_ret
   exact ⟨rfl,hF.bel⟩
end
end Go.Proofs.YtgnomadgnciifaaGreatDoor
