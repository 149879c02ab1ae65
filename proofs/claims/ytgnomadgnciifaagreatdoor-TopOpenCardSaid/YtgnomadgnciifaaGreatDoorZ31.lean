/- . -/
import Derived.Test.YtgnomadgnciifaaGreatDoorZ27
import Derived.ScopeJumps
import Derived.WalkMore
set_option linter.unusedVariables false
set_option linter.unusedSimpArgs false
set_option linter.unusedSectionVars false
set_option maxRecDepth 100000
set_option maxHeartbeats 16000000
namespace Go.Proofs.YtgnomadgnciifaaGreatDoor
theorem d8a {p:Prop} (h:p:=by
 have hH:=zx0 hH hF;refine hK.out _ _ hH ?_;clear hK;(try simp only [zA,Nat.reduceAdd])
 refine zry 13 (fun K hK=>?_)
 go_wp2_with ((first|(go_at_call 44;refine zcg hF (HZ.out _) ?_;clear hF;intro wN hF)|(refine w_st1 rfl hF rfl rfl ?_;clear hF;intro wN hF)|(refine w_st rfl hF rfl rfl ?_;clear hF;intro wN hF)|(refine w_st1o rfl hF rfl rfl ?_;clear hF;intro wN hF));(try simp only [zA,Nat.reduceAdd]))
 have hH:=zx0 hH hF;refine hK.out _ _ hH ?_;clear hK;(try simp only [zA,Nat.reduceAdd])
 refine zry 14 (fun K hK=>?_)
 go_wp2_with ((first|(go_at_call 44;refine zcg hF (HZ.out _) ?_;clear hF;intro wN hF)|(refine w_st1 rfl hF rfl rfl ?_;clear hF;intro wN hF)|(refine w_st rfl hF rfl rfl ?_;clear hF;intro wN hF)|(refine w_st1o rfl hF rfl rfl ?_;clear hF;intro wN hF));(try simp only [zA,Nat.reduceAdd]))
 have hH:=zx0 hH hF;refine hK.out _ _ hH ?_;clear hK;(try simp only [zA,Nat.reduceAdd])
 refine zrz ?_
 (go_wp2;go_meet;(first|exact ⟨_,_,rfl,rfl,hF⟩|exact ⟨_,_,rfl,rfl,hF.front 1 at1⟩))):p:=h
theorem d8b {p:Prop} (h:p:=by
 replace hS:=Lib.hid hS
 clear hbnd
 gi_wp2_with (first|(refine ⟨trivial,?_⟩;gi_at_call 204;refine (CallsIn.inRound l (callsIn_wide.2 (HLa.out _))).mono ?_;rintro e w1 ⟨rfl,hb1⟩;have d0:=hb1.cell_of c0;have d1:=hb1.cell_of c1;have d2:=hb1.cell_of c2;have d3:=hb1.cell_of c3;have da:=hb1.cell_of ca;have dn:=hb1.cell_of cn;have d6:=hb1.cell_of c6;have d7:=hb1.cell_of c7;have e6:=(hb1.frozen (p:=⟨g6,0,none⟩) (World.block_lt_of_cell? _ _ c6)).trans f6;have e7:=(hb1.frozen (p:=⟨g7,0,none⟩) (World.block_lt_of_cell? _ _ c7)).trans f7)|(refine ⟨trivial,?_⟩;gi_at_call 205;refine (CallsIn.inRound l (callsIn_wide.2 (HHo.out _))).mono ?_;rintro e w2 ⟨rfl,hb2⟩;have k0:=hb2.cell_of d0;have k1:=hb2.cell_of d1;have k2:=hb2.cell_of d2;have k3:=hb2.cell_of d3;have ka:=hb2.cell_of da;have kn:=hb2.cell_of dn;have k6:=hb2.cell_of d6;have k7:=hb2.cell_of d7;have m6:=(hb2.frozen (p:=⟨g6,0,none⟩) (World.block_lt_of_cell? _ _ d6)).trans e6;have m7:=(hb2.frozen (p:=⟨g7,0,none⟩) (World.block_lt_of_cell? _ _ d7)).trans e7))
 exact ⟨((b3k (hb1.trans hb2) _).trans ((KeepsOthers.setCell _ _ _).from _)).trans ((KeepsOthers.setCell _ _ _).from _),⟨rfl,pre,x,rfl,hp.out,hI.out,by rw [hS.out];exact two_cells6 hne k6 k7 _ _,by rw [hS.out];exact two_cells7 hne k6 k7 _ _⟩,(((hwW.trans ((hb1.trans hb2).mono (Nat.le_trans hszB hww))).setCell (p:=⟨g6,0,none⟩) hg6 _).setCell (p:=⟨g7,0,none⟩) hg7 _)⟩):p:=h
theorem d8c {p:Prop} (h:p:=by
 have hH:=zx0 hH hF;refine hK.out _ _ hH ?_;clear hK;(try simp only [zA,Nat.reduceAdd])
 refine zry 8 (fun K hK=>?_)
 go_wp2_with ((first|((refine w_slf rfl rfl rfl rfl hsl ?_);(try simp only [zA,Nat.reduceAdd]))|(refine w_st1 rfl hF rfl rfl ?_;clear hF;intro wN hF)|(refine w_st rfl hF rfl rfl ?_;clear hF;intro wN hF)|(refine w_st1o rfl hF rfl rfl ?_;clear hF;intro wN hF));(try simp only [zA,Nat.reduceAdd]))
 have hH:=zx0 hH hF;refine hK.out _ _ hH ?_;clear hK;(try simp only [zA,Nat.reduceAdd])
 refine zrz ?_
 (gi_wp2;exact ⟨hkf.trans (hF.kept (List.Mem.head _)),⟨rfl,pre,x,rfl,hp.out,hI.out,by rw [hS.out];exact (hF.bkAt at4).cell 0,by rw [hS.out];exact (hF.bkAt at3).cell 0⟩,hF.bel⟩)):p:=h
theorem c1z {p:Prop} (h:p:=by
 go_wp2_with ((refine w_alloc rfl hF ?_;clear hF;intro gN wN hF);(try simp only [zA,Nat.reduceAdd]))
 exact d8a):p:=h
theorem d8d {p:Prop} (h:p:=by
 have hH:=zx0 hH hF;refine hK.out _ _ hH ?_;clear hK;(try simp only [zA,Nat.reduceAdd])
 refine zry 10 (fun K hK=>?_)
 go_wp2_with ((refine b3y ?_;clear hF;intro wN hF))
 exact d8a):p:=h
theorem d8e {p:Prop} (h:p:=by
 (refine ⟨.tuple #[.int .i64 0,.string ⟨#[]⟩],dec_results rfl rfl ((hF.bkAt at2).cell 0) ((hF.bkAt at1).cell 0),?_⟩;exact ⟨by rw [hR2.out],hF.bel⟩)):p:=h
theorem d8f {p:Prop} (h:p:=by
 go_roundw
 case rel=>exact ⟨j+1,by go_num,by omega,hnx,hF.drop 0⟩
 case measure=>first|(simp [intOf];done)|(simp [intOf];omega)):p:=h
section
open Go.RowKit Go.Shelf Wd
attribute [local go_sem] Oper.semAt_some
def h4r (A:Option Addr) (n c:Nat) (As:Option Addr) (ns cs:Nat) (w:World) (x:Ending) (w':World):Prop :=
 ∃ g1 g2,x = .returned (.func (.func 214) #[] #[.pointer (some ⟨g1,0,none⟩),.pointer (some ⟨g2,0,none⟩)])∧Bel w w'∧Bk w' g1 31 [.slice A n c]∧Bk w' g2 32 [.slice As ns cs]
theorem h4s (A:Option Addr) (n c:Nat) (As:Option Addr) (ns cs:Nat) (w:World) :
  Calls Tryz.prog 203 #[.slice A n c,.slice As ns cs] w (h4r A n c As ns cs w):=by
 have hF:=St.start w [] (fun d hd=>by cases hd)
 go_enter Tryz.func203,Tryz.ntmps203
 go_wp2_with ((try simp only [zA,Nat.reduceAdd]);(first|refine a7u ?_|(refine a1s ?_;clear hF;(first|intro gN wN hF|intro wN hF|intro hF))|(refine a1d ?_;clear hF;intro vN wN hF)))
 go_ret
 exact ⟨_,_,rfl,hF.bel,hF.bkAt at1,hF.bkAt at0⟩
def b2l (e:En):Bool:=decide (a1e e.inst.op=4) && (!e.known || decide (e.halt≠0))
theorem h4t {q:List En} {ss:List Pu} {i:Nat} {e:En} (hu:q[i]?=some e) (hk:a1e e.inst.op=3):a7q q ss i=if (q.take i).any b2l then (0,⟨#[]⟩) else a6f e.addr (a2p e.inst.op) (a6e (q.take i) ss):=by
 unfold a7q
 rw [hu]
 dsimp only
 rw [if_neg (fun h=>h hk)]
 rfl
theorem h4u {q:List En} {i:Nat} {no:Int} {pc:Nat} {op rd rs1 rs2:Int} {imm guess:Nat} {is left:Int} {value next addr:Nat} {halt took:Int} {known filled:Bool} (hu:q[i]?=some ⟨no,pc,⟨op,rd,rs1,rs2,imm⟩,guess,is,left,value,next,addr,halt,took,known,filled⟩) :
  ∀ (j:Nat) (u:Value),([.int .i64 op,.int .i64 rd,.int .i64 rs1,.int .i64 rs2,.int .u32 (imm:Int)]:List Value)[j]?=some u→(ens q)[i * 17+2+j]?=some u:=fun j u h=>by
 rw [Nat.add_assoc]
 refine Rows.el (f:=ens) hu ?_
 match j,h with
 | 0,h=>exact h
 | 1,h=>exact h
 | 2,h=>exact h
 | 3,h=>exact h
 | 4,h=>exact h
theorem h4v {p:En→Bool} {q:List En} {k:Nat} {e:En} (h:∀ f∈q.take k,p f=false) (he:q[k]?=some e) (hp:p e=false):∀ f∈q.take (k+1),p f=false:=by
 obtain ⟨hl,hk⟩:=List.getElem?_eq_some_iff.1 he
 intro f hf
 rw [List.take_succ_eq_append_getElem hl,hk] at hf
 rcases List.mem_append.1 hf with hf|hf
 ·exact h f hf
 ·obtain rfl:=List.mem_singleton.1 hf
  exact hp
theorem h4w {p:En→Bool} {q:List En} {j:Nat} {e:En} (he:q[j]?=some e) (hp:p e=true):q.any p=true:=List.any_eq_true.2 ⟨e,List.mem_of_getElem? he,hp⟩
theorem h4x {q:List En} {ss:List Pu} (hq:ensOk q) (hs:∀ p∈ss,p.addr<4294967296∧p.data.size≤4):∀ x∈a6e q ss,okS x:=fun x hx=>by
 unfold a6e at hx
 rcases List.mem_append.1 hx with hx|hx
 ·obtain ⟨e,he,rfl⟩:=List.mem_map.1 hx
  exact d6w (hq e (by simpa using (List.mem_filter.1 he).1))
 ·obtain ⟨p,hp,rfl⟩:=List.mem_map.1 hx
  exact d6x (hs p (by simpa using hp))
theorem d8g {a:Nat} {n:Int}:∀ l:List Sd,(∀ x∈l,a6z x.addr x.size a n=false)→a6f a n l=(2,⟨#[]⟩)
 | [],_=>rfl
 | x::l,h=>by rw [a6f,if_pos (h x (List.mem_cons_self ..))];exact d8g l fun y hy=>h y (List.mem_cons_of_mem _ hy)
theorem d8h {a:Nat} {n:Int} {last:Sd} {rest:List Sd} (hl:a6z last.addr last.size a n=true):∀ ini:List Sd,(∀ x∈ini,a6z x.addr x.size a n=false)→a6f a n (ini++last::rest)=a6f a n [last]
 | [],_=>by
  simp [a6f,hl]
 | x::l,h=>by rw [List.cons_append,a6f,if_pos (h x (List.mem_cons_self ..))];exact d8h hl l fun y hy=>h y (List.mem_cons_of_mem _ hy)
theorem h4y : RowTy Tryz.prog 259 4:=⟨_,Tryz.underlying259,rfl,by kernel_rfl⟩
theorem dec_results {w:World} {tmps:Array Value} {g6 g7:Nat} {x:Int} {b:ByteArray} (h6:tmps.getD 6 undef = .pointer (some ⟨g6,0,none⟩)) (h7:tmps.getD 7 undef = .pointer (some ⟨g7,0,none⟩)) (hc6:w.cell? ⟨g6,0,none⟩=some (.int .i64 x)) (hc7:w.cell? ⟨g7,0,none⟩=some (.string b)) :
  (results Tryz.f178 tmps).run Tryz.prog w = .ok (.tuple #[.int .i64 x,.string b]) w:=by
 simp only [Array.getD_eq_getD_getElem?] at h6 h7
 simp [results,Tryz.f178,go_sem,h6,h7,hc6,hc7]
theorem two_cells6 {W:World} {g6 g7:Nat} {u6 u7:Value} (hne:g6≠g7) (h6:W.cell? ⟨g6,0,none⟩=some u6) (h7:W.cell? ⟨g7,0,none⟩=some u7) (v6 v7:Value):((W.setCell ⟨g6,0,none⟩ v6).setCell ⟨g7,0,none⟩ v7).cell? ⟨g6,0,none⟩=some v6 :=
 (World.cell?_of_block (Below.heap_setCell _ ⟨g7,0,none⟩ v7 g6 hne)).trans (World.cell?_setCell_same' _ _ _ (by rw [h6];rfl))
theorem two_cells7 {W:World} {g6 g7:Nat} {u6 u7:Value} (hne:g6≠g7) (h6:W.cell? ⟨g6,0,none⟩=some u6) (h7:W.cell? ⟨g7,0,none⟩=some u7) (v6 v7:Value):((W.setCell ⟨g6,0,none⟩ v6).setCell ⟨g7,0,none⟩ v7).cell? ⟨g7,0,none⟩=some v7 :=
 World.cell?_setCell_same' _ _ _ (by rw [(World.cell?_of_block (Below.heap_setCell W ⟨g6,0,none⟩ v6 g7 (Ne.symm hne))).trans h7];rfl)
section
variable {P:Program} {ops:Array Oper} {rest:List Oper} {o:Oper} {a:Act} {Q:Exit→Act→World→Prop} {w:World}
theorem w_slf {t:TypeId} {x y z:Operand} {s r:ByteArray} {p q:Value} (ho:o.op = .slice t x (some y) (some z) none) (hx:a1b a x=some (.string s)) (hy:a1b a y=some p) (hz:a1b a z=some q) (hsl:Hid (∀ W,(Instr.sliceAt t (.string s) (some p) (some q) none).run P W = .ok (.string r) W))
  (h:wpList P ops Q rest (a.put o.dst (.string r)) w) (hw:Region.wanted o (yielded ops a.tmps)=true:=by rfl):wpList P ops Q (o::rest) a w:=by
 replace hx:=look_eval hx
 replace hy:=look_eval hy
 replace hz:=look_eval hz
 refine a2c hw fun K hK=>?_
 have hk:=hK _ _ h
 have hs:=hsl.out w
 unfold Oper.wp execOp
 simp only [ho,hx,hy,hz,Option.map_some,Option.map_none,hs,Sem.run_bind,Sem.run_pure,Result.andThen_ok]
 exact hk
end
def h4z (R:Ending→World→Prop):Exit→Act→World→Prop
 | .normal,a,w | .ret,a,w=>LeavesInM Fence.wide 9 Tryz.prog Tryz.f178 a.tmps R a.defers .returning w
 | .outgrown,_,w=>R .outgrown w
 | _,_,_=>False
theorem h5a {R:Ending→World→Prop} (e:Exit) (a:Act) (w:World) (h:h4z R e a w):bodyPostM Fence.wide 9 Tryz.prog Tryz.f178 R e a w:=by
 cases e <;> first|exact h|exact h.elim
theorem h5b (A:Option Addr) (n c:Nat) (As:Option Addr) (ns cs:Nat) (q:List En) (ss:List Pu) (i:Nat) (e:En) (w:World) (hr:Rd w w.heap.size 17 A n c (ens q)) (hrs:Rd w w.heap.size 2 As ns cs (pus ss)) (hq:ensOk q) (hn1:n≤1000) (hns:ns≤1000) (hss:∀ p∈ss,p.addr<4294967296∧p.data.size≤4)
  (hu:q[i]?=some e) (hk:a1e e.inst.op=3) :
  Calls Tryz.prog 178 #[.slice A n c,.slice As ns cs,.int .i64 (i:Int)] w fun x w'=>x = .returned (.tuple #[.int .i64 (a7q q ss i).1,.string (a7q q ss i).2])∧Bel w w':=by
 have hF:=St.start w [a1a 17 A n c (ens q),a1a 2 As ns cs (pus ss)] (fun d hd=>by
  rcases List.mem_cons.1 hd with rfl|hd
  ·exact hr
  ·obtain rfl:=List.mem_singleton.1 hd;exact hrs)
 have hql:=hr.enslen
 have hin:i<n:=by have:=(List.getElem?_eq_some_iff.1 hu).1;omega
 have he:=hq e (List.mem_of_getElem? hu)
 have HK:=Lib.hid (fun W=>a2o e.inst W he.op)
 rw [hk] at HK
 have hR:=Lib.hid (h4t (ss:=ss) hu hk)
 obtain ⟨no,pc,⟨op,rd,rs1,rs2,imm⟩,guess,is,left,value,next,addr,halt,took,known,filled⟩:=e
 have hinst:=h4u hu
 have haddr:(ens q)[i * 17+12]?=some (.int .u32 (addr:Int)):=Rows.el (f:=ens) hu rfl
 unfold Ins.val at HK
 dsimp only at HK hR
 have h0:=Lib.hid (show decide ((i:Int)<0)=false by simp)
 have h1:=Lib.hid (show decide ((n:Int)≤(i:Int))=false by simp;omega)
 have hc1:=hr.le
 replace hss:=Lib.hid hss
 replace hq:=Lib.hid hq
 replace he:=Lib.hid he
 clear hr hrs hk
 refine (callsIn_wide (n:=9)).1 ?_
 refine callsIn_of_wp_marks Tryz.func178 rfl trivial ?_ rfl
 simp only [Tryz.ntmps178,List.size_toArray,List.length_cons,List.length_nil,Nat.reduceAdd,Nat.reduceSub,Array.replicate_succ,Array.replicate_zero,List.push_toArray,List.append_toArray,List.nil_append,List.cons_append]
 refine wpIn_wide.2 ?_
 refine Code.wp_mono h5a ?_
 go_wp2_with ((try simp only [zA,Nat.reduceAdd]);(first|go_big_skip|refine c2w ?_|(go_at_call 39;(have hX:=HK.out);(with_reducible refine (hX _).mono ?_);clear hX;rintro x wN ⟨rfl,hb⟩;replace hF:=hF.grow hb;clear hb)|(refine a1s ?_;clear hF;(first|intro gN wN hF|intro wN hF|intro hF))|(refine a1d ?_;clear hF;intro vN wN hF)))
 go_step3
 go_wp2_with ((try simp only [zA,Nat.reduceAdd]);(first|go_big_skip|refine c2w ?_|(go_at_call 39;(have hX:=HK.out);(with_reducible refine (hX _).mono ?_);clear hX;rintro x wN ⟨rfl,hb⟩;replace hF:=hF.grow hb;clear hb)|(refine a1s ?_;clear hF;(first|intro gN wN hF|intro wN hF|intro hF))|(refine a1d ?_;clear hF;intro vN wN hF)))
 obtain ⟨g7,g6,rfl,rfl⟩:=hF.names2
 rw [Rows.take] at hF
 obtain ⟨q2,hq2e⟩:∃ q2,q.take i=q2:=⟨_,rfl⟩
 have hq2:ensOk q2:=fun f hf=>by rw [← hq2e] at hf;exact hq.out f (List.mem_of_mem_take hf)
 replace hq2:=Lib.hid hq2
 have hl2:q2.length=i:=by rw [← hq2e,List.length_take];omega
 rw [hq2e] at hF hR
 replace haddr:=Lib.hid haddr
 replace hinst:=Lib.hid hinst
 clear hq2e
 go_loopw [35] (fun x wr=>∃ j:Nat,x = .int .i64 (j:Int)∧j≤i∧Hid (∀ f∈q2.take j,b2l f=false)∧St w [a1a 17 A n c (ens q),a1a 2 As ns cs (pus ss)] wr [.blk g7 9 [.string ⟨#[]⟩],.blk g6 3 [.int .i64 0]] (a1a 17 A i c (ens q2)::a1a 17 A n c (ens q)::a1a 2 As ns cs (pus ss)::[])) (fun x _=>i - (intOf x).toNat)
 case atStart=>exact ⟨0,rfl,by omega,Lib.hid (fun f hf=>by simp at hf),hF⟩
 case round=>
  clear hF
  obtain ⟨j,rfl,hj,hup,hF⟩:=hrel
  by_cases hji:j<i
  ·have hlt:=Lib.hid (show decide ((j:Int)<(i:Int))=true by simp;omega)
   obtain ⟨f,hv⟩:∃ f,q2[j]?=some f:=⟨_,List.getElem?_eq_getElem (by omega)⟩
   have hfo:=hq2.out f (List.mem_of_getElem? hv)
   have HKf:=Lib.hid (fun W=>a2o f.inst W hfo.op)
   obtain ⟨fno,fpc,⟨fop,frd,frs1,frs2,fimm⟩,fguess,fis,fleft,fvalue,fnext,faddr,fhalt,ftook,fknown,ffilled⟩:=f
   unfold Ins.val at HKf
   dsimp only at HKf
   have hB:b2l ⟨fno,fpc,⟨fop,frd,frs1,frs2,fimm⟩,fguess,fis,fleft,fvalue,fnext,faddr,fhalt,ftook,fknown,ffilled⟩=(decide (a1e fop=4) && (!fknown || decide (¬ fhalt=0))):=by unfold b2l;simp only [ne_eq]
   obtain ⟨κ,hκ⟩:∃ κ,a1e fop=κ:=⟨_,rfl⟩
   obtain ⟨b4,hb4⟩:∃ b4,decide (κ=4)=b4:=⟨_,rfl⟩
   obtain ⟨bh,hbh⟩:∃ bh,decide (¬ fhalt=0)=bh:=⟨_,rfl⟩
   rw [hκ] at HKf hB
   rw [hb4,hbh] at hB
   have hnx:∀ (hx:b2l ⟨fno,fpc,⟨fop,frd,frs1,frs2,fimm⟩,fguess,fis,fleft,fvalue,fnext,faddr,fhalt,ftook,fknown,ffilled⟩=false),∀ x∈q2.take (j+1),b2l x=false:=fun hx=>h4v hup.out hv hx
   have hyes:=fun hx=>h4w (p:=b2l) hv hx
   replace hb4:=Lib.hid hb4
   replace hbh:=Lib.hid hbh
   clear hκ hfo
   cases b4
   ·have hnx:=Lib.hid (hnx (by rw [hB];rfl))
    clear hB hyes hup
    go_wp2_with ((try simp only [zA,Nat.reduceAdd]);(first|go_big_skip|refine f4k ?_|(go_at_call 39;(have hX:=HKf.out);(with_reducible refine (hX _).mono ?_);clear hX;rintro x wN ⟨rfl,hb⟩;replace hF:=hF.grow hb;clear hb)|(refine b8e ?_;clear hF;(first|intro gN wN hF|intro wN hF|intro hF))|(refine a1d ?_;clear hF;intro vN wN hF)))
    exact d8f
   ·cases fknown
    ·have hR2:=Lib.hid (hR.out.trans (if_pos (hyes (by rw [hB];rfl))))
     clear hB hyes hnx hup
     go_wp2_with ((try simp only [zA,Nat.reduceAdd]);(first|go_big_skip|refine f4l ?_|(go_at_call 39;(have hX:=HKf.out);(with_reducible refine (hX _).mono ?_);clear hX;rintro x wN ⟨rfl,hb⟩;replace hF:=hF.grow hb;clear hb)|(refine b8e ?_;clear hF;(first|intro gN wN hF|intro wN hF|intro hF))|(refine a1d ?_;clear hF;intro vN wN hF)))
     exact d8e
    ·cases bh
     ·have hnx:=Lib.hid (hnx (by rw [hB];rfl))
      clear hB hyes hup
      go_wp2_with ((try simp only [zA,Nat.reduceAdd]);(first|go_big_skip|refine c8f ?_|(go_at_call 39;(have hX:=HKf.out);(with_reducible refine (hX _).mono ?_);clear hX;rintro x wN ⟨rfl,hb⟩;replace hF:=hF.grow hb;clear hb)|(refine b8e ?_;clear hF;(first|intro gN wN hF|intro wN hF|intro hF))|(refine a1d ?_;clear hF;intro vN wN hF)))
      exact d8f
     ·have hR2:=Lib.hid (hR.out.trans (if_pos (hyes (by rw [hB];rfl))))
      clear hB hyes hnx hup
      go_wp2_with ((try simp only [zA,Nat.reduceAdd]);(first|go_big_skip|refine c8f ?_|(go_at_call 39;(have hX:=HKf.out);(with_reducible refine (hX _).mono ?_);clear hX;rintro x wN ⟨rfl,hb⟩;replace hF:=hF.grow hb;clear hb)|(refine b8e ?_;clear hF;(first|intro gN wN hF|intro wN hF|intro hF))|(refine a1d ?_;clear hF;intro vN wN hF)))
      exact d8e
  ·obtain rfl:j=i:=by omega
   have hnb:Hid (q2.any b2l=false):=Lib.hid (by
    have:=hup.out
    rw [List.take_of_length_le (by omega)] at this
    exact List.any_eq_false.2 fun f hf=>by rw [this f hf];decide)
   have hlt:=Lib.hid (show decide ((j:Int)<(j:Int))=false by simp)
   have hR2:=Lib.hid (hR.out.trans (if_neg (by rw [hnb.out];decide)))
   clear hR hup hnb
   have HZ:=fun W=>a7s (⟨op,rd,rs1,rs2,imm⟩:Ins) W
   have hsz:=b5e op
   have hpos:0<n:=by omega
   have haddr2:=haddr.out
   have hinst2:=hinst.out
   unfold Ins.val at HZ
   dsimp only at HZ
   obtain ⟨sz,hsze⟩:∃ sz,a2p op=sz:=⟨_,rfl⟩
   rw [hsze] at HZ hR2 hsz
   replace HZ:=Lib.hid HZ
   clear hsze
   go_upto_region 9 with ((try simp only [zA,Nat.reduceAdd]);(first|go_big_skip|refine c2w ?_|(go_at_call 39;(have hX:=HK.out);(with_reducible refine (hX _).mono ?_);clear hX;rintro x wN ⟨rfl,hb⟩;replace hF:=hF.grow hb;clear hb)|(refine a1s ?_;clear hF;(first|intro gN wN hF|intro wN hF|intro hF))|(refine a1d ?_;clear hF;intro vN wN hF)))
   replace hF:=hF.lessD (D':=[a1a 17 A n c (ens q),a1a 17 A j c (ens q2),a1a 2 As ns cs (pus ss)]) (by ((repeat (first|exact a1f|refine a1m zdm ?_)) <;> exact a1f))
   rename_i K9 hK9
   (try simp only [zA,Nat.reduceAdd])
   go_cut [10,11] from 54 (fun s10 s11 wx=>∃ g10 g11,s10 = .pointer (some ⟨g10,0,none⟩)∧s11 = .pointer (some ⟨g11,0,none⟩)∧St w [a1a 17 A n c (ens q),a1a 2 As ns cs (pus ss)] wx [.blk g11 3 [.int .i64 sz],.blk g10 28 [.int .u32 (addr:Int)],.blk g7 9 [.string ⟨#[]⟩],.blk g6 3 [.int .i64 0]] [a1a 17 A n c (ens q),a1a 17 A j c (ens q2),a1a 2 As ns cs (pus ss)])
   case first=>
    refine a1n (by kernel_rfl) hF _ _ (fun _ h=>h) (fun _ h=>h) ?_
    clear hF;intro hF hH
    refine a1c 0 hH ?_
    refine a1c 1 hH ?_
    refine zk2 2 hH ?_
    refine zk1 3 hH ?_
    refine zk6 4 hH ?_
    refine a1c 5 hH ?_
    refine a1c 6 hH ?_
    refine zk2 7 hH ?_
    refine zk1 8 hH ?_
    refine zk6 9 hH ?_
    refine wpAnyH_ready (rs:=[10,11,12]) (by kernel_rfl) (by simp) (a2d rfl (fun K hK=>?_) (a2d rfl (fun K hK=>?_) (a2d rfl (fun K hK=>?_) AllReadyH.nil)))
    ·go_wp2_with ((refine b3y ?_;clear hF;intro wN hF))
     have hH:=zx0 hH hF;refine hK.out _ _ hH ?_;clear hK;(try simp only [zA,Nat.reduceAdd])
     refine wpAnyH_ready (rs:=[11,12]) (by kernel_rfl) (by simp) (a2d rfl (fun K hK=>?_) (a2d rfl (fun K hK=>?_) AllReadyH.nil))
     ·go_wp2_with ((refine w_alloc rfl hF ?_;clear hF;intro gN wN hF);(try simp only [zA,Nat.reduceAdd]))
      have hH:=zx0 hH hF;refine hK.out _ _ hH ?_;clear hK;(try simp only [zA,Nat.reduceAdd])
      refine zry 12 (fun K hK=>?_)
      exact c1z
     ·go_wp2_with ((refine w_alloc rfl hF ?_;clear hF;intro gN wN hF);(try simp only [zA,Nat.reduceAdd]))
      have hH:=zx0 hH hF;refine hK.out _ _ hH ?_;clear hK;(try simp only [zA,Nat.reduceAdd])
      refine zry 11 (fun K hK=>?_)
      exact c1z
    ·go_wp2_with ((refine w_alloc rfl hF ?_;clear hF;intro gN wN hF);(try simp only [zA,Nat.reduceAdd]))
     have hH:=zx0 hH hF;refine hK.out _ _ hH ?_;clear hK;(try simp only [zA,Nat.reduceAdd])
     refine wpAnyH_ready (rs:=[10,12]) (by kernel_rfl) (by simp) (a2d rfl (fun K hK=>?_) (a2d rfl (fun K hK=>?_) AllReadyH.nil))
     ·go_wp2_with ((refine b3y ?_;clear hF;intro wN hF))
      have hH:=zx0 hH hF;refine hK.out _ _ hH ?_;clear hK;(try simp only [zA,Nat.reduceAdd])
      refine zry 12 (fun K hK=>?_)
      exact c1z
     ·go_wp2_with ((refine w_alloc rfl hF ?_;clear hF;intro gN wN hF);(try simp only [zA,Nat.reduceAdd]))
      exact d8d
    ·go_wp2_with ((refine w_alloc rfl hF ?_;clear hF;intro gN wN hF);(try simp only [zA,Nat.reduceAdd]))
     have hH:=zx0 hH hF;refine hK.out _ _ hH ?_;clear hK;(try simp only [zA,Nat.reduceAdd])
     refine wpAnyH_ready (rs:=[10,11]) (by kernel_rfl) (by simp) (a2d rfl (fun K hK=>?_) (a2d rfl (fun K hK=>?_) AllReadyH.nil))
     ·go_wp2_with ((refine b3y ?_;clear hF;intro wN hF))
      have hH:=zx0 hH hF;refine hK.out _ _ hH ?_;clear hK;(try simp only [zA,Nat.reduceAdd])
      refine zry 11 (fun K hK=>?_)
      exact c1z
     ·go_wp2_with ((refine w_alloc rfl hF ?_;clear hF;intro gN wN hF);(try simp only [zA,Nat.reduceAdd]))
      exact d8d
   case rest=>
    obtain ⟨g10,g11,rfl,rfl,hF⟩:=hcut
    refine hK9 _ _ ?_
    clear hK9
    (try go_wp2_with fail)
    go_step3
    go_wp2_with ((try simp only [zA,Nat.reduceAdd]);(first|go_big_skip|(go_at_call 203;refine (h4s _ _ _ _ _ _ _).mono ?_;rintro x WB ⟨g1,g2,rfl,hb,hk1,hk2⟩;replace hF:=hF.grow hb)|refine a7u ?_|(refine a1s ?_;clear hF;(first|intro gN wN hF|intro wN hF|intro hF))|(refine a1d ?_;clear hF;intro vN wN hF)))
    rename_i K17 hK17
    have b11:=hF.bkAt at0
    have b10:=hF.bkAt at1
    have b7:=hF.bkAt at2
    have b6:=hF.bkAt at3
    have hg7:w.heap.size≤g7:=(hF.mu 2 _ at2).2
    have hg6:w.heap.size≤g6:=(hF.mu 3 _ at3).2
    have hwB:=hF.bel
    have hszB:w.heap.size≤WB.heap.size:=hwB.size
    have hr0:Rd WB WB.heap.size 17 A j c (ens q2):=hF.rdA
    have hrs0:Rd WB WB.heap.size 2 As ns cs (pus ss):=hF.rdA
    have hne:g6≠g7:=fun e=>by
     have h1:=b6.cell 0
     have h2:=b7.cell 0
     rw [e] at h1
     rw [h1] at h2
     simp at h2
    have had:addr<4294967296:=he.out.a
    have hso:=Lib.hid (h4x hq2.out hss.out)
    have hss1:=hss.out
    have hq21:=hq2.out
    have hFB:=hF
    clear hF HZ haddr2 hinst2 hb
    refine (wpIn_wide (n:=9)).1 ?_
    refine wpIn_rangeFunc_ownH (P:=Tryz.prog) (F:=Fence.wide) (n:=9) rfl (by omega) (gf:=214) (lb:=#[.pointer (some ⟨g1,0,none⟩),.pointer (some ⟨g2,0,none⟩)]) rfl trivial (enters_of Tryz.func214 (by kernel_rfl) rfl)
     (h2y 8 (by omega) g1 g2 A j c As ns cs q2 ss WB hk1.lt hk2.lt hq21 (by omega) hns hss1 (hk1.cell 0) (hk2.cell 0) hr0 hrs0) belowK_t (belowK_b (Nat.le_refl _)) (Below.refl _ _) (fun _=>rfl)
     (fun pre W=>(∀ x∈pre,a6z (a5a x).addr (a5a x).size addr sz=false)∧Below WB.heap.size WB W)
     (fun cd pre W=>(cd = .ret ∧ ∃ ini last,pre=ini++[last]∧(∀ x∈ini,a6z (a5a x).addr (a5a x).size addr sz=false)∧a6z (a5a last).addr (a5a last).size addr sz=true ∧
      W.cell? ⟨g6,0,none⟩=some (.int .i64 (a6f addr sz [a5a last]).1)∧W.cell? ⟨g7,0,none⟩=some (.string (a6f addr sz [a5a last]).2))∧Below w.heap.size w W)
     (OwnFrom.and (ownFrom_pure _ _) (ownFrom_below (Nat.le_refl _) (Nat.le_refl _)))
     (fun cd=>OwnFrom.and (Own.from (fun s A B row hs hg hr=>by obtain ⟨hc,ini,last,e1,e2,e3,e4,e5⟩:=hs;exact ⟨hc,ini,last,e1,e2,e3,cell_kept e4 hg hr,cell_kept e5 hg hr⟩) _) (ownFrom_below (Nat.le_refl _) hszB))
     ⟨by simp,Below.refl _ _⟩
     (fun x a' W=>∃ Bx,WB.heap.size≤Bx∧Bk W Bx 259 (a5a x).cells∧a'={ tmps:=#[.slice A n c,.slice As ns cs,.int .i64 (j:Int),undef,undef,undef,.pointer (some ⟨g6,0,none⟩),.pointer (some ⟨g7,0,none⟩),undef,u9,.pointer (some ⟨g10,0,none⟩),.pointer (some ⟨g11,0,none⟩),.pointer (some ⟨Bx,0,none⟩),undef,.int .i64 (j:Int),.bool false,.bool false,.int .i64 (j:Int),.slice A n c,.int .i64 (n:Int),.bool false,.bool false,.bool false,.slice A n c,.int .i64 (j:Int),ept A (j * 17),ept A (j * 17+2),.agg #[.int .i64 op,.int .i64 rd,.int .i64 rs1,.int .i64 rs2,.int .u32 (imm:Int)],.int .i64 3,.bool false,.bool false,.slice A n c,.int .i64 (j:Int),.slice A j c,.int .i64 (j:Int),.int .i64 (j:Int),.bool false,u37,u38,u39,u40,u41,u42,u43,u44,u45,u46,u47,u48,u49,u50,u51,u52,u53,u54,u55,u56,u57,u58,u59,u60,u61,u62,u63,u64,.slice A n c,.int .i64 (j:Int),.slice A j c,.slice As ns cs,.func (.func 214) #[] #[.pointer (some ⟨g1,0,none⟩),.pointer (some ⟨g2,0,none⟩)],(a5a x).val,u71,u72,u73,u74,u75,u76,u77,u78,u79,u80,u81,u82,u83,u84,u85,u86,u87,u88,u89,u90,u91,u92,u93,u94,u95,u96,u97,u98,u99,u100,u101,u102,u103],defers:=[] })
     (fun x a' _ X Y row hs hg hr=>by
      obtain ⟨Bx,h1,h2,h3⟩:=hs
      refine ⟨Bx,h1,h2.grown hg (fun e=>?_),h3⟩
      obtain ⟨_,o,ho,hc⟩:=hr _ e.symm
      obtain ⟨r,hg2,_⟩:=h2
      rw [ho] at hg2
      cases hg2
      cases hc)
     ?assign ?body ?done ?stop
    case assign=>
     rintro l pre x W K ⟨hp,hB⟩ hK
     gi_wp2_with (refine d2w rfl 259 (.tmp 12) (.tmp 70) (by rfl) W.heap.size (a5a x).cells (by rfl) (by rfl) 259 zsd.cells ?_ rfl h4y ?_ ?_;exact Bk.new W _ zsd.cells;exact (a5a x).one;intro w1 hk1 hs1 ho1 hbe1)
     have hbel:Bel W w1:=hbe1 _ (Bel.alloc _ _) (Nat.le_refl _)
     exact hK _ _ (b3k hbel _) (hbel.mono hB.size) ⟨hp,hB.trans (hbel.mono hB.size)⟩ ⟨_,hB.size,hk1,rfl⟩
    case body=>
     rintro l pre x a' W hl ⟨r,hr⟩ ⟨hp,hB⟩ ⟨Bx,hBx,bX,rfl⟩ hlt
     have hok:=h2r x
     generalize hy:a5a x=y at hok bX ⊢
     obtain ⟨xa,xs,xd,xt⟩:=y
     obtain ⟨ho1,ho2,ho3,ho4⟩:=hok
     dsimp only at ho1 ho2 ho3 ho4
     have c0:=bX.cell 0
     have c1:=bX.cell 1
     have c2:=bX.cell 2
     have c3:=bX.cell 3
     dsimp only [Sd.cells,List.getElem?_cons_succ,List.getElem?_cons_zero] at c0 c1 c2 c3
     have ca:W.cell? ⟨g10,0,none⟩=some (.int .u32 (addr:Int)):=(hB.cell (p:=⟨g10,0,none⟩) b10.lt).trans (b10.cell 0)
     have cn:W.cell? ⟨g11,0,none⟩=some (.int .i64 sz):=(hB.cell (p:=⟨g11,0,none⟩) b11.lt).trans (b11.cell 0)
     have c6:W.cell? ⟨g6,0,none⟩=some (.int .i64 0):=(hB.cell (p:=⟨g6,0,none⟩) b6.lt).trans (b6.cell 0)
     have c7:W.cell? ⟨g7,0,none⟩=some (.string ⟨#[]⟩):=(hB.cell (p:=⟨g7,0,none⟩) b7.lt).trans (b7.cell 0)
     have f6:W.frozen? ⟨g6,0,none⟩=false:=(hB.frozen (p:=⟨g6,0,none⟩) b6.lt).trans (b6.frozen (i:=0) (by simp))
     have f7:W.frozen? ⟨g7,0,none⟩=false:=(hB.frozen (p:=⟨g7,0,none⟩) b7.lt).trans (b7.frozen (i:=0) (by simp))
     have hww:WB.heap.size≤W.heap.size:=hB.size
     have hmx:Tryz.prog.follows .mixedOrders=true:=by kernel_rfl
     have HLa:=fun W=>g3h xa xs addr sz W ho1 (by unfold okI;omega) had (by unfold okI;omega)
     have HHo:=fun W=>g3i xa xs addr sz W ho1 (by unfold okI;omega) had (by unfold okI;omega)
     have hI:a6z (a5a x).addr (a5a x).size addr sz=a6z xa xs addr sz:=by rw [hy]
     have hS:a6f addr sz [a5a x]=if a6z xa xs addr sz=false then (2,⟨#[]⟩) else if b2a xa xs addr sz=false∨xt=false then (0,⟨#[]⟩) else (1,xd.extract (addr - xa) (addr - xa+sz.toNat)):=by rw [hy];rfl
     have hbnd:b2a xa xs addr sz=true→xa≤addr∧(addr:Int)+sz≤xa+xs:=fun h=>by
      simp only [b2a,Bool.and_eq_true,decide_eq_true_eq] at h
      have h3:=h.2.2
      unfold a6c at h3
      rw [Int.max_eq_left hsz.1,Int.max_eq_left ho2] at h3
      omega
     obtain ⟨lb,hlb⟩:∃ b,a6z xa xs addr sz=b:=⟨_,rfl⟩
     obtain ⟨hb,hhb⟩:∃ b,b2a xa xs addr sz=b:=⟨_,rfl⟩
     rw [hlb] at HLa hI hS
     rw [hhb] at HHo hS hbnd
     replace HLa:=Lib.hid HLa
     replace HHo:=Lib.hid HHo
     replace hI:=Lib.hid hI
     replace hp:=Lib.hid hp
     have hwW:Below w.heap.size w W:=hwB.trans hB
     clear hlb hhb hy
     cases lb
     ·clear hS hbnd
      gi_wp2_with (refine ⟨trivial,?_⟩;gi_at_call 204;refine (CallsIn.inRound l (callsIn_wide.2 (HLa.out _))).mono ?_;rintro e w1 ⟨rfl,hb1⟩;have d0:=hb1.cell_of c0;have d1:=hb1.cell_of c1;have d2:=hb1.cell_of c2;have d3:=hb1.cell_of c3;have da:=hb1.cell_of ca;have dn:=hb1.cell_of cn;have d6:=hb1.cell_of c6;have d7:=hb1.cell_of c7;have e6:=(hb1.frozen (p:=⟨g6,0,none⟩) (World.block_lt_of_cell? _ _ c6)).trans f6;have e7:=(hb1.frozen (p:=⟨g7,0,none⟩) (World.block_lt_of_cell? _ _ c7)).trans f7)
      have hb2:Below WB.heap.size W w1:=hb1.mono hww
      exact ⟨b3k hb1 _,hb2,fun z hz=>(List.mem_append.1 hz).elim (hp.out z) (fun h=>by rw [List.mem_singleton.1 h];exact hI.out),hB.trans hb2⟩
     ·rw [if_neg (by decide)] at hS
      cases hb
      ·rw [if_pos (.inl rfl)] at hS
       exact d8b
      ·cases xt
       ·rw [if_pos (.inr rfl)] at hS
        exact d8b
       ·rw [if_neg (fun h=>h.elim (fun h=>by cases h) (fun h=>by cases h))] at hS
        obtain ⟨hb3,hb4⟩:=hbnd rfl
        replace hS:=Lib.hid hS
        obtain ⟨SM,hSM⟩:∃ SM,(addr:Int) - (xa:Int)+sz=SM:=⟨_,rfl⟩
        have hsl:Hid (∀ W:World,(Instr.sliceAt 9 (.string xd) (some (.int .i64 ((addr:Int) - (xa:Int)))) (some (.int .i64 SM)) none).run Tryz.prog W = .ok (.string (xd.extract (addr - xa) (addr - xa+sz.toNat))) W):=Lib.hid fun W=>by
         have e1:(addr:Int) - (xa:Int)=((addr - xa:Nat):Int):=by omega
         have e2:sz=((sz.toNat:Nat):Int):=by omega
         rw [run_sliceAt_string (P:=Tryz.prog) W 9 _ _ _ _ Tryz.underlying9,← hSM,e1,e2]
         exact c8r (P:=Tryz.prog) 9 Tryz.underlying9 xd (addr - xa) sz.toNat (by omega) W
        gi_wp2_with (first|(refine ⟨trivial,?_⟩;gi_at_call 204;refine (CallsIn.inRound l (callsIn_wide.2 (HLa.out _))).mono ?_;rintro e w1 ⟨rfl,hb1⟩;have d0:=hb1.cell_of c0;have d1:=hb1.cell_of c1;have d2:=hb1.cell_of c2;have d3:=hb1.cell_of c3;have da:=hb1.cell_of ca;have dn:=hb1.cell_of cn;have d6:=hb1.cell_of c6;have d7:=hb1.cell_of c7;have e6:=(hb1.frozen (p:=⟨g6,0,none⟩) (World.block_lt_of_cell? _ _ c6)).trans f6;have e7:=(hb1.frozen (p:=⟨g7,0,none⟩) (World.block_lt_of_cell? _ _ c7)).trans f7)|(refine ⟨trivial,?_⟩;gi_at_call 205;refine (CallsIn.inRound l (callsIn_wide.2 (HHo.out _))).mono ?_;rintro e w2 ⟨rfl,hb2⟩;have k0:=hb2.cell_of d0;have k1:=hb2.cell_of d1;have k2:=hb2.cell_of d2;have k3:=hb2.cell_of d3;have ka:=hb2.cell_of da;have kn:=hb2.cell_of dn;have k6:=hb2.cell_of d6;have k7:=hb2.cell_of d7;have m6:=(hb2.frozen (p:=⟨g6,0,none⟩) (World.block_lt_of_cell? _ _ d6)).trans e6;have m7:=(hb2.frozen (p:=⟨g7,0,none⟩) (World.block_lt_of_cell? _ _ d7)).trans e7))
        have hF:=hFB.adopt ((show Bel WB W from hB).trans (hb1.trans hb2)) (bX.bel (hb1.trans hb2)) hBx
        have hkf:=b3k (hb1.trans hb2) WB.heap.size
        replace hF:=hF.keeps WB.heap.size hszB
        refine g2h (by rintro ⟨_,_,h⟩;exact h) (by kernel_rfl) (by kernel_rfl) hF [.blk Bx 259 [.int .u32 (xa:Int),.int .i64 xs,.string xd,.bool true],.blk g11 3 [.int .i64 sz]] _ (by ((repeat (first|exact a1f|refine a1m zdm ?_)) <;> exact a1f)) (by first|exact fun _ h=>h|((repeat (first|exact a1f|refine a1m zdm ?_)) <;> exact a1f)) ?_
        clear hF;intro hF hH
        refine zk1 0 hH ?_
        refine zk6 1 hH ?_
        refine a1c 2 hH ?_
        refine a1c 3 hH ?_
        refine zk6 4 hH ?_
        first|(refine a1p (i:=5) rfl (b4o rfl rfl rfl) hH ?_;(try simp only [zA,Nat.reduceAdd]))|(refine a1p (i:=5) rfl (b4p rfl rfl rfl) hH ?_;(try simp only [zA,Nat.reduceAdd]))|refine zp 5 hH ?_
        refine wpAnyH_ready (rs:=[6,7]) (by kernel_rfl) (by simp) (a2d rfl (fun K hK=>?_) (a2d rfl (fun K hK=>?_) AllReadyH.nil))
        ·go_wp2_with ((first|((refine w_slf rfl rfl rfl rfl hsl ?_);(try simp only [zA,Nat.reduceAdd]))|((first|refine zrg ?_|(refine zst ?_;clear hF;(first|intro gN wN hF|intro wN hF|intro hF))|(refine zap ?_;clear hF;intro vN wN hF));(try simp only [zA,Nat.reduceAdd]))))
         have hH:=zx0 hH hF;refine hK.out _ _ hH ?_;clear hK;(try simp only [zA,Nat.reduceAdd])
         refine zry 7 (fun K hK=>?_)
         go_wp2_with ((first|((refine w_slf rfl rfl rfl rfl hsl ?_);(try simp only [zA,Nat.reduceAdd]))|(refine w_st1 rfl hF rfl rfl ?_;clear hF;intro wN hF)|(refine w_st rfl hF rfl rfl ?_;clear hF;intro wN hF)|(refine w_st1o rfl hF rfl rfl ?_;clear hF;intro wN hF));(try simp only [zA,Nat.reduceAdd]))
         exact d8c
        ·go_wp2_with ((first|((refine w_slf rfl rfl rfl rfl hsl ?_);(try simp only [zA,Nat.reduceAdd]))|(refine w_st1 rfl hF rfl rfl ?_;clear hF;intro wN hF)|(refine w_st rfl hF rfl rfl ?_;clear hF;intro wN hF)|(refine w_st1o rfl hF rfl rfl ?_;clear hF;intro wN hF));(try simp only [zA,Nat.reduceAdd]))
         have hH:=zx0 hH hF;refine hK.out _ _ hH ?_;clear hK;(try simp only [zA,Nat.reduceAdd])
         refine zry 6 (fun K hK=>?_)
         go_wp2_with ((first|((refine w_slf rfl rfl rfl rfl hsl ?_);(try simp only [zA,Nat.reduceAdd]))|((first|refine zrg ?_|(refine zst ?_;clear hF;(first|intro gN wN hF|intro wN hF|intro hF))|(refine zap ?_;clear hF;intro vN wN hF));(try simp only [zA,Nat.reduceAdd]))))
         exact d8c
    case done=>
     rintro DD ys W hD rfl ⟨hp,hB⟩ hK
     refine hK17 _ _ ?_
     have hR3:=Lib.hid (hR2.out.trans (d8g _ fun x hx=>by have h:=hp x hx;rwa [c1v (hso.out x hx)] at h))
     have c6:W.cell? ⟨g6,0,none⟩=some (.int .i64 0):=(hB.cell (p:=⟨g6,0,none⟩) b6.lt).trans (b6.cell 0)
     have c7:W.cell? ⟨g7,0,none⟩=some (.string ⟨#[]⟩):=(hB.cell (p:=⟨g7,0,none⟩) b7.lt).trans (b7.cell 0)
     have f6:W.frozen? ⟨g6,0,none⟩=false:=(hB.frozen (p:=⟨g6,0,none⟩) b6.lt).trans (b6.frozen (i:=0) (by simp))
     have f7:W.frozen? ⟨g7,0,none⟩=false:=(hB.frozen (p:=⟨g7,0,none⟩) b7.lt).trans (b7.frozen (i:=0) (by simp))
     have hwW:Below w.heap.size w W:=hwB.trans hB
     clear hp hK17
     go_wp2
     have hK1:=(KeepsOthers.setCell W ⟨g6,0,none⟩ (.int .i64 2)).same DD _ hK rfl
     have hK2:=(KeepsOthers.setCell _ ⟨g7,0,none⟩ (.string ⟨#[]⟩)).same DD _ hK1 rfl
     have d6:=two_cells6 hne c6 c7 (.int .i64 2) (.string ⟨#[]⟩)
     have d7:=two_cells7 hne c6 c7 (.int .i64 2) (.string ⟨#[]⟩)
     refine ⟨by simp,.inl ⟨_,_,rfl,run_takeDeferred hK2,?_⟩⟩
     have e6:=cell_kept d6 (grownBy_putObj' _ DD (.deferred none)) (fun r e=>by cases e;exact ⟨_,hK2,rfl⟩)
     have e7:=cell_kept d7 (grownBy_putObj' _ DD (.deferred none)) (fun r e=>by cases e;exact ⟨_,hK2,rfl⟩)
     refine ⟨.tuple #[.int .i64 2,.string ⟨#[]⟩],dec_results rfl rfl e6 e7,⟨by rw [hR3.out],?_⟩⟩
     exact ((hwW.setCell (p:=⟨g6,0,none⟩) hg6 _).setCell (p:=⟨g7,0,none⟩) hg7 _).trans (belowK_b (w:=w) (Nat.le_refl _) _ DD _ _ (by omega) hK2 rfl rfl)
    case stop=>
     rintro DD cd pre W hD ⟨rest,hpre⟩ ⟨⟨rfl,ini,last,rfl,e2,e3,h6,h7⟩,hB⟩ hK
     have hmem:∀ x,x∈ini++[last]→x∈a6e q2 ss:=fun x hx=>by rw [← hpre];exact List.mem_append_left _ hx
     rw [c1v (hso.out last (hmem last (by simp)))] at e3 h6 h7
     have hse:=d8h (rest:=rest) e3 ini (fun x hx=>by have h:=e2 x hx;rwa [c1v (hso.out x (hmem x (by simp [hx])))] at h)
     rw [show ini++last::rest=a6e q2 ss by rw [← hpre];simp] at hse
     have hR3:=Lib.hid (hR2.out.trans hse)
     clear e2 e3 hpre hse hmem hK17
     gi_wp2
     refine ⟨by simp,.inl ⟨_,_,rfl,run_takeDeferred hK,?_⟩⟩
     have e6:=cell_kept h6 (grownBy_putObj' _ DD (.deferred none)) (fun r e=>by cases e;exact ⟨_,hK,rfl⟩)
     have e7:=cell_kept h7 (grownBy_putObj' _ DD (.deferred none)) (fun r e=>by cases e;exact ⟨_,hK,rfl⟩)
     refine ⟨.tuple #[.int .i64 (a6f addr sz [last]).1,.string (a6f addr sz [last]).2],dec_results rfl rfl e6 e7,⟨by rw [hR3.out],?_⟩⟩
     exact hB.trans (belowK_b (w:=w) (Nat.le_refl _) W DD _ _ (by omega) hK rfl rfl)
end
end Go.Proofs.YtgnomadgnciifaaGreatDoor
