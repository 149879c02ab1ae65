/- . -/
import Derived.Test.YtgnomadgnciifaaGreatDoorY1
import Derived.Test.YtgnomadgnciifaaGreatDoorZ47
import Derived.Deep.CutBlock
set_option linter.unusedVariables false
set_option linter.unusedSimpArgs false
set_option linter.unusedSectionVars false
set_option maxRecDepth 100000
set_option maxHeartbeats 16000000
namespace Go.Proofs.YtgnomadgnciifaaGreatDoor
section
open Go.RowKit Go.Shelf Wd
attribute [local go_sem] Oper.semAt_some
instance (s : Sd):Decidable (okS s):=by unfold okS;infer_instance
end
section
open Go.RowKit Wd
structure Snr where
 a1:Option Addr
 n1:Nat
 c1:Nat
 S1:List Cs
 a2:Option Addr
 n2:Nat
 c2:Nat
 S2:List Cs
 a3:Option Addr
 n3:Nat
 c3:Nat
 bus:List Rq
 a4:Option Addr
 n4:Nat
 c4:Nat
 pcs:List Nat
def Snr.cells (r:Snr):List Value:=[.slice r.a1 r.n1 r.c1,.slice r.a2 r.n2 r.c2,.slice r.a3 r.n3 r.c3,.slice r.a4 r.n4 r.c4]
def Snr.das (r:Snr):List Da:=[a1a 1 r.a1 r.n1 r.c1 (csv r.S1),a1l r.S1,a1a 1 r.a2 r.n2 r.c2 (csv r.S2),a1l r.S2,a1a 4 r.a3 r.n3 r.c3 (rqs r.bus),a1a 1 r.a4 r.n4 r.c4 (u32v r.pcs)]
def Snr.sn (r:Snr):Sn:=⟨a1j r.S1,a1j r.S2,r.bus,r.pcs⟩
theorem Snr.one (r:Snr):∀ u∈r.cells,u.oneCell'=true:=by
 unfold Snr.cells
 repeat (first|exact b2y|refine b4c rfl ?_)
def snv (q:List Snr):List Value:=q.flatMap Snr.cells
instance snvRows : Rows snv Snr.cells 4:=⟨fun _=>rfl,fun _=>rfl,Snr.one,by decide⟩
instance snrOne (r:Snr):OneC r.cells:=⟨r.one⟩
def a4k (L:List Snr):Da where
 ok w:=∀ r∈L,∀ d∈r.das,d.ok w
 bl g:=∃ r∈L,∃ d∈r.das,d.bl g
 keep {w w'} hk hs h:=fun r hr d hd=>d.keep (fun g hg=>hk g ⟨r,hr,d,hd,hg⟩) hs (h r hr d hd)
 lt {w} h g hg:=by obtain ⟨r,hr,d,hd,hg⟩:=hg;exact d.lt (h r hr d hd) g hg
section
variable {w0 w:World} {D0 D:List Da} {M:List Mu}
theorem St.parts (h:St w0 D0 w M D):∀ (ds:List Da),(∀ d∈ds,d.ok w)→(∀ d∈ds,∀ g,d.bl g → ∃ e∈D,e.bl g)→St w0 D0 w M (ds++D)
 | [],_,_=>h
 | d::ds,h1,h2=>(h.parts ds (fun e he=>h1 e (List.mem_cons_of_mem _ he)) (fun e he=>h2 e (List.mem_cons_of_mem _ he))).part d (h1 d (List.mem_cons_self ..)) fun g hg=>by
  obtain ⟨e,he,hb⟩:=h2 d (List.mem_cons_self ..) g hg
  exact ⟨e,List.mem_append_right _ he,hb⟩
theorem St.sndAt (h:St w0 D0 w M D) {L:List Snr} (hL:a4k L∈D) {k:Nat} {r:Snr} (hr:L[k]?=some r):St w0 D0 w M (r.das++D) :=
 h.parts _ (fun d hd=>(h.dat _ hL:(a4k L).ok w) r (List.mem_of_getElem? hr) d hd) fun d hd g hg=>⟨_,hL,r,List.mem_of_getElem? hr,d,hd,hg⟩
theorem St.sndNil (h:St w0 D0 w M D):St w0 D0 w M (a4k []::D):=h.part _ (fun r hr=>(by cases hr)) fun g hg=>(by obtain ⟨r,hr,_⟩:=hg;cases hr)
theorem St.sndApp (h:St w0 D0 w M D) {L:List Snr} (hL:a4k L∈D) {r:Snr} (hr:∀ d∈r.das,d∈D):St w0 D0 w M (a4k (L++[r])::D) :=
 h.part _ (fun x hx d hd=>by
  rcases List.mem_append.1 hx with hx|hx
  ·exact (h.dat _ hL:(a4k L).ok w) x hx d hd
  ·obtain rfl:=List.mem_singleton.1 hx
   exact h.dat _ (hr d hd)) fun g hg=>by
  obtain ⟨x,hx,d,hd,hg⟩:=hg
  rcases List.mem_append.1 hx with hx|hx
  ·exact ⟨_,hL,x,hx,d,hd,hg⟩
  ·obtain rfl:=List.mem_singleton.1 hx
   exact ⟨d,hr d hd,hg⟩
end
def b5p (k:Kern) (s:Sls):List Da:=[a1a 1 s.dA k.data.length s.dC (csv s.dS),a1l s.dS,a1a 1 s.wA k.words.length s.wC (csv s.wS),a1l s.wS,a1a 4 s.busA k.bus.length s.busC (rqs k.bus),a1a 9 s.reA k.retired.length s.reC (sts k.retired)]
theorem f1v {k:Kern} {s:Sls} (hfit:FitC k s):∀ d∈b5p k s,d∈a4s k s:=by
 unfold b5p a4s kD
 rw [hfit.feO,hfit.stO,hfit.reO,a1h,a1h,a1h]
 repeat (refine a1m ?_ ?_;focus (exact zdm))
 exact a1f
def b5q (q:List Rq):List Rq:=q.map fun r=>⟨r.kind,r.line,0,⟨#[]⟩⟩
theorem i1n {q:List Rq} {j:Nat} {r:Rq} (h:q[j]?=some r):rqs (b5q (q.take j))++[.int .i64 r.kind,.int .u32 (r.line:Int),.int .i64 0,.string ⟨#[]⟩]=rqs (b5q (q.take (j+1))):=by
 obtain ⟨hl,e⟩:=List.getElem?_eq_some_iff.1 h
 unfold b5q
 rw [List.take_succ_eq_append_getElem hl,List.map_append,c9c,e]
 rfl
theorem i1o {q:List Stp} {b j:Nat} {r:Stp} (h:q[b+j]?=some r):u32v (((q.drop b).take j).map (·.pc))++[.int .u32 (r.pc:Int)]=u32v (((q.drop b).take (j+1)).map (·.pc)):=by
 have h':(q.drop b)[j]?=some r:=by rw [List.getElem?_drop];exact h
 obtain ⟨hl,e⟩:=List.getElem?_eq_some_iff.1 h'
 rw [List.take_succ_eq_append_getElem hl,List.map_append,u32v_append,e]
 rfl
theorem i1p {k:Kern} {s:Sls} {B:Int} (hk:KOk B k) (hfit:FitC k s) (b:Nat) (hb:b≤k.retired.length) (w:World) (hD:∀ d∈b5p k s,d.ok w) :
  Calls Tryz.prog 46 #[.agg (mcells k s).toArray,.int .i64 (b:Int)] w fun x w'=>∃ r:Snr,r.sn=b7r k b∧x = .returned (.agg r.cells.toArray)∧Out w (b5p k s) w' r.das:=by
 have hF:=St.start w (b5p k s) hD
 unfold b5p at hF ⊢
 have HT1:=Lib.hid (fun (W:World) (h:RdS W W.heap.size s.dA k.data.length s.dC s.dS)=>show Calls Tryz.prog 109 #[.agg #[.int .i64 k.dways,.slice s.dA k.data.length s.dC]] W fun e w'=>∃ y,e = .returned y ∧ ∃ A n c S,y = .slice A n c∧Out W [a1a 1 s.dA k.data.length s.dC (csv s.dS),a1l s.dS] w' [a1a 1 A n c (csv S),a1l S]∧a1j S=a7t k.data from
  f1e (by have:=hk.dok;rw [← hfit.data] at this;exact this.sok) (by rw [hfit.data];exact .inl ⟨hk.data,rfl⟩) W h)
 have HT2:=Lib.hid (fun (W:World) (h:RdS W W.heap.size s.wA k.words.length s.wC s.wS)=>show Calls Tryz.prog 109 #[.agg #[.int .i64 k.wways,.slice s.wA k.words.length s.wC]] W fun e w'=>∃ y,e = .returned y ∧ ∃ A n c S,y = .slice A n c∧Out W [a1a 1 s.wA k.words.length s.wC (csv s.wS),a1l s.wS] w' [a1a 1 A n c (csv S),a1l S]∧a1j S=a7t k.words from
  f1e (by have:=hk.wok;rw [← hfit.words] at this;exact this.sok) (by rw [hfit.words];exact .inl ⟨hk.words,rfl⟩) W h)
 have hbl:k.bus.length≤1000000:=by have:=hk.buslen;have:=hk.bound;omega
 have hrl:k.retired.length≤1000000:=by have:=hk.retlen;have:=hk.bound;omega
 clear hD hk hfit
 go_enter Tryz.func46,Tryz.ntmps46
 go_upto_region 1 with ((try simp only [zA,Nat.reduceAdd]);(first|go_big_skip|((refine w_box (cs:=mcells k s) rfl hF rfl ?_);clear hF;intro gK wN hF;(try simp only [zA,Nat.reduceAdd]))|(refine w_alloc (ty:=92) (cs:=[.slice none 0 0,.slice none 0 0,.slice none 0 0,.slice none 0 0]) rfl hF ?_;clear hF;intro gR wN hF;(try simp only [zA,Nat.reduceAdd]))))
 rename_i K hK
 go_cut [5] (fun s5 wx=>∃ g5 A1 n1 c1 S1 A2 n2 c2 S2,s5 = .pointer (some ⟨g5,0,none⟩)∧Hid (a1j S1=a7t k.data)∧Hid (a1j S2=a7t k.words)∧St w [a1a 1 s.dA k.data.length s.dC (csv s.dS),a1l s.dS,a1a 1 s.wA k.words.length s.wC (csv s.wS),a1l s.wS,a1a 4 s.busA k.bus.length s.busC (rqs k.bus),a1a 9 s.reA k.retired.length s.reC (sts k.retired)] wx [.blk g5 92 [.slice A1 n1 c1,.slice A2 n2 c2,.slice none 0 0,.slice none 0 0],.blk gR 92 [.slice none 0 0,.slice none 0 0,.slice none 0 0,.slice none 0 0],.blk gK 42 (mcells k s)] [a1a 1 A1 n1 c1 (csv S1),a1l S1,a1a 1 A2 n2 c2 (csv S2),a1l S2,a1a 1 s.dA k.data.length s.dC (csv s.dS),a1l s.dS,a1a 1 s.wA k.words.length s.wC (csv s.wS),a1l s.wS,a1a 4 s.busA k.bus.length s.busC (rqs k.bus),a1a 9 s.reA k.retired.length s.reC (sts k.retired)])
 case first=>
  refine a1n (by kernel_rfl) hF _ _ (fun _ h=>h) (fun _ h=>h) ?_
  clear hF;intro hF hH
  refine zk1 0 hH ?_
  (first|refine a1p (i:=1) rfl (a5d rfl rfl) hH ?_|refine a1p (i:=1) rfl (y_ld1o rfl rfl) hH ?_|refine a1p (i:=1) rfl (a5z rfl rfl) hH ?_|refine a1p (i:=1) rfl (y_ldp rfl rfl) hH ?_|refine a1p (i:=1) rfl (a6a rfl rfl) hH ?_|refine a1p (i:=1) rfl (a3j rfl rfl) hH ?_|refine a1p (i:=1) rfl (a3j rfl rfl (hu:=by assumption)) hH ?_);(try simp only [zA,Nat.reduceAdd])
  refine zk1 3 hH ?_
  (first|refine a1p (i:=4) rfl (a5d rfl rfl) hH ?_|refine a1p (i:=4) rfl (y_ld1o rfl rfl) hH ?_|refine a1p (i:=4) rfl (a5z rfl rfl) hH ?_|refine a1p (i:=4) rfl (y_ldp rfl rfl) hH ?_|refine a1p (i:=4) rfl (a6a rfl rfl) hH ?_|refine a1p (i:=4) rfl (a3j rfl rfl) hH ?_|refine a1p (i:=4) rfl (a3j rfl rfl (hu:=by assumption)) hH ?_);(try simp only [zA,Nat.reduceAdd])
  refine wpAnyH_ready (rs:=[2,7]) (by kernel_rfl) (by simp) (a2d rfl (fun K hK=>?_) (a2d rfl (fun K hK=>?_) AllReadyH.nil))
  ·go_wp2_with ((go_at_call 109;refine (HT1.out _ hF.rds).mono ?_;rintro x wN ⟨_,rfl,A1,n1,c1,S1,rfl,hO,hC1⟩;replace hF:=hF.callA hO;clear hO))
   have hH:=zx0 hH hF;refine hK.out _ _ hH ?_;clear hK;(try simp only [zA,Nat.reduceAdd])
   refine wpAnyH_ready (rs:=[5,7]) (by kernel_rfl) (by simp) (a2d rfl (fun K hK=>?_) (a2d rfl (fun K hK=>?_) AllReadyH.nil))
   ·go_wp2_with ((go_at_call 109;refine (HT2.out _ hF.rds).mono ?_;rintro x wN ⟨_,rfl,A2,n2,c2,S2,rfl,hO,hC2⟩;replace hF:=hF.callA hO;clear hO))
    have hH:=zx0 hH hF;refine hK.out _ _ hH ?_;clear hK;(try simp only [zA,Nat.reduceAdd])
    (refine a9c (i:=6) (v:=?_) rfl rfl (by kernel_rfl) (by kernel_rfl) (by kernel_rfl) (fun _ _ _ h=>h) ?_ hH ?_;rotate_left;(first|exact a6t a4g (by rfl)|(refine a1u (by rfl) ?_;intro w;go_simp;done)|(refine a1u (by rfl) ?_;intro w;go_simp;with_reducible rfl)|(refine a1u (by rfl) ?_;intro w;simp only [Wy.cells];go_simp;with_reducible rfl));(try simp only [zA,Nat.reduceAdd]))
    refine zry 7 (fun K hK=>?_)
    go_wp2_with (((refine w_alloc rfl hF ?_;clear hF;intro gN wN hF);(try simp only [zA,Nat.reduceAdd])))
    have hH:=zx0 hH hF;refine hK.out _ _ hH ?_;clear hK;(try simp only [zA,Nat.reduceAdd])
    refine zry 8 (fun K hK=>?_)
    go_wp2_with (((refine w_st rfl hF rfl rfl ?_;clear hF;intro wN hF;(try simp only [zF] at hF));(try simp only [zA,Nat.reduceAdd])))
    have hH:=zx0 hH hF;refine hK.out _ _ hH ?_;clear hK;(try simp only [zA,Nat.reduceAdd])
    refine zrz ?_
    (go_wp2;go_meet;exact ⟨_,_,_,_,_,_,_,_,_,rfl,Lib.hid hC1,Lib.hid hC2,hF.lessA _⟩)
   ·go_wp2_with (((refine w_alloc rfl hF ?_;clear hF;intro gN wN hF);(try simp only [zA,Nat.reduceAdd])))
    exact f1d
  ·go_wp2_with (((refine w_alloc rfl hF ?_;clear hF;intro gN wN hF);(try simp only [zA,Nat.reduceAdd])))
   have hH:=zx0 hH hF;refine hK.out _ _ hH ?_;clear hK;(try simp only [zA,Nat.reduceAdd])
   refine zry 2 (fun K hK=>?_)
   go_wp2_with ((go_at_call 109;refine (HT1.out _ hF.rds).mono ?_;rintro x wN ⟨_,rfl,A1,n1,c1,S1,rfl,hO,hC1⟩;replace hF:=hF.callA hO;clear hO))
   exact f1d
 case rest=>
  clear hF HT1 HT2
  obtain ⟨g5,A1,n1,c1,S1,A2,n2,c2,S2,rfl,hC1,hC2,hF⟩:=hcut
  refine hK _ _ ?_
  clear hK
  go_wp2_with ((try simp only [zA,Nat.reduceAdd]);(first|go_big_skip|(refine w_fldB rfl rfl ?_)|((refine w_ld1 (v:=.slice s.busA k.bus.length s.busC) (hv:=rfl) rfl hF rfl ?_);(try simp only [zA,Nat.reduceAdd]))))
  have hF:=hF.nil 118 4
  go_loopw [19] (fun i wr=>∃ (j:Nat) (x:Value),j≤k.bus.length∧i = .int .i64 (j:Int)∧St w [a1a 1 s.dA k.data.length s.dC (csv s.dS),a1l s.dS,a1a 1 s.wA k.words.length s.wC (csv s.wS),a1l s.wS,a1a 4 s.busA k.bus.length s.busC (rqs k.bus),a1a 9 s.reA k.retired.length s.reC (sts k.retired)] wr [.own x 118 4 j (rqs (b5q (k.bus.take j))),.blk g5 92 [.slice A1 n1 c1,.slice A2 n2 c2,x,.slice none 0 0],.blk gR 92 [.slice none 0 0,.slice none 0 0,.slice none 0 0,.slice none 0 0],.blk gK 42 (mcells k s)] [a1a 1 A1 n1 c1 (csv S1),a1l S1,a1a 1 A2 n2 c2 (csv S2),a1l S2,a1a 1 s.dA k.data.length s.dC (csv s.dS),a1l s.dS,a1a 1 s.wA k.words.length s.wC (csv s.wS),a1l s.wS,a1a 4 s.busA k.bus.length s.busC (rqs k.bus),a1a 9 s.reA k.retired.length s.reC (sts k.retired)]) (fun i _=>k.bus.length - (intOf i).toNat)
  case atStart=>exact ⟨0,_,by omega,rfl,hF⟩
  case round=>
   clear hF
   obtain ⟨j,x,hj,rfl,hF⟩:=hrel
   by_cases hjn:j<k.bus.length
   ·obtain ⟨⟨rk,rl,rf,rd⟩,hu⟩:∃ u,k.bus[j]?=some u:=⟨_,List.getElem?_eq_getElem hjn⟩
    have hsu:=Lib.hid (i1n hu)
    go_wp2_with ((try simp only [zA,Nat.reduceAdd]);(first|go_big_skip|((refine w_lde (us:=[.int .i64 rk,.int .u32 (rl:Int),.int .i64 rf,.string rd]) (hu:=Rows.sub (f:=rqs) hu) rfl hF rfl ?_);(try simp only [zA,Nat.reduceAdd]))|(refine w_alloc (ty:=118) rfl hF ?_;clear hF;intro gQ wN hF;(try simp only [zA,Nat.reduceAdd]))|((refine w_build (cs:=[.int .i64 rk,.int .u32 (rl:Int),.int .i64 0,.string ⟨#[]⟩]) rfl rfl (by kernel_rfl) ?_);(try simp only [zA,Nat.reduceAdd]))|((first|refine zrd ?_|(refine zst ?_;clear hF;(first|intro gN wN hF|intro wN hF|intro hF))|(refine zap ?_;clear hF;intro vN wN hF));(try simp only [zA,Nat.reduceAdd]))))
    go_roundw
    case rel=>exact ⟨j+1,_,by omega,by go_num,by rw [hsu.out] at hF;exact hF.drop 0⟩
    case measure=>first|(simp [intOf];done)|(simp [intOf];omega)
   ·obtain rfl:j=k.bus.length:=by omega
    rw [List.take_of_length_le (Nat.le_refl _)] at hF
    obtain ⟨A3,c3,rfl,hF⟩:=hF.freeze 0 at0
    (try simp only [zF] at hF)
    go_wp2_with ((try simp only [zA,Nat.reduceAdd]);(first|go_big_skip))
    have hF:=hF.nil 28 1
    go_loopw [8] (fun i wr=>∃ (j:Nat) (x:Value),b+j≤k.retired.length∧i = .int .i64 ((b+j:Nat):Int)∧St w [a1a 1 s.dA k.data.length s.dC (csv s.dS),a1l s.dS,a1a 1 s.wA k.words.length s.wC (csv s.wS),a1l s.wS,a1a 4 s.busA k.bus.length s.busC (rqs k.bus),a1a 9 s.reA k.retired.length s.reC (sts k.retired)] wr [.own x 28 1 j (u32v (((k.retired.drop b).take j).map (·.pc))),.blk g5 92 [.slice A1 n1 c1,.slice A2 n2 c2,.slice A3 k.bus.length c3,x],.blk gR 92 [.slice none 0 0,.slice none 0 0,.slice none 0 0,.slice none 0 0],.blk gK 42 (mcells k s)] [a1a 4 A3 k.bus.length c3 (rqs (b5q k.bus)),a1a 1 A1 n1 c1 (csv S1),a1l S1,a1a 1 A2 n2 c2 (csv S2),a1l S2,a1a 1 s.dA k.data.length s.dC (csv s.dS),a1l s.dS,a1a 1 s.wA k.words.length s.wC (csv s.wS),a1l s.wS,a1a 4 s.busA k.bus.length s.busC (rqs k.bus),a1a 9 s.reA k.retired.length s.reC (sts k.retired)]) (fun i _=>k.retired.length - (intOf i).toNat)
    case atStart=>exact ⟨0,_,by omega,by go_num,hF⟩
    case round=>
     clear hF
     obtain ⟨i,x,hi,rfl,hF⟩:=hrel
     by_cases hin:b+i<k.retired.length
     ·obtain ⟨r,hu⟩:∃ u,k.retired[b+i]?=some u:=⟨_,List.getElem?_eq_getElem hin⟩
      have hsu:=Lib.hid (i1o hu)
      have hpc:(sts k.retired)[(b+i) * 9]?=some (.int .u32 (r.pc:Int)):=Rows.el0 (f:=sts) hu rfl
      obtain ⟨bi,hbi⟩:∃ bi,b+i=bi:=⟨_,rfl⟩
      rw [hbi] at hu hpc hin hi
      rw [hbi]
      go_upto_region 10 with ((try simp only [zA,Nat.reduceAdd]);(first|go_big_skip|(refine w_fldB rfl rfl ?_)|((refine w_ld1 (v:=.slice s.reA k.retired.length s.reC) (hv:=rfl) rfl hF rfl ?_);(try simp only [zA,Nat.reduceAdd]))))
      refine a1n (by kernel_rfl) hF [.blk gK 42 (mcells k s)] _ (by ((repeat (first|exact a1f|refine a1m zdm ?_)) <;> exact a1f)) (fun _ h=>h) ?_
      clear hF;intro hF hH
      refine zk1 0 hH ?_
      refine zk1 2 hH ?_
      (first|refine a1p (i:=3) rfl (a5d rfl rfl) hH ?_|refine a1p (i:=3) rfl (y_ld1o rfl rfl) hH ?_|refine a1p (i:=3) rfl (a5z rfl rfl) hH ?_|refine a1p (i:=3) rfl (y_ldp rfl rfl) hH ?_|refine a1p (i:=3) rfl (a6a rfl rfl) hH ?_|refine a1p (i:=3) rfl (a3j rfl rfl) hH ?_|refine a1p (i:=3) rfl (a3j rfl rfl (hu:=by assumption)) hH ?_);(try simp only [zA,Nat.reduceAdd])
      refine a1c 4 hH ?_
      refine zk2 5 hH ?_
      refine zk1 6 hH ?_
      (first|refine a1p (i:=7) rfl (a5d rfl rfl) hH ?_|refine a1p (i:=7) rfl (y_ld1o rfl rfl) hH ?_|refine a1p (i:=7) rfl (a5z rfl rfl) hH ?_|refine a1p (i:=7) rfl (y_ldp rfl rfl) hH ?_|refine a1p (i:=7) rfl (a6a rfl rfl) hH ?_|refine a1p (i:=7) rfl (a3j rfl rfl) hH ?_|refine a1p (i:=7) rfl (a3j rfl rfl (hu:=by assumption)) hH ?_);(try simp only [zA,Nat.reduceAdd])
      refine wpAnyH_ready (rs:=[1,8]) (by kernel_rfl) (by simp) (a2d rfl (fun K hK=>?_) (a2d rfl (fun K hK=>?_) AllReadyH.nil))
      ·go_wp2_with ((first|(refine w_ld1 rfl hF rfl ?_)|(refine w_ld rfl hF rfl ?_)|(refine w_lde1 rfl hF rfl ?_)|(refine w_lde rfl hF rfl ?_)|(refine w_ld1o rfl hF rfl ?_));(try simp only [zA,Nat.reduceAdd]))
       have hH:=zx0 hH hF;refine hK.out _ _ hH ?_;clear hK;(try simp only [zA,Nat.reduceAdd])
       refine zry 8 (fun K hK=>?_)
       go_wp2_with ((first|(refine w_bs1 rfl hF rfl ?_;clear hF;intro gN wN hF)|(refine w_bs0 rfl hF ?_;clear hF;intro gN wN hF));(try simp only [zA,Nat.reduceAdd]))
       exact f1b
      ·go_wp2_with ((first|(refine w_bs1 rfl hF rfl ?_;clear hF;intro gN wN hF)|(refine w_bs0 rfl hF ?_;clear hF;intro gN wN hF));(try simp only [zA,Nat.reduceAdd]))
       have hH:=zx0 hH hF;refine hK.out _ _ hH ?_;clear hK;(try simp only [zA,Nat.reduceAdd])
       refine zry 1 (fun K hK=>?_)
       go_wp2_with ((first|(refine w_ld1 rfl hF rfl ?_)|(refine w_ld rfl hF rfl ?_)|(refine w_lde1 rfl hF rfl ?_)|(refine w_lde rfl hF rfl ?_)|(refine w_ld1o rfl hF rfl ?_));(try simp only [zA,Nat.reduceAdd]))
       exact f1b
     ·obtain rfl:i=k.retired.length - b:=by omega
      rw [List.take_of_length_le (by rw [List.length_drop];exact Nat.le_refl _)] at hF
      obtain ⟨A4,c4,rfl,hF⟩:=hF.freeze 0 at0
      (try simp only [zF] at hF)
      go_wp2_with ((try simp only [zA,Nat.reduceAdd]);(first|go_big_skip|(refine w_fldB rfl rfl ?_)|((refine w_ld1 (v:=.slice s.reA k.retired.length s.reC) (hv:=rfl) rfl hF rfl ?_);(try simp only [zA,Nat.reduceAdd]))|((first|refine zrd ?_|(refine zst ?_;clear hF;(first|intro gN wN hF|intro wN hF|intro hF))|(refine zap ?_;clear hF;intro vN wN hF));(try simp only [zA,Nat.reduceAdd]))))
      ((try simp only [Exit.inBlock,Exit.then]);refine bodyPost_ret (a2x rfl hF) rfl ?_)
      refine ⟨⟨A1,n1,c1,S1,A2,n2,c2,S2,A3,k.bus.length,c3,b5q k.bus,A4,k.retired.length - b,c4,(k.retired.drop b).map (·.pc)⟩,?_,rfl,hF.outA⟩
      unfold Snr.sn b7r
      dsimp only
      rw [hC1.out,hC2.out]
      rfl
end
section
open Go.RowKit Wd
def cnt (k:Kern):Nat:=k.retired.length+k.rob.length+k.fetched.length
structure CntK (k:Kern):Prop where
 le:cnt k≤k.prog.length+1
 pl:k.prog.length≤64
 go:k.halt=0→k.stop=false→k.fetch=4 * cnt k∧cnt k≤k.prog.length
structure SameC (k k':Kern):Prop where
 ret:k'.retired.length=k.retired.length
 rob:k'.rob.length=k.rob.length
 fe:k'.fetched.length=k.fetched.length
 halt:k'.halt=k.halt
 stop:k'.stop=k.stop
 fetch:k'.fetch=k.fetch
 prog:k'.prog=k.prog
theorem SameC.cnt {k k':Kern} (h:SameC k k'):cnt k'=cnt k:=by unfold Proofs.YtgnomadgnciifaaGreatDoor.cnt;rw [h.ret,h.rob,h.fe]
theorem SameC.out {k k':Kern} (h:SameC k k') (hc:CntK k):CntK k':=⟨by rw [h.cnt,h.prog];exact hc.le,by rw [h.prog];exact hc.pl,fun h1 h2=>by
 rw [h.fetch,h.cnt,h.prog];exact hc.go (by rw [← h.halt];exact h1) (by rw [← h.stop];exact h2)⟩
theorem SameC.rfl' (k:Kern):SameC k k:=⟨rfl,rfl,rfl,rfl,rfl,rfl,rfl⟩
theorem SameC.trans {a b c:Kern} (h:SameC a b) (h2:SameC b c):SameC a c:=⟨h2.ret.trans h.ret,h2.rob.trans h.rob,h2.fe.trans h.fe,h2.halt.trans h.halt,h2.stop.trans h.stop,h2.fetch.trans h.fetch,h2.prog.trans h.prog⟩
theorem f1w (k:Kern):SameC k (a2k k):=by
 unfold a2k
 dsimp only
 repeat' split
 all_goals exact ⟨rfl,by first|rfl|exact List.length_map _,rfl,rfl,rfl,rfl,rfl⟩
theorem i1q (regs:List Nat) (q:List En) (i:Nat):(storeAt regs q i).length=q.length:=by
 unfold storeAt
 repeat' split
 all_goals first|rfl|exact List.length_set
theorem f1x (regs:List Nat):∀ (l:List Nat) (q:List En),(l.foldl (storeAt regs) q).length=q.length
 | [],q=>rfl
 | i::l,q=>by rw [List.foldl_cons];exact (f1x regs l _).trans (i1q regs q i)
theorem i1r {q:List En} (h:AllE a4e q):a6y q=none:=by
 unfold a6y
 rw [List.findIdx?_eq_none_iff]
 intro e he
 unfold a6x
 rw [h e he]
 rfl
theorem i1s {k:Kern} (h:AllE a4e k.rob):SameC k (a1y k):=by
 unfold a1y
 have hq:AllE a4e (a6h k.regs (k.rob.map goE)):=c5y b5o _ (h.map b5o.go)
 have hl:(a6h k.regs (k.rob.map goE)).length=k.rob.length:=(f1x _ _ _).trans (List.length_map _)
 dsimp only
 generalize a6h k.regs (k.rob.map goE)=q at *
 split
 ·exact SameC.rfl' k
 ·rw [i1r hq]
  exact ⟨rfl,hl,rfl,rfl,rfl,rfl,rfl⟩
theorem i1t {k:Kern} (hc:CntK k):CntK (a2s k).1:=by
 unfold a2s
 split
 ·exact hc
 ·rename_i hh
  split
  ·exact hc
  ·rename_i e r hr
   have hle:=hc.le
   have hgo:=hc.go
   have hpl:=hc.pl
   unfold cnt at hle hgo
   rw [hr,List.length_cons] at hle hgo
   split
   ·exact hc
   ·dsimp only
    split
    ·rename_i hs
     refine ⟨?_,hpl,fun h1=>absurd h1 hs⟩
     show (k.retired++[a2j e]).length+([]:List En).length+([]:List Fe).length≤_
     simp only [List.length_append,List.length_cons,List.length_nil]
     omega
    ·split
     ·exact hc
     ·have key:∀ k3:Kern,k3.retired=k.retired++[a2j e]→k3.fetched=k.fetched→k3.halt=k.halt→k3.stop=k.stop→k3.fetch=k.fetch→k3.prog=k.prog → ∀ a b,CntK { k3 with regs:=a,guess:=b,rob:=r }:=by
       intro k3 h1 h2 h3 h4 h5 h6 a b
       have hcn:cnt { k3 with regs:=a,guess:=b,rob:=r }=k.retired.length+(r.length+1)+k.fetched.length:=by
        unfold cnt
        dsimp only
        rw [h1,h2,List.length_append,List.length_singleton]
        omega
       refine ⟨by rw [hcn];show _≤k3.prog.length+1;rw [h6];exact hle,by show k3.prog.length≤64;rw [h6];exact hpl,fun g1 g2=>?_⟩
       rw [hcn]
       show k3.fetch=_∧_≤k3.prog.length
       rw [h5,h6]
       exact hgo (by rw [← h3];exact g1) (by rw [← h4];exact g2)
      apply key
      ·split <;> split <;> rfl
      ·split <;> split <;> rfl
      ·split <;> split <;> rfl
      ·split <;> split <;> rfl
      ·split <;> split <;> rfl
      ·split <;> split <;> rfl
theorem c6z {f:Kern→Kern × Bool} (hf:∀ k,CntK k→CntK (f k).1):∀ (n:Nat) {k:Kern},CntK k→CntK (a2n f n k)
 | 0,k,h=>h
 | n+1,k,h=>by
  unfold a2n
  split
  ·exact c6z hf n (hf k h)
  ·exact hf k h
theorem i1u (k:Kern) (i:Nat):SameC k (a3z k i):=by
 unfold a3z
 dsimp only
 repeat' split
 all_goals exact ⟨rfl,by first|rfl|exact List.length_set,rfl,rfl,rfl,rfl,rfl⟩
theorem i1v (k:Kern) (i:Nat):SameC k (a3h k i):=by
 unfold a3h
 dsimp only
 split
 ·exact SameC.rfl' k
 ·split
  ·exact ⟨rfl,List.length_set,rfl,rfl,rfl,rfl,rfl⟩
  ·split
   ·exact SameC.trans (b:={ k with rob:=k.rob.set i _ }) ⟨rfl,List.length_set,rfl,rfl,rfl,rfl,rfl⟩ (i1u _ _)
   ·exact ⟨rfl,List.length_set,rfl,rfl,rfl,rfl,rfl⟩
theorem f1y : ∀ (l:List Int) (k:Kern),SameC k (l.foldl (fun k i=>a3h k i.toNat) k)
 | [],k=>SameC.rfl' k
 | i::l,k=>by rw [List.foldl_cons];exact (i1v k _).trans (f1y l _)
theorem f1z (k:Kern):SameC k (a2q k):=by
 unfold a2q
 split
 ·exact SameC.rfl' k
 ·exact f1y _ _
theorem i1w {k:Kern} (hc:CntK k):CntK (a3u k).1:=by
 unfold a3u
 split
 ·exact hc
 ·split
  ·exact hc
  ·rename_i f r hr
   have hle:=hc.le
   have hgo:=hc.go
   unfold cnt at hle hgo
   rw [hr,List.length_cons] at hle hgo
   have hcn:cnt { k with rob:=k.rob++[a5n k.next f k.prog],next:=k.next+1,fetched:=r }=k.retired.length+k.rob.length+(r.length+1):=by
    unfold cnt
    dsimp only
    rw [List.length_append,List.length_singleton]
    omega
   exact ⟨by rw [hcn];exact hle,hc.pl,fun g1 g2=>by rw [hcn];exact hgo g1 g2⟩
theorem i1x {k:Kern} {w:Nat} (h:∀ i,a4j w=some i→a1e i.op=0):a2f k w=(a1k k.fetch 4,k):=by
 unfold a2f
 cases hd:a4j w with
 | none=>rfl
 | some i=>
  dsimp only
  rw [if_pos (by rw [h i hd];decide)]
theorem f2a {k:Kern} (hh:k.halt=0) (hq:a7e k.prog) (hc:CntK k):CntK (a3v k).1:=by
 unfold a3v
 split
 ·exact hc
 ·rename_i hs
  have hstop:k.stop=false:=by
   cases h:k.stop with
   | false=>rfl
   | true=>exact absurd (.inl h) hs
  obtain ⟨hf,hle⟩:=hc.go hh hstop
  have hpl:=hc.pl
  have hfe:a5f k.prog k.fetch=k.prog[cnt k]?:=by
   unfold a5f
   rw [hf,if_pos (by omega),show 4 * cnt k / 4=cnt k by omega]
  cases hw:a5f k.prog k.fetch with
  | none=>
   dsimp only
   refine ⟨?_,hpl,fun g1 g2=>by cases g2⟩
   have:cnt { k with fetched:=k.fetched++[⟨k.fetch,a1k k.fetch 4⟩],stop:=true }=cnt k+1:=by
    unfold cnt
    dsimp only
    rw [List.length_append,List.length_singleton]
    omega
   rw [this]
   show _≤k.prog.length+1
   omega
  | some w=>
   have hlt:cnt k<k.prog.length:=by
    rw [hw] at hfe
    exact (List.getElem?_eq_some_iff.1 hfe.symm).1
   have hb:∀ k1:Kern,k1.fetch=k.fetch→a2f k1 w=(a1k k.fetch 4,k1):=fun k1 h=>by
    have:=i1x (k:=k1) (hq w (f1q hw))
    rw [this,h]
   dsimp only
   split
   ·split
    ·exact SameC.out (k:=k) ⟨rfl,rfl,rfl,rfl,rfl,rfl,rfl⟩ hc
    ·exact hc
   ·rw [hb { k with words:=a4v k.wways k.words (a1w k.fetch) } rfl]
    have hcn:cnt { k with words:=a4v k.wways k.words (a1w k.fetch),fetched:=k.fetched++[⟨k.fetch,a1k k.fetch 4⟩],fetch:=a1k k.fetch 4 }=cnt k+1:=by
     unfold cnt
     dsimp only
     rw [List.length_append,List.length_singleton]
     omega
    refine ⟨by show cnt { k with words:=a4v k.wways k.words (a1w k.fetch),fetched:=k.fetched++[⟨k.fetch,a1k k.fetch 4⟩],fetch:=a1k k.fetch 4 }≤k.prog.length+1;rw [hcn];omega,hpl,fun g1 g2=>?_⟩
    show a1k k.fetch 4=4 * cnt { k with words:=a4v k.wways k.words (a1w k.fetch),fetched:=k.fetched++[⟨k.fetch,a1k k.fetch 4⟩],fetch:=a1k k.fetch 4 }∧cnt { k with words:=a4v k.wways k.words (a1w k.fetch),fetched:=k.fetched++[⟨k.fetch,a1k k.fetch 4⟩],fetch:=a1k k.fetch 4 }≤k.prog.length
    rw [hcn,hf]
    unfold a1k
    omega
theorem i1y (k:Kern) (w:Nat):(a2f k w).2.halt=k.halt:=by
 unfold a2f
 repeat' split
 all_goals rfl
theorem i1z (k:Kern):(a3v k).1.halt=k.halt:=by
 unfold a3v
 dsimp only
 repeat' split
 all_goals first|rfl|exact i1y _ _
theorem f2b : ∀ (n:Nat) {k:Kern},k.halt=0→a7e k.prog→CntK k→CntK (a2n a3v n k)
 | 0,k,_,_,h=>h
 | n+1,k,hh,hq,h=>by
  unfold a2n
  split
  ·exact f2b n (by rw [i1z];exact hh) (by rw [f1p];exact hq) (f2a hh hq h)
  ·exact f2a hh hq h
theorem f2c (k:Kern):SameC k (a4x k):=by
 unfold a4x
 dsimp only
 repeat' split
 all_goals exact ⟨rfl,rfl,rfl,rfl,rfl,rfl,rfl⟩
theorem i2a {k:Kern} (hp:a7e k.prog) (hq:AllE a4e k.rob) (hc:CntK k):CntK (a2z k):=by
 unfold a2z
 split
 ·have h0:CntK { k with cycle:=k.cycle+1 }:=SameC.out (k:=k) ⟨rfl,rfl,rfl,rfl,rfl,rfl,rfl⟩ hc
  have hq0:AllE a4e ({ k with cycle:=k.cycle+1 }:Kern).rob:=hq
  have hp0:a7e ({ k with cycle:=k.cycle+1 }:Kern).prog:=hp
  generalize ({ k with cycle:=k.cycle+1 }:Kern)=k0 at *
  have c1:=(f1w k0).out h0
  have q1:AllE a4e (a2k k0).rob:=hq0.ticks b5o
  have c2:=(i1s q1).out c1
  have c3:CntK (a2w (a1y (a2k k0))):=c6z (fun k h=>i1t h) _ c2
  have c4:=(f1z _).out c3
  have c5:CntK (a3c (a2q (a2w (a1y (a2k k0))))):=by
   unfold a3c
   split
   ·exact c4
   ·exact c6z (fun k h=>i1w h) _ c4
  have p5:a7e (a3c (a2q (a2w (a1y (a2k k0))))).prog:=by
   rw [f1o,c6x,c6w,c6v,c6u];exact hp0
  have c6:CntK (a2y (a3c (a2q (a2w (a1y (a2k k0)))))):=by
   unfold a2y
   split
   ·exact c5
   ·rename_i hh
    exact f2b _ (by simpa using hh) p5 c5
  exact (f2c _).out c6
 ·exact hc
theorem f2d : ∀ (n:Nat) {k:Kern},a7e k.prog→AllE a4e k.rob→CntK k→CntK (runK n k)∧(runK n k).prog=k.prog
 | 0,k,_,_,h=>⟨h,rfl⟩
 | n+1,k,hp,hq,h=>by
  have:=f2d n (k:=a2z k) (by rw [c6y];exact hp) (f1r hp hq) (i2a hp hq h)
  exact ⟨this.1,this.2.trans (c6y k)⟩
theorem i2b (c:Cf) (prog:List Nat) (m:ByteArray):CntK (newK c prog m):=by
 refine ⟨?_,?_,fun _ _=>⟨rfl,?_⟩⟩
 ·unfold cnt newK;simp
 ·unfold newK;simp only [List.length_take];omega
 ·unfold cnt newK;simp
theorem f2e (c:Cf) (prog:List Nat) (m:ByteArray):AllE a4e (newK c prog m).rob:=fun e h=>by cases h
theorem i2c (c:Cf) (prog:List Nat) (m:ByteArray) (n:Nat) (h:a7e prog):(runK n (newK c prog m)).retired.length≤prog.length+1:=by
 have hp:a7e (newK c prog m).prog:=fun w hw=>h w (List.mem_of_mem_take hw)
 obtain ⟨h1,h2⟩:=f2d n hp (f2e c prog m) (i2b c prog m)
 have h3:=h1.le
 rw [h2] at h3
 have h4:(newK c prog m).prog.length≤prog.length:=by unfold newK;simp only [List.length_take];omega
 unfold cnt at h3
 omega
theorem i2d (w f:Nat) (hf:f % 128=127):(w &&& f) % 128=w % 128:=by
 rw [show (128:Nat)=2 ^ 7 from rfl,Nat.and_mod_two_pow,show f % 2 ^ 7=127 from hf,show (127:Nat)=2 ^ 7 - 1 from rfl,Nat.and_two_pow_sub_one_eq_mod,Nat.mod_mod]
theorem i2e {w:Nat} (hw:w % 128=19) (i:Ins) (h:a4j w=some i):a1e i.op=0:=by
 have key:∀ (n op:Nat),∀ r,a6b w n op=some r→(codesL[r]?.getD 0)=w &&& a5l (a1o r):=by
  intro n
  induction n with
  | zero=>intro op r h;cases h
  | succ n ih=>
   intro op r h
   unfold a6b at h
   split at h
   ·rename_i hc
    injection h with h
    subst h
    exact hc.symm
   ·exact ih _ _ h
 unfold a4j at h
 split at h
 ·rename_i op ho
  injection h with h
  subst h
  have hb:=c5n _ _ _ _ ho
  have hk:=key _ _ _ ho
  show a1e (op:Int)=0
  have hm:(codesL[op]?.getD 0) % 128=19:=by
   rw [hk]
   have hfix:(a5l (a1o op)) % 128=127∨a1o op<1∨8<a1o op:=by
    unfold a5l
    have:=a1o op
    repeat' split
    all_goals first|(left;rfl)|omega
   rcases hfix with hf|hf|hf
   ·rw [i2d _ _ hf];exact hw
   ·exfalso
    unfold a1o at hf
    repeat' split at hf
    all_goals omega
   ·exfalso
    unfold a1o at hf
    repeat' split at hf
    all_goals omega
  have hlt:op<49:=by omega
  have h1:1≤op:=hb.1
  revert hm
  have:∀ op:Fin 49,(codesL[op.val]?.getD 0) % 128=19→1≤op.val→a1e (op.val:Int)=0:=by decide
  exact fun hm=>this ⟨op,hlt⟩ hm h1
 ·cases h
end
end Go.Proofs.YtgnomadgnciifaaGreatDoor
