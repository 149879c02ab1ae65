/- . -/
import Derived.Test.YtgnomadgnciifaaGreatDoorZ26
set_option linter.unusedVariables false
set_option linter.unusedSimpArgs false
set_option linter.unusedSectionVars false
set_option maxRecDepth 100000
set_option maxHeartbeats 16000000
namespace Go.Proofs.YtgnomadgnciifaaGreatDoor
theorem d6v {p:Prop} (h:p:=by
 go_wp2
 go_roundw
 case rel=>exact ⟨(m:Int) - 1,_,by go_num,by omega,by omega,by rw [show ((m:Int) - 1+1).toNat=m by omega,List.append_assoc];exact hpre.out,by simp;omega,hJ3,(hnx.trans hB5.out).trans hk3⟩
 case measure=>first|(simp [intOf];done)|(simp [intOf];omega)):p:=h
section
open Go.RowKit Go.Shelf Wd
attribute [local go_sem] Oper.semAt_some
def Sd.cells (s:Sd):List Value:=[.int .u32 (s.addr:Int),.int .i64 s.size,.string s.data,.bool s.there]
def Sd.val (s:Sd):Value:=.agg #[.int .u32 (s.addr:Int),.int .i64 s.size,.string s.data,.bool s.there]
theorem Sd.one (s:Sd):∀ u∈s.cells,u.oneCell'=true:=by
 unfold Sd.cells
 repeat (first|exact b2y|refine b4c rfl ?_)
def okS (s:Sd):Prop:=s.addr<4294967296∧0≤s.size∧s.size≤4∧(s.data.size:Int)=s.size
instance (s : Sd):Decidable (okS s):=by unfold okS;infer_instance
def zsd : Sd:=⟨0,0,⟨#[]⟩,false⟩
def a5a (s:Sd):Sd:=if okS s then s else zsd
theorem c1v {s:Sd} (h:okS s):a5a s=s:=if_pos h
theorem h2r (s:Sd):okS (a5a s):=by
 unfold a5a
 split
 ·assumption
 ·exact ⟨by decide,by decide,by decide,rfl⟩
theorem h2s (v:Nat) (n:Int):(a6d v n).size=n.toNat:=by
 show (bytesL v n.toNat).toArray.size=_
 rw [List.size_toArray,b3z]
theorem d6w {e:En} (h:EnOk e):okS (Sd.ofE e):=by
 have hz:=b5e e.inst.op
 exact ⟨h.a,hz.1,hz.2,by show ((a6d _ _).size:Int)=_;rw [h2s];show ((a2p e.inst.op).toNat:Int)=a2p e.inst.op;omega⟩
theorem d6x {p:Pu} (h:p.addr<4294967296∧p.data.size≤4):okS (Sd.ofP p):=⟨h.1,by show (0:Int)≤(p.data.size:Int);omega,by show (p.data.size:Int)≤4;omega,rfl⟩
def sdE (q:List En):Nat→List Sd
 | 0=>[]
 | m+1=>match q[m]? with
  | some e=>if a1e e.inst.op=4 then Sd.ofE e::sdE q m else sdE q m
  | none=>sdE q m
def sdP (ss:List Pu):Nat→List Sd
 | 0=>[]
 | m+1=>match ss[m]? with
  | some p=>Sd.ofP p::sdP ss m
  | none=>sdP ss m
theorem c5p (q:List En):∀ m,m≤q.length→sdE q m=(((q.take m).reverse.filter fun e=>decide (a1e e.inst.op=4)).map Sd.ofE)
 | 0,_=>rfl
 | m+1,h=>by
  have hm:q[m]?=some (q[m]'(by omega)):=List.getElem?_eq_getElem (by omega)
  rw [sdE,hm,List.take_succ_eq_append_getElem (by omega),List.reverse_append,List.reverse_singleton,List.singleton_append,List.filter_cons]
  dsimp only
  by_cases hk:a1e (q[m]'(by omega)).inst.op=4
  ·rw [if_pos hk,if_pos (by simpa using hk),List.map_cons,c5p q m (by omega)]
  ·rw [if_neg hk,if_neg (by simpa using hk),c5p q m (by omega)]
theorem d6y (ss:List Pu):∀ m,m≤ss.length→sdP ss m=(ss.take m).reverse.map Sd.ofP
 | 0,_=>rfl
 | m+1,h=>by
  have hm:ss[m]?=some (ss[m]'(by omega)):=List.getElem?_eq_getElem (by omega)
  rw [sdP,hm,List.take_succ_eq_append_getElem (by omega),List.reverse_append,List.reverse_singleton,List.singleton_append,List.map_cons,d6y ss m (by omega)]
theorem h2t (q:List En) (ss:List Pu):a6e q ss=sdE q q.length++sdP ss ss.length:=by
 rw [c5p q _ (Nat.le_refl _),d6y ss _ (Nat.le_refl _),List.take_length,List.take_length]
 rfl
theorem h2u {q:List En} {m:Nat} {e:En} (h:q[m]?=some e) (hk:a1e e.inst.op=4):sdE q (m+1)=Sd.ofE e::sdE q m:=by
 rw [sdE,h];exact if_pos hk
theorem h2v {q:List En} {m:Nat} {e:En} (h:q[m]?=some e) (hk:¬ a1e e.inst.op=4):sdE q (m+1)=sdE q m:=by
 rw [sdE,h];exact if_neg hk
theorem h2w {ss:List Pu} {m:Nat} {p:Pu} (h:ss[m]?=some p):sdP ss (m+1)=Sd.ofP p::sdP ss m:=by rw [sdP,h]
theorem h2x (nf l Br Bs n₀:Nat) (hn:1≤nf) (A:Option Addr) (n c:Nat) (As:Option Addr) (ns cs:Nat) (q:List En) (ss:List Pu) (hBr:Br<n₀) (hBs:Bs<n₀) (hq:ensOk q) (hn1:n≤1000) (hns:ns≤1000) (hss:∀ p∈ss,p.addr<4294967296∧p.data.size≤4) (J Jx:List Sd→World→Prop)
  (hY:∀ pre x W,okS x→J pre W→pre.length<n+ns→YieldAt Fence.wide (nf - 1) Tryz.prog l #[x.val] W fun e W'=>
   (e = .returned (.bool true)∧J (pre++[x]) W'∧Below n₀ W W')∨(e = .returned (.bool false)∧Jx (pre++[x]) W'))
  (W:World) (hJ:∀ pre w1 w2,J pre w1→Bel w1 w2→J pre w2) (hcr:W.cell? ⟨Br,0,none⟩=some (.slice A n c)) (hcs:W.cell? ⟨Bs,0,none⟩=some (.slice As ns cs)) (hr:Rd W n₀ 17 A n c (ens q)) (hrs:Rd W n₀ 2 As ns cs (pus ss)) (hW:n₀≤W.heap.size) (h0:J [] W) :
  CallsIn Fence.wide nf Tryz.prog 214 #[.func (.yield l) #[] #[],.pointer (some ⟨Br,0,none⟩),.pointer (some ⟨Bs,0,none⟩)] W fun e W'=>(∃ v,e = .returned v) ∧
   ((∃ ys,ys=a6e q ss∧J ys W')∨(∃ pre,pre <+: a6e q ss∧Jx pre W')):=by
 have hql:=hr.enslen
 have hsl:ss.length=ns:=by have:=hrs.len;rw [c9a] at this;omega
 have hL:=Lib.hid (h2t q ss)
 rw [hql,hsl] at hL
 replace hr:=Lib.hid hr
 replace hrs:=Lib.hid hrs
 replace hss:=Lib.hid hss
 refine callsIn_of_wp Tryz.func214 rfl trivial ?_ rfl
 simp only [Tryz.ntmps214,List.size_toArray,List.length_cons,List.length_nil,Nat.reduceAdd,Nat.reduceSub,Array.replicate_succ,Array.replicate_zero,List.push_toArray,List.append_toArray,List.nil_append,List.cons_append]
 refine wpIn_wide.2 ?_
 go_wp2_with fail
 go_loopw [4] (fun x wr=>∃ (kk:Int) (pre:List Sd),x = .int .i64 kk∧kk<(n:Int) ∧ -1≤kk∧a6e q ss=pre++(sdE q (kk+1).toNat++sdP ss ns)∧pre.length+(kk+1).toNat≤n∧J pre wr∧Below n₀ W wr) (fun x _=>(intOf x+1).toNat)
 case atStart=>exact ⟨(n:Int) - 1,[],rfl,by omega,by omega,by rw [hL.out,show ((n:Int) - 1+1).toNat=n by omega];rfl,by simp,h0,Below.refl _ _⟩
 case round=>
  obtain ⟨kk,pre,rfl,hk1,hk2,hpre,hlen,hJs,hnx⟩:=hrel
  have hrw:=(hr.out.below hnx).more (Nat.le_trans hW hnx.size)
  have hrsw:=(hrs.out.below hnx).more (Nat.le_trans hW hnx.size)
  have hcr':=(hnx.cell (p:=⟨Br,0,none⟩) hBr).trans hcr
  have hcs':=(hnx.cell (p:=⟨Bs,0,none⟩) hBs).trans hcs
  have hwn:n₀≤wr.heap.size:=Nat.le_trans hW hnx.size
  by_cases hpos:0≤kk
  ·obtain ⟨m,rfl⟩:∃ m:Nat,kk=(m:Int):=⟨kk.toNat,by omega⟩
   have hmt:((m:Int)+1).toNat=m+1:=by omega
   rw [hmt] at hpre hlen
   have hmn:m<n:=by omega
   obtain ⟨e,hu⟩:∃ e,q[m]?=some e:=⟨_,List.getElem?_eq_getElem (by omega)⟩
   have he:=hq e (List.mem_of_getElem? hu)
   have hF:=St.start wr [a1a 17 A n c (ens q)] (fun d hd=>by obtain rfl:=List.mem_singleton.1 hd;exact hrw)
   have HK:=Lib.hid (fun W=>a2o e.inst W he.op)
   have HZ:=Lib.hid (fun W=>a7s e.inst W)
   have hz:=b5e e.inst.op
   by_cases hs:a1e e.inst.op=4
   ·rw [h2u hu hs] at hpre
    obtain ⟨z,hze⟩:∃ z:Nat,a2p e.inst.op=(z:Int):=⟨(a2p e.inst.op).toNat,by omega⟩
    have HBy:=Lib.hid (fun W=>Bytes_any e.value z W he.v (by omega))
    have hof:Sd.ofE e=⟨e.addr,(z:Int),⟨(bytesL e.value z).toArray⟩,e.is == 3⟩:=by unfold Sd.ofE a6d;rw [hze];rfl
    have hYx:=fun W hW=>hY pre (Sd.ofE e) W (d6w he) hW (by omega)
    rw [hof] at hYx hpre
    rw [hs] at HK
    rw [hze] at HZ
    obtain ⟨no,pc,⟨op,rd,rs1,rs2,imm⟩,guess,is,left,value,next,addr,halt,took,known,filled⟩:=e
    unfold Ins.val at HK HZ
    dsimp only at HK HZ HBy hYx hpre
    replace hpre:=Lib.hid hpre
    replace hYx:=Lib.hid hYx
    clear hof hze hs hz he hcs' hrsw hrw hmt
    go_upto_region 7 with ((try simp only [zA,Nat.reduceAdd]);(first|refine c8d ?_|(refine c8e ?_;clear hF;(first|intro gN wN hF|intro wN hF|intro hF))|(refine a1d ?_;clear hF;intro vN wN hF)))
    have hJ5:=hJ _ _ _ hJs hF.bel
    have hk5:=hF.bkAt at0
    have c4:=hk5.cell 12
    have c8:=hk5.cell 8
    simp only [List.getElem?_cons_succ,List.getElem?_cons_zero] at c4 c8
    obtain ⟨fn,tmps,assign,body,hy,hR⟩:=hYx.out _ hJ5
    unfold Sd.val at hy
    dsimp only at hy
    have hB5:=Lib.hid (hF.bel.mono hwn)
    clear hF hk5 hYx HK HZ HBy hu hJs hJ5 hcr'
    refine (wpIn_wide (n:=nf)).1 ?_
    gi_wp2
    refine hR.mono ?_
    rintro e W3 (⟨rfl,hJ3,hk3⟩|⟨rfl,hJx3⟩)
    ·gi_wp2
     exact d6v
    ·gi_wp2
     go_wp2
     refine bodyPost_ret (results_none rfl _ _ _) rfl ?_
     exact ⟨⟨_,rfl⟩,.inr ⟨_,by rw [hpre.out];exact ⟨sdE q m++sdP ss ns,by simp⟩,hJx3⟩⟩
   ·rw [h2v hu hs] at hpre
    obtain ⟨κ,hκ⟩:∃ κ,a1e e.inst.op=κ:=⟨_,rfl⟩
    rw [hκ] at HK hs
    obtain ⟨no,pc,⟨op,rd,rs1,rs2,imm⟩,guess,is,left,value,next,addr,halt,took,known,filled⟩:=e
    unfold Ins.val at HK
    dsimp only at HK
    replace hpre:=Lib.hid hpre
    have b4:(κ == 4)=false:=by simpa using hs
    have b4':(κ != 4)=true:=by simpa using hs
    clear he hcs' hrsw hrw hmt hz HZ hκ
    go_wp2_with ((try simp only [zA,Nat.reduceAdd]);(first|refine c8d ?_|(refine c8e ?_;clear hF;(first|intro gN wN hF|intro wN hF|intro hF))|(refine a1d ?_;clear hF;intro vN wN hF)))
    go_roundw
    case rel=>exact ⟨(m:Int) - 1,pre,by go_num,by omega,by omega,by rw [show ((m:Int) - 1+1).toNat=m by omega];exact hpre.out,by omega,hJ _ _ _ hJs hF.bel,hnx.trans (hF.bel.mono hwn)⟩
    case measure=>first|(simp [intOf];done)|(simp [intOf];omega)
  ·obtain rfl:kk = -1:=by omega
   have hpre2:a6e q ss=pre++sdP ss ns:=hpre
   have hlen2:pre.length≤n:=by simpa using hlen
   clear hpre hlen hcr hcr' hk1 hk2 hpos hrw hrsw h0
   go_wp2_with fail
   go_loopw [9] (fun x wq=>∃ (kk:Int) (pre:List Sd),x = .int .i64 kk∧kk<(ns:Int) ∧ -1≤kk∧a6e q ss=pre++sdP ss (kk+1).toNat∧pre.length+(kk+1).toNat≤n+ns∧J pre wq∧Below n₀ W wq) (fun x _=>(intOf x+1).toNat)
   case atStart=>exact ⟨(ns:Int) - 1,pre,rfl,by omega,by omega,by rw [show ((ns:Int) - 1+1).toNat=ns by omega];exact hpre2,by omega,hJs,hnx⟩
   case round=>
    clear hpre2 hlen2 hJs hnx hcs'
    obtain ⟨kk,pre,rfl,hk1,hk2,hpre,hlen,hJs,hnx⟩:=hrel
    have hrsw:=(hrs.out.below hnx).more (Nat.le_trans hW hnx.size)
    have hcs':=(hnx.cell (p:=⟨Bs,0,none⟩) hBs).trans hcs
    have hwn:n₀≤wr.heap.size:=Nat.le_trans hW hnx.size
    by_cases hpos:0≤kk
    ·obtain ⟨m,rfl⟩:∃ m:Nat,kk=(m:Int):=⟨kk.toNat,by omega⟩
     have hmt:((m:Int)+1).toNat=m+1:=by omega
     rw [hmt] at hpre hlen
     have hmn:m<ns:=by omega
     obtain ⟨p,hu⟩:∃ p,ss[m]?=some p:=⟨_,List.getElem?_eq_getElem (by omega)⟩
     rw [h2w hu] at hpre
     have hF:=St.start wr [a1a 2 As ns cs (pus ss)] (fun d hd=>by obtain rfl:=List.mem_singleton.1 hd;exact hrsw)
     have hYx:=fun W hW=>hY pre (Sd.ofP p) W (d6x (hss.out p (List.mem_of_getElem? hu))) hW (by omega)
     obtain ⟨pa,pd⟩:=p
     unfold Sd.ofP at hYx hpre
     dsimp only at hYx hpre
     replace hpre:=Lib.hid hpre
     replace hYx:=Lib.hid hYx
     clear hmt hrsw
     go_upto_region 12 with ((try simp only [zA,Nat.reduceAdd]);(first|refine f4j ?_|(refine a1s ?_;clear hF;(first|intro gN wN hF|intro wN hF|intro hF))|(refine a1d ?_;clear hF;intro vN wN hF)))
     have hJ5:=hJ _ _ _ hJs hF.bel
     have hk5:=hF.bkAt at0
     have c4:=hk5.cell 0
     have c8:=hk5.cell 1
     simp only [List.getElem?_cons_succ,List.getElem?_cons_zero] at c4 c8
     obtain ⟨fn,tmps,assign,body,hy,hR⟩:=hYx.out _ hJ5
     unfold Sd.val at hy
     dsimp only at hy
     have hB5:=Lib.hid (hF.bel.mono hwn)
     clear hF hk5 hYx hu hJs hJ5 hcs'
     refine (wpIn_wide (n:=nf)).1 ?_
     gi_wp2
     refine hR.mono ?_
     rintro e W3 (⟨rfl,hJ3,hk3⟩|⟨rfl,hJx3⟩)
     ·gi_wp2
      exact d6v
     ·gi_wp2
      go_wp2
      refine bodyPost_ret (results_none rfl _ _ _) rfl ?_
      exact ⟨⟨_,rfl⟩,.inr ⟨_,by rw [hpre.out];exact ⟨sdP ss m,by simp⟩,hJx3⟩⟩
    ·obtain rfl:kk = -1:=by omega
     have hpre2:=Lib.hid (show a6e q ss=pre by rw [hpre];simp [sdP])
     clear hpre hlen hk1 hk2 hpos hrsw
     go_wp2_with fail
     go_end0
     exact ⟨⟨_,rfl⟩,.inl (by rw [hpre2.out];exact ⟨_,rfl,hJs⟩)⟩
theorem h2y (nf:Nat) (hn:1≤nf) (Br Bs:Nat) (A:Option Addr) (n c:Nat) (As:Option Addr) (ns cs:Nat) (q:List En) (ss:List Pu) (w0:World) (hBr:Br<w0.heap.size) (hBs:Bs<w0.heap.size) (hq:ensOk q) (hn1:n≤1000) (hns:ns≤1000) (hss:∀ p∈ss,p.addr<4294967296∧p.data.size≤4)
  (hcr:w0.cell? ⟨Br,0,none⟩=some (.slice A n c)) (hcs:w0.cell? ⟨Bs,0,none⟩=some (.slice As ns cs)) (hr:Rd w0 w0.heap.size 17 A n c (ens q)) (hrs:Rd w0 w0.heap.size 2 As ns cs (pus ss)) :
  SeqStopsK Fence.wide nf Tryz.prog 214 #[.pointer (some ⟨Br,0,none⟩),.pointer (some ⟨Bs,0,none⟩)] (fun x:Sd=>#[(a5a x).val]) (Below w0.heap.size) (fun ys=>ys=a6e q ss) (fun pre=>pre <+: a6e q ss) (n+ns) w0:=fun l J Jx W hW hJ _ hY h0=>
 h2x nf l Br Bs w0.heap.size hn A n c As ns cs q ss hBr hBs hq hn1 hns hss J Jx (fun pre x W hx=>by have h:=hY pre x W;simp only [c1v hx] at h;exact h) W (fun pre w1 w2 h hb=>hJ pre w1 w2 none h (a6l hb none) (fun r e=>by cases e)) ((hW.cell (p:=⟨Br,0,none⟩) hBr).trans hcr) ((hW.cell (p:=⟨Bs,0,none⟩) hBs).trans hcs) (hr.below hW) (hrs.below hW) hW.size h0
end
end Go.Proofs.YtgnomadgnciifaaGreatDoor
