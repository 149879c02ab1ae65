/- . -/
import Derived.Test.YtgnomadgnciifaaGreatDoorZ41
set_option linter.unusedVariables false
set_option linter.unusedSimpArgs false
set_option linter.unusedSectionVars false
set_option maxRecDepth 100000
set_option maxHeartbeats 16000000
namespace Go.Proofs.YtgnomadgnciifaaGreatDoor
theorem d9h {p:Prop} (h:p:=by
 go_wp2_with ((try simp only [zA,Nat.reduceAdd]);(first|go_big_skip|refine c7t ?_|(go_at_call 63;refine (HLi.out _).mono ?_;rintro x wN ⟨rfl,dd,rfl⟩;replace hF:=hF.grow (Bel.drewN _ dd))|(go_at_call 179;refine (b3t hk hfit L hL32 ⟨(((hF.front 1 at1).front 2 at2).front 1 at1).lessD (D':=kD k s++D) (by simp only [kD,hfit.feO,hfit.stO,hfit.reO,a1h,zL];exact zsn)⟩).mono ?_;rintro x wN ⟨hx,⟨hF5⟩⟩;rw [hnr.out] at hx;subst hx;clear hF;have hF:=hF5;clear hF5;(try simp only [zF] at hF);(simp only [kD,hfit.feO,hfit.stO,hfit.reO,a1h,zL] at hF))|(go_at_call 81;obtain ⟨Ah,ch,hfz,hF2⟩:=hF.freeze 0 at0;injection hfz with hfz1 _ hfz2;subst hfz1 hfz2;clear hF;have hF:=hF2;clear hF2;(try simp only [zF] at hF);refine (a6q _ _ _ _ _ _ _ _ _ hF.rdA hF.rdA).mono ?_;rintro x wN ⟨hx,hb⟩;(first|rw [hh1.out] at hx|rw [hh3.out] at hx);subst hx;replace hF:=hF.grow hb;clear hb)|(go_at_call 13;refine (HVi.out _ (hF.rowRd (by exact zat) hl17 (by decide) hfit.robC hfit.robM)).mono ?_;rintro x wN ⟨rfl,hb⟩;replace hF:=hF.grow hb;clear hb)|(go_at_call 82;refine (a6r (s:=s) hk vis ((hF.front _ (m:=.blk g 81 (mcells k s)) (by exact zat)).lessD (D':=kD k s++D) (by simp only [kD,hfit.feO,hfit.stO,hfit.reO,a1h,zL];exact zsn))).mono ?_;rintro x wN ⟨hx,⟨hF5⟩⟩;rw [hrm.out] at hx;subst hx;clear hF;have hF:=hF5;clear hF5;(try simp only [zF] at hF);(simp only [kD,hfit.feO,hfit.stO,hfit.reO,a1h,zL] at hF))|(go_at_call 83;refine (a5q (s:=s) hk _ _ _ ((hF.front _ (m:=.blk g 81 (mcells k s)) (by exact zat)).lessD (D':=kD k s++D) (by simp only [kD,hfit.feO,hfit.stO,hfit.reO,a1h,zL];exact zsn))).mono ?_;rintro x wN ⟨⟨y,rfl⟩,A5,c5,hF5⟩;clear hF;have hF:=hF5;clear hF5;(try simp only [zF] at hF))|(refine c7u ?_;clear hF;intro gN wN hF)|(refine w_unguard rfl ?_;refine w_bs1 rfl hF rfl ?_;clear hF;intro gN wN hF)))
 refine bodyPost_ret (results_none rfl _ _ _) rfl ?_
 (refine ⟨⟨_,rfl⟩,?_⟩;rw [hR.out];exact ⟨s,hfit,ha,hb',⟨(hF.drop 0).lessD (by simp only [kD,hfit.feO,hfit.stO,hfit.reO,a1h,zL];exact zsn)⟩⟩)):p:=h
theorem d9i {p:Prop} (h:p:=by
 go_wp2_with ((try simp only [zA,Nat.reduceAdd]);(first|go_big_skip|refine c7t ?_|(go_at_call 63;refine (HLi.out _).mono ?_;rintro x wN ⟨rfl,dd,rfl⟩;replace hF:=hF.grow (Bel.drewN _ dd))|(go_at_call 179;refine (b3t hk hfit L hL32 ⟨(((hF.front 1 at1).front 2 at2).front 1 at1).lessD (D':=kD k s++D) (by simp only [kD,hfit.feO,hfit.stO,hfit.reO,a1h,zL];exact zsn)⟩).mono ?_;rintro x wN ⟨hx,⟨hF5⟩⟩;rw [hnr.out] at hx;subst hx;clear hF;have hF:=hF5;clear hF5;(try simp only [zF] at hF);(simp only [kD,hfit.feO,hfit.stO,hfit.reO,a1h,zL] at hF))|(go_at_call 81;obtain ⟨Ah,ch,hfz,hF2⟩:=hF.freeze 0 at0;injection hfz with hfz1 _ hfz2;subst hfz1 hfz2;clear hF;have hF:=hF2;clear hF2;(try simp only [zF] at hF);refine (a6q _ _ _ _ _ _ _ _ _ hF.rdA hF.rdA).mono ?_;rintro x wN ⟨hx,hb⟩;(first|rw [hh1.out] at hx|rw [hh3.out] at hx);subst hx;replace hF:=hF.grow hb;clear hb)|(go_at_call 13;refine (HVi.out _ (hF.rowRd (by exact zat) hl17 (by decide) hfit.robC hfit.robM)).mono ?_;rintro x wN ⟨rfl,hb⟩;replace hF:=hF.grow hb;clear hb)|(go_at_call 82;refine (a6r (s:=s) hk vis ((hF.front _ (m:=.blk g 81 (mcells k s)) (by exact zat)).lessD (D':=kD k s++D) (by simp only [kD,hfit.feO,hfit.stO,hfit.reO,a1h,zL];exact zsn))).mono ?_;rintro x wN ⟨hx,⟨hF5⟩⟩;rw [hrm.out] at hx;subst hx;clear hF;have hF:=hF5;clear hF5;(try simp only [zF] at hF);(simp only [kD,hfit.feO,hfit.stO,hfit.reO,a1h,zL] at hF))|(go_at_call 83;refine (a5q (s:=s) hk _ _ _ ((hF.front _ (m:=.blk g 81 (mcells k s)) (by exact zat)).lessD (D':=kD k s++D) (by simp only [kD,hfit.feO,hfit.stO,hfit.reO,a1h,zL];exact zsn))).mono ?_;rintro x wN ⟨⟨y,rfl⟩,A5,c5,hF5⟩;clear hF;have hF:=hF5;clear hF5;(try simp only [zF] at hF))|(refine c7u ?_;clear hF;intro gN wN hF)|(refine w_unguard rfl ?_;refine w_bs1 rfl hF rfl ?_;clear hF;intro gN wN hF)))
 go_end0
 (refine ⟨⟨_,rfl⟩,?_⟩;rw [hR.out];exact ⟨s,hfit,ha,hb',⟨(hF.drop 2).lessD (by simp only [kD,hfit.feO,hfit.stO,hfit.reO,a1h,zL];exact zsn)⟩⟩)):p:=h
theorem d9j {p:Prop} (h:p:=by
 (refine ⟨⟨_,rfl⟩,?_⟩;rw [hR.out];exact ⟨s,⟨hfit.data,hfit.words,by show (k.rob.set i _).length≤_;rw [List.length_set];exact hcap,hfit.robM,hfit.feO,hfit.stO,hfit.reO⟩,ha,hb',⟨by rw [b3u _ (List.length_set ..)];exact (hF.drop 2).lessD (by simp only [kD,hfit.feO,hfit.stO,hfit.reO,a1h,zL];exact zsn)⟩⟩)):p:=h
section
open Go.RowKit Wd
def c2a : Prop:=∀ (A:Option Addr) (n c:Nat) (As:Option Addr) (ns cs:Nat) (q:List En) (ss:List Pu) (i:Nat) (e:En) (w:World),Rd w w.heap.size 17 A n c (ens q)→Rd w w.heap.size 2 As ns cs (pus ss)→ensOk q→n≤1000→ns≤1000→(∀ p∈ss,p.addr<4294967296∧p.data.size≤4)→q[i]?=some e→a1e e.inst.op=3 →
 Calls Tryz.prog 178 #[.slice A n c,.slice As ns cs,.int .i64 (i:Int)] w fun x w'=>x = .returned (.tuple #[.int .i64 (a7q q ss i).1,.string (a7q q ss i).2])∧Bel w w'
theorem d9k {q:List En} {k:Nat} {e:En} (h:q[k]?=some e) (x:Int):(ens q).set (k * 17+8) (.int .i64 x)=ens (q.set k { e with is:=x }):=by
 obtain ⟨hl,he⟩:=List.getElem?_eq_some_iff.1 h
 rw [← Rows.spl (f:=ens) hl (r:={ e with is:=x }),b1r _ _ _ (by rw [a4l];show k * 17+17≤_;omega)]
 have h1:ens q=(ens q).take (k * 17)++(e.cells++(ens q).drop ((k+1) * 17)):=by
  rw [← Rows.single (f:=ens) e,Rows.drop,← Rows.append,Rows.take,← Rows.append]
  congr 1
  conv=>lhs;rw [← List.take_append_drop k q,List.drop_eq_getElem_cons hl,he]
  rfl
 conv=>lhs;rw [h1]
 have hm:((ens q).take (k * 17)).length=k * 17:=by rw [List.length_take,a4l];omega
 rw [List.set_append_right _ _ (by rw [hm];omega),hm,show k * 17+8 - k * 17=8 by omega,List.set_append_left _ _ (by show 8<17;omega)]
 have hc:({ e with is:=x }:En).cells.length=17:=rfl
 rw [hc,show k * 17+17=(k+1) * 17 by omega,← List.append_assoc]
 rfl
theorem d9l (a:Nat) (n:Int):∀ l:List Sd,(∀ s∈l,s.data.size≤4)→(a6f a n l).2.size≤4
 | [],_=>by show (0:Nat)≤4;omega
 | s::r,h=>by
  unfold a6f
  split
  ·exact d9l a n r fun t ht=>h t (List.mem_cons_of_mem _ ht)
  ·split
   ·show (0:Nat)≤4;omega
   ·have:=h s (List.mem_cons_self ..)
    show (s.data.extract _ _).size≤4
    rw [ByteArray.size_extract];omega
theorem h6x {q:List En} {ss:List Pu} (i:Nat) (h:∀ p∈ss,p.data.size≤4):(a7q q ss i).2.size≤4:=by
 unfold a7q
 split
 ·show (0:Nat)≤4;omega
 ·split
  ·show (0:Nat)≤4;omega
  ·split
   ·show (0:Nat)≤4;omega
   ·refine d9l _ _ _ fun s hs=>?_
    unfold a6e at hs
    rcases List.mem_append.1 hs with hs|hs
    ·obtain ⟨e,_,rfl⟩:=List.mem_map.1 hs
     show (a6d _ _).size≤4
     rw [c5u]
     have:=b5e e.inst.op
     omega
    ·obtain ⟨p,hp,rfl⟩:=List.mem_map.1 hs
     exact h p (by simpa using hp)
section
variable {P:Program} {ops:Array Oper} {rest:List Oper} {o:Oper} {a:Act} {Q:Exit→Act→World→Prop} {w:World}
theorem w_unguard (hw:Region.wanted o (yielded ops a.tmps)=true) (h:wpList P ops Q ({ o with guard:=none }::rest) a w):wpList P ops Q (o::rest) a w:=by
 unfold wpList at h ⊢
 rw [if_pos hw]
 rw [if_pos (by simp [Region.wanted])] at h
 exact h
end
theorem h6y (HDec:c2a) {w0 w:World} {D0 D:List Da} {M:List Mu} {g:Nat} {k:Kern} {a b:Bool} {B:Int} (hk:KOk B k) (i:Nat) (e:En) (hu:k.rob[i]?=some e) (h3:a1e e.inst.op=3) (hX:MX w0 D0 D M g k a b w) :
  Calls Tryz.prog 136 #[.pointer (some ⟨g,0,none⟩),.int .i64 (i:Int)] w fun x w'=>(∃ y,x = .returned y)∧MX w0 D0 D M g (a3z k i) a b w':=by
 obtain ⟨s,hfit,ha,hb',⟨hF⟩⟩:=hX
 have hn16:=hk.roblen
 have hst16:=hk.stlen
 have hcap:=hfit.robC
 have hin:i<k.rob.length:=(List.getElem?_eq_some_iff.1 hu).1
 have he:=hk.rob e (List.mem_of_getElem? hu)
 have hl17:(ens k.rob).length=k.rob.length * 17:=a4l _
 have hlen:0<(ens k.rob).length:=by omega
 have hoff:i * 17+8<(ens k.rob).length:=by omega
 have hP:=hF.rowP at1 hlen
 have hR:a3z k i=if e.known=false then k else
   if (a7q k.rob k.stores i).1=1 then { k with rob:=k.rob.set i (a5m e (a7q k.rob k.stores i).2) }
   else if (a7q k.rob k.stores i).1≠2 then k
   else if b1f k (a1w e.addr)=true then { k with rob:=k.rob.set i (a5m e (a7b k e)) }
   else if a3r k.bus (a1w e.addr) 1=true then { k with rob:=k.rob.set i { e with is:=2 } }
   else if a4q k (decide (i≤a3p k.rob))=true∧a3r k.bus (a1w e.addr) 3=false then
    { a3y k 1 (a1w e.addr) ⟨#[]⟩ with rob:=k.rob.set i { e with is:=2 } }
   else k:=by
  unfold a3z
  rw [hu]
  (try rfl)
 cases hkn:e.known with
 | false=>
  have hT:e.cells[15]?=some (.bool false):=(show e.cells[15]?=some (.bool e.known) from rfl).trans (congrArg (fun b=>some (Value.bool b)) hkn)
  rw [if_pos hkn] at hR
  replace hR:=Lib.hid hR
  clear hkn
  (simp only [kD,hfit.feO,hfit.stO,hfit.reO,a1h,zL] at hF)
  go_enter Tryz.func136,Tryz.ntmps136
  go_upto_region 1 with ((try simp only [zA,Nat.reduceAdd]);(first|go_big_skip|refine g_fldB rfl rfl (by (first|exact Wtd.of_none rfl|exact Wtd.of_some rfl rfl)) ?_|refine w_ld1 rfl hF rfl ?_|refine w_ixR rfl hF rfl rfl ?_|refine w_ldeR (us:=e.cells) (v:=e.val) (hu:=Rows.sub (f:=ens) hu) rfl hF rfl ?_|(refine w_alloc rfl hF ?_;clear hF;(first|intro gN wN hF|intro wN hF|intro hF))|(refine w_st (us:=e.cells) rfl hF rfl rfl ?_ (h1:=fun u hu=>.inl (e.one u hu));clear hF;(first|intro gN wN hF|intro wN hF|intro hF))))
  exact d9h
 | true=>
  have hT:e.cells[15]?=some (.bool true):=(show e.cells[15]?=some (.bool e.known) from rfl).trans (congrArg (fun b=>some (Value.bool b)) hkn)
  rw [if_neg (by rw [hkn];decide)] at hR
  have HDe:=fun (W:World) (h1:Rd W W.heap.size 17 s.robA k.rob.length s.robC (ens k.rob)) (h2:Rd W W.heap.size 2 s.stA k.stores.length s.stC (pus k.stores))=>HDec s.robA k.rob.length s.robC s.stA k.stores.length s.stC k.rob k.stores i e W h1 h2 hk.rob (by omega) (by omega) hk.st hu h3
  have HLi:=fun W=>a6u e.addr W he.a
  have hL32:=b5h he.a
  obtain ⟨L,hL⟩:∃ L,a1w e.addr=L:=⟨_,rfl⟩
  rw [show e.addr - e.addr % 16=L from hL] at HLi
  rw [hL] at hR hL32
  obtain ⟨how,by1,hde⟩:∃ how by1,a7q k.rob k.stores i=(how,by1):=⟨_,_,rfl⟩
  have hby1:by1.size≤maxLen:=by
   have:=h6x (q:=k.rob) i (fun p hp=>(hk.st p hp).2)
   rw [hde] at this
   unfold maxLen
   exact Nat.le_trans this (by omega)
  rw [hde] at HDe hR
  dsimp only at HDe hR
  replace HDe:=Lib.hid HDe
  replace HLi:=Lib.hid HLi
  clear hde hL hkn
  (simp only [kD,hfit.feO,hfit.stO,hfit.reO,a1h,zL] at hF)
  go_enter Tryz.func136,Tryz.ntmps136
  go_upto_region 1 with ((try simp only [zA,Nat.reduceAdd]);(first|go_big_skip|refine g_fldB rfl rfl (by (first|exact Wtd.of_none rfl|exact Wtd.of_some rfl rfl)) ?_|refine w_ld1 rfl hF rfl ?_|refine w_ixR rfl hF rfl rfl ?_|refine w_ldeR (us:=e.cells) (v:=e.val) (hu:=Rows.sub (f:=ens) hu) rfl hF rfl ?_|(refine w_alloc rfl hF ?_;clear hF;(first|intro gN wN hF|intro wN hF|intro hF))|(refine w_st (us:=e.cells) rfl hF rfl rfl ?_ (h1:=fun u hu=>.inl (e.one u hu));clear hF;(first|intro gN wN hF|intro wN hF|intro hF))))
  go_upto_region 2 with ((try simp only [zA,Nat.reduceAdd]);(first|go_big_skip|refine w_eqlH rfl rfl rfl ?_ (hb:=by with_reducible assumption)|refine w_neqH rfl rfl rfl ?_ (hb:=by with_reducible assumption)|refine w_ld1 rfl hF rfl ?_ (hv:=by with_reducible assumption)|refine g_fldB rfl rfl (by (first|exact Wtd.of_none rfl|exact Wtd.of_some rfl rfl)) ?_|refine w_ld1 rfl hF rfl ?_|(go_at_call 63;refine (HLi.out _).mono ?_;rintro x wN ⟨rfl,dd,rfl⟩;replace hF:=hF.grow (Bel.drewN _ dd))|(go_at_call 179;refine (b3t hk hfit L hL32 ⟨(((hF.front 1 at1).front 2 at2).front 1 at1).lessD (D':=kD k s++D) (by simp only [kD,hfit.feO,hfit.stO,hfit.reO,a1h,zL];exact zsn)⟩).mono ?_;rintro x wN ⟨hx,⟨hF5⟩⟩;rw [hnr.out] at hx;subst hx;clear hF;have hF:=hF5;clear hF5;(try simp only [zF] at hF);(simp only [kD,hfit.feO,hfit.stO,hfit.reO,a1h,zL] at hF))|(go_at_call 81;obtain ⟨Ah,ch,hfz,hF2⟩:=hF.freeze 0 at0;injection hfz with hfz1 _ hfz2;subst hfz1 hfz2;clear hF;have hF:=hF2;clear hF2;(try simp only [zF] at hF);refine (a6q _ _ _ _ _ _ _ _ _ hF.rdA hF.rdA).mono ?_;rintro x wN ⟨hx,hb⟩;(first|rw [hh1.out] at hx|rw [hh3.out] at hx);subst hx;replace hF:=hF.grow hb;clear hb)|(go_at_call 13;refine (HVi.out _ (hF.rowRd (by exact zat) hl17 (by decide) hfit.robC hfit.robM)).mono ?_;rintro x wN ⟨rfl,hb⟩;replace hF:=hF.grow hb;clear hb)|(go_at_call 82;refine (a6r (s:=s) hk vis ((hF.front _ (m:=.blk g 81 (mcells k s)) (by exact zat)).lessD (D':=kD k s++D) (by simp only [kD,hfit.feO,hfit.stO,hfit.reO,a1h,zL];exact zsn))).mono ?_;rintro x wN ⟨hx,⟨hF5⟩⟩;rw [hrm.out] at hx;subst hx;clear hF;have hF:=hF5;clear hF5;(try simp only [zF] at hF);(simp only [kD,hfit.feO,hfit.stO,hfit.reO,a1h,zL] at hF))|(go_at_call 83;refine (a5q (s:=s) hk _ _ _ ((hF.front _ (m:=.blk g 81 (mcells k s)) (by exact zat)).lessD (D':=kD k s++D) (by simp only [kD,hfit.feO,hfit.stO,hfit.reO,a1h,zL];exact zsn))).mono ?_;rintro x wN ⟨⟨y,rfl⟩,A5,c5,hF5⟩;clear hF;have hF:=hF5;clear hF5;(try simp only [zF] at hF))|(refine w_bs1 rfl hF rfl ?_;clear hF;intro gN wN hF)|(refine w_unguard rfl ?_;refine w_bs1 rfl hF rfl ?_;clear hF;intro gN wN hF)))
  refine a1n (by kernel_rfl) hF _ _ (fun _ h=>h) (fun _ h=>h) ?_
  clear hF;intro hF hH
  refine a1c 0 hH ?_
  refine zp 1 hH ?_
  refine zk1 2 hH ?_
  refine zk1 3 hH ?_
  refine a2i 4 hH ?_
  refine a1c 5 hH ?_
  refine zp 6 hH ?_
  refine zk1 7 hH ?_
  refine zk1 8 hH ?_
  refine a2i 9 hH ?_
  refine a1c 10 hH ?_
  refine zry 11 (fun K hK=>?_)
  go_wp2_with ((go_at_call 178;refine (HDe.out _ (hF.rowRd (by exact zat) hl17 (by decide) hfit.robC hfit.robM) hF.rdA).mono ?_;rintro x wN ⟨rfl,hb⟩;replace hF:=hF.grow hb;clear hb))
  have hH:=zx0 hH hF;refine hK.out _ _ hH ?_;clear hK;(try simp only [zA,Nat.reduceAdd])
  refine a1c 12 hH ?_
  refine zp 13 hH ?_
  refine zp 14 hH ?_
  refine a2a 15 hH ?_
  refine a2a 16 hH ?_
  refine zrz ?_
  (skip)
  by_cases h1:how=1
  ·rw [if_pos h1] at hR
   have hd1:=Lib.hid (show decide (how=1)=true by simpa using h1)
   have HTk:=fun W=>c5j e by1 W he.op hby1
   obtain ⟨f,hf⟩:∃ f,a5m e by1=f:=⟨_,rfl⟩
   rw [hf] at HTk hR
   replace HTk:=Lib.hid HTk
   replace hR:=Lib.hid hR
   clear h1 hf
   go_upto_region 5 with ((try simp only [zA,Nat.reduceAdd]);(first|go_big_skip|refine w_eqlH rfl rfl rfl ?_ (hb:=by with_reducible assumption)|refine w_neqH rfl rfl rfl ?_ (hb:=by with_reducible assumption)|refine w_ld1 rfl hF rfl ?_ (hv:=by with_reducible assumption)|refine g_fldB rfl rfl (by (first|exact Wtd.of_none rfl|exact Wtd.of_some rfl rfl)) ?_|refine w_ld1 rfl hF rfl ?_|(go_at_call 63;refine (HLi.out _).mono ?_;rintro x wN ⟨rfl,dd,rfl⟩;replace hF:=hF.grow (Bel.drewN _ dd))|(go_at_call 179;refine (b3t hk hfit L hL32 ⟨(((hF.front 1 at1).front 2 at2).front 1 at1).lessD (D':=kD k s++D) (by simp only [kD,hfit.feO,hfit.stO,hfit.reO,a1h,zL];exact zsn)⟩).mono ?_;rintro x wN ⟨hx,⟨hF5⟩⟩;rw [hnr.out] at hx;subst hx;clear hF;have hF:=hF5;clear hF5;(try simp only [zF] at hF);(simp only [kD,hfit.feO,hfit.stO,hfit.reO,a1h,zL] at hF))|(go_at_call 81;obtain ⟨Ah,ch,hfz,hF2⟩:=hF.freeze 0 at0;injection hfz with hfz1 _ hfz2;subst hfz1 hfz2;clear hF;have hF:=hF2;clear hF2;(try simp only [zF] at hF);refine (a6q _ _ _ _ _ _ _ _ _ hF.rdA hF.rdA).mono ?_;rintro x wN ⟨hx,hb⟩;(first|rw [hh1.out] at hx|rw [hh3.out] at hx);subst hx;replace hF:=hF.grow hb;clear hb)|(go_at_call 13;refine (HVi.out _ (hF.rowRd (by exact zat) hl17 (by decide) hfit.robC hfit.robM)).mono ?_;rintro x wN ⟨rfl,hb⟩;replace hF:=hF.grow hb;clear hb)|(go_at_call 82;refine (a6r (s:=s) hk vis ((hF.front _ (m:=.blk g 81 (mcells k s)) (by exact zat)).lessD (D':=kD k s++D) (by simp only [kD,hfit.feO,hfit.stO,hfit.reO,a1h,zL];exact zsn))).mono ?_;rintro x wN ⟨hx,⟨hF5⟩⟩;rw [hrm.out] at hx;subst hx;clear hF;have hF:=hF5;clear hF5;(try simp only [zF] at hF);(simp only [kD,hfit.feO,hfit.stO,hfit.reO,a1h,zL] at hF))|(go_at_call 83;refine (a5q (s:=s) hk _ _ _ ((hF.front _ (m:=.blk g 81 (mcells k s)) (by exact zat)).lessD (D':=kD k s++D) (by simp only [kD,hfit.feO,hfit.stO,hfit.reO,a1h,zL];exact zsn))).mono ?_;rintro x wN ⟨⟨y,rfl⟩,A5,c5,hF5⟩;clear hF;have hF:=hF5;clear hF5;(try simp only [zF] at hF))|(refine w_bs1 rfl hF rfl ?_;clear hF;intro gN wN hF)|(refine w_unguard rfl ?_;refine w_bs1 rfl hF rfl ?_;clear hF;intro gN wN hF)))
   refine a1n (by kernel_rfl) hF [.blk _ 54 e.cells,.blk g 81 (mcells k s)] _ (by ((repeat (first|exact a1f|refine a1m zdm ?_)) <;> exact a1f)) (fun _ h=>h) ?_
   clear hF;intro hF hH
   refine a1c 0 hH ?_
   refine zp 1 hH ?_
   refine zk1 2 hH ?_
   refine zk1 3 hH ?_
   refine a2i 4 hH ?_
   refine a1c 5 hH ?_
   refine a2i 6 hH ?_
   refine a1c 7 hH ?_
   refine zry 8 (fun K hK=>?_)
   go_wp2_with ((first|(refine b6c ?_;clear hF;intro wN hF)|((refine a5r rfl hF rfl rfl ?_);clear hF;intro wN hF;(try simp only [zA,Nat.reduceAdd]))))
   have hH:=zx0 hH hF;refine hK.out _ _ hH ?_;clear hK;(try simp only [zA,Nat.reduceAdd])
   refine b1z 9 hH ?_
   refine zry 10 (fun K hK=>?_)
   go_wp2_with ((first|(go_at_call 64;refine zcg hF (HTk.out _) ?_;clear hF;intro wN hF)|((refine a5r rfl hF rfl rfl ?_);clear hF;intro wN hF;(try simp only [zA,Nat.reduceAdd]))|(refine w_st1 rfl hF rfl rfl ?_;clear hF;intro wN hF)|(refine w_st rfl hF rfl rfl ?_;clear hF;intro wN hF)|(refine w_st1o rfl hF rfl rfl ?_;clear hF;intro wN hF));(try simp only [zA,Nat.reduceAdd]))
   have hH:=zx0 hH hF;refine hK.out _ _ hH ?_;clear hK;(try simp only [zA,Nat.reduceAdd])
   refine zrz ?_
   (skip)
   go_wp2
   go_end0
   (refine ⟨⟨_,rfl⟩,?_⟩;rw [hR.out];exact ⟨s,⟨hfit.data,hfit.words,by show (k.rob.set i _).length≤_;rw [List.length_set];exact hcap,hfit.robM,hfit.feO,hfit.stO,hfit.reO⟩,ha,hb',⟨by rw [b3u _ (List.length_set ..)];exact (hF.drop 0).lessD (by simp only [kD,hfit.feO,hfit.stO,hfit.reO,a1h,zL];exact zsn)⟩⟩)
  rw [if_neg h1] at hR
  have hd1:=Lib.hid (show decide (how=1)=false by simpa using h1)
  by_cases h2:how≠2
  ·rw [if_pos h2] at hR
   have hd2:=Lib.hid (show decide (¬ how=2)=true by simpa using h2)
   replace hR:=Lib.hid hR
   clear h1 h2
   exact d9h
  rw [if_neg h2] at hR
  have hd2:=Lib.hid (show decide (¬ how=2)=false by simpa using h2)
  obtain ⟨nr,hnr⟩:∃ nr,b1f k L=nr:=⟨_,rfl⟩
  obtain ⟨h1v,hh1⟩:∃ h1v,a3r k.bus L 1=h1v:=⟨_,rfl⟩
  obtain ⟨h3v,hh3⟩:∃ h3v,a3r k.bus L 3=h3v:=⟨_,rfl⟩
  obtain ⟨vis,hvi⟩:∃ vis,decide (i≤a3p k.rob)=vis:=⟨_,rfl⟩
  obtain ⟨rm,hrm⟩:∃ rm,a4q k vis=rm:=⟨_,rfl⟩
  rw [hnr,hh1,hh3,hvi,hrm] at hR
  have HVi:=fun (W:World) (h:Rd W W.heap.size 17 s.robA k.rob.length s.robC (ens k.rob))=>d4w s.robA k.rob.length s.robC k.rob (i:Int) W h hk.rob (by omega)
  rw [show decide ((i:Int)≤(a3p k.rob:Int))=vis by rw [← hvi];congr 1;exact propext (by omega)] at HVi
  replace HVi:=Lib.hid HVi
  replace hnr:=Lib.hid hnr
  replace hh1:=Lib.hid hh1
  replace hh3:=Lib.hid hh3
  replace hrm:=Lib.hid hrm
  clear h1 h2 hvi
  cases nr
  ·cases h1v
   ·cases rm
    ·replace hR:=Lib.hid (show a3z k i=k by rw [hR];simp)
     exact d9i
    ·cases h3v
     ·replace hR:=Lib.hid (show a3z k i={ a3y k 1 L ⟨#[]⟩ with rob:=k.rob.set i { e with is:=2 } } by rw [hR];simp)
      go_upto_region 13 with ((try simp only [zA,Nat.reduceAdd]);(first|go_big_skip|refine w_eqlH rfl rfl rfl ?_ (hb:=by with_reducible assumption)|refine w_neqH rfl rfl rfl ?_ (hb:=by with_reducible assumption)|refine w_ld1 rfl hF rfl ?_ (hv:=by with_reducible assumption)|refine g_fldB rfl rfl (by (first|exact Wtd.of_none rfl|exact Wtd.of_some rfl rfl)) ?_|refine w_ld1 rfl hF rfl ?_|(go_at_call 63;refine (HLi.out _).mono ?_;rintro x wN ⟨rfl,dd,rfl⟩;replace hF:=hF.grow (Bel.drewN _ dd))|(go_at_call 179;refine (b3t hk hfit L hL32 ⟨(((hF.front 1 at1).front 2 at2).front 1 at1).lessD (D':=kD k s++D) (by simp only [kD,hfit.feO,hfit.stO,hfit.reO,a1h,zL];exact zsn)⟩).mono ?_;rintro x wN ⟨hx,⟨hF5⟩⟩;rw [hnr.out] at hx;subst hx;clear hF;have hF:=hF5;clear hF5;(try simp only [zF] at hF);(simp only [kD,hfit.feO,hfit.stO,hfit.reO,a1h,zL] at hF))|(go_at_call 81;obtain ⟨Ah,ch,hfz,hF2⟩:=hF.freeze 0 at0;injection hfz with hfz1 _ hfz2;subst hfz1 hfz2;clear hF;have hF:=hF2;clear hF2;(try simp only [zF] at hF);refine (a6q _ _ _ _ _ _ _ _ _ hF.rdA hF.rdA).mono ?_;rintro x wN ⟨hx,hb⟩;(first|rw [hh1.out] at hx|rw [hh3.out] at hx);subst hx;replace hF:=hF.grow hb;clear hb)|(go_at_call 13;refine (HVi.out _ (hF.rowRd (by exact zat) hl17 (by decide) hfit.robC hfit.robM)).mono ?_;rintro x wN ⟨rfl,hb⟩;replace hF:=hF.grow hb;clear hb)|(go_at_call 82;refine (a6r (s:=s) hk vis ((hF.front _ (m:=.blk g 81 (mcells k s)) (by exact zat)).lessD (D':=kD k s++D) (by simp only [kD,hfit.feO,hfit.stO,hfit.reO,a1h,zL];exact zsn))).mono ?_;rintro x wN ⟨hx,⟨hF5⟩⟩;rw [hrm.out] at hx;subst hx;clear hF;have hF:=hF5;clear hF5;(try simp only [zF] at hF);(simp only [kD,hfit.feO,hfit.stO,hfit.reO,a1h,zL] at hF))|(go_at_call 83;refine (a5q (s:=s) hk _ _ _ ((hF.front _ (m:=.blk g 81 (mcells k s)) (by exact zat)).lessD (D':=kD k s++D) (by simp only [kD,hfit.feO,hfit.stO,hfit.reO,a1h,zL];exact zsn))).mono ?_;rintro x wN ⟨⟨y,rfl⟩,A5,c5,hF5⟩;clear hF;have hF:=hF5;clear hF5;(try simp only [zF] at hF))|(refine w_bs1 rfl hF rfl ?_;clear hF;intro gN wN hF)|(refine w_unguard rfl ?_;refine w_bs1 rfl hF rfl ?_;clear hF;intro gN wN hF)))
      go_wp2_with ((try simp only [zA,Nat.reduceAdd]);(first|refine c7v ?_|(refine c7w ?_;clear hF;intro wN hF)))
      go_end0
      rw [d9k hu] at hF
      refine ⟨⟨_,rfl⟩,?_⟩
      rw [hR.out]
      have e5:mcells ({ a3y k 1 L ⟨#[]⟩ with rob:=k.rob.set i { e with is:=2 } }:Kern) { s with busA:=A5,busC:=c5 }=mcells (a3y k 1 L ⟨#[]⟩) { s with busA:=A5,busC:=c5 }:=b3u (k:=a3y k 1 L ⟨#[]⟩) _ (List.length_set ..)
      rw [← e5] at hF
      exact ⟨{ s with busA:=A5,busC:=c5 },⟨hfit.data,hfit.words,by show (k.rob.set i _).length≤_;rw [List.length_set];exact hcap,hfit.robM,hfit.feO,hfit.stO,hfit.reO⟩,ha,hb',⟨hF.drop 2⟩⟩
     ·replace hR:=Lib.hid (show a3z k i=k by rw [hR];simp)
      exact d9i
   ·replace hR:=Lib.hid (show a3z k i={ k with rob:=k.rob.set i { e with is:=2 } } by rw [hR];simp)
    go_upto_region 10 with ((try simp only [zA,Nat.reduceAdd]);(first|go_big_skip|refine w_eqlH rfl rfl rfl ?_ (hb:=by with_reducible assumption)|refine w_neqH rfl rfl rfl ?_ (hb:=by with_reducible assumption)|refine w_ld1 rfl hF rfl ?_ (hv:=by with_reducible assumption)|refine g_fldB rfl rfl (by (first|exact Wtd.of_none rfl|exact Wtd.of_some rfl rfl)) ?_|refine w_ld1 rfl hF rfl ?_|(go_at_call 63;refine (HLi.out _).mono ?_;rintro x wN ⟨rfl,dd,rfl⟩;replace hF:=hF.grow (Bel.drewN _ dd))|(go_at_call 179;refine (b3t hk hfit L hL32 ⟨(((hF.front 1 at1).front 2 at2).front 1 at1).lessD (D':=kD k s++D) (by simp only [kD,hfit.feO,hfit.stO,hfit.reO,a1h,zL];exact zsn)⟩).mono ?_;rintro x wN ⟨hx,⟨hF5⟩⟩;rw [hnr.out] at hx;subst hx;clear hF;have hF:=hF5;clear hF5;(try simp only [zF] at hF);(simp only [kD,hfit.feO,hfit.stO,hfit.reO,a1h,zL] at hF))|(go_at_call 81;obtain ⟨Ah,ch,hfz,hF2⟩:=hF.freeze 0 at0;injection hfz with hfz1 _ hfz2;subst hfz1 hfz2;clear hF;have hF:=hF2;clear hF2;(try simp only [zF] at hF);refine (a6q _ _ _ _ _ _ _ _ _ hF.rdA hF.rdA).mono ?_;rintro x wN ⟨hx,hb⟩;(first|rw [hh1.out] at hx|rw [hh3.out] at hx);subst hx;replace hF:=hF.grow hb;clear hb)|(go_at_call 13;refine (HVi.out _ (hF.rowRd (by exact zat) hl17 (by decide) hfit.robC hfit.robM)).mono ?_;rintro x wN ⟨rfl,hb⟩;replace hF:=hF.grow hb;clear hb)|(go_at_call 82;refine (a6r (s:=s) hk vis ((hF.front _ (m:=.blk g 81 (mcells k s)) (by exact zat)).lessD (D':=kD k s++D) (by simp only [kD,hfit.feO,hfit.stO,hfit.reO,a1h,zL];exact zsn))).mono ?_;rintro x wN ⟨hx,⟨hF5⟩⟩;rw [hrm.out] at hx;subst hx;clear hF;have hF:=hF5;clear hF5;(try simp only [zF] at hF);(simp only [kD,hfit.feO,hfit.stO,hfit.reO,a1h,zL] at hF))|(go_at_call 83;refine (a5q (s:=s) hk _ _ _ ((hF.front _ (m:=.blk g 81 (mcells k s)) (by exact zat)).lessD (D':=kD k s++D) (by simp only [kD,hfit.feO,hfit.stO,hfit.reO,a1h,zL];exact zsn))).mono ?_;rintro x wN ⟨⟨y,rfl⟩,A5,c5,hF5⟩;clear hF;have hF:=hF5;clear hF5;(try simp only [zF] at hF))|(refine w_bs1 rfl hF rfl ?_;clear hF;intro gN wN hF)|(refine w_unguard rfl ?_;refine w_bs1 rfl hF rfl ?_;clear hF;intro gN wN hF)))
    go_wp2_with ((try simp only [zA,Nat.reduceAdd]);(first|refine c7v ?_|(refine c7w ?_;clear hF;intro wN hF)))
    go_end0
    rw [d9k hu] at hF
    exact d9j
  ·replace hR:=Lib.hid (show a3z k i={ k with rob:=k.rob.set i (a5m e (a7b k e)) } by rw [hR];simp)
   have hbs:=d9g k e
   have hm256:=hk.mem
   obtain ⟨Bs,hBs⟩:∃ Bs,a7b k e=Bs:=⟨_,rfl⟩
   rw [hBs] at hR hbs
   have hby:=Lib.hid hBs
   have HTk:=fun W=>c5j e Bs W he.op (by unfold maxLen;omega)
   obtain ⟨f,hf⟩:∃ f,a5m e Bs=f:=⟨_,rfl⟩
   rw [hf] at HTk hR
   replace HTk:=Lib.hid HTk
   clear hf hBs
   go_upto_region 8 with ((try simp only [zA,Nat.reduceAdd]);(first|go_big_skip|refine w_eqlH rfl rfl rfl ?_ (hb:=by with_reducible assumption)|refine w_neqH rfl rfl rfl ?_ (hb:=by with_reducible assumption)|refine w_ld1 rfl hF rfl ?_ (hv:=by with_reducible assumption)|refine g_fldB rfl rfl (by (first|exact Wtd.of_none rfl|exact Wtd.of_some rfl rfl)) ?_|refine w_ld1 rfl hF rfl ?_|(go_at_call 63;refine (HLi.out _).mono ?_;rintro x wN ⟨rfl,dd,rfl⟩;replace hF:=hF.grow (Bel.drewN _ dd))|(go_at_call 179;refine (b3t hk hfit L hL32 ⟨(((hF.front 1 at1).front 2 at2).front 1 at1).lessD (D':=kD k s++D) (by simp only [kD,hfit.feO,hfit.stO,hfit.reO,a1h,zL];exact zsn)⟩).mono ?_;rintro x wN ⟨hx,⟨hF5⟩⟩;rw [hnr.out] at hx;subst hx;clear hF;have hF:=hF5;clear hF5;(try simp only [zF] at hF);(simp only [kD,hfit.feO,hfit.stO,hfit.reO,a1h,zL] at hF))|(go_at_call 81;obtain ⟨Ah,ch,hfz,hF2⟩:=hF.freeze 0 at0;injection hfz with hfz1 _ hfz2;subst hfz1 hfz2;clear hF;have hF:=hF2;clear hF2;(try simp only [zF] at hF);refine (a6q _ _ _ _ _ _ _ _ _ hF.rdA hF.rdA).mono ?_;rintro x wN ⟨hx,hb⟩;(first|rw [hh1.out] at hx|rw [hh3.out] at hx);subst hx;replace hF:=hF.grow hb;clear hb)|(go_at_call 13;refine (HVi.out _ (hF.rowRd (by exact zat) hl17 (by decide) hfit.robC hfit.robM)).mono ?_;rintro x wN ⟨rfl,hb⟩;replace hF:=hF.grow hb;clear hb)|(go_at_call 82;refine (a6r (s:=s) hk vis ((hF.front _ (m:=.blk g 81 (mcells k s)) (by exact zat)).lessD (D':=kD k s++D) (by simp only [kD,hfit.feO,hfit.stO,hfit.reO,a1h,zL];exact zsn))).mono ?_;rintro x wN ⟨hx,⟨hF5⟩⟩;rw [hrm.out] at hx;subst hx;clear hF;have hF:=hF5;clear hF5;(try simp only [zF] at hF);(simp only [kD,hfit.feO,hfit.stO,hfit.reO,a1h,zL] at hF))|(go_at_call 83;refine (a5q (s:=s) hk _ _ _ ((hF.front _ (m:=.blk g 81 (mcells k s)) (by exact zat)).lessD (D':=kD k s++D) (by simp only [kD,hfit.feO,hfit.stO,hfit.reO,a1h,zL];exact zsn))).mono ?_;rintro x wN ⟨⟨y,rfl⟩,A5,c5,hF5⟩;clear hF;have hF:=hF5;clear hF5;(try simp only [zF] at hF))|(refine w_bs1 rfl hF rfl ?_;clear hF;intro gN wN hF)|(refine w_unguard rfl ?_;refine w_bs1 rfl hF rfl ?_;clear hF;intro gN wN hF)))
   refine a1n (by kernel_rfl) hF [.blk _ 54 e.cells,.blk g 81 (mcells k s)] _ (by ((repeat (first|exact a1f|refine a1m zdm ?_)) <;> exact a1f)) (fun _ h=>h) ?_
   clear hF;intro hF hH
   refine a1c 0 hH ?_
   refine zp 1 hH ?_
   refine zk1 2 hH ?_
   refine zk1 3 hH ?_
   refine a2i 4 hH ?_
   refine a1c 5 hH ?_
   refine a2i 6 hH ?_
   refine a1c 7 hH ?_
   refine a2i 8 hH ?_
   refine zry 9 (fun K hK=>?_)
   go_wp2_with ((first|(go_at_call 65;refine (b5g (s:=s) hk hfit.data hfit.stO e he ((hF.front _ (m:=.blk g 81 (mcells k s)) (by exact zat)).lessD (D':=kD k s++D) (by simp only [kD,hfit.feO,hfit.stO,hfit.reO,a1h,zL];exact zsn))).mono ?_;rintro x wN ⟨hx,⟨hF5⟩⟩;rw [hby.out] at hx;subst hx;clear hF;have hF:=hF5;clear hF5;(try simp only [zF] at hF);(simp only [kD,hfit.feO,hfit.stO,hfit.reO,a1h,zL] at hF))|(refine b6c ?_;clear hF;intro wN hF)|((refine a5r rfl hF rfl rfl ?_);clear hF;intro wN hF;(try simp only [zA,Nat.reduceAdd]))))
   have hH:=zx0 hH hF;refine hK.out _ _ hH ?_;clear hK;(try simp only [zA,Nat.reduceAdd])
   refine zry 10 (fun K hK=>?_)
   go_wp2_with ((first|(go_at_call 65;refine (b5g (s:=s) hk hfit.data hfit.stO e he ((hF.front _ (m:=.blk g 81 (mcells k s)) (by exact zat)).lessD (D':=kD k s++D) (by simp only [kD,hfit.feO,hfit.stO,hfit.reO,a1h,zL];exact zsn))).mono ?_;rintro x wN ⟨hx,⟨hF5⟩⟩;rw [hby.out] at hx;subst hx;clear hF;have hF:=hF5;clear hF5;(try simp only [zF] at hF);(simp only [kD,hfit.feO,hfit.stO,hfit.reO,a1h,zL] at hF))|(refine b6c ?_;clear hF;intro wN hF)|((refine a5r rfl hF rfl rfl ?_);clear hF;intro wN hF;(try simp only [zA,Nat.reduceAdd]))))
   have hH:=zx0 hH hF;refine hK.out _ _ hH ?_;clear hK;(try simp only [zA,Nat.reduceAdd])
   refine b1z 11 hH ?_
   refine zry 12 (fun K hK=>?_)
   go_wp2_with ((first|(go_at_call 65;refine (b5g (s:=s) hk hfit.data hfit.stO e he ((hF.front _ (m:=.blk g 81 (mcells k s)) (by exact zat)).lessD (D':=kD k s++D) (by simp only [kD,hfit.feO,hfit.stO,hfit.reO,a1h,zL];exact zsn))).mono ?_;rintro x wN ⟨hx,⟨hF5⟩⟩;rw [hby.out] at hx;subst hx;clear hF;have hF:=hF5;clear hF5;(try simp only [zF] at hF);(simp only [kD,hfit.feO,hfit.stO,hfit.reO,a1h,zL] at hF))|(go_at_call 64;refine zcg hF (HTk.out _) ?_;clear hF;intro wN hF)|((refine a5r rfl hF rfl rfl ?_);clear hF;intro wN hF;(try simp only [zA,Nat.reduceAdd]))|(refine w_st1 rfl hF rfl rfl ?_;clear hF;intro wN hF)|(refine w_st rfl hF rfl rfl ?_;clear hF;intro wN hF)|(refine w_st1o rfl hF rfl rfl ?_;clear hF;intro wN hF));(try simp only [zA,Nat.reduceAdd]))
   have hH:=zx0 hH hF;refine hK.out _ _ hH ?_;clear hK;(try simp only [zA,Nat.reduceAdd])
   refine zrz ?_
   (skip)
   go_wp2
   go_end0
   exact d9j
end
end Go.Proofs.YtgnomadgnciifaaGreatDoor
