/- . -/
import Derived.Test.YtgnomadgnciifaaGreatDoorZ39
set_option linter.unusedVariables false
set_option linter.unusedSimpArgs false
set_option linter.unusedSectionVars false
set_option maxRecDepth 100000
set_option maxHeartbeats 16000000
namespace Go.Proofs.YtgnomadgnciifaaGreatDoor
theorem d9f {p:Prop} (h:p:=by
 go_upto_region 8 with ((try simp only [zA,Nat.reduceAdd]);(first|go_big_skip|refine b6a ?_|(refine b6b ?_;clear hF;(first|intro gN wN hF|intro wN hF|intro hF))))
 refine a1n (by kernel_rfl) hF _ _ (fun _ h=>h) (fun _ h=>h) ?_
 clear hF;intro hF hH
 refine zk1 0 hH ?_
 refine a2i 1 hH ?_
 first|(refine a1p (i:=2) rfl (b4y rfl rfl rfl) hH ?_;(try simp only [zA,Nat.reduceAdd]))|refine zp 2 hH ?_
 refine a1c 3 hH ?_
 refine zk9 4 hH ?_
 refine a4n 5 hH ?_
 refine zk9 7 hH ?_
 refine a4n 8 hH ?_
 refine zry 6 (fun K hK=>?_)
 go_wp2_with ((first|go_big_skip|(refine c7s ?_;clear hF;intro wN hF)))
 have hH:=zx0 hH hF;refine hK.out _ _ hH ?_;clear hK;(try simp only [zA,Nat.reduceAdd])
 first|(refine a1p (i:=9) rfl (b4y rfl rfl rfl) hH ?_;(try simp only [zA,Nat.reduceAdd]))|refine zp 9 hH ?_
 refine zp 10 hH ?_
 refine zrz ?_
 (skip)
 go_wp2_with ((try simp only [zA,Nat.reduceAdd]);(first|go_big_skip|refine b6a ?_|(refine b6b ?_;clear hF;(first|intro gN wN hF|intro wN hF|intro hF))))
 go_roundw
 case rel=>exact ⟨j+1,by omega,by go_num,⟨by rw [hset2.out];exact hF.drop 0⟩⟩
 case measure=>first|(simp [intOf];done)|(simp [intOf];omega)):p:=h
section
open Go.RowKit Wd
theorem h6u {f:En→En} {j:Nat} {q:List En} {e:En} (h:q[j]?=some e) (hf:f e=e):a6s f (j+1) q=a6s f j q:=by
 rw [← c6c h,hf]
 have h2:=c6b (f:=f) h
 obtain ⟨hl,he⟩:=List.getElem?_eq_some_iff.1 h2
 conv=>lhs;arg 3;rw [← he]
 exact List.set_getElem_self hl
theorem h6v (m:ByteArray) (a:Nat) (n:Int):(b4s m a n).size≤m.size:=by
 unfold b4s
 split
 ·rw [ByteArray.size_extract];omega
 ·exact Nat.zero_le _
theorem d9g (k:Kern) (e:En):(a7b k e).size≤k.mem.size:=by
 have h:(b3j k).size=k.mem.size:=a6p _ _
 rw [← h]
 exact h6v _ _ _
theorem h6w {w0 w:World} {D0 D:List Da} {M:List Mu} {g:Nat} {k:Kern} {a b:Bool} {B:Int} (hk:KOk B k) (hB:B+1≤1000000) (hX:MX w0 D0 D M g k a b w) :
  Calls Tryz.prog 31 #[.pointer (some ⟨g,0,none⟩)] w fun x w'=>(∃ y,x = .returned y)∧MX w0 D0 D M g (a2k k) a b w':=by
 obtain ⟨s,hfit,ha,hb',⟨hF⟩⟩:=hX
 have hk1:=hk.tick
 have hbl:=hk.buslen
 have HT:=fun (W:World) (h:Rd W W.heap.size 4 s.busA k.bus.length s.busC (rqs k.bus))=>h1o s.busA k.bus.length s.busC k.bus W h (by omega) hk.left
 have hE:a2k k=match (a3g k.bus).2 with
  | none=>{ k with bus:=(a3g k.bus).1 }
  | some d =>
   if d.kind=1 then { k with bus:=(a3g k.bus).1,rob:=k.rob.map (a5p { k with bus:=(a3g k.bus).1 } d.line) }
   else if d.kind=2 then { k with bus:=(a3g k.bus).1,words:=(a9f k.wways k.words d.line ⟨#[]⟩ false).1 }
   else if d.kind=3 then a5u { k with bus:=(a3g k.bus).1 } d.line
   else if d.kind=4 then { k with bus:=(a3g k.bus).1,mem:=a9h k.mem [⟨d.line,d.data⟩] }
   else { k with bus:=(a3g k.bus).1 }:=rfl
 have hdn:∀ d,(a3g k.bus).2=some d→d.line<4294967296∧d.data.size≤maxLen:=fun d h=>by
  obtain ⟨r,hr,e1,e2,_⟩:=d7h h
  rw [e1,e2];exact hk.bus r hr
 obtain ⟨q1,od,htk⟩:∃ q1 od,a3g k.bus=(q1,od):=⟨_,_,rfl⟩
 rw [htk] at hk1 HT hE hdn
 dsimp only at hk1 HT hE hdn
 clear htk
 (simp only [kD,zL] at hF)
 cases od with
 | none=>
  replace HT:=Lib.hid (show ∀ (W:World) (h:Rd W W.heap.size 4 s.busA k.bus.length s.busC (rqs k.bus)),Calls Tryz.prog 62 #[.slice s.busA k.bus.length s.busC] W (fun e w'=>∃ A2 c2,e = .returned (.tuple #[.slice A2 q1.length c2,c1t.val,.bool false])∧Out W [a1a 4 s.busA k.bus.length s.busC (rqs k.bus)] w' [a1a 4 A2 q1.length c2 (rqs q1)]) from HT)
  replace hE:=Lib.hid hE
  clear hdn
  go_enter Tryz.func31,Tryz.ntmps31
  go_wp2_with ((try simp only [zA,Nat.reduceAdd]);(first|go_big_skip|refine b2v ?_|(go_at_call 62;refine (HT.out _ hF.rdA).mono ?_;rintro x wN ⟨A2,c2,rfl,hO⟩;replace hF:=hF.call1A hO;clear hO)|(refine b3x ?_;clear hF;(first|intro gN wN hF|intro wN hF|intro hF))|(refine a1d ?_;clear hF;intro vN wN hF)))
  refine bodyPost_ret (results_none rfl _ _ _) rfl ⟨⟨_,rfl⟩,?_⟩
  rw [hE.out]
  rw [mset_bus (k:=k) (s:=s) q1 rfl] at hF
  exact ⟨{ s with busA:=A2,busC:=c2 },⟨hfit.data,hfit.words,hfit.robC,hfit.robM,hfit.feO,hfit.stO,hfit.reO⟩,ha,hb',⟨(hF.drop 0).lessD (by simp only [kD,zL];exact zsn)⟩⟩
 | some d=>
  have hd:=hdn d rfl
  replace HT:=Lib.hid (show ∀ (W:World) (h:Rd W W.heap.size 4 s.busA k.bus.length s.busC (rqs k.bus)),Calls Tryz.prog 62 #[.slice s.busA k.bus.length s.busC] W (fun e w'=>∃ A2 c2,e = .returned (.tuple #[.slice A2 q1.length c2,d.val,.bool true])∧Out W [a1a 4 s.busA k.bus.length s.busC (rqs k.bus)] w' [a1a 4 A2 q1.length c2 (rqs q1)]) from HT)
  clear hdn
  go_enter Tryz.func31,Tryz.ntmps31
  go_upto_region 3 with ((try simp only [zA,Nat.reduceAdd]);(first|go_big_skip|refine b2v ?_|(go_at_call 62;refine (HT.out _ hF.rdA).mono ?_;rintro x wN ⟨A2,c2,rfl,hO⟩;replace hF:=hF.call1A hO;clear hO)|(refine b3x ?_;clear hF;(first|intro gN wN hF|intro wN hF|intro hF))|(refine a1d ?_;clear hF;intro vN wN hF)))
  rw [mset_bus (k:=k) (s:=s) q1 rfl] at hF
  obtain ⟨gd,rfl⟩:=hF.names1
  have hfit1:Fit { k with bus:=q1 } { s with busA:=A2,busC:=c2 }:=⟨hfit.data,hfit.words,hfit.robC,hfit.robM,hfit.feO,hfit.stO,hfit.reO⟩
  have hF2:St w0 D0 _ (.blk gd 118 d.cells :: .blk g 81 (mcells { k with bus:=q1 } { s with busA:=A2,busC:=c2 }) :: .row ({ s with busA:=A2,busC:=c2 }:Sls).robA 54 (ens ({ k with bus:=q1 }:Kern).rob)::M) (kD { k with bus:=q1 } { s with busA:=A2,busC:=c2 }++D):=hF.lessD (by simp only [kD,zL];exact zsn)
  clear hF
  have hF:=hF2
  have ha1:a=true→({ s with busA:=A2,busC:=c2 }:Sls).feC=({ k with bus:=q1 }:Kern).fetched.length:=ha
  have hb1:b=true→({ s with busA:=A2,busC:=c2 }:Sls).stC=({ k with bus:=q1 }:Kern).stores.length∧({ s with busA:=A2,busC:=c2 }:Sls).reC=({ k with bus:=q1 }:Kern).retired.length:=hb'
  replace hE:a2k k=if d.kind=1 then { ({ k with bus:=q1 }:Kern) with rob:=({ k with bus:=q1 }:Kern).rob.map (a5p { k with bus:=q1 } d.line) }
   else if d.kind=2 then { ({ k with bus:=q1 }:Kern) with words:=(a9f ({ k with bus:=q1 }:Kern).wways ({ k with bus:=q1 }:Kern).words d.line ⟨#[]⟩ false).1 }
   else if d.kind=3 then a5u { k with bus:=q1 } d.line
   else if d.kind=4 then { ({ k with bus:=q1 }:Kern) with mem:=a9h ({ k with bus:=q1 }:Kern).mem [⟨d.line,d.data⟩] }
   else { k with bus:=q1 }:=hE
  generalize { k with bus:=q1 }=k1 at hF hk1 hfit1 ha1 hb1 hE
  generalize { s with busA:=A2,busC:=c2 }=s1 at hF hfit1 ha1 hb1
  clear hF2 HT ha hb' hfit hk hbl
  have hn16:=hk1.roblen
  have hm256:=hk1.mem
  have hcap:=hfit1.robC
  (simp only [kD,zL] at hF)
  by_cases h1:d.kind=1
  ·rw [if_pos h1] at hE
   have hb1:=Lib.hid (show decide (d.kind=1)=true by simpa using h1)
   clear h1
   go_wp2_with ((try simp only [zA,Nat.reduceAdd]);(first|go_big_skip|refine b2v ?_|(go_at_call 62;refine (HT.out _ hF.rdA).mono ?_;rintro x wN ⟨A2,c2,rfl,hO⟩;replace hF:=hF.call1A hO;clear hO)|(refine b3x ?_;clear hF;(first|intro gN wN hF|intro wN hF|intro hF))|(refine a1d ?_;clear hF;intro vN wN hF)))
   go_loopw [34] (fun i wr=>∃ j:Nat,j≤k1.rob.length∧i = .int .i64 (j:Int)∧MQ w0 D0 D (.blk gd 118 d.cells::M) g k1 s1 (a6s (a5p k1 d.line) j k1.rob) wr) (fun i _=>k1.rob.length - (intOf i).toNat)
   case atStart=>exact ⟨0,by omega,rfl,⟨((hF.front 1 at1).front 2 at2).front 1 at1⟩⟩
   case round=>
    clear hF hb1
    obtain ⟨j,hj,rfl,⟨hF⟩⟩:=hrel
    (simp only [kD,zL] at hF)
    by_cases hjn:j<k1.rob.length
    ·obtain ⟨e,hu0⟩:∃ e,k1.rob[j]?=some e:=⟨_,List.getElem?_eq_getElem hjn⟩
     have hu:=c6b (f:=a5p k1 d.line) hu0
     have he:=hk1.rob e (List.mem_of_getElem? hu0)
     have hset:=c6c (f:=a5p k1 d.line) hu0
     have hskip:=fun h=>h6u (f:=a5p k1 d.line) hu0 h
     have hlq:=d8k (a5p k1 d.line) j k1.rob
     have HLi:=fun W=>show Calls Tryz.prog 63 #[.int .u32 (e.addr:Int)] W (fun x w'=>x = .returned (.int .u32 ((e.addr - e.addr % 16:Nat):Int))∧Bel W w') from (a6u e.addr W he.a).mono (fun x w' h=>by obtain ⟨h1,d,rfl⟩:=h;exact ⟨h1,Bel.drewN _ d⟩)
     obtain ⟨L,hL⟩:∃ L,e.addr - e.addr % 16=L:=⟨_,rfl⟩
     rw [hL] at HLi
     have hFe:a5p k1 d.line e=if e.is=2∧L=d.line then a5m { e with filled:=true } (a7b k1 e) else e:=by unfold a5p a1w;rw [hL]
     obtain ⟨q,hq⟩:∃ q,a6s (a5p k1 d.line) j k1.rob=q:=⟨_,rfl⟩
     rw [hq] at hF hu hset hlq hskip
     have hlen:0<(ens q).length:=by rw [a4l];omega
     have hP:=hF.rowP at1 hlen
     have hjq:j<q.length:=by omega
     replace HLi:=Lib.hid HLi
     clear hq hu0 hE hL
     by_cases hc:e.is=2
     ·have hc2:=Lib.hid (show decide (e.is=2)=true by simpa using hc)
      by_cases hl:L=d.line
      ·have hl2:=Lib.hid (show decide ((L:Int)=(d.line:Int))=true from decide_eq_true (by omega))
       rw [if_pos ⟨hc,hl⟩] at hFe
       have he2o:=d6t he
       have hby:a7b k1 { e with filled:=true }=a7b k1 e:=rfl
       have hbs:=d9g k1 e
       obtain ⟨Bs,hBs⟩:∃ Bs,a7b k1 e=Bs:=⟨_,rfl⟩
       rw [hBs] at hFe hby hbs
       have HTk:=Lib.hid (fun W=>c5j { e with filled:=true } Bs W he2o.op (by unfold maxLen;omega))
       rw [hFe] at hset
       obtain ⟨f,hf⟩:∃ f,a5m { e with filled:=true } Bs=f:=⟨_,rfl⟩
       rw [hf] at hset HTk
       replace hset:=Lib.hid hset
       replace hby:=Lib.hid hby
       clear hf hFe hskip hBs hbs hl hc he
       go_upto_region 8 with ((try simp only [zA,Nat.reduceAdd]);(first|go_big_skip|refine b6a ?_|(refine b6b ?_;clear hF;(first|intro gN wN hF|intro wN hF|intro hF))))
       refine a1n (by kernel_rfl) hF _ _ (fun _ h=>h) (fun _ h=>h) ?_
       clear hF;intro hF hH
       refine zk1 0 hH ?_
       refine a2i 1 hH ?_
       first|(refine a1p (i:=2) rfl (b4y rfl rfl rfl) hH ?_;(try simp only [zA,Nat.reduceAdd]))|refine zp 2 hH ?_
       refine a1c 3 hH ?_
       refine zk9 4 hH ?_
       refine a4n 5 hH ?_
       refine zk9 7 hH ?_
       refine a4n 8 hH ?_
       refine zry 6 (fun K hK=>?_)
       go_wp2_with ((first|go_big_skip|(refine c7s ?_;clear hF;intro wN hF)))
       have hH:=zx0 hH hF;refine hK.out _ _ hH ?_;clear hK;(try simp only [zA,Nat.reduceAdd])
       first|(refine a1p (i:=9) rfl (b4y rfl rfl rfl) hH ?_;(try simp only [zA,Nat.reduceAdd]))|refine zp 9 hH ?_
       refine zp 10 hH ?_
       refine zrz ?_
       (skip)
       go_upto_region 10 with ((try simp only [zA,Nat.reduceAdd]);(first|go_big_skip|refine b6a ?_|(refine b6b ?_;clear hF;(first|intro gN wN hF|intro wN hF|intro hF))))
       refine a1n (by kernel_rfl) hF [.blk _ 54 ({ e with filled:=true }:En).cells,.blk g 81 (mcells k1 s1)] _ (by ((repeat (first|exact a1f|refine a1m zdm ?_)) <;> exact a1f)) (fun _ h=>h) ?_
       clear hF;intro hF hH
       refine a1c 0 hH ?_
       refine zp 1 hH ?_
       refine zk1 2 hH ?_
       refine zk1 3 hH ?_
       refine a2i 4 hH ?_
       refine a1c 5 hH ?_
       refine a2i 6 hH ?_
       refine a1c 7 hH ?_
       refine a2i 8 hH ?_
       refine zry 9 (fun K hK=>?_)
       go_wp2_with ((first|(go_at_call 65;refine (b5g (s:=s1) hk1 hfit1.data hfit1.stO { e with filled:=true } he2o ((hF.front _ (m:=.blk g 81 (mcells k1 s1)) (by exact zat)).lessD (D':=kD k1 s1++D) (by simp only [kD,zL];exact zsn))).mono ?_;rintro x wN ⟨hx,⟨hF5⟩⟩;rw [hby.out] at hx;subst hx;clear hF;have hF:=hF5;clear hF5;(try simp only [zF] at hF);(simp only [kD,zL] at hF))|(refine b6c ?_;clear hF;intro wN hF)|((refine a5r rfl hF rfl rfl ?_);clear hF;intro wN hF;(try simp only [zA,Nat.reduceAdd]))))
       have hH:=zx0 hH hF;refine hK.out _ _ hH ?_;clear hK;(try simp only [zA,Nat.reduceAdd])
       refine zry 10 (fun K hK=>?_)
       go_wp2_with ((first|(go_at_call 65;refine (b5g (s:=s1) hk1 hfit1.data hfit1.stO { e with filled:=true } he2o ((hF.front _ (m:=.blk g 81 (mcells k1 s1)) (by exact zat)).lessD (D':=kD k1 s1++D) (by simp only [kD,zL];exact zsn))).mono ?_;rintro x wN ⟨hx,⟨hF5⟩⟩;rw [hby.out] at hx;subst hx;clear hF;have hF:=hF5;clear hF5;(try simp only [zF] at hF);(simp only [kD,zL] at hF))|(refine b6c ?_;clear hF;intro wN hF)|((refine a5r rfl hF rfl rfl ?_);clear hF;intro wN hF;(try simp only [zA,Nat.reduceAdd]))))
       have hH:=zx0 hH hF;refine hK.out _ _ hH ?_;clear hK;(try simp only [zA,Nat.reduceAdd])
       refine b1z 11 hH ?_
       refine zry 12 (fun K hK=>?_)
       go_wp2_with ((first|(go_at_call 65;refine (b5g (s:=s1) hk1 hfit1.data hfit1.stO { e with filled:=true } he2o ((hF.front _ (m:=.blk g 81 (mcells k1 s1)) (by exact zat)).lessD (D':=kD k1 s1++D) (by simp only [kD,zL];exact zsn))).mono ?_;rintro x wN ⟨hx,⟨hF5⟩⟩;rw [hby.out] at hx;subst hx;clear hF;have hF:=hF5;clear hF5;(try simp only [zF] at hF);(simp only [kD,zL] at hF))|(go_at_call 64;refine zcg hF (HTk.out _) ?_;clear hF;intro wN hF)|((refine a5r rfl hF rfl rfl ?_);clear hF;intro wN hF;(try simp only [zA,Nat.reduceAdd]))|(refine w_st1 rfl hF rfl rfl ?_;clear hF;intro wN hF)|(refine w_st rfl hF rfl rfl ?_;clear hF;intro wN hF)|(refine w_st1o rfl hF rfl rfl ?_;clear hF;intro wN hF));(try simp only [zA,Nat.reduceAdd]))
       have hH:=zx0 hH hF;refine hK.out _ _ hH ?_;clear hK;(try simp only [zA,Nat.reduceAdd])
       refine zrz ?_
       (skip)
       go_wp2
       go_roundw
       case rel=>exact ⟨j+1,by omega,by go_num,⟨by rw [← hset.out];exact hF.drop 1⟩⟩
       case measure=>first|(simp [intOf];done)|(simp [intOf];omega)
      ·have hl2:=Lib.hid (show decide ((L:Int)=(d.line:Int))=false from decide_eq_false (by omega))
       rw [if_neg (fun h=>hl h.2)] at hFe
       have hset2:=Lib.hid (hskip hFe)
       clear hFe hskip hset hl hc he
       exact d9f
     ·have hc2:=Lib.hid (show decide (e.is=2)=false by simpa using hc)
      rw [if_neg (fun h=>hc h.1)] at hFe
      have hset2:=Lib.hid (hskip hFe)
      clear hFe hskip hset hc he
      exact d9f
    ·obtain rfl:j=k1.rob.length:=by omega
     rw [d8l] at hF
     have hlq:(k1.rob.map (a5p k1 d.line)).length=k1.rob.length:=List.length_map _
     replace hE:=Lib.hid hE
     go_wp2_with ((try simp only [zA,Nat.reduceAdd]);(first|go_big_skip|refine b6a ?_|(refine b6b ?_;clear hF;(first|intro gN wN hF|intro wN hF|intro hF))))
     go_end0
     refine ⟨⟨_,rfl⟩,?_⟩
     rw [hE.out]
     exact ⟨s1,⟨hfit1.data,hfit1.words,by show (k1.rob.map _).length≤_;rw [hlq];exact hcap,hfit1.robM,hfit1.feO,hfit1.stO,hfit1.reO⟩,ha1,hb1,⟨by rw [b3u _ hlq];exact hF.drop 2⟩⟩
  rw [if_neg h1] at hE
  have hk1n:=Lib.hid (show decide (d.kind=1)=false by simpa using h1)
  clear h1
  by_cases h2:d.kind=2
  ·rw [if_pos h2] at hE
   have hb2:=Lib.hid (show decide (d.kind=2)=true by simpa using h2)
   clear h2
   have hP:=c4t k1.wways k1.words d.line ⟨#[]⟩ false
   obtain ⟨C',gone,went,hpf⟩:∃ C' gone went,a9f k1.wways k1.words d.line ⟨#[]⟩ false=(C',gone,went):=⟨_,_,_,rfl⟩
   rw [hpf] at hP hE
   dsimp only at hP hE
   rw [← hfit1.words] at hP
   have hso:=hk1.wok
   rw [← hfit1.words] at hso
   have HPu:=Lib.hid (fun (W:World) (h1:RdS W W.heap.size s1.wA k1.words.length s1.wC s1.wS)=>a8x hd.1 hso.sok hP W h1)
   replace hE:=Lib.hid hE
   clear hpf hP
   go_upto_region 13 with ((try simp only [zA,Nat.reduceAdd]);(first|go_big_skip|refine b2v ?_|(go_at_call 62;refine (HT.out _ hF.rdA).mono ?_;rintro x wN ⟨A2,c2,rfl,hO⟩;replace hF:=hF.call1A hO;clear hO)|(refine b3x ?_;clear hF;(first|intro gN wN hF|intro wN hF|intro hF))|(refine a1d ?_;clear hF;intro vN wN hF)))
   refine a7k [16] (by kernel_rfl) hF _ _ (fun _ h=>h) (fun _ h=>h) ?_
   clear hF;intro hF hH
   refine zt4 0 hH ?_
   refine zt4 1 hH ?_
   refine zq 2 hH ?_
   refine zt0 3 hH ?_
   refine zt0 4 hH ?_
   refine zt3 5 hH ?_
   refine zt0 6 hH ?_
   refine zt3 7 hH ?_
   refine a2u (rs:=[8]) (by kernel_rfl) (by simp) (a2v rfl (fun K hK=>?_) AllReadyT.nil)
   go_wp2_with ((first|(go_at_call 66;refine (HPu.out _ hF.rds).mono ?_;rintro x wN ⟨_,rfl,A6,n6,c6,S6,rfl,hO,hC6⟩;replace hF:=hF.callA hO;clear hO)|(refine w_stp rfl hF rfl rfl ?_ (hfit:=by (try simp only [List.length_set]);rw [mcells_len];exact Nat.le_of_ble_eq_true rfl);clear hF;intro wN hF;(try simp only [List.set_cons_zero,List.set_cons_succ] at hF);(try simp only [zA,Nat.reduceAdd]))|((first|refine zrg ?_|(refine zst ?_;clear hF;(first|intro gN wN hF|intro wN hF|intro hF))|(refine zap ?_;clear hF;intro vN wN hF));(try simp only [zA,Nat.reduceAdd]))))
   have hH:=zx0 hH hF;refine hK.out _ _ (fun _=>hH) ?_;clear hK;(try simp only [zA,Nat.reduceAdd])
   refine zt4 9 hH ?_
   refine zq 10 hH ?_
   (refine a8p (i:=11) (v:=?_) rfl ?_ (fun _=>hH) ?_;rotate_left;(first|exact a6t a4g (by rfl)|(refine a1u (by rfl) ?_;intro w;go_simp;done)|(refine a1u (by rfl) ?_;intro w;go_simp;with_reducible rfl)|(refine a1u (by rfl) ?_;intro w;simp only [Wy.cells];go_simp;with_reducible rfl));(try simp only [zA,Nat.reduceAdd]))
   (refine a8p (i:=12) (v:=?_) rfl ?_ (fun _=>hH) ?_;rotate_left;(first|exact a6t a4g (by rfl)|(refine a1u (by rfl) ?_;intro w;go_simp;done)|(refine a1u (by rfl) ?_;intro w;go_simp;with_reducible rfl)|(refine a1u (by rfl) ?_;intro w;simp only [Wy.cells];go_simp;with_reducible rfl));(try simp only [zA,Nat.reduceAdd]))
   refine zq 13 hH ?_
   refine zt0 14 hH ?_
   refine zt0 15 hH ?_
   refine a2u (rs:=[16]) (by kernel_rfl) (by simp) (a2v rfl (fun K hK=>?_) AllReadyT.nil)
   go_wp2_with ((first|(go_at_call 66;refine (HPu.out _ hF.rds).mono ?_;rintro x wN ⟨_,rfl,A6,n6,c6,S6,rfl,hO,hC6⟩;replace hF:=hF.callA hO;clear hO)|(refine w_stp rfl hF rfl rfl ?_ (hfit:=by (try simp only [List.length_set]);rw [mcells_len];exact Nat.le_of_ble_eq_true rfl);clear hF;intro wN hF;(try simp only [List.set_cons_zero,List.set_cons_succ] at hF);(try simp only [zA,Nat.reduceAdd]))|((first|refine zrg ?_|(refine zst ?_;clear hF;(first|intro gN wN hF|intro wN hF|intro hF))|(refine zap ?_;clear hF;intro vN wN hF));(try simp only [zA,Nat.reduceAdd]))))
   (try clear hH);refine hK.out _ _ (a4w 16 rfl (by kernel_rfl)) ?_;clear hK;(try simp only [zA,Nat.reduceAdd])
   refine a7j (by kernel_rfl) ?_ _
   (skip)
   have hn6:n6=C'.length:=(by rw [← hC6,a3n];exact ((hF.rds (A:=A6) (n:=n6) (c:=c6) (S:=S6)).slen).symm)
   subst hn6
   rw [d7e (k:=k1) (s:=s1) S6 C' k1.wways rfl] at hF
   go_wp2
   go_end0
   refine ⟨⟨_,rfl⟩,?_⟩
   rw [hE.out]
   exact ⟨{ s1 with wA:=A6,wC:=c6,wS:=S6 },⟨hfit1.data,hC6,hfit1.robC,hfit1.robM,hfit1.feO,hfit1.stO,hfit1.reO⟩,ha1,hb1,⟨(hF.drop 0).lessD (by simp only [kD,zL];exact zsn)⟩⟩
  rw [if_neg h2] at hE
  have hk2n:=Lib.hid (show decide (d.kind=2)=false by simpa using h2)
  clear h2
  by_cases h3:d.kind=3
  ·rw [if_pos h3] at hE
   have hb3:=Lib.hid (show decide (d.kind=3)=true by simpa using h3)
   clear h3
   replace hE:=Lib.hid hE
   go_wp2_with ((try simp only [zA,Nat.reduceAdd]);(first|go_big_skip|refine b2v ?_|(go_at_call 67;refine (d7g (s:=s1) hk1 hfit1.data d.line hd.1 ((hF.front _ (m:=.blk g 81 (mcells k1 s1)) (by exact zat)).lessD (D':=kD k1 s1++D) (by simp only [kD,zL];exact zsn))).mono ?_;rintro x wN ⟨⟨y,rfl⟩,⟨A5,c5,S5,A6,c6,hC5,hF5⟩⟩;clear hF;have hF:=hF5;clear hF5;(try simp only [zF] at hF))|(refine a1s ?_;clear hF;(first|intro gN wN hF|intro wN hF|intro hF))|(refine a1d ?_;clear hF;intro vN wN hF)))
   go_end0
   refine ⟨⟨_,rfl⟩,?_⟩
   rw [hE.out]
   exact ⟨{ s1 with dA:=A5,dC:=c5,dS:=S5,busA:=A6,busC:=c6 },⟨hC5,hfit1.words,hfit1.robC,hfit1.robM,hfit1.feO,hfit1.stO,hfit1.reO⟩,ha1,hb1,⟨hF.drop 1⟩⟩
  rw [if_neg h3] at hE
  have hk3n:=Lib.hid (show decide (d.kind=3)=false by simpa using h3)
  clear h3
  by_cases h4:d.kind=4
  ·rw [if_pos h4] at hE
   have hb4:=Lib.hid (show decide (d.kind=4)=true by simpa using h4)
   clear h4
   have HOv:=Lib.hid (fun (W:World) (A:Option Addr) (c:Nat) (h:Rd W W.heap.size 2 A 1 c [.int .u32 (d.line:Int),.string d.data])=>c1g k1.mem A 1 c [⟨d.line,d.data⟩] W h (by unfold maxLen;omega) (fun p hp=>by obtain rfl:=List.mem_singleton.1 hp;exact hd.1))
   replace hE:=Lib.hid hE
   go_upto_region 17 with ((try simp only [zA,Nat.reduceAdd]);(first|go_big_skip|refine b2v ?_|(go_at_call 62;refine (HT.out _ hF.rdA).mono ?_;rintro x wN ⟨A2,c2,rfl,hO⟩;replace hF:=hF.call1A hO;clear hO)|(refine b3x ?_;clear hF;(first|intro gN wN hF|intro wN hF|intro hF))|(refine a1d ?_;clear hF;intro vN wN hF)))
   refine a7k [16] (by kernel_rfl) hF _ _ (fun _ h=>h) (fun _ h=>h) ?_
   clear hF;intro hF hH
   refine zt4 0 hH ?_
   refine zt4 1 hH ?_
   refine zq 2 hH ?_
   refine zt0 3 hH ?_
   refine zt0 4 hH ?_
   refine zt3 5 hH ?_
   refine zt0 6 hH ?_
   refine zt3 7 hH ?_
   refine zt0 8 hH ?_
   refine zt3 9 hH ?_
   refine zq 10 hH ?_
   refine a2u (rs:=[11]) (by kernel_rfl) (by simp) (a2v rfl (fun K hK=>?_) AllReadyT.nil)
   go_wp2_with ((first|(go_at_call 68;obtain ⟨Ah,ch,hfz,hF2⟩:=hF.freeze 0 at0;injection hfz with hfz1 _ hfz2;subst hfz1 hfz2;clear hF;have hF:=hF2;clear hF2;(try simp only [zF] at hF);refine (HOv.out _ _ _ hF.rdA).mono ?_;rintro x wN ⟨rfl,hb⟩;replace hF:=hF.grow hb;clear hb)|(refine w_st1 rfl hF rfl rfl ?_ (hoff:=by (try simp only [List.length_set]);rw [mcells_len];decide);clear hF;intro wN hF;(try simp only [zF] at hF);(try simp only [zA,Nat.reduceAdd]))|((first|refine zrg ?_|(refine zst ?_;clear hF;(first|intro gN wN hF|intro wN hF|intro hF))|(refine zap ?_;clear hF;intro vN wN hF));(try simp only [zA,Nat.reduceAdd]))))
   have hH:=zx0 hH hF;refine hK.out _ _ (fun _=>hH) ?_;clear hK;(try simp only [zA,Nat.reduceAdd])
   refine a2u (rs:=[12]) (by kernel_rfl) (by simp) (a2v rfl (fun K hK=>?_) AllReadyT.nil)
   go_wp2_with ((first|(go_at_call 68;obtain ⟨Ah,ch,hfz,hF2⟩:=hF.freeze 0 at0;injection hfz with hfz1 _ hfz2;subst hfz1 hfz2;clear hF;have hF:=hF2;clear hF2;(try simp only [zF] at hF);refine (HOv.out _ _ _ hF.rdA).mono ?_;rintro x wN ⟨rfl,hb⟩;replace hF:=hF.grow hb;clear hb)|(refine w_st1 rfl hF rfl rfl ?_ (hoff:=by (try simp only [List.length_set]);rw [mcells_len];decide);clear hF;intro wN hF;(try simp only [zF] at hF);(try simp only [zA,Nat.reduceAdd]))|((first|refine zrg ?_|(refine zst ?_;clear hF;(first|intro gN wN hF|intro wN hF|intro hF))|(refine zap ?_;clear hF;intro vN wN hF));(try simp only [zA,Nat.reduceAdd]))))
   have hH:=zx0 hH hF;refine hK.out _ _ (fun _=>hH) ?_;clear hK;(try simp only [zA,Nat.reduceAdd])
   refine zq 13 hH ?_
   refine zt0 14 hH ?_
   refine zt0 15 hH ?_
   refine a2u (rs:=[16]) (by kernel_rfl) (by simp) (a2v rfl (fun K hK=>?_) AllReadyT.nil)
   go_wp2_with ((first|(go_at_call 68;obtain ⟨Ah,ch,hfz,hF2⟩:=hF.freeze 0 at0;injection hfz with hfz1 _ hfz2;subst hfz1 hfz2;clear hF;have hF:=hF2;clear hF2;(try simp only [zF] at hF);refine (HOv.out _ _ _ hF.rdA).mono ?_;rintro x wN ⟨rfl,hb⟩;replace hF:=hF.grow hb;clear hb)|(refine w_st1 rfl hF rfl rfl ?_ (hoff:=by (try simp only [List.length_set]);rw [mcells_len];decide);clear hF;intro wN hF;(try simp only [zF] at hF);(try simp only [zA,Nat.reduceAdd]))|((first|refine zrg ?_|(refine zst ?_;clear hF;(first|intro gN wN hF|intro wN hF|intro hF))|(refine zap ?_;clear hF;intro vN wN hF));(try simp only [zA,Nat.reduceAdd]))))
   (try clear hH);refine hK.out _ _ (a4w 16 rfl (by kernel_rfl)) ?_;clear hK;(try simp only [zA,Nat.reduceAdd])
   refine a7j (by kernel_rfl) ?_ _
   (skip)
   rw [h3n (k:=k1) (s:=s1)] at hF
   go_wp2
   go_end0
   refine ⟨⟨_,rfl⟩,?_⟩
   rw [hE.out]
   exact ⟨s1,⟨hfit1.data,hfit1.words,hfit1.robC,hfit1.robM,hfit1.feO,hfit1.stO,hfit1.reO⟩,ha1,hb1,⟨(hF.drop 0).lessD (by simp only [kD,zL];exact zsn)⟩⟩
  rw [if_neg h4] at hE
  have hk4n:=Lib.hid (show decide (d.kind=4)=false by simpa using h4)
  clear h4
  replace hE:=Lib.hid hE
  go_wp2_with ((try simp only [zA,Nat.reduceAdd]);(first|go_big_skip|refine b2v ?_|(go_at_call 62;refine (HT.out _ hF.rdA).mono ?_;rintro x wN ⟨A2,c2,rfl,hO⟩;replace hF:=hF.call1A hO;clear hO)|(refine b3x ?_;clear hF;(first|intro gN wN hF|intro wN hF|intro hF))|(refine a1d ?_;clear hF;intro vN wN hF)))
  go_end0
  refine ⟨⟨_,rfl⟩,?_⟩
  rw [hE.out]
  exact ⟨s1,hfit1,ha1,hb1,⟨hF.drop 0⟩⟩
end
end Go.Proofs.YtgnomadgnciifaaGreatDoor
