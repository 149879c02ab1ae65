/- . -/
import Derived.Test.YtgnomadgnciifaaGreatDoorZ39
import Derived.Test.YtgnomadgnciifaaGreatDoorZ17
import Derived.Test.YtgnomadgnciifaaGreatDoorZ36
set_option linter.unusedVariables false
set_option linter.unusedSimpArgs false
set_option linter.unusedSectionVars false
set_option maxRecDepth 100000
set_option maxHeartbeats 16000000
namespace Go.Proofs.YtgnomadgnciifaaGreatDoor
theorem c6k {p:Prop} (h:p:=by
 go_wp2_with ((try simp only [zA,Nat.reduceAdd]);(first|go_big_skip|refine c7o ?_|(refine c7p ?_;clear hF;(first|intro gN wN hF|intro wN hF|intro hF))))
 (refine bodyPost_ret (results_none rfl _ _ _) rfl ⟨⟨_,rfl⟩,?_⟩;rw [hR.out];exact MR.toX ⟨s1,hfit,ha,hF.lessD (by simp only [kD,hfit.feO,a1h,zL];exact zsn)⟩)):p:=h
theorem d9m {p:Prop} (h:p:=by
 clear hfull hE hrob he hts hke hk2
 refine a1n (by kernel_rfl) hF _ _ (fun _ h=>h) (fun _ h=>h) ?_
 clear hF;intro hF hH
 refine zk1 0 hH ?_
 refine a2i 1 hH ?_
 refine a1c 2 hH ?_
 refine zk8 3 hH ?_
 refine zp 4 hH ?_
 refine zk9 5 hH ?_
 refine zk9 6 hH ?_
 refine a4n 7 hH ?_
 refine a8o 8 hH ?_
 refine zk8 9 hH ?_
 refine zp 10 hH ?_
 refine zk9 11 hH ?_
 refine zk9 12 hH ?_
 refine zk9 13 hH ?_
 refine a4n 14 hH ?_
 first|(refine a1p (i:=15) rfl (a9n rfl rfl rfl) hH ?_;(try simp only [zA,Nat.reduceAdd]))|refine zp 15 hH ?_
 refine zp 16 hH ?_
 refine zrz ?_
 (skip)
 go_wp2
 go_meet
 exact ⟨rfl,⟨s1,hfit,ha,((((hF.front 5 at5).front 5 at5).front 5 at5).front 5 at5).lessD (by simp only [kD,hfit.feO,a1h,zL];exact zsn)⟩⟩):p:=h
theorem d9n {p:Prop} (h:p:=by
 exact (hF.drop 0).lessD (by simp only [kD,hfit.feO,a1h,c3w,zL];exact zsn)):p:=h
section
open Go.RowKit Wd
def a8y (k:Kern) (s:Stp):Kern:=if a6n s=true then { k with retired:=k.retired++[s],stores:=k.stores++[⟨s.addr,a6d s.value s.size⟩] } else { k with retired:=k.retired++[s] }
def a9t (k:Kern) (e:En) (s:Stp):Kern:=if a1e e.inst.op=3 then a5u k s.addr else k
def c6l (k:Kern) (e:En) (s:Stp) (r:List En):Kern:={ k with regs:=a6i k.regs s,guess:=a4d k.guess s.pc s.next e.inst,rob:=r }
def c6m (k:Kern) (s:Stp):Kern:={ k with retired:=k.retired++[s],halt:=s.halt,rob:=[],fetched:=[],stop:=true }
theorem h6z {k:Kern} {e:En} {r:List En} (hh:k.halt=0) (hr:k.rob=e::r) (hi:e.is=3):a2s k=if (a2j e).halt≠0 then (c6m k (a2j e),false) else if (a2j e).store=true∧k.conf.stores≤(k.stores.length:Int) then (k,false) else (c6l (a9t (a8y k (a2j e)) e (a2j e)) e (a2j e) r,true):=by
 unfold a2s
 rw [if_neg (by simp [hh]),hr]
 dsimp only
 rw [if_neg (by simp [hi])]
 split
 ·rfl
 ·split
  ·rfl
  ·unfold a8y a9t c6l
   split <;> split <;> rfl
theorem h7a {B : Int} {k : Kern} (h : KOk B k) (h2 : B + 1 ≤ 1000000) {s : Stp} (ha : s.addr < 4294967296) (hst : ¬ (s.store = true ∧ k.conf.stores ≤ (k.stores.length : Int))) : KOk (B + 1) (a8y k s) := by
  have hcs := h.cf.stores
  have hrl := h.retlen
  have hu1 := h.up (B' := B + 1) (by omega) (by omega)
  have hk1 : KOk (B + 1) { k with retired := k.retired ++ [s] } := { hu1 with retlen := by show ((k.retired ++ [s]).length : Int) ≤ B + 1; rw [List.length_append, List.length_singleton]; omega }
  unfold a8y
  split
  · rename_i hsb
    simp only [a6n, Bool.and_eq_true, decide_eq_true_eq] at hsb
    have hlt : (k.stores.length : Int) < k.conf.stores := by
      rcases Int.lt_or_le (k.stores.length : Int) k.conf.stores with h | h
      · exact h
      · exact absurd ⟨hsb.1, h⟩ hst
    exact { hk1 with
      stlen := by show (k.stores ++ [_]).length ≤ 16; rw [List.length_append, List.length_singleton]; omega
      st := fun p hp => by
        rcases List.mem_append.1 hp with hp | hp
        · exact h.st p hp
        · obtain rfl := List.mem_singleton.1 hp
          exact ⟨ha, by show (a6d s.value s.size).size ≤ 4; rw [c5u]; omega⟩ }
  · exact hk1
theorem h7b {B:Int} {k:Kern} (h:KOk B k) (h2:B+1≤1000000) {e:En} {s:Stp} (ha:s.addr<4294967296):KOk (B+1) (a9t k e s):=by
 unfold a9t
 split
 ·exact h.bring h2 ha
 ·exact h.up (by omega) h2
theorem h7c (g:Gu) (pc next:Nat) (i:Ins):(a4d g pc next i).slots.length=g.slots.length:=by
 unfold a4d
 split
 ·rfl
 ·exact List.length_set
theorem h7d (As Ar:Option Addr) (cs cr pc next:Nat) (g:Gu) (i:Ins) (w:World) (h1:a5o g=true) (hs:Rd w w.heap.size 2 As g.slots.length cs (sls g.slots)) (hr:Rd w w.heap.size 1 Ar g.rets.length cr (u32v g.rets)) (hi:okI i.op) (hp:pc<4294967296) (hn:next<4294967296) :
  Calls Tryz.prog 74 #[.agg #[.slice As g.slots.length cs,.int .u32 (g.hist:Int),.slice Ar g.rets.length cr],.int .u32 (pc:Int),.int .u32 (next:Int),i.val] w fun x w'=>∃ As' cs' Ar' cr',
   x = .returned (.agg #[.slice As' (a4d g pc next i).slots.length cs',.int .u32 ((a4d g pc next i).hist:Int),.slice Ar' (a4d g pc next i).rets.length cr']) ∧
   Out w [a1a 2 As g.slots.length cs (sls g.slots),a1a 1 Ar g.rets.length cr (u32v g.rets)] w' [a1a 2 As' (a4d g pc next i).slots.length cs' (sls (a4d g pc next i).slots),a1a 1 Ar' (a4d g pc next i).rets.length cr' (u32v (a4d g pc next i).rets)]:=by
 have hG:=h1
 simp only [a5o,Bool.and_eq_true,decide_eq_true_eq] at h1
 rw [h7c]
 rw [h1.1] at hs ⊢
 by_cases hk:a1e i.op=5
 ·obtain ⟨sl,h,rets⟩:=g
  exact (g9w As Ar cs cr pc next sl h rets.length rets i w h1.1 h1.2.1 h1.2.2 hs hr hi hk hp hn).mono fun x w' h=>h
 ·exact (g9v As Ar cs cr pc next g i w hG hs hr hi hk).mono fun x w' h=>h
theorem h7e (l:List Nat) (s:Stp) (w:World) (hl:l.length=32):Calls Tryz.prog 73 #[.agg (u32v l).toArray,s.val] w fun e w'=>e = .returned (.agg (u32v (a6i l s)).toArray)∧Bel w w':=by
 unfold a6i
 by_cases h:1≤s.rd∧s.rd≤31∧s.halt=0
 ·rw [if_pos h]
  exact f8q l s w hl h.1 h.2.1 h.2.2
 ·rw [if_neg h]
  exact f8r l s w hl h
theorem h7f {l:List Nat} {s:Stp} (h:l.length=32):(a6i l s).length=32:=by
 unfold a6i
 split
 ·rw [List.length_set];exact h
 ·exact h
structure FitR (k:Kern) (s:Sls):Prop where
 data:a1j s.dS=k.data
 words:a1j s.wS=k.words
 robC:k.rob.length≤s.robC
 robM:s.robC≤maxLen
 feO:s.feO=false
 stF:s.stO=false→s.stC=k.stores.length
 reF:s.reO=false→s.reC=k.retired.length
inductive MR (w0:World) (D0 D:List Da) (M:List Mu) (g:Nat) (k:Kern) (a:Bool) (w:World):Prop
 | mk (s:Sls) (hfit:FitR k s) (ha:a=true→s.feC=k.fetched.length)
  (hF:St w0 D0 w (.blk g 81 (mcells k s) :: .row s.robA 54 (ens k.rob)::apM s.stO 109 2 s.stA k.stores.length s.stC (pus k.stores)::apM s.reO 57 9 s.reA k.retired.length s.reC (sts k.retired)::M) (kD k s++D))
theorem MR.ofX {w0 w:World} {D0 D:List Da} {M:List Mu} {g:Nat} {k:Kern} {a:Bool} (h:MX w0 D0 D M g k a true w):MR w0 D0 D M g k a w:=by
 obtain ⟨s,hfit,ha,hb,⟨hF⟩⟩:=h
 refine ⟨s,⟨hfit.data,hfit.words,hfit.robC,hfit.robM,hfit.feO,fun _=>(hb rfl).1,fun _=>(hb rfl).2⟩,ha,?_⟩
 rw [hfit.stO,hfit.reO,b9s,b9s]
 exact (((hF.rowNil none 57).rowNil none 109).front 3 at3).front 3 at3
theorem MR.toX {w0 w:World} {D0 D:List Da} {M:List Mu} {g:Nat} {k:Kern} {a:Bool} (h:MR w0 D0 D M g k a w):MX w0 D0 D M g k a false w:=by
 obtain ⟨s,hfit,ha,hF⟩:=h
 refine ⟨{ s with stO:=false,reO:=false },⟨hfit.data,hfit.words,hfit.robC,hfit.robM,hfit.feO,rfl,rfl⟩,ha,fun h=>(by cases h),⟨?_⟩⟩
 have hF2:=hF.apEnd at2 (by simp only [kD,zL];exact zdm)
 have hF3:=hF2.apEnd at2 (by simp only [kD,zL];exact zdm)
 refine hF3.lessD ?_
 simp only [kD,a1h,zL]
 exact zsn
instance stsRows : Rows sts Stp.cells 9:=⟨fun _=>rfl,fun _=>rfl,Stp.one,by decide⟩
instance stpCellsOne (t:Stp):OneC t.cells:=⟨t.one⟩
instance puCellsOne (p:Pu):OneC p.cells:=⟨p.one⟩
theorem d9o (q:List Stp) (s:Stp):sts (q++[s])=sts q++s.cells:=by rw [Rows.append (f:=sts)];congr 1;(try exact (Rows.single (f:=sts) s).symm)
theorem h7g (q:List Pu) (p:Pu):pus (q++[p])=pus q++p.cells:=by rw [Rows.append (f:=pus)];congr 1;(try exact (Rows.single (f:=pus) p).symm)
theorem h7h {w0 w:World} {D0 D:List Da} {M:List Mu} {g:Nat} {k:Kern} {a:Bool} {B:Int} (hk:KOk B k) (hB:B+6≤1000000) (hX:MX w0 D0 D M g k a true w) :
  Calls Tryz.prog 33 #[.pointer (some ⟨g,0,none⟩)] w fun x w'=>(∃ y,x = .returned y)∧MX w0 D0 D M g (a2w k) a false w':=by
 have hR:Hid (a2w k=a2n a2s k.conf.width.toNat k):=Lib.hid rfl
 have hwd:=hk.cf.width
 have hMR:=MR.ofX hX
 obtain ⟨s,hfit,ha,hF⟩:=hMR
 have hMR:=MR.ofX hX
 (simp only [kD,hfit.feO,a1h,zL] at hF)
 clear hX
 go_enter Tryz.func33,Tryz.ntmps33
 go_wp2_with ((try simp only [zA,Nat.reduceAdd]);(first|go_big_skip|refine a7u ?_|(refine a1s ?_;clear hF;(first|intro gN wN hF|intro wN hF|intro hF))|(refine a1d ?_;clear hF;intro vN wN hF)))
 go_loopw [12] (fun i wr=>∃ (j:Nat) (k1:Kern),i = .int .i64 (j:Int)∧j≤k.conf.width.toNat∧Hid (a2w k=a2n a2s (k.conf.width.toNat - j) k1)∧KOk (B+2 * j) k1∧MR w0 D0 D M g k1 a wr) (fun i _=>k.conf.width.toNat - (intOf i).toNat)
 case atStart=>exact ⟨0,k,rfl,Nat.zero_le _,hR,by simpa using hk,hMR⟩
 case round=>
  clear hF hMR hR hk hfit ha
  obtain ⟨j,k1,rfl,hj,hR,hk1,⟨s1,hfit,ha,hF⟩⟩:=hrel
  have hF0:=hF
  (simp only [kD,hfit.feO,a1h,zL] at hF)
  by_cases hjw:j<k.conf.width.toNat
  ·obtain ⟨m,hm⟩:∃ m,k.conf.width.toNat - j=m+1:=⟨k.conf.width.toNat - j - 1,by omega⟩
   rw [hm] at hR
   have hlt:=Lib.hid (show decide ((j:Int)<k.conf.width)=true by simp;omega)
   by_cases hh:¬ k1.halt=0
   ·as_aux_lemma =>
    have hE:a2s k1=(k1,false):=by unfold a2s;rw [if_pos hh]
    rw [a9s (by rw [hE]),hE] at hR
    replace hR:=Lib.hid (show a2w k=k1 from hR.out)
    have hbh:=Lib.hid (show decide (¬ k1.halt=0)=true by simpa using hh)
    clear hE hh hF0
    exact c6k
   ·have hbh:=Lib.hid (show decide (¬ k1.halt=0)=false by simpa using hh)
    have hh0:k1.halt=0:=by simpa using hh
    have hn16:=hk1.roblen
    cases hrob:k1.rob with
    | nil=>
     have hE:a2s k1=(k1,false):=by unfold a2s;rw [if_neg hh,hrob]
     rw [a9s (by rw [hE]),hE] at hR
     replace hR:=Lib.hid (show a2w k=k1 from hR.out)
     have hb0:=Lib.hid (show decide ((k1.rob.length:Int)=0)=true by rw [hrob];rfl)
     clear hE hh hF0 hrob hh0
     exact c6k
    | cons e r=>
     have hb0:=Lib.hid (show decide ((k1.rob.length:Int)=0)=false by rw [hrob];simp;omega)
     have hpos:0<k1.rob.length:=by rw [hrob];simp
     have hlen:0<(ens k1.rob).length:=by rw [a4l];omega
     have his:(ens k1.rob)[8]?=some (.int .i64 e.is):=by rw [hrob];rfl
     have hesub:∀ (i:Nat) (u:Value),e.cells[i]?=some u→(ens k1.rob)[0+i]?=some u:=fun i u h=>by
      have:=Rows.el (f:=ens) (q:=k1.rob) (k:=0) (v:=e) (by rw [hrob];rfl) h
      rwa [Nat.zero_mul] at this
     have he:=hk1.rob e (by rw [hrob];exact List.mem_cons_self ..)
     by_cases hi3:¬ e.is=3
     ·as_aux_lemma =>
      have hE:a2s k1=(k1,false):=by unfold a2s;rw [if_neg hh,hrob];dsimp only;rw [if_pos hi3]
      rw [a9s (by rw [hE]),hE] at hR
      replace hR:=Lib.hid (show a2w k=k1 from hR.out)
      have hb3:=Lib.hid (show decide (¬ e.is=3)=true by simpa using hi3)
      clear hE hh hF0 hrob hh0 hi3 he
      exact c6k
     ·have hb3:=Lib.hid (show decide (¬ e.is=3)=false by simpa using hi3)
      have hE:=h6z hh0 hrob (by simpa using hi3)
      have HTo:=fun W=>h3s e W he.op
      have htok:=d7i he
      obtain ⟨t,ht⟩:∃ t,a2j e=t:=⟨_,rfl⟩
      rw [ht] at hE HTo htok
      replace HTo:=Lib.hid HTo
      replace hesub:=Lib.hid hesub
      clear hi3 hh hh0
      have hrl:k1.retired.length≤1000000:=by have:=hk1.retlen;have:=hk1.bound;omega
      have hsl:=hk1.stlen
      by_cases hth:t.halt≠0
      ·as_aux_lemma =>
       rw [if_pos hth] at hE
       rw [a9s (by rw [hE]),hE] at hR
       replace hR:=Lib.hid (show a2w k=c6m k1 t from hR.out)
       have hbt:=Lib.hid (show decide (¬ t.halt=0)=true by simpa using hth)
       clear hth hE hF0 hrob he
       go_upto_region 3 with ((try simp only [zA,Nat.reduceAdd]);(first|go_big_skip|refine w_neqH rfl rfl rfl ?_ (hb:=by with_reducible assumption)|refine w_lssH rfl rfl rfl ?_ (hb:=by with_reducible assumption)|refine w_geqH rfl rfl rfl ?_ (hb:=by with_reducible assumption)|refine w_eqlH rfl rfl rfl ?_ (hb:=by with_reducible assumption)|(go_at_call 14;refine (HTo.out _).mono ?_;rintro x wN ⟨rfl,hb⟩;replace hF:=hF.grow hb;clear hb)|refine g_fldB rfl rfl (by (first|exact Wtd.of_none rfl|exact Wtd.of_some rfl rfl)) ?_|refine w_ld1 rfl hF rfl ?_|refine w_ld rfl hF rfl ?_|refine w_ixR (k:=0) rfl hF rfl rfl ?_ (hl:=hlen) (hkn:=hpos)|refine w_fldR rfl hF rfl ?_ (hl:=hlen)|refine w_lde1R (v:=.int .i64 e.is) rfl hF rfl ?_ (hv:=his)|(refine w_alloc rfl hF ?_;clear hF;intro gN wN hF)))
       go_upto_region 5 with ((try simp only [zA,Nat.reduceAdd]);(first|go_big_skip|(go_at_call 14;refine (HTo.out _).mono ?_;rintro x wN ⟨rfl,hb⟩;replace hF:=hF.grow hb;clear hb)|refine g_fldB rfl rfl (by (first|exact Wtd.of_none rfl|exact Wtd.of_some rfl rfl)) ?_|refine w_ld1 rfl hF rfl ?_|refine w_ld rfl hF rfl ?_|refine w_ixR (k:=0) rfl hF rfl rfl ?_ (hl:=hlen) (hkn:=hpos)|refine w_ldeR (us:=e.cells) (v:=e.val) (hu:=hesub) rfl hF rfl ?_|(refine w_alloc rfl hF ?_;clear hF;intro gN wN hF)|(refine w_st (us:=e.cells) rfl hF rfl rfl ?_ (h1:=fun u hu=>.inl (e.one u hu));clear hF;intro wN hF)|(refine w_st (us:=t.cells) rfl hF rfl rfl ?_ (h1:=fun u hu=>.inl (t.one u hu));clear hF;intro wN hF)))
       go_upto_region 6 with ((try simp only [zA,Nat.reduceAdd]);(first|go_big_skip|refine w_neqH rfl rfl rfl ?_ (hb:=by with_reducible assumption)|refine w_lssH rfl rfl rfl ?_ (hb:=by with_reducible assumption)|refine w_geqH rfl rfl rfl ?_ (hb:=by with_reducible assumption)|refine w_eqlH rfl rfl rfl ?_ (hb:=by with_reducible assumption)|(go_at_call 14;refine (HTo.out _).mono ?_;rintro x wN ⟨rfl,hb⟩;replace hF:=hF.grow hb;clear hb)|refine g_fldB rfl rfl (by (first|exact Wtd.of_none rfl|exact Wtd.of_some rfl rfl)) ?_|refine w_ld1 rfl hF rfl ?_|refine w_ld rfl hF rfl ?_|refine w_ixR (k:=0) rfl hF rfl rfl ?_ (hl:=hlen) (hkn:=hpos)|refine w_fldR rfl hF rfl ?_ (hl:=hlen)|refine w_lde1R (v:=.int .i64 e.is) rfl hF rfl ?_ (hv:=his)|(refine w_alloc rfl hF ?_;clear hF;intro gN wN hF)))
       refine a7k [12] (by kernel_rfl) hF [.blk g 81 (mcells k1 s1),.blk _ 57 t.cells] _ (by first|exact fun _ h=>h|((repeat (first|exact a1f|refine a1m zdm ?_)) <;> exact a1f)) (by first|exact fun _ h=>h|((repeat (first|exact a1f|refine a1m zdm ?_)) <;> exact a1f)) ?_
       clear hF;intro hF hH
       refine zt4 0 hH ?_
       refine zt4 1 hH ?_
       refine zq 2 hH ?_
       refine zt0 3 hH ?_
       refine zt0 4 hH ?_
       refine zt3 5 hH ?_
       refine zt3 6 hH ?_
       refine a2u (rs:=[7]) (by kernel_rfl) (by simp) (a2v rfl (fun K hK=>?_) AllReadyT.nil)
       go_wp2_with ((first|(refine a6o (i:=6) (j:=0) (b:=s1.reO) rfl hF rfl rfl ?_ at6 at0 (by decide) hfit.reF;clear hF;intro A2 c2 wN hF;(try simp only [zA,Nat.reduceAdd]))|(refine w_st1 rfl hF rfl rfl ?_ (hoff:=by (try simp only [a4a]);rw [mcells_len];decide);clear hF;intro wN hF;(try simp only [zF] at hF);(try simp only [zA,Nat.reduceAdd]))|((first|refine zrg ?_|(refine zst ?_;clear hF;(first|intro gN wN hF|intro wN hF|intro hF))|(refine zap ?_;clear hF;intro vN wN hF));(try simp only [zA,Nat.reduceAdd]))))
       have hH:=zx0 hH hF;refine hK.out _ _ (fun _=>hH) ?_;clear hK;(try simp only [zA,Nat.reduceAdd])
       refine a2u (rs:=[8]) (by kernel_rfl) (by simp) (a2v rfl (fun K hK=>?_) AllReadyT.nil)
       go_wp2_with ((first|(refine a6o (i:=6) (j:=0) (b:=s1.reO) rfl hF rfl rfl ?_ at6 at0 (by decide) hfit.reF;clear hF;intro A2 c2 wN hF;(try simp only [zA,Nat.reduceAdd]))|(refine w_st1 rfl hF rfl rfl ?_ (hoff:=by (try simp only [a4a]);rw [mcells_len];decide);clear hF;intro wN hF;(try simp only [zF] at hF);(try simp only [zA,Nat.reduceAdd]))|((first|refine zrg ?_|(refine zst ?_;clear hF;(first|intro gN wN hF|intro wN hF|intro hF))|(refine zap ?_;clear hF;intro vN wN hF));(try simp only [zA,Nat.reduceAdd]))))
       have hH:=zx0 hH hF;refine hK.out _ _ (fun _=>hH) ?_;clear hK;(try simp only [zA,Nat.reduceAdd])
       refine zq 9 hH ?_
       refine zt0 10 hH ?_
       refine zt0 11 hH ?_
       refine a2u (rs:=[12]) (by kernel_rfl) (by simp) (a2v rfl (fun K hK=>?_) AllReadyT.nil)
       go_wp2_with ((first|(refine a6o (i:=6) (j:=0) (b:=s1.reO) rfl hF rfl rfl ?_ at6 at0 (by decide) hfit.reF;clear hF;intro A2 c2 wN hF;(try simp only [zA,Nat.reduceAdd]))|(refine w_st1 rfl hF rfl rfl ?_ (hoff:=by (try simp only [a4a]);rw [mcells_len];decide);clear hF;intro wN hF;(try simp only [zF] at hF);(try simp only [zA,Nat.reduceAdd]))|((first|refine zrg ?_|(refine zst ?_;clear hF;(first|intro gN wN hF|intro wN hF|intro hF))|(refine zap ?_;clear hF;intro vN wN hF));(try simp only [zA,Nat.reduceAdd]))))
       (try clear hH);refine hK.out _ _ (a4w 12 rfl (by kernel_rfl)) ?_;clear hK;(try simp only [zA,Nat.reduceAdd])
       refine a7j (by kernel_rfl) ?_ _
       (skip)
       go_wp2_with ((try simp only [zA,Nat.reduceAdd]);(first|go_big_skip|(refine b5y ?_;clear hF;(first|intro gN wN hF|intro wN hF|intro hF))|refine a7u ?_|(refine a1d ?_;clear hF;intro vN wN hF)))
       refine bodyPost_ret (results_none rfl _ _ _) rfl ⟨⟨_,rfl⟩,?_⟩
       rw [hR.out]
       rw [c5s (k:=k1) (s:=s1) (k1.retired++[t]) (by simp),h3o,b7m (n:=0) [] rfl,b5f (n:=0) [] rfl,c5r,← d9o] at hF
       replace hF:=(((((hF.drop 0).drop 0).drop 1).rowNil none 54).front 1 at1).nilZ 2
       refine MR.toX ⟨{ s1 with robA:=none,robC:=0,feA:=none,feC:=0,reO:=true,reA:=A2,reC:=c2 },⟨hfit.data,hfit.words,Nat.le_refl _,Nat.zero_le _,hfit.feO,hfit.stF,fun h=>(by cases h)⟩,fun _=>rfl,?_⟩
       have hl1:(c6m k1 t).retired.length=k1.retired.length+1:=by show (k1.retired++[t]).length=_;simp
       rw [hl1]
       refine hF.lessD ?_
       simp only [kD,hfit.feO,a1h,c3w,zL]
       exact zsn
      ·rw [if_neg hth] at hE
       have hbt:=Lib.hid (show decide (¬ t.halt=0)=false by simpa using hth)
       clear hth
       go_upto_region 3 with ((try simp only [zA,Nat.reduceAdd]);(first|go_big_skip|refine w_neqH rfl rfl rfl ?_ (hb:=by with_reducible assumption)|refine w_lssH rfl rfl rfl ?_ (hb:=by with_reducible assumption)|refine w_geqH rfl rfl rfl ?_ (hb:=by with_reducible assumption)|refine w_eqlH rfl rfl rfl ?_ (hb:=by with_reducible assumption)|(go_at_call 14;refine (HTo.out _).mono ?_;rintro x wN ⟨rfl,hb⟩;replace hF:=hF.grow hb;clear hb)|refine g_fldB rfl rfl (by (first|exact Wtd.of_none rfl|exact Wtd.of_some rfl rfl)) ?_|refine w_ld1 rfl hF rfl ?_|refine w_ld rfl hF rfl ?_|refine w_ixR (k:=0) rfl hF rfl rfl ?_ (hl:=hlen) (hkn:=hpos)|refine w_fldR rfl hF rfl ?_ (hl:=hlen)|refine w_lde1R (v:=.int .i64 e.is) rfl hF rfl ?_ (hv:=his)|(refine w_alloc rfl hF ?_;clear hF;intro gN wN hF)))
       go_upto_region 5 with ((try simp only [zA,Nat.reduceAdd]);(first|go_big_skip|(go_at_call 14;refine (HTo.out _).mono ?_;rintro x wN ⟨rfl,hb⟩;replace hF:=hF.grow hb;clear hb)|refine g_fldB rfl rfl (by (first|exact Wtd.of_none rfl|exact Wtd.of_some rfl rfl)) ?_|refine w_ld1 rfl hF rfl ?_|refine w_ld rfl hF rfl ?_|refine w_ixR (k:=0) rfl hF rfl rfl ?_ (hl:=hlen) (hkn:=hpos)|refine w_ldeR (us:=e.cells) (v:=e.val) (hu:=hesub) rfl hF rfl ?_|(refine w_alloc rfl hF ?_;clear hF;intro gN wN hF)|(refine w_st (us:=e.cells) rfl hF rfl rfl ?_ (h1:=fun u hu=>.inl (e.one u hu));clear hF;intro wN hF)|(refine w_st (us:=t.cells) rfl hF rfl rfl ?_ (h1:=fun u hu=>.inl (t.one u hu));clear hF;intro wN hF)))
       go_upto_region 11 with ((try simp only [zA,Nat.reduceAdd]);(first|go_big_skip|refine w_neqH rfl rfl rfl ?_ (hb:=by with_reducible assumption)|refine w_lssH rfl rfl rfl ?_ (hb:=by with_reducible assumption)|refine w_geqH rfl rfl rfl ?_ (hb:=by with_reducible assumption)|refine w_eqlH rfl rfl rfl ?_ (hb:=by with_reducible assumption)|(go_at_call 14;refine (HTo.out _).mono ?_;rintro x wN ⟨rfl,hb⟩;replace hF:=hF.grow hb;clear hb)|refine g_fldB rfl rfl (by (first|exact Wtd.of_none rfl|exact Wtd.of_some rfl rfl)) ?_|refine w_ld1 rfl hF rfl ?_|refine w_ld rfl hF rfl ?_|refine w_ixR (k:=0) rfl hF rfl rfl ?_ (hl:=hlen) (hkn:=hpos)|refine w_fldR rfl hF rfl ?_ (hl:=hlen)|refine w_lde1R (v:=.int .i64 e.is) rfl hF rfl ?_ (hv:=his)|(refine w_alloc rfl hF ?_;clear hF;intro gN wN hF)))
       obtain ⟨gt,ge,rfl,rfl⟩:=hF.names2
       by_cases hfull:t.store=true∧k1.conf.stores≤(k1.stores.length:Int)
       ·as_aux_lemma =>
        rw [if_pos hfull] at hE
        rw [a9s (by rw [hE]),hE] at hR
        replace hR:=Lib.hid (show a2w k=k1 from hR.out)
        have hT:t.cells[6]?=some (.bool true):=(show t.cells[6]?=some (.bool t.store) from rfl).trans (congrArg (fun b=>some (Value.bool b)) hfull.1)
        have hbf:=Lib.hid (show decide (k1.conf.stores≤(k1.stores.length:Int))=true by simpa using hfull.2)
        clear hfull hE hrob he
        refine a1n (by kernel_rfl) hF _ _ (fun _ h=>h) (fun _ h=>h) ?_
        clear hF;intro hF hH
        refine zk1 0 hH ?_
        refine a2i 1 hH ?_
        refine a1c 2 hH ?_
        refine zk8 3 hH ?_
        refine zp 4 hH ?_
        refine zk9 5 hH ?_
        refine zk9 6 hH ?_
        refine a4n 7 hH ?_
        refine a8o 8 hH ?_
        refine zk8 9 hH ?_
        refine zp 10 hH ?_
        refine zk9 11 hH ?_
        refine zk9 12 hH ?_
        refine zk9 13 hH ?_
        refine a4n 14 hH ?_
        first|(refine a1p (i:=15) rfl (a9n rfl rfl rfl) hH ?_;(try simp only [zA,Nat.reduceAdd]))|refine zp 15 hH ?_
        refine zp 16 hH ?_
        refine zrz ?_
        (skip)
        go_wp2_with ((try simp only [zA,Nat.reduceAdd]);(first|go_big_skip|refine c7o ?_|(refine c7p ?_;clear hF;(first|intro gN wN hF|intro wN hF|intro hF))))
        refine bodyPost_ret (results_none rfl _ _ _) rfl ⟨⟨_,rfl⟩,?_⟩
        rw [hR.out]
        exact MR.toX ⟨s1,hfit,ha,((hF.drop 0).drop 0).lessD (by simp only [kD,hfit.feO,a1h,zL];exact zsn)⟩
       ·as_aux_lemma =>
        rw [if_neg hfull] at hE
        have hke:=hk1.retire (by omega)
        rw [hE] at hke
        rw [c6g (by rw [hE]),hE] at hR
        have hk2:=h7a hk1 (by omega) htok.2.2.2 hfull
        have hrob2:(a8y k1 t).rob=e::r:=by unfold a8y;split <;> exact hrob
        have hcf2:(a8y k1 t).conf=k1.conf:=by unfold a8y;split <;> rfl
        rename_i Ka hKa Kb hKb
        (try simp only [zA,Nat.reduceAdd])
        go_cut [98] (fun v wx=>v = .bool false∧MR w0 D0 D (.blk gt 57 t.cells :: .blk ge 54 e.cells::M) g k1 a wx)
        case first=>
         cases hts:t.store with
         | false=>
          have hT:t.cells[6]?=some (.bool false):=(show t.cells[6]?=some (.bool t.store) from rfl).trans (congrArg (fun b=>some (Value.bool b)) hts)
          exact d9m
         | true=>
          have hT:t.cells[6]?=some (.bool true):=(show t.cells[6]?=some (.bool t.store) from rfl).trans (congrArg (fun b=>some (Value.bool b)) hts)
          have hbf:=Lib.hid (show decide (k1.conf.stores≤(k1.stores.length:Int))=false by simpa using fun h=>hfull ⟨hts,h⟩)
          exact d9m
        case rest=>
         clear hF hF0 hfit ha hlen hpos his hesub hE hfull
         obtain ⟨rfl,⟨s1,hfit,ha,hF⟩⟩:=hcut
         refine hKb _ _ ?_
         clear hKb
         (simp only [kD,hfit.feO,a1h,zL] at hF)
         have HSd:=fun W=>g6a t W htok.2.2.1
         have hpe:a6n t=true→b5d t=⟨t.addr,a6d t.value t.size⟩:=fun h=>by unfold b5d;rw [if_pos h]
         have hrb:a8y k1 t=if a6n t=true then { k1 with retired:=k1.retired++[t],stores:=k1.stores++[⟨t.addr,a6d t.value t.size⟩] } else { k1 with retired:=k1.retired++[t] }:=rfl
         obtain ⟨p,hp⟩:∃ p,b5d t=p:=⟨_,rfl⟩
         obtain ⟨bS,hbS⟩:∃ b,a6n t=b:=⟨_,rfl⟩
         rw [hp,hbS] at HSd
         rw [hp,hbS] at hpe
         rw [hbS] at hrb
         replace HSd:=Lib.hid HSd
         replace hpe:=Lib.hid hpe
         replace hrb:=Lib.hid hrb
         clear hp hbS
         go_upto_region 12 with ((try simp only [zA,Nat.reduceAdd]);(first|go_big_skip|refine w_neqH rfl rfl rfl ?_ (hb:=by with_reducible assumption)|refine w_lssH rfl rfl rfl ?_ (hb:=by with_reducible assumption)|refine w_geqH rfl rfl rfl ?_ (hb:=by with_reducible assumption)|refine w_eqlH rfl rfl rfl ?_ (hb:=by with_reducible assumption)|(go_at_call 14;refine (HTo.out _).mono ?_;rintro x wN ⟨rfl,hb⟩;replace hF:=hF.grow hb;clear hb)|refine g_fldB rfl rfl (by (first|exact Wtd.of_none rfl|exact Wtd.of_some rfl rfl)) ?_|refine w_ld1 rfl hF rfl ?_|refine w_ld rfl hF rfl ?_|refine w_ixR (k:=0) rfl hF rfl rfl ?_ (hl:=hlen) (hkn:=hpos)|refine w_fldR rfl hF rfl ?_ (hl:=hlen)|refine w_lde1R (v:=.int .i64 e.is) rfl hF rfl ?_ (hv:=his)|(refine w_alloc rfl hF ?_;clear hF;intro gN wN hF)))
         refine a7k [12] (by kernel_rfl) hF [.blk g 81 (mcells k1 s1),.blk gt 57 t.cells] _ (by first|exact fun _ h=>h|((repeat (first|exact a1f|refine a1m zdm ?_)) <;> exact a1f)) (by first|exact fun _ h=>h|((repeat (first|exact a1f|refine a1m zdm ?_)) <;> exact a1f)) ?_
         clear hF;intro hF hH
         refine zt4 0 hH ?_
         refine zt4 1 hH ?_
         refine zq 2 hH ?_
         refine zt0 3 hH ?_
         refine zt0 4 hH ?_
         refine zt3 5 hH ?_
         refine zt3 6 hH ?_
         refine a2u (rs:=[7]) (by kernel_rfl) (by simp) (a2v rfl (fun K hK=>?_) AllReadyT.nil)
         go_wp2_with ((first|(refine a6o (i:=4) (j:=0) (b:=s1.reO) rfl hF rfl rfl ?_ at4 at0 (by decide) hfit.reF;clear hF;intro A2 c2 wN hF;(try simp only [zA,Nat.reduceAdd]))|(refine w_st1 rfl hF rfl rfl ?_ (hoff:=by (try simp only [a4a]);rw [mcells_len];decide);clear hF;intro wN hF;(try simp only [zF] at hF);(try simp only [zA,Nat.reduceAdd]))|((first|refine zrg ?_|(refine zst ?_;clear hF;(first|intro gN wN hF|intro wN hF|intro hF))|(refine zap ?_;clear hF;intro vN wN hF));(try simp only [zA,Nat.reduceAdd]))))
         have hH:=zx0 hH hF;refine hK.out _ _ (fun _=>hH) ?_;clear hK;(try simp only [zA,Nat.reduceAdd])
         refine a2u (rs:=[8]) (by kernel_rfl) (by simp) (a2v rfl (fun K hK=>?_) AllReadyT.nil)
         go_wp2_with ((first|(refine a6o (i:=4) (j:=0) (b:=s1.reO) rfl hF rfl rfl ?_ at4 at0 (by decide) hfit.reF;clear hF;intro A2 c2 wN hF;(try simp only [zA,Nat.reduceAdd]))|(refine w_st1 rfl hF rfl rfl ?_ (hoff:=by (try simp only [a4a]);rw [mcells_len];decide);clear hF;intro wN hF;(try simp only [zF] at hF);(try simp only [zA,Nat.reduceAdd]))|((first|refine zrg ?_|(refine zst ?_;clear hF;(first|intro gN wN hF|intro wN hF|intro hF))|(refine zap ?_;clear hF;intro vN wN hF));(try simp only [zA,Nat.reduceAdd]))))
         have hH:=zx0 hH hF;refine hK.out _ _ (fun _=>hH) ?_;clear hK;(try simp only [zA,Nat.reduceAdd])
         refine zq 9 hH ?_
         refine zt0 10 hH ?_
         refine zt0 11 hH ?_
         refine a2u (rs:=[12]) (by kernel_rfl) (by simp) (a2v rfl (fun K hK=>?_) AllReadyT.nil)
         go_wp2_with ((first|(refine a6o (i:=4) (j:=0) (b:=s1.reO) rfl hF rfl rfl ?_ at4 at0 (by decide) hfit.reF;clear hF;intro A2 c2 wN hF;(try simp only [zA,Nat.reduceAdd]))|(refine w_st1 rfl hF rfl rfl ?_ (hoff:=by (try simp only [a4a]);rw [mcells_len];decide);clear hF;intro wN hF;(try simp only [zF] at hF);(try simp only [zA,Nat.reduceAdd]))|((first|refine zrg ?_|(refine zst ?_;clear hF;(first|intro gN wN hF|intro wN hF|intro hF))|(refine zap ?_;clear hF;intro vN wN hF));(try simp only [zA,Nat.reduceAdd]))))
         (try clear hH);refine hK.out _ _ (a4w 12 rfl (by kernel_rfl)) ?_;clear hK;(try simp only [zA,Nat.reduceAdd])
         refine a7j (by kernel_rfl) ?_ _
         (skip)
         rw [c5s (n:=k1.retired.length+1) (k1.retired++[t]) (by simp),← d9o] at hF
         go_upto_if 116 with ((try simp only [zA,Nat.reduceAdd]);(first|go_big_skip|(go_at_call 72;refine zcg hF (HSd.out _) ?_;clear hF;intro wN hF)|(refine w_ld rfl hF rfl ?_)|(refine w_alloc rfl hF ?_;clear hF;intro gN wN hF)|(refine w_st (us:=p.cells) rfl hF rfl rfl ?_;clear hF;intro wN hF)))
         rename (∀ (a:Act) (w:World),Code.wp _ _ _ a w→_)=>hKc
         (try simp only [zA,Nat.reduceAdd])
         go_cut [] (fun wx=>MR w0 D0 D (.blk gt 57 t.cells :: .blk ge 54 e.cells::M) g (a8y k1 t) a wx)
         case first=>
          have hl1:(k1.retired++[t]).length=k1.retired.length+1:=by simp
          cases bS
          ·go_wp2
           go_meet
           rw [hrb.out,if_neg (by decide)]
           refine ⟨{ s1 with reO:=true,reA:=A2,reC:=c2 },⟨hfit.data,hfit.words,hfit.robC,hfit.robM,hfit.feO,hfit.stF,fun h=>(by cases h)⟩,ha,?_⟩
           dsimp only
           rw [hl1]
           exact d9n
          ·as_aux_lemma =>
           go_upto_region 15 with fail
           refine a7k [12] (by kernel_rfl) hF [.blk g 81 (mcells _ _),.blk _ 109 p.cells] _ (by first|exact fun _ h=>h|((repeat (first|exact a1f|refine a1m zdm ?_)) <;> exact a1f)) (by first|exact fun _ h=>h|((repeat (first|exact a1f|refine a1m zdm ?_)) <;> exact a1f)) ?_
           clear hF;intro hF hH
           refine zt4 0 hH ?_
           refine zt4 1 hH ?_
           refine zq 2 hH ?_
           refine zt0 3 hH ?_
           refine zt0 4 hH ?_
           refine zt3 5 hH ?_
           refine zt3 6 hH ?_
           refine a2u (rs:=[7]) (by kernel_rfl) (by simp) (a2v rfl (fun K hK=>?_) AllReadyT.nil)
           go_wp2_with ((first|(refine a6o (i:=4) (j:=0) (b:=s1.stO) rfl hF rfl rfl ?_ at4 at0 (by decide) hfit.stF;clear hF;intro A3 c3 wN hF;(try simp only [zA,Nat.reduceAdd]))|(refine w_st1 rfl hF rfl rfl ?_ (hoff:=by (try simp only [a4a]);rw [mcells_len];decide);clear hF;intro wN hF;(try simp only [zF] at hF);(try simp only [zA,Nat.reduceAdd]))|((first|refine zrg ?_|(refine zst ?_;clear hF;(first|intro gN wN hF|intro wN hF|intro hF))|(refine zap ?_;clear hF;intro vN wN hF));(try simp only [zA,Nat.reduceAdd]))))
           have hH:=zx0 hH hF;refine hK.out _ _ (fun _=>hH) ?_;clear hK;(try simp only [zA,Nat.reduceAdd])
           refine a2u (rs:=[8]) (by kernel_rfl) (by simp) (a2v rfl (fun K hK=>?_) AllReadyT.nil)
           go_wp2_with ((first|(refine a6o (i:=4) (j:=0) (b:=s1.stO) rfl hF rfl rfl ?_ at4 at0 (by decide) hfit.stF;clear hF;intro A3 c3 wN hF;(try simp only [zA,Nat.reduceAdd]))|(refine w_st1 rfl hF rfl rfl ?_ (hoff:=by (try simp only [a4a]);rw [mcells_len];decide);clear hF;intro wN hF;(try simp only [zF] at hF);(try simp only [zA,Nat.reduceAdd]))|((first|refine zrg ?_|(refine zst ?_;clear hF;(first|intro gN wN hF|intro wN hF|intro hF))|(refine zap ?_;clear hF;intro vN wN hF));(try simp only [zA,Nat.reduceAdd]))))
           have hH:=zx0 hH hF;refine hK.out _ _ (fun _=>hH) ?_;clear hK;(try simp only [zA,Nat.reduceAdd])
           refine zq 9 hH ?_
           refine zt0 10 hH ?_
           refine zt0 11 hH ?_
           refine a2u (rs:=[12]) (by kernel_rfl) (by simp) (a2v rfl (fun K hK=>?_) AllReadyT.nil)
           go_wp2_with ((first|(refine a6o (i:=4) (j:=0) (b:=s1.stO) rfl hF rfl rfl ?_ at4 at0 (by decide) hfit.stF;clear hF;intro A3 c3 wN hF;(try simp only [zA,Nat.reduceAdd]))|(refine w_st1 rfl hF rfl rfl ?_ (hoff:=by (try simp only [a4a]);rw [mcells_len];decide);clear hF;intro wN hF;(try simp only [zF] at hF);(try simp only [zA,Nat.reduceAdd]))|((first|refine zrg ?_|(refine zst ?_;clear hF;(first|intro gN wN hF|intro wN hF|intro hF))|(refine zap ?_;clear hF;intro vN wN hF));(try simp only [zA,Nat.reduceAdd]))))
           (try clear hH);refine hK.out _ _ (a4w 12 rfl (by kernel_rfl)) ?_;clear hK;(try simp only [zA,Nat.reduceAdd])
           refine a7j (by kernel_rfl) ?_ _
           (skip)
           rw [c1w (n:=k1.stores.length+1) (k1.stores++[p]) (by simp),← h7g] at hF
           go_wp2
           go_meet
           rw [hrb.out,if_pos trivial,← hpe.out trivial]
           have hl2:(k1.stores++[p]).length=k1.stores.length+1:=by simp
           refine ⟨{ s1 with reO:=true,reA:=A2,reC:=c2,stO:=true,stA:=A3,stC:=c3 },⟨hfit.data,hfit.words,hfit.robC,hfit.robM,hfit.feO,fun h=>(by cases h),fun h=>(by cases h)⟩,ha,?_⟩
           dsimp only
           rw [hl1,hl2]
           exact d9n
         case rest=>
          clear hF hfit ha hsl hrl hrb hpe HSd
          obtain ⟨s2,hfit,ha,hF⟩:=hcut
          refine hKc _ _ ?_
          clear hKc
          obtain ⟨k2,hk2e⟩:∃ k2,a8y k1 t=k2:=⟨_,rfl⟩
          rw [hk2e] at hF hfit ha hk2 hrob2 hcf2 hR hke
          have HK:=fun W=>a2o e.inst W he.op
          have hrc:a9t k2 e t=if a1e e.inst.op=3 then a5u k2 t.addr else k2:=rfl
          have hk3:=h7b hk2 (by omega) (e:=e) (s:=t) htok.2.2.2
          have hrob3:(a9t k2 e t).rob=e::r:=by unfold a9t;split <;> exact hrob2
          obtain ⟨κ,hκ⟩:∃ κ,a1e e.inst.op=κ:=⟨_,rfl⟩
          rw [hκ] at HK hrc
          obtain ⟨b3,hb3⟩:∃ b,decide (κ=3)=b:=⟨_,rfl⟩
          have hrc2:a9t k2 e t=if b3=true then a5u k2 t.addr else k2:=by rw [hrc,← hb3];simp only [decide_eq_true_eq]
          replace HK:=Lib.hid HK
          replace hb3:=Lib.hid hb3
          replace hrc2:=Lib.hid hrc2
          clear hκ hrc hk2e
          (simp only [kD,hfit.feO,a1h,zL] at hF)
          go_upto_if 132 with ((try simp only [zA,Nat.reduceAdd]);(first|go_big_skip|((first|(refine w_neqH rfl rfl rfl ?_ (hb:=by with_reducible assumption))|(refine w_lssH rfl rfl rfl ?_ (hb:=by with_reducible assumption))|(refine w_geqH rfl rfl rfl ?_ (hb:=by with_reducible assumption))|(refine w_eqlH rfl rfl rfl ?_ (hb:=by with_reducible assumption)));(try simp only [zA,Nat.reduceAdd]))|(go_at_call 39;refine zcg hF (HK.out _) ?_;clear hF;intro wN hF)|(refine g_fldB rfl rfl (by (first|exact Wtd.of_none rfl|exact Wtd.of_some rfl rfl)) ?_)|((refine w_ldp (v:=e.inst.val) (n:=5) rfl hF rfl ?_ (hn:=Nat.le_of_ble_eq_true rfl));(try simp only [zA,Nat.reduceAdd]))|(refine w_ld1 rfl hF rfl ?_)))
          rename (∀ (a:Act) (w:World),Code.wp _ _ _ a w→_)=>hKd
          (try simp only [zA,Nat.reduceAdd])
          go_cut [] (fun wx=>MR w0 D0 D (.blk gt 57 t.cells :: .blk ge 54 e.cells::M) g (a9t k2 e t) a wx)
          case first=>
           cases b3
           ·go_wp2
            go_meet
            rw [hrc2.out,if_neg (by decide)]
            exact ⟨s2,hfit,ha,hF.lessD (by simp only [kD,hfit.feO,a1h,zL];exact zsn)⟩
           ·as_aux_lemma =>
            go_wp2_with ((try simp only [zA,Nat.reduceAdd]);(first|go_big_skip|refine c7q ?_|(go_at_call 67;refine (d7g (s:=s2) hk2 hfit.data t.addr htok.2.2.2 ((hF.front _ (m:=.blk g 81 (mcells k2 s2)) (by exact zat)).lessD (D':=kD k2 s2++D) (by simp only [kD,hfit.feO,a1h,zL];exact zsn))).mono ?_;rintro x wN ⟨⟨y,rfl⟩,⟨A5,c5,S5,A6,c6,hC5,hF5⟩⟩;clear hF;have hF:=hF5;clear hF5;(try simp only [zF] at hF))))
            go_meet
            rw [hrc2.out,if_pos trivial]
            exact ⟨{ s2 with dA:=A5,dC:=c5,dS:=S5,busA:=A6,busC:=c6 },⟨hC5,hfit.words,hfit.robC,hfit.robM,hfit.feO,hfit.stF,hfit.reF⟩,ha,hF⟩
          case rest=>
           clear hF hfit ha hrc2
           obtain ⟨s3,hfit,ha,hF⟩:=hcut
           refine hKd _ _ ?_
           clear hKd
           obtain ⟨k3,hk3e⟩:∃ k3,a9t k2 e t=k3:=⟨_,rfl⟩
           rw [hk3e] at hF hfit ha hk3 hrob3 hR hke
           have HAp:=fun W=>show Calls Tryz.prog 73 #[regsV k3 s3,t.val] W (fun e w'=>e = .returned (.agg (u32v (a6i k3.regs t)).toArray)∧Bel W w') from by rw [b7p hk3.rlen];exact h7e k3.regs t W hk3.rlen
           have hRl:(a6i k3.regs t).length=32:=h7f hk3.rlen
           have HTr:=fun (W:World) (h1:Rd W W.heap.size 2 s3.slA k3.guess.slots.length s3.slC (sls k3.guess.slots)) (h2:Rd W W.heap.size 1 s3.rtA k3.guess.rets.length s3.rtC (u32v k3.guess.rets))=>h7d s3.slA s3.rtA s3.slC s3.rtC t.pc t.next k3.guess e.inst W hk3.guess h1 h2 he.op htok.1 htok.2.1
           have hRD:c6l k3 e t r={ k3 with regs:=a6i k3.regs t,guess:=a4d k3.guess t.pc t.next e.inst,rob:=r }:=rfl
           obtain ⟨R2,hR2⟩:∃ R2,a6i k3.regs t=R2:=⟨_,rfl⟩
           obtain ⟨G2,hG2⟩:∃ G2,a4d k3.guess t.pc t.next e.inst=G2:=⟨_,rfl⟩
           rw [hR2] at HAp hRl hRD
           rw [hG2] at HTr hRD
           rw [hRD] at hR hke
           have h32:(u32v R2).length=32:=by rw [u32v_len,hRl]
           unfold regsV at HAp
           replace HAp:=Lib.hid HAp
           replace HTr:=Lib.hid HTr
           have hl17:(ens k3.rob).length=k3.rob.length * 17:=a4l _
           have hr3:k3.rob.length=r.length+1:=by rw [hrob3];rfl
           have hd3:(ens k3.rob).drop (1 * 17)=ens r:=by rw [hrob3,Rows.drop];rfl
           have hcap:=hfit.robC
           have hn3:=hk3.roblen
           replace hd3:=Lib.hid hd3
           clear hk3e hR2 hG2 hRD hrob3
           (simp only [kD,hfit.feO,a1h,zL] at hF)
           go_upto_region 18 with fail
           refine a7k [11] (by kernel_rfl) hF [.blk g 81 (mcells k3 s3),.blk gt 57 t.cells] _ (by first|exact fun _ h=>h|((repeat (first|exact a1f|refine a1m zdm ?_)) <;> exact a1f)) (by first|exact fun _ h=>h|((repeat (first|exact a1f|refine a1m zdm ?_)) <;> exact a1f)) ?_
           clear hF;intro hF hH
           refine zt4 0 hH ?_
           refine zt4 1 hH ?_
           refine zq 2 hH ?_
           refine zt0 3 hH ?_
           refine zt0 4 hH ?_
           refine zt3 5 hH ?_
           refine zt3 6 hH ?_
           refine a2u (rs:=[7]) (by kernel_rfl) (by simp) (a2v rfl (fun K hK=>?_) AllReadyT.nil)
           go_wp2_with ((first|(refine c7r ?_;clear hF;intro wN hF)|(refine w_stp (us:=u32v R2) rfl hF rfl rfl ?_ (hfit:=by rw [h32,mcells_len];decide) (ht:=by rw [h32];exact tyRow _ _ rfl);clear hF;intro wN hF;(try simp only [List.set_cons_zero,List.set_cons_succ] at hF);(try simp only [zA,Nat.reduceAdd]))|((first|refine zrg ?_|(refine zst ?_;clear hF;(first|intro gN wN hF|intro wN hF|intro hF))|(refine zap ?_;clear hF;intro vN wN hF));(try simp only [zA,Nat.reduceAdd]))))
           have hH:=zx0 hH hF;refine hK.out _ _ (fun _=>hH) ?_;clear hK;(try simp only [zA,Nat.reduceAdd])
           refine zq 8 hH ?_
           refine zt0 9 hH ?_
           refine zt0 10 hH ?_
           refine a2u (rs:=[11]) (by kernel_rfl) (by simp) (a2v rfl (fun K hK=>?_) AllReadyT.nil)
           go_wp2_with ((first|(refine c7r ?_;clear hF;intro wN hF)|(refine w_stp (us:=u32v R2) rfl hF rfl rfl ?_ (hfit:=by rw [h32,mcells_len];decide) (ht:=by rw [h32];exact tyRow _ _ rfl);clear hF;intro wN hF;(try simp only [List.set_cons_zero,List.set_cons_succ] at hF);(try simp only [zA,Nat.reduceAdd]))|((first|refine zrg ?_|(refine zst ?_;clear hF;(first|intro gN wN hF|intro wN hF|intro hF))|(refine zap ?_;clear hF;intro vN wN hF));(try simp only [zA,Nat.reduceAdd]))))
           (try clear hH);refine hK.out _ _ (a4w 11 rfl (by kernel_rfl)) ?_;clear hK;(try simp only [zA,Nat.reduceAdd])
           refine a7j (by kernel_rfl) ?_ _
           (skip)
           rw [h3q R2 hRl] at hF
           go_upto_region 19 with fail
           refine a7k [16] (by kernel_rfl) hF [.blk g 81 (mcells _ _),.blk gt 57 t.cells,.blk ge 54 e.cells] _ (by first|exact fun _ h=>h|((repeat (first|exact a1f|refine a1m zdm ?_)) <;> exact a1f)) (by first|exact fun _ h=>h|((repeat (first|exact a1f|refine a1m zdm ?_)) <;> exact a1f)) ?_
           clear hF;intro hF hH
           refine zt4 0 hH ?_
           refine zt4 1 hH ?_
           refine zq 2 hH ?_
           refine zt0 3 hH ?_
           refine zt0 4 hH ?_
           refine zt3 5 hH ?_
           refine zt0 6 hH ?_
           refine zt3 7 hH ?_
           refine zt0 8 hH ?_
           refine zt3 9 hH ?_
           refine zt0 10 hH ?_
           refine zt3 11 hH ?_
           refine a2u (rs:=[12]) (by kernel_rfl) (by simp) (a2v rfl (fun K hK=>?_) AllReadyT.nil)
           go_wp2_with ((first|(go_at_call 74;refine (HTr.out _ hF.rdA hF.rdA).mono ?_;rintro x wN ⟨As4,cs4,Ar4,cr4,rfl,hO⟩;replace hF:=hF.callA hO;clear hO)|(refine w_stp rfl hF rfl rfl ?_ (hfit:=by (try simp only [List.length_set]);rw [mcells_len];exact Nat.le_of_ble_eq_true rfl);clear hF;intro wN hF;(try simp only [List.set_cons_zero,List.set_cons_succ] at hF);(try simp only [zA,Nat.reduceAdd]))|((first|refine zrg ?_|(refine zst ?_;clear hF;(first|intro gN wN hF|intro wN hF|intro hF))|(refine zap ?_;clear hF;intro vN wN hF));(try simp only [zA,Nat.reduceAdd]))))
           have hH:=zx0 hH hF;refine hK.out _ _ (fun _=>hH) ?_;clear hK;(try simp only [zA,Nat.reduceAdd])
           refine zq 13 hH ?_
           refine zt0 14 hH ?_
           refine zt0 15 hH ?_
           refine a2u (rs:=[16]) (by kernel_rfl) (by simp) (a2v rfl (fun K hK=>?_) AllReadyT.nil)
           go_wp2_with ((first|(go_at_call 74;refine (HTr.out _ hF.rdA hF.rdA).mono ?_;rintro x wN ⟨As4,cs4,Ar4,cr4,rfl,hO⟩;replace hF:=hF.callA hO;clear hO)|(refine w_stp rfl hF rfl rfl ?_ (hfit:=by (try simp only [List.length_set]);rw [mcells_len];exact Nat.le_of_ble_eq_true rfl);clear hF;intro wN hF;(try simp only [List.set_cons_zero,List.set_cons_succ] at hF);(try simp only [zA,Nat.reduceAdd]))|((first|refine zrg ?_|(refine zst ?_;clear hF;(first|intro gN wN hF|intro wN hF|intro hF))|(refine zap ?_;clear hF;intro vN wN hF));(try simp only [zA,Nat.reduceAdd]))))
           (try clear hH);refine hK.out _ _ (a4w 16 rfl (by kernel_rfl)) ?_;clear hK;(try simp only [zA,Nat.reduceAdd])
           refine a7j (by kernel_rfl) ?_ _
           (skip)
           rw [h3p G2 rfl rfl rfl] at hF
           go_wp2_with ((try simp only [zA,Nat.reduceAdd]);(first|go_big_skip|refine c7q ?_|(refine f4b ?_;clear hF;(first|intro gN wN hF|intro wN hF|intro hF))))
           go_roundw
           case rel=>
            (try rw [show k3.rob.length - 1=r.length by omega] at hF);rw [b7m r rfl,hd3.out] at hF
            refine ⟨j+1,{ k3 with regs:=R2,guess:=G2,rob:=r },by go_num,by omega,Lib.hid (by rw [hR.out,show k.conf.width.toNat - (j+1)=m by omega]),by rw [show B+2 * ((j+1:Nat):Int)=B+2 * (j:Int)+2 by omega];exact hke,⟨{ s3 with robA:=cutA s3.robA 1 s3.robC 17,robC:=s3.robC - 1,slA:=As4,slC:=cs4,rtA:=Ar4,rtC:=cr4 },⟨hfit.data,hfit.words,by show r.length≤s3.robC - 1;omega,Nat.le_trans (Nat.sub_le _ _) hfit.robM,hfit.feO,hfit.stF,hfit.reF⟩,ha,?_⟩⟩
            exact ((hF.drop 4).drop 4).lessD (by simp only [kD,hfit.feO,a1h,zL];exact zsn)
           case measure=>first|(simp [intOf];done)|(simp [intOf];omega)
  ·as_aux_lemma =>
   have hz:k.conf.width.toNat - j=0:=by omega
   rw [hz] at hR
   replace hR:=Lib.hid (show a2w k=k1 from hR.out)
   have hlt:=Lib.hid (show decide ((j:Int)<k.conf.width)=false by simp;omega)
   clear hF0
   go_wp2_with ((try simp only [zA,Nat.reduceAdd]);(first|go_big_skip|refine f4c ?_|(refine a1s ?_;clear hF;(first|intro gN wN hF|intro wN hF|intro hF))|(refine a1d ?_;clear hF;intro vN wN hF)))
   go_end0
   refine ⟨⟨_,rfl⟩,?_⟩
   rw [hR.out]
   exact MR.toX ⟨s1,hfit,ha,hF.lessD (by simp only [kD,hfit.feO,a1h,zL];exact zsn)⟩
end
end Go.Proofs.YtgnomadgnciifaaGreatDoor
