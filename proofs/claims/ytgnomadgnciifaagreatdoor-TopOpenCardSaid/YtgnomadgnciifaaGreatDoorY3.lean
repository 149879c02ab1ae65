/- . -/
import Derived.Test.YtgnomadgnciifaaGreatDoorY2
import Derived.Test.YtgnomadgnciifaaGreatDoorZ49
import Derived.Deep.CutBlock
set_option linter.unusedVariables false
set_option linter.unusedSimpArgs false
set_option linter.unusedSectionVars false
set_option maxRecDepth 100000
set_option maxHeartbeats 16000000
namespace Go.Proofs.YtgnomadgnciifaaGreatDoor
section
open Go.RowKit Wd
theorem c2g {f:Kern→Kern × Bool} (hf:∀ k,k.retired.length≤(f k).1.retired.length):∀ (n:Nat) (k:Kern),k.retired.length≤(a2n f n k).retired.length
 | 0,k=>Nat.le_refl _
 | n+1,k=>by
  unfold a2n
  split
  ·exact Nat.le_trans (hf k) (c2g hf n _)
  ·exact hf k
theorem i2f (k:Kern):k.retired.length≤(a2s k).1.retired.length:=by
 unfold a2s a5u
 dsimp only
 repeat' split
 all_goals first|exact Nat.le_refl _|(show _≤(k.retired++[_]).length;rw [List.length_append];exact Nat.le_add_right _ _)
theorem i2g (k:Kern):(a3u k).1.retired=k.retired:=by
 unfold a3u
 repeat' split
 all_goals rfl
theorem i2h (k:Kern) (w:Nat):(a2f k w).2.retired=k.retired:=by
 unfold a2f
 repeat' split
 all_goals rfl
theorem i2i (k:Kern):(a3v k).1.retired=k.retired:=by
 unfold a3v
 dsimp only
 repeat' split
 all_goals first|rfl|exact i2h _ _
theorem i2j (k:Kern):k.retired.length≤(a2z k).retired.length:=by
 unfold a2z
 split
 ·have h1:=(f1w { k with cycle:=k.cycle+1 }).ret
  have h2:(a1y (a2k { k with cycle:=k.cycle+1 })).retired=_:=(h8l _).1
  have h3:_≤(a2w (a1y (a2k { k with cycle:=k.cycle+1 }))).retired.length:=c2g i2f _ _
  have h4:=(f1z (a2w (a1y (a2k { k with cycle:=k.cycle+1 })))).ret
  generalize a2q (a2w (a1y (a2k { k with cycle:=k.cycle+1 })))=k4 at *
  have h5:k4.retired.length≤(a3c k4).retired.length:=by
   unfold a3c
   split
   ·exact Nat.le_refl _
   ·exact c2g (fun k=>by rw [i2g];exact Nat.le_refl _) _ _
  generalize a3c k4=k5 at *
  have h6:k5.retired.length≤(a2y k5).retired.length:=by
   unfold a2y
   split
   ·exact Nat.le_refl _
   ·exact c2g (fun k=>by rw [i2i];exact Nat.le_refl _) _ _
  have h7:=(f2c (a2y k5)).ret
  rw [h2] at h3
  have h1':(a2k { k with cycle:=k.cycle+1 }).retired.length=k.retired.length:=h1
  omega
 ·exact Nat.le_refl _
theorem f2f : ∀ (n:Nat) (k:Kern),a8h (n+1) k=a8h n k++[b7r (runK (n+1) k) (runK n k).retired.length]
 | 0,k=>rfl
 | n+1,k=>by
  show b7r (a2z k) k.retired.length::a8h (n+1) (a2z k)=_
  rw [f2f n (a2z k)]
  rfl
theorem i2k (r t:Snr) (h:r.sn=t.sn) (w:World) (h1:∀ d∈r.das,d.ok w) (h2:∀ d∈t.das,d.ok w) :
  Calls Tryz.prog 47 #[.agg r.cells.toArray,.agg t.cells.toArray] w fun e w'=>e = .returned (.bool true)∧Bel w w':=by
 obtain ⟨a1,n1,c1,S1,a2,n2,c2,S2,a3,n3,c3,q,a4,n4,c4,p⟩:=r
 obtain ⟨b1,m1,d1,T1,b2,m2,d2,T2,b3,m3,d3,q',b4,m4,d4,p'⟩:=t
 unfold Snr.sn at h
 injection h with hC1 hC2 hq hp
 dsimp only at hC1 hC2 hq hp
 subst hq hp
 have hF:=St.start w _ (fun d hd=>(List.mem_append.1 hd).elim (h1 d) (h2 d))
 unfold Snr.das at hF
 simp only [zL] at hF
 clear h1 h2
 obtain rfl:n3=m3:=by
  have e1:=(hF.rdA (sz:=4) (A:=a3) (n:=n3) (c:=c3) (xs:=rqs q)).len
  have e2:=(hF.rdA (sz:=4) (A:=b3) (n:=m3) (c:=d3) (xs:=rqs q)).len
  omega
 obtain rfl:n4=m4:=by
  have e1:=(hF.rdA (sz:=1) (A:=a4) (n:=n4) (c:=c4) (xs:=u32v p)).len
  have e2:=(hF.rdA (sz:=1) (A:=b4) (n:=m4) (c:=d4) (xs:=u32v p)).len
  omega
 obtain rfl:n1=m1:=by
  have e1:=(hF.rds (A:=a1) (n:=n1) (c:=c1) (S:=S1)).slen
  have e2:=(hF.rds (A:=b1) (n:=m1) (c:=d1) (S:=T1)).slen
  rw [← e1,← e2,← a3n,← a3n,hC1]
 obtain rfl:n2=m2:=by
  have e1:=(hF.rds (A:=a2) (n:=n2) (c:=c2) (S:=S2)).slen
  have e2:=(hF.rds (A:=b2) (n:=m2) (c:=d2) (S:=T2)).slen
  rw [← e1,← e2,← a3n,← a3n,hC2]
 have H1:=Lib.hid (fun (W:World) h1 h2=>f1u a1 b1 n1 c1 d1 S1 T1 W h1 h2 hC1)
 have H2:=Lib.hid (fun (W:World) h1 h2=>f1u a2 b2 n2 c2 d2 S2 T2 W h1 h2 hC2)
 have H3:=Lib.hid (fun (W:World) h1 h2=>i1k a3 b3 n3 c3 d3 q W h1 h2)
 have H4:=Lib.hid (fun (W:World) h1 h2=>i1l a4 b4 n4 c4 d4 p W h1 h2)
 clear hC1 hC2
 unfold Snr.cells
 go_enter Tryz.func47,Tryz.ntmps47
 go_wp2_with ((try simp only [zA,Nat.reduceAdd]);(first|go_big_skip|((refine w_box (cs:=[.slice a1 n1 c1,.slice a2 n2 c2,.slice a3 n3 c3,.slice a4 n4 c4]) rfl hF rfl ?_);clear hF;intro gA wN hF;(try simp only [zA,Nat.reduceAdd]))|((refine w_box (cs:=[.slice b1 n1 d1,.slice b2 n2 d2,.slice b3 n3 d3,.slice b4 n4 d4]) rfl hF rfl ?_);clear hF;intro gB wN hF;(try simp only [zA,Nat.reduceAdd]))|(refine w_fldB rfl rfl ?_)|(refine w_ld1 rfl hF rfl ?_)|(go_at_call 110;(have hX:=H1.out _ hF.rds hF.rds);(with_reducible refine hX.mono ?_);clear hX;rintro x wN ⟨rfl,hb⟩;replace hF:=hF.grow hb;clear hb)|(go_at_call 110;(have hX:=H2.out _ hF.rds hF.rds);(with_reducible refine hX.mono ?_);clear hX;rintro x wN ⟨rfl,hb⟩;replace hF:=hF.grow hb;clear hb)|(go_at_call 112;refine (H3.out _ hF.rdA hF.rdA).mono ?_;rintro x wN ⟨rfl,hb⟩;replace hF:=hF.grow hb;clear hb)|(go_at_call 114;refine (H4.out _ hF.rdA hF.rdA).mono ?_;rintro x wN ⟨rfl,hb⟩;replace hF:=hF.grow hb;clear hb)))
 go_ret
 exact ⟨rfl,hF.bel⟩
theorem f2g (A B:Option Addr) (n c d:Nat) (L L2:List Snr) (w:World) (h1:Rd w w.heap.size 4 A n c (snv L)) (h2:Rd w w.heap.size 4 B n d (snv L2)) (hL:(a4k L).ok w) (hL2:(a4k L2).ok w) (h:L.map Snr.sn=L2.map Snr.sn) :
  Calls Tryz.prog 19 #[.slice A n c,.slice B n d] w fun e w'=>e = .returned (.int .i64 (-1))∧Bel w w':=by
 have hF:=St.start w [a1a 4 A n c (snv L),a4k L,a1a 4 B n d (snv L2),a4k L2] (fun x hx=>by
  rcases List.mem_cons.1 hx with rfl|hx
  ·exact h1
  ·rcases List.mem_cons.1 hx with rfl|hx
   ·exact hL
   ·rcases List.mem_cons.1 hx with rfl|hx
    ·exact h2
    ·obtain rfl:=List.mem_singleton.1 hx;exact hL2)
 have hl:L.length=n:=by have:=h1.len;rw [Rows.length] at this;omega
 have hl2:L2.length=n:=by have:=h2.len;rw [Rows.length] at this;omega
 have hc1:=h1.le
 have hc2:=h1.mx
 unfold maxLen at hc2
 have hS:=Lib.hid (fun (k:Nat) (r t:Snr) (e1:L[k]?=some r) (e2:L2[k]?=some t)=>show r.sn=t.sn from by
  have e:=congrArg (fun x=>x[k]?) h
  simp only [List.getElem?_map,e1,e2,Option.map_some,Option.some.injEq] at e
  exact e)
 replace hl:=Lib.hid hl
 replace hl2:=Lib.hid hl2
 clear h1 h2 hL hL2 h
 go_enter Tryz.func19,Tryz.ntmps19
 go_wp2_with ((try simp only [zA,Nat.reduceAdd]);(first|go_big_skip))
 go_loopw [11] (fun i wr=>∃ k:Nat,k≤n∧i = .int .i64 (k:Int)∧St w [a1a 4 A n c (snv L),a4k L,a1a 4 B n d (snv L2),a4k L2] wr [] [a1a 4 A n c (snv L),a4k L,a1a 4 B n d (snv L2),a4k L2]) (fun i _=>n - (intOf i).toNat)
 case atStart=>exact ⟨0,by omega,rfl,hF⟩
 case round=>
  clear hF
  obtain ⟨k,hk,rfl,hF⟩:=hrel
  by_cases hkn:k<n
  ·obtain ⟨r,hr⟩:∃ v,L[k]?=some v:=⟨_,List.getElem?_eq_getElem (by have:=hl.out;omega)⟩
   obtain ⟨t,ht⟩:∃ v,L2[k]?=some v:=⟨_,List.getElem?_eq_getElem (by have:=hl2.out;omega)⟩
   have hrt:=hS.out k r t hr ht
   have HS:=Lib.hid (fun (W:World) (hF:St w [a1a 4 A n c (snv L),a4k L,a1a 4 B n d (snv L2),a4k L2] W [] [a1a 4 A n c (snv L),a4k L,a1a 4 B n d (snv L2),a4k L2])=>i2k r t hrt W (fun x hx=>(hF.sndAt (L:=L) zdm hr).dat x (List.mem_append_left _ hx)) (fun x hx=>(hF.sndAt (L:=L2) zdm ht).dat x (List.mem_append_left _ hx)))
   have hge:=Lib.hid (show decide ((n:Int)≤(k:Int))=false from decide_eq_false (by omega))
   clear hrt
   go_upto_region 4 with ((try simp only [zA,Nat.reduceAdd]);(first|go_big_skip))
   refine a1n (by kernel_rfl) hF [] _ (by ((repeat (first|exact a1f|refine a1m zdm ?_)) <;> exact a1f)) (fun _ h=>h) ?_
   clear hF;intro hF hH
   refine a1c 0 hH ?_
   refine a1c 1 hH ?_
   refine zk3 2 hH ?_
   first|(refine a1p (i:=3) rfl (a9n rfl rfl rfl) hH ?_;(try simp only [zA,Nat.reduceAdd]))|refine zp 3 hH ?_
   refine a1c 4 hH ?_
   refine zk8 5 hH ?_
   refine zk8 6 hH ?_
   refine a8o 7 hH ?_
   first|(refine a1p (i:=8) rfl (a9n rfl rfl rfl) hH ?_;(try simp only [zA,Nat.reduceAdd]))|refine zp 8 hH ?_
   (refine a9c (i:=9) (v:=?_) rfl rfl (by kernel_rfl) (by kernel_rfl) (by kernel_rfl) (fun _ _ _ h=>h) ?_ hH ?_;rotate_left;(first|exact a6t a4g (by rfl)|(refine a1u (by rfl) ?_;intro w;go_simp;done)|(refine a1u (by rfl) ?_;intro w;go_simp;with_reducible rfl)|(refine a1u (by rfl) ?_;intro w;simp only [Wy.cells];go_simp;with_reducible rfl));(try simp only [zA,Nat.reduceAdd]))
   refine a1c 10 hH ?_
   refine zk8 11 hH ?_
   refine zk8 12 hH ?_
   refine b6v 13 hH ?_
   (first|refine a1p (i:=14) rfl (a5d rfl rfl) hH ?_|refine a1p (i:=14) rfl (a5z rfl rfl) hH ?_|refine a1p (i:=14) rfl (a6a rfl rfl) hH ?_|refine a1p (i:=14) rfl (a3j rfl rfl) hH ?_|refine a1p (i:=14) rfl (a3j rfl rfl (hu:=by assumption)) hH ?_|refine a1p (i:=14) rfl (a4g) hH ?_);(try simp only [zA,Nat.reduceAdd])
   refine zk8 15 hH ?_
   refine zk8 16 hH ?_
   refine b6v 17 hH ?_
   (first|refine a1p (i:=18) rfl (a5d rfl rfl) hH ?_|refine a1p (i:=18) rfl (a5z rfl rfl) hH ?_|refine a1p (i:=18) rfl (a6a rfl rfl) hH ?_|refine a1p (i:=18) rfl (a3j rfl rfl) hH ?_|refine a1p (i:=18) rfl (a3j rfl rfl (hu:=by assumption)) hH ?_|refine a1p (i:=18) rfl (a4g) hH ?_);(try simp only [zA,Nat.reduceAdd])
   refine zry 19 (fun K hK=>?_)
   go_wp2_with (first|(go_at_call 47;refine (HS.out _ hF).mono ?_;rintro x wN ⟨rfl,hb⟩;replace hF:=hF.grow hb;clear hb))
   have hH:=zx0 hH hF;refine hK.out _ _ hH ?_;clear hK;(try simp only [zA,Nat.reduceAdd])
   (refine a9c (i:=20) (v:=?_) rfl rfl (by kernel_rfl) (by kernel_rfl) (by kernel_rfl) (fun _ _ _ h=>h) ?_ hH ?_;rotate_left;(first|exact a6t a4g (by rfl)|(refine a1u (by rfl) ?_;intro w;go_simp;done)|(refine a1u (by rfl) ?_;intro w;go_simp;with_reducible rfl)|(refine a1u (by rfl) ?_;intro w;simp only [Wy.cells];go_simp;with_reducible rfl));(try simp only [zA,Nat.reduceAdd]))
   (refine a9c (i:=21) (v:=?_) rfl rfl (by kernel_rfl) (by kernel_rfl) (by kernel_rfl) (fun _ _ _ h=>h) ?_ hH ?_;rotate_left;(first|exact a6t a4g (by rfl)|(refine a1u (by rfl) ?_;intro w;go_simp;done)|(refine a1u (by rfl) ?_;intro w;go_simp;with_reducible rfl)|(refine a1u (by rfl) ?_;intro w;simp only [Wy.cells];go_simp;with_reducible rfl));(try simp only [zA,Nat.reduceAdd]))
   refine zrz ?_
   go_wp2_with ((try simp only [zA,Nat.reduceAdd]);(first|go_big_skip))
   go_roundw
   case rel=>exact ⟨k+1,by omega,by go_num,hF⟩
   case measure=>first|(simp [intOf];done)|(simp [intOf];omega)
  ·obtain rfl:k=n:=by omega
   exact b7q
theorem i2l {w0 w:World} {D0:List Da} {M:List Mu} {k:Kern} {s:Sls} {j:Nat} {d0:Da} (hI:RunI k j) (hj:j<2000) (hfit:FitC (runK j k) s) (hF:St w0 D0 w M (d0::a4s (runK j k) s)) :
  Calls Tryz.prog 9 #[.agg (mcells (runK j k) s).toArray] w fun x w'=>∃ s',FitC (runK (j+1) k) s'∧x = .returned (.agg (mcells (runK (j+1) k) s').toArray)∧St w0 D0 w' M (d0::a4s (runK (j+1) k) s'):=by
 refine (f1a hI.ok (by omega) hI.left hfit w (fun d hd=>hF.dat d (List.mem_cons_of_mem _ hd))).mono ?_
 rintro x w' ⟨s',hfit',rfl,hO⟩
 rw [← b5n] at hfit' hO ⊢
 exact ⟨s',hfit',rfl,(hF.call hO (fun _ h=>List.mem_cons_of_mem _ h)).lessD (fun d hd=>by
  rcases List.mem_cons.1 hd with rfl|hd
  ·exact List.mem_append_right _ (List.mem_cons_self ..)
  ·exact List.mem_append_left _ hd)⟩
inductive WPost (w:World) (D1:List Da) (N:Nat) (k0:Kern) (x:Ending) (w':World):Prop
 | mk (s:Sls) (A:Option Addr) (c:Nat) (L:List Snr) (hfit:FitC (runK N k0) s) (hL:L.map Snr.sn=a8h N k0) (hx:x = .returned (.tuple #[.agg (mcells (runK N k0) s).toArray,.slice A N c])) (hO:Out w D1 w' (a1a 4 A N c (snv L)::a4k L::a4s (runK N k0) s))
theorem i2m (c:Cf) (Al:Option Addr) (cl:Nat) (At:Option Addr) (ct:Nat) (prog:List Nat) (Ap:Option Addr) (cp:Nat) (m:ByteArray) (n:Int) (w:World) (hl:Rd w w.heap.size 1 Al c.lat.length cl (a1i c.lat)) (ht:Rd w w.heap.size 1 At c.tape.length ct (u32v c.tape))
  (hp:Rd w w.heap.size 1 Ap prog.length cp (u32v prog)) (hcd:Rd w w.heap.size 1 (some ⟨0,0,none⟩) 49 49 (u32v codesL)) (hm:m.size≤9223372036854775807) (htt:∀ x∈c.tape,x<4294967296) (hpp:∀ x∈prog,x<4294967296) :
  Calls Tryz.prog 18 #[.agg (cfC c Al cl At ct).toArray,.slice Ap prog.length cp,.string m,.int .i64 n] w (WPost w [a1a 1 Al c.lat.length cl (a1i c.lat),a1a 1 At c.tape.length ct (u32v c.tape),a1a 1 Ap prog.length cp (u32v prog),a2h] (min n 2000).toNat (newK c prog m)):=by
 have hF:=St.start w [a1a 1 Al c.lat.length cl (a1i c.lat),a1a 1 At c.tape.length ct (u32v c.tape),a1a 1 Ap prog.length cp (u32v prog),a2h] (fun d hd=>by
  rcases List.mem_cons.1 hd with rfl|hd
  ·exact hl
  ·rcases List.mem_cons.1 hd with rfl|hd
   ·exact ht
   ·rcases List.mem_cons.1 hd with rfl|hd
    ·exact hp
    ·obtain rfl:=List.mem_singleton.1 hd;exact hcd)
 have HN:=Lib.hid (fun (W:World) h1 h2 h3 h4=>d9z c Al cl At ct prog Ap cp m W h1 h2 h3 h4 hm)
 have HI:=Lib.hid (fun j hj=>c6q (c:=c) (prog:=prog) (m:=m) htt hpp j hj)
 obtain ⟨N,hN,hNl⟩:∃ N:Int,Hid (N=if (2000:Int)<n then 2000 else n)∧Hid (min n 2000=N):=⟨min n 2000,Lib.hid (by split <;> omega),Lib.hid rfl⟩
 have hN2:N≤2000:=by have:=hN.out;split at this <;> omega
 rw [hNl.out]
 clear hl ht hp hcd htt hpp hNl
 go_enter Tryz.func18,Tryz.ntmps18
 go_wp2_with ((try simp only [zA,Nat.reduceAdd]);(first|go_big_skip|(go_at_call 8;refine (HN.out _ hF.rdA hF.rdA hF.rdA hF.rdA).mono ?_;rintro x wN ⟨s1,hfit1,rfl,hO⟩;replace hF:=(hF.call hO (fun _ h=>h)).lessD (D':=a4s (runK 0 (newK c prog m)) s1) (fun d hd=>List.mem_append_left _ hd);clear hO;(try simp only [zA,Nat.reduceAdd]))|(refine w_box rfl hF rfl ?_;clear hF;intro gN wN hF)|(have hz:=hfit1;clear hz;refine w_alloc (ty:=42) (cs:=zeroCore) rfl hF ?_;clear hF;intro gX wN hF;(try simp only [zA,Nat.reduceAdd]))|(refine w_alloc (ty:=42) (cs:=zeroCore) rfl hF ?_;clear hF;intro gR wN hF;(try simp only [zA,Nat.reduceAdd]))|(refine w_ld rfl hF rfl ?_)|(refine w_st (us:=mcells (newK c prog m) s1) rfl hF rfl rfl ?_ (h1:=fun u hu=>.inl (mcells_one _ _ u hu));clear hF;intro wN hF;(try simp only [zF] at hF);(try simp only [zA,Nat.reduceAdd]))|((refine w_minH rfl rfl rfl ?_);(try simp only [zA,Nat.reduceAdd]))))
 obtain ⟨k0,hk0⟩:∃ k0,newK c prog m=k0:=⟨_,rfl⟩
 rw [hk0] at hF hfit1 HI
 replace hk0:=Lib.hid hk0
 clear HN
 have hF:=(hF.sndNil).nil 92 4
 go_loopw [19,10] (fun i v wr=>∃ j:Nat,j≤N.toNat∧i = .int .i64 (j:Int) ∧ ∃ s L,FitC (runK j k0) s∧Hid (L.map Snr.sn=a8h j k0)∧St w [a1a 1 Al c.lat.length cl (a1i c.lat),a1a 1 At c.tape.length ct (u32v c.tape),a1a 1 Ap prog.length cp (u32v prog),a2h] wr [.own v 92 4 j (snv L),.blk gX 42 (mcells (runK j k0) s),.blk gR 42 zeroCore,.blk gN 25 (cfC c Al cl At ct)] (a4k L::a4s (runK j k0) s)) (fun i _ _=>N.toNat - (intOf i).toNat)
 case atStart=>exact ⟨0,by omega,rfl,s1,[],hfit1,Lib.hid rfl,hF⟩
 case round=>
  clear hF hfit1
  obtain ⟨j,hj,rfl,s,L,hfit,hL,hF⟩:=hrel
  by_cases hjn:(j:Int)<N
  ·have hI:=HI.out j (by omega)
   have hI2:=HI.out (j+1) (by omega)
   have hle:(runK j k0).retired.length≤(runK (j+1) k0).retired.length:=by rw [b5n];exact i2j _
   go_wp2_with ((try simp only [zA,Nat.reduceAdd]);(first|go_big_skip|(go_at_call 9;refine (i2l hI (by omega) hfit hF).mono ?_;rintro x wN ⟨s2,hfit2,rfl,hF2⟩;clear hF;have hF:=hF2;clear hF2;(try simp only [zA,Nat.reduceAdd]))|(go_at_call 46;refine (i1p hI2.ok hfit2 (runK j k0).retired.length hle _ (fun d hd=>hF.dat d (List.mem_cons_of_mem _ (f1v hfit2 d hd)))).mono ?_;rintro x wN ⟨r,hrs,rfl,hO⟩;replace hF:=hF.call hO (fun d hd=>List.mem_cons_of_mem _ (f1v hfit2 d hd));clear hO;(try simp only [zA,Nat.reduceAdd]))|((refine w_ld (cs:=mcells (runK (j+1) k0) s2) (v:=.agg (mcells (runK (j+1) k0) s2).toArray) rfl hF rfl ?_);(try simp only [zA,Nat.reduceAdd]))|((refine w_ld (cs:=mcells (runK j k0) s) (v:=.agg (mcells (runK j k0) s).toArray) rfl hF rfl ?_);(try simp only [zA,Nat.reduceAdd]))|(refine w_st (us:=mcells (runK (j+1) k0) s2) rfl hF rfl rfl ?_ (h1:=fun u hu=>.inl (mcells_one _ _ u hu));clear hF;intro wN hF;(try simp only [zF] at hF);(try simp only [zA,Nat.reduceAdd]))|(refine w_fldB rfl rfl ?_)|((refine w_ld1 (v:=.slice s.reA (runK j k0).retired.length s.reC) (hv:=rfl) rfl hF rfl ?_);(try simp only [zA,Nat.reduceAdd]))|(refine w_bs1 (us:=r.cells) rfl hF rfl ?_;clear hF;intro gN wN hF;(try simp only [zA,Nat.reduceAdd]))|(refine w_app rfl hF rfl rfl ?_;clear hF;intro vN wN hF;(try simp only [zF] at hF))))
   have hF:=(hF.sndApp (L:=L) (r:=r) (List.mem_append_right _ (List.mem_cons_self ..)) (fun d hd=>List.mem_append_left _ hd)).lessD (D':=a4k (L++[r])::a4s (runK (j+1) k0) s2) (fun d hd=>by
    rcases List.mem_cons.1 hd with rfl|hd
    ·exact List.mem_cons_self ..
    ·exact List.mem_cons_of_mem _ (List.mem_append_right _ (List.mem_cons_of_mem _ hd)))
   go_roundw
   case rel=>exact ⟨j+1,by omega,by go_num,s2,L++[r],hfit2,Lib.hid (by rw [List.map_append,hL.out,f2f];show _++[r.sn]=_;rw [hrs]),by rw [Rows.append (f:=snv),Rows.single (f:=snv)];exact hF⟩
   case measure=>first|(simp [intOf];done)|(simp [intOf];omega)
  ·have hjN:j=N.toNat:=by omega
   replace hjN:=Lib.hid hjN
   obtain ⟨A3,c3,rfl,hF⟩:=hF.freeze 0 at0
   (try simp only [zF] at hF)
   go_wp2_with ((try simp only [zA,Nat.reduceAdd]);(first|go_big_skip|((refine w_ld (cs:=mcells (runK j k0) s) (v:=.agg (mcells (runK j k0) s).toArray) rfl hF rfl ?_);(try simp only [zA,Nat.reduceAdd]))|(refine w_st (us:=mcells (runK j k0) s) rfl hF rfl rfl ?_ (h1:=fun u hu=>.inl (mcells_one _ _ u hu));clear hF;intro wN hF;(try simp only [zF] at hF);(try simp only [zA,Nat.reduceAdd]))))
   ((try simp only [Exit.inBlock,Exit.then]);refine bodyPost_ret (b1y rfl hF) rfl ?_)
   rw [← hjN.out,hk0.out]
   exact WPost.mk s A3 c3 L hfit hL.out rfl (hF.out (fun d h=>h))
end
section
open Go.RowKit Wd
def a9v (i w:Nat):Nat:=(((w &&& 4293918720) ||| (un ((i % 7:Nat):Int) * 2 ^ 15 % 4294967296)) ||| (un (((i % 5:Nat):Int)+1) * 2 ^ 7 % 4294967296)) ||| 19
def a5x (l:List Nat):Nat→List Nat
 | 0=>[]
 | k+1=>match l[k]? with
  | some w=>a5x l k++[a9v k w]
  | none=>a5x l k
theorem c7a {l:List Nat} {k w:Nat} (h:l[k]?=some w):a5x l (k+1)=a5x l k++[a9v k w]:=by
 show (match l[k]? with|some w=>a5x l k++[a9v k w]|none=>a5x l k)=_
 rw [h]
theorem f2h {l:List Nat}:∀ {k:Nat},k≤l.length→(a5x l k).length=k
 | 0,_=>rfl
 | k+1,h=>by
  rw [c7a (List.getElem?_eq_getElem (show k<l.length by omega)),List.length_append,f2h (by omega)]
  rfl
theorem i2n (i w:Nat):a9v i w % 128=19:=by
 refine Nat.eq_of_testBit_eq fun j=>?_
 rw [show (128:Nat)=2 ^ 7 from rfl,Nat.testBit_mod_two_pow]
 unfold a9v
 rw [Nat.testBit_or,Nat.testBit_or,Nat.testBit_or,Nat.testBit_and,show (4294967296:Nat)=2 ^ 32 from rfl,Nat.testBit_mod_two_pow,Nat.testBit_mod_two_pow,Nat.testBit_mul_two_pow,Nat.testBit_mul_two_pow]
 by_cases hj:j<7
 ·have h1:Nat.testBit 4293918720 j=false:=(by decide:∀ j:Fin 7,Nat.testBit 4293918720 j.val=false) ⟨j,hj⟩
  rw [h1,show decide (15≤j)=false by simp;omega,show decide (7≤j)=false by simp;omega]
  simp [hj]
 ·rw [(by exact Nat.testBit_lt_two_pow (Nat.lt_of_lt_of_le (show 19<2 ^ 7 by decide) (Nat.pow_le_pow_right (by decide) (by omega))):Nat.testBit 19 j=false)]
  simp [hj]
theorem i2o {i w:Nat} (hw:w<4294967296):a9v i w<4294967296:=by
 unfold a9v
 have h1:w &&& 4293918720<4294967296:=Nat.lt_of_le_of_lt Nat.and_le_left hw
 exact Nat.or_lt_two_pow (n:=32) (Nat.or_lt_two_pow (n:=32) (Nat.or_lt_two_pow (n:=32) h1 (Nat.mod_lt _ (by decide))) (Nat.mod_lt _ (by decide))) (by decide)
theorem c2h {P:Nat→Prop} {l:List Nat} (hP:∀ i w,w∈l→P (a9v i w)):∀ k,∀ x∈a5x l k,P x
 | 0,x,h=>(by cases h)
 | k+1,x,h=>by
  cases hk:l[k]? with
  | none=>
   have e:a5x l (k+1)=a5x l k:=by
    show (match l[k]? with|some w=>a5x l k++[a9v k w]|none=>a5x l k)=_
    rw [hk]
   rw [e] at h
   exact c2h hP k x h
  | some w=>
   rw [c7a hk] at h
   rcases List.mem_append.1 h with h|h
   ·exact c2h hP k x h
   ·obtain rfl:=List.mem_singleton.1 h
    exact hP k w (List.mem_of_getElem? hk)
theorem i2p {l:List Nat} (k:Nat):a7e (a5x l k):=fun w hw i hi=>
 i2e (c2h (P:=fun x=>x % 128=19) (fun i w _=>i2n i w) k w hw) i hi
def a7f (c:Cf) (m:Int):Cf:={ c with mode:=m }
theorem i2q (c:Cf) (m:Int) (hm:0≤m∧m≤2) (prog:List Nat) (x:ByteArray):newK (a7f c m) prog x=mdK m (newK c prog x):=by
 have h:a1q 0 2 m=m:=by unfold a1q;split <;> omega
 unfold newK mdK a7f cleanCf
 simp only [h]
theorem i2r (c:Cf) (m:Int) (hm:0≤m∧m≤2) (prog:List Nat) (x:ByteArray) (hq:a7e prog) (N:Nat):a8h N (newK (a7f c m) prog x)=a8h N (newK c prog x):=by
 rw [i2q c m hm]
 refine f1t m hm N ?_ (fun w hw=>hq w (List.mem_of_mem_take hw)) (f2e c prog x)
 exact a9r (by decide)
section
variable {P:Program} {ops:Array Oper} {rest:List Oper} {o:Oper} {a:Act} {Q:Exit→Act→World→Prop} {w:World}
theorem i2s {x y:Operand} {t t':TypeId} {p q r:Nat} (ho:o.op = .binOp .and t x y t') (hx:a1b a x=some (.int .u32 (p:Int))) (hy:a1b a y=some (.int .u32 (q:Int))) (h:wpList P ops Q rest (a.put o.dst (.int .u32 (r:Int))) w) (hr:Hid (p &&& q=r):=by with_reducible assumption) (hp:p<4294967296:=by (first|assumption|omega)) (hq:q<4294967296:=by (first|assumption|omega)) (hw:Region.wanted o (yielded ops a.tmps)=true:=by rfl):wpList P ops Q (o::rest) a w:=by
 replace hx:=look_eval hx
 replace hy:=look_eval hy
 refine a2c hw fun K hK=>?_
 have hrun:(execOp a.eval o).run P w = .ok (.value (.int .u32 (r:Int))) w:=by
  rw [← hr.out]
  unfold execOp
  simp only [ho,hx,hy]
  go_simp
  rw [u32_and_nat p q hp hq]
 unfold Oper.wp
 rw [hrun]
 exact hK _ _ h
theorem f2i {x y:Operand} {t t':TypeId} {p q r:Nat} (ho:o.op = .binOp .or t x y t') (hx:a1b a x=some (.int .u32 (p:Int))) (hy:a1b a y=some (.int .u32 (q:Int))) (h:wpList P ops Q rest (a.put o.dst (.int .u32 (r:Int))) w) (hr:Hid (p ||| q=r):=by with_reducible assumption) (hp:p<4294967296:=by (first|assumption|omega)) (hq:q<4294967296:=by (first|assumption|omega)) (hw:Region.wanted o (yielded ops a.tmps)=true:=by rfl):wpList P ops Q (o::rest) a w:=by
 replace hx:=look_eval hx
 replace hy:=look_eval hy
 refine a2c hw fun K hK=>?_
 have hrun:(execOp a.eval o).run P w = .ok (.value (.int .u32 (r:Int))) w:=by
  rw [← hr.out]
  unfold execOp
  simp only [ho,hx,hy]
  go_simp
  rw [u32_or_nat p q hp hq]
 unfold Oper.wp
 rw [hrun]
 exact hK _ _ h
theorem f2j {x y:Operand} {t t':TypeId} {p r s:Nat} (ho:o.op = .binOp .shl t x y t') (hx:a1b a x=some (.int .u32 (p:Int))) (hy:a1b a y=some (.int .u64 (s:Int))) (h:wpList P ops Q rest (a.put o.dst (.int .u32 (r:Int))) w) (hr:Hid (p * 2 ^ s % 4294967296=r):=by with_reducible assumption) (hs:s≤31:=by omega) (hw:Region.wanted o (yielded ops a.tmps)=true:=by rfl):wpList P ops Q (o::rest) a w:=by
 replace hx:=look_eval hx
 replace hy:=look_eval hy
 refine a2c hw fun K hK=>?_
 have hrun:(execOp a.eval o).run P w = .ok (.value (.int .u32 (r:Int))) w:=by
  rw [← hr.out,← d4e]
  unfold execOp
  simp only [ho,hx,hy]
  go_simp
  rw [IntKind.wrap_u32']
 unfold Oper.wp
 rw [hrun]
 exact hK _ _ h
theorem i2t {src dst:TypeId} {x:Operand} {p:Int} {r:Nat} (ho:o.op = .convert src dst x) (hx:a1b a x=some (.int .i64 p)) (hs:P.underlying src=some (.int .i64)) (hd:P.underlying dst=some (.int .u32)) (h:wpList P ops Q rest (a.put o.dst (.int .u32 (r:Int))) w) (hr:Hid (un p=r):=by with_reducible assumption) (hw:Region.wanted o (yielded ops a.tmps)=true:=by rfl):wpList P ops Q (o::rest) a w:=by
 have e:=hr.out
 subst e
 exact w_cvtUn ho hx hs hd h hw
end
theorem f2k {α:Type} {a b:α} {ds D:List α}:∀ d∈a::b::D,d∈(a::b::ds)++D:=fun d hd=>by
 rcases List.mem_cons.1 hd with rfl|hd
 ·exact List.mem_append_left _ (List.mem_cons_self ..)
 ·rcases List.mem_cons.1 hd with rfl|hd
  ·exact List.mem_append_left _ (List.mem_cons_of_mem _ (List.mem_cons_self ..))
  ·exact List.mem_append_right _ hd
theorem TopOpen_any (c:Cf) (Al:Option Addr) (cl:Nat) (At:Option Addr) (ct:Nat) (A:Option Addr) (n cp:Nat) (l:List Nat) (a:Int) (w:World) (hl:Rd w w.heap.size 1 Al c.lat.length cl (a1i c.lat)) (ht:Rd w w.heap.size 1 At c.tape.length ct (u32v c.tape)) (hci:CfIn c)
  (hp:Rd w w.heap.size 1 A n cp (u32v l)) (hpp:∀ z∈l,z<4294967296) (ha : -9223372036854775808≤a∧a≤9223372036854775807) (hcd:Rd w w.heap.size 1 (some ⟨0,0,none⟩) 49 49 (u32v codesL)) :
  Calls Tryz.prog 5 #[.agg (cfC c Al cl At ct).toArray,.slice A n cp,.int .i64 a] w fun e w'=>e = .returned (.bool true)∧Bel w w':=by
 have hF:=St.start w [a1a 1 Al c.lat.length cl (a1i c.lat),a1a 1 At c.tape.length ct (u32v c.tape),a1a 1 A n cp (u32v l),a2h] (fun d hd=>by
  rcases List.mem_cons.1 hd with rfl|hd
  ·exact hl
  ·rcases List.mem_cons.1 hd with rfl|hd
   ·exact ht
   ·rcases List.mem_cons.1 hd with rfl|hd
    ·exact hp
    ·obtain rfl:=List.mem_singleton.1 hd;exact hcd)
 have hln:l.length=n:=by have:=hp.len;rwa [u32v_len,Nat.mul_one] at this
 have hcn:=hp.le
 have hcm:=hp.mx
 unfold maxLen at hcm
 obtain ⟨X,hX⟩:∃ X:Int,Hid (X=if (0:Int) > a then 0 else a):=⟨_,Lib.hid rfl⟩
 obtain ⟨N,hN⟩:∃ N:Int,Hid (N=if (150:Int)<X then 150 else X):=⟨_,Lib.hid rfl⟩
 have hN2:0≤N∧N≤150:=by
  have h1:=hX.out
  have h2:=hN.out
  split at h1 <;> split at h2 <;> omega
 obtain ⟨p,hpe⟩:∃ p,a5x l (min n 40)=p:=⟨_,rfl⟩
 obtain ⟨pn,hpn⟩:∃ pn,min n 40=pn:=⟨_,rfl⟩
 obtain ⟨N2,hNN⟩:∃ N2,N.toNat=N2:=⟨_,rfl⟩
 have hpl:p.length=pn:=by rw [← hpe,← hpn];exact f2h (by omega)
 have hpq:a7e p:=hpe ▸ i2p _
 have hp32:∀ x∈p,x<4294967296:=hpe ▸ c2h (fun i w hw=>i2o (hpp w hw)) _
 have HW:=Lib.hid (fun (i:Nat) (W:World) (Ap:Option Addr) (pc:Nat) (h1:Rd W W.heap.size 1 Al c.lat.length cl (a1i c.lat)) (h2:Rd W W.heap.size 1 At c.tape.length ct (u32v c.tape)) (h3:Rd W W.heap.size 1 Ap pn pc (u32v p)) (h4:Rd W W.heap.size 1 (some ⟨0,0,none⟩) 49 49 (u32v codesL))=>
  show Calls Tryz.prog 18 #[.agg (cfC (a7f c i) Al cl At ct).toArray,.slice Ap pn pc,.string ⟨#[]⟩,.int .i64 N] W (WPost W [a1a 1 Al c.lat.length cl (a1i c.lat),a1a 1 At c.tape.length ct (u32v c.tape),a1a 1 Ap pn pc (u32v p),a2h] N2 (newK (a7f c i) p ⟨#[]⟩)) from by
  have:=i2m (a7f c i) Al cl At ct p Ap pc ⟨#[]⟩ N W h1 h2 (by rw [hpl];exact h3) h4 (by decide) hci.tape hp32
  rw [show (min N 2000).toNat=N2 by omega,hpl] at this
  exact this)
 have HS:=Lib.hid (fun (i:Nat) (hi:i≤2)=>i2r c (i:Int) (by omega) p ⟨#[]⟩ hpq N2)
 have HC:=Lib.hid (fun (i:Nat)=>i2c (a7f c i) p ⟨#[]⟩ N2 hpq)
 replace hpe:=Lib.hid hpe
 replace hpn:=Lib.hid hpn
 replace hpl:=Lib.hid hpl
 replace hNN:=Lib.hid hNN
 have hpn40:pn≤40:=by have:=hpn.out;omega
 replace hpp:=Lib.hid hpp
 replace hln:=Lib.hid hln
 clear hl ht hci hp hcd hpq hp32
 go_enter Tryz.func5,Tryz.ntmps5
 go_upto_block 0 with ((try simp only [zA,Nat.reduceAdd]);(first|go_big_skip|((refine w_box (cs:=cfC c Al cl At ct) rfl hF rfl ?_);clear hF;intro gN wN hF;(try simp only [zA,Nat.reduceAdd]))))
 go_cut [7] (fun v wx=>∃ Ap pc,v = .slice Ap pn pc∧St w [a1a 1 Al c.lat.length cl (a1i c.lat),a1a 1 At c.tape.length ct (u32v c.tape),a1a 1 A n cp (u32v l),a2h] wx [.blk gN 25 (cfC c Al cl At ct)] [a1a 1 Ap pn pc (u32v p),a1a 1 Al c.lat.length cl (a1i c.lat),a1a 1 At c.tape.length ct (u32v c.tape),a1a 1 A n cp (u32v l),a2h])
 case first=>
  clear HW HS HC hX hN
  have hF:=hF.nil 28 1
  go_wp2_with fail
  go_loopw [16,7,8,9] (fun i v _ _ wr=>∃ k:Nat,k≤pn∧i = .int .i64 (k:Int)∧St w [a1a 1 Al c.lat.length cl (a1i c.lat),a1a 1 At c.tape.length ct (u32v c.tape),a1a 1 A n cp (u32v l),a2h] wr [.own v 28 1 k (u32v (a5x l k)),.blk gN 25 (cfC c Al cl At ct)] [a1a 1 Al c.lat.length cl (a1i c.lat),a1a 1 At c.tape.length ct (u32v c.tape),a1a 1 A n cp (u32v l),a2h]) (fun i _ _ _ _=>n - (intOf i).toNat)
  case atStart=>exact ⟨0,by omega,rfl,hF⟩
  case round=>
   clear hF
   obtain ⟨k,hk,rfl,hF⟩:=hrel
   by_cases hkn:k<n
   ·obtain ⟨x0,hx0⟩:∃ u,l[k]?=some u:=⟨_,List.getElem?_eq_getElem (by have:=hln.out;omega)⟩
    have hxe:(u32v l)[k * 1]?=some (.int .u32 (x0:Int)):=d1i hx0
    by_cases hk40:k<40
    ·have hge:=Lib.hid (show decide ((40:Int)≤(k:Int))=false from decide_eq_false (by omega))
     have hw32:=hpp.out x0 (List.mem_of_getElem? hx0)
     obtain ⟨y1,h1⟩:∃ y,x0 &&& 4293918720=y:=⟨_,rfl⟩
     obtain ⟨r7,h2⟩:∃ y,k % 7=y:=⟨_,rfl⟩
     obtain ⟨u7,h3⟩:∃ y,un (r7:Int)=y:=⟨_,rfl⟩
     obtain ⟨y2,h4⟩:∃ y,u7 * 2 ^ 15 % 4294967296=y:=⟨_,rfl⟩
     obtain ⟨y3,h5⟩:∃ y,y1 ||| y2=y:=⟨_,rfl⟩
     obtain ⟨r5,h6⟩:∃ y,k % 5=y:=⟨_,rfl⟩
     obtain ⟨u5,h7⟩:∃ y,un ((r5:Int)+1)=y:=⟨_,rfl⟩
     obtain ⟨y4,h8⟩:∃ y,u5 * 2 ^ 7 % 4294967296=y:=⟨_,rfl⟩
     obtain ⟨y5,h9⟩:∃ y,y3 ||| y4=y:=⟨_,rfl⟩
     obtain ⟨y6,h10⟩:∃ y,y5 ||| 19=y:=⟨_,rfl⟩
     have hsu:=c7a hx0
     unfold a9v at hsu
     rw [h2,h6,h1,h3,h4,h5,h7,h8,h9,h10] at hsu
     have e1:y1<4294967296:=by rw [← h1];exact Nat.lt_of_le_of_lt Nat.and_le_left hw32
     have e2:y2<4294967296:=by rw [← h4];exact Nat.mod_lt _ (by decide)
     have e3:y3<4294967296:=by rw [← h5];exact Nat.or_lt_two_pow (n:=32) e1 e2
     have e4:y4<4294967296:=by rw [← h8];exact Nat.mod_lt _ (by decide)
     have e5:y5<4294967296:=by rw [← h9];exact Nat.or_lt_two_pow (n:=32) e3 e4
     have e6:r5<5:=by omega
     have e7:r7<7:=by omega
     have hsu:Hid (u32v (a5x l k)++[.int .u32 (y6:Int)]=u32v (a5x l (k+1))):=Lib.hid (by rw [hsu,u32v_append];rfl)
     replace h1:=Lib.hid h1
     replace h2:=Lib.hid h2
     replace h3:=Lib.hid h3
     replace h4:=Lib.hid h4
     replace h5:=Lib.hid h5
     replace h6:=Lib.hid h6
     replace h7:=Lib.hid h7
     replace h8:=Lib.hid h8
     replace h9:=Lib.hid h9
     replace h10:=Lib.hid h10
     clear hx0 hpp
     go_wp2_with ((try simp only [zA,Nat.reduceAdd]);(first|go_big_skip|((first|(refine w_geqH rfl rfl rfl ?_ (hb:=by with_reducible assumption))|(refine w_leqH rfl rfl rfl ?_ (hb:=by with_reducible assumption))|(refine w_eqlH rfl rfl rfl ?_ (hb:=by with_reducible assumption))|(refine w_gtrH rfl rfl rfl ?_ (hb:=by with_reducible assumption)));(try simp only [zA,Nat.reduceAdd]))|((refine w_ix (k:=k) rfl hF rfl rfl ?_ (hkn:=hkn));(try simp only [zA,Nat.reduceAdd]))|((refine w_lde1 (v:=.int .u32 (x0:Int)) (hv:=hxe) rfl hF rfl ?_);(try simp only [zA,Nat.reduceAdd]))|((first|refine i2s rfl rfl rfl ?_ (q:=4293918720)|refine f2i (q:=19) rfl rfl rfl ?_|refine f2i rfl rfl rfl ?_|refine f2j rfl rfl rfl ?_ (s:=15)|refine f2j rfl rfl rfl ?_ (s:=7)|refine w_remI rfl rfl rfl ?_ (q:=7) (hr:=by with_reducible assumption)|refine w_remI rfl rfl rfl ?_ (q:=5) (hr:=by with_reducible assumption)|refine i2t rfl rfl Tryz.underlying3 Tryz.underlying28 ?_);(try simp only [zA,Nat.reduceAdd]))|(refine w_bs1 rfl hF rfl ?_;clear hF;intro gN wN hF)|(refine w_app rfl hF rfl rfl ?_;clear hF;intro vN wN hF;(try simp only [zF] at hF))))
     go_roundw
     case rel=>exact ⟨k+1,by have:=hpn.out;omega,by go_num,by rw [hsu.out] at hF;exact hF⟩
     case measure=>first|(simp [intOf];done)|(simp [intOf];omega)
    ·have hge:=Lib.hid (show decide ((40:Int)≤(k:Int))=true from decide_eq_true (by omega))
     obtain rfl:k=pn:=by have:=hpn.out;omega
     go_wp2_with ((try simp only [zA,Nat.reduceAdd]);(first|go_big_skip|((first|(refine w_geqH rfl rfl rfl ?_ (hb:=by with_reducible assumption))|(refine w_leqH rfl rfl rfl ?_ (hb:=by with_reducible assumption))|(refine w_eqlH rfl rfl rfl ?_ (hb:=by with_reducible assumption))|(refine w_gtrH rfl rfl rfl ?_ (hb:=by with_reducible assumption)));(try simp only [zA,Nat.reduceAdd]))|((refine w_ix (k:=k) rfl hF rfl rfl ?_ (hkn:=hkn));(try simp only [zA,Nat.reduceAdd]))|((refine w_lde1 (v:=.int .u32 (x0:Int)) (hv:=hxe) rfl hF rfl ?_);(try simp only [zA,Nat.reduceAdd]))))
     obtain ⟨Ap,pc,rfl,hF⟩:=hF.freeze 0 at0
     go_meet
     exact ⟨Ap,pc,rfl,by rw [← hpe.out,hpn.out];exact hF⟩
   ·obtain rfl:k=pn:=by have:=hpn.out;omega
    go_wp2_with ((try simp only [zA,Nat.reduceAdd]);(first|go_big_skip))
    obtain ⟨Ap,pc,rfl,hF⟩:=hF.freeze 0 at0
    go_meet
    exact ⟨Ap,pc,rfl,by rw [← hpe.out,hpn.out];exact hF⟩
 case rest=>
  clear hF
  obtain ⟨Ap,pc,rfl,hF⟩:=hcut
  go_wp2_with ((try simp only [zA,Nat.reduceAdd]);(first|go_big_skip|((refine w_minH rfl rfl rfl ?_);(try simp only [zA,Nat.reduceAdd]))|((refine w_maxH rfl rfl rfl ?_);(try simp only [zA,Nat.reduceAdd]))))
  clear hX hN hpe hln hpp hNN
  have hF:St w [a1a 1 Al c.lat.length cl (a1i c.lat),a1a 1 At c.tape.length ct (u32v c.tape),a1a 1 A n cp (u32v l),a2h] _ _ (a1a 4 none 0 0 (snv [])::a4k []::[a1a 1 Ap pn pc (u32v p),a1a 1 Al c.lat.length cl (a1i c.lat),a1a 1 At c.tape.length ct (u32v c.tape),a1a 1 A n cp (u32v l),a2h]):=(hF.sndNil).nilZ 4
  replace HW:=Lib.hid (fun (i:Nat) (W:World)=>HW.out i W Ap pc)
  go_loopw [11,10,12,13] (fun im f _ _ wr=>∃ (i:Nat) (Af:Option Addr) (fn fc:Nat) (Lf:List Snr) (md:Int),i≤3∧im = .int .i64 (i:Int)∧f = .slice Af fn fc∧Hid (0<i→fn=N2∧Lf.map Snr.sn=a8h N2 (newK c p ⟨#[]⟩))∧St w [a1a 1 Al c.lat.length cl (a1i c.lat),a1a 1 At c.tape.length ct (u32v c.tape),a1a 1 A n cp (u32v l),a2h] wr [.blk gN 25 (cfC (a7f c md) Al cl At ct)] [a1a 4 Af fn fc (snv Lf),a4k Lf,a1a 1 Ap pn pc (u32v p),a1a 1 Al c.lat.length cl (a1i c.lat),a1a 1 At c.tape.length ct (u32v c.tape),a1a 1 A n cp (u32v l),a2h]) (fun i _ _ _ _=>3 - (intOf i).toNat)
  case atStart=>exact ⟨0,none,0,0,[],c.mode,by omega,rfl,rfl,Lib.hid (fun h=>absurd h (by decide)),hF⟩
  case round=>
   clear hF
   obtain ⟨i,Af,fn,fc,Lf,md,hi,rfl,rfl,hf,hF⟩:=hrel
   by_cases hi3:i<3
   ·have hle:=Lib.hid (show decide ((i:Int)≤2)=true from decide_eq_true (by omega))
    have hre:=Lib.hid (show decide ((pn:Int)+1<((runK N2 (newK (a7f c i) p ⟨#[]⟩)).retired.length:Int))=false from decide_eq_false (by have:=HC.out i;have:=hpl.out;omega))
    have hse:=Lib.hid (HS.out i (by omega))
    obtain ⟨kN,hkN⟩:∃ kN,runK N2 (newK (a7f c i) p ⟨#[]⟩)=kN:=⟨_,rfl⟩
    rw [hkN] at hre
    replace hkN:=Lib.hid hkN
    clear HC
    by_cases h0:i=0
    ·have heq:=Lib.hid (show decide ((i:Int)=0)=true from decide_eq_true (by omega))
     clear h0
     go_wp2_with ((try simp only [zA,Nat.reduceAdd]);(first|go_big_skip|((first|(refine w_geqH rfl rfl rfl ?_ (hb:=by with_reducible assumption))|(refine w_leqH rfl rfl rfl ?_ (hb:=by with_reducible assumption))|(refine w_eqlH rfl rfl rfl ?_ (hb:=by with_reducible assumption))|(refine w_gtrH rfl rfl rfl ?_ (hb:=by with_reducible assumption)));(try simp only [zA,Nat.reduceAdd]))|(refine w_fldB rfl rfl ?_)|(refine w_st1 rfl hF rfl rfl ?_ (hoff:=by show 0<11;decide);clear hF;intro wN hF;(try simp only [zF] at hF);(try simp only [zA,Nat.reduceAdd]))|((refine w_ld (cs:=cfC (a7f c i) Al cl At ct) (v:=.agg (cfC (a7f c i) Al cl At ct).toArray) rfl hF rfl ?_);(try simp only [zA,Nat.reduceAdd]))|(go_at_call 18;refine (HW.out i _ hF.rdA hF.rdA hF.rdA hF.rdA).mono ?_;rintro x wN ⟨s,A3,c3,L3,hfit,hL3,rfl,hO⟩;rw [hkN.out];replace hF:=(hF.call hO (by (repeat (refine a1m ?_ ?_;focus (exact zdm)));exact a1f)).lessD f2k;clear hO;(try simp only [zA,Nat.reduceAdd]))|(refine w_alloc (ty:=42) (cs:=zeroCore) rfl hF ?_;clear hF;intro gX wN hF;(try simp only [zA,Nat.reduceAdd]))|(refine w_st (us:=mcells kN s) rfl hF rfl rfl ?_ (h1:=fun u hu=>.inl (mcells_one _ _ u hu));clear hF;intro wN hF;(try simp only [zF] at hF);(try simp only [zA,Nat.reduceAdd]))|((refine w_ld1 (v:=.slice s.reA kN.retired.length s.reC) (hv:=rfl) rfl hF rfl ?_);(try simp only [zA,Nat.reduceAdd]))|(go_at_call 19;refine (f2g A3 A3 _ c3 c3 L3 L3 _ hF.rdA hF.rdA (hF.dat _ zdm) (hF.dat _ zdm) rfl).mono ?_;rintro x wN ⟨rfl,hb⟩;replace hF:=hF.grow hb;clear hb;(try simp only [zA,Nat.reduceAdd]))))
     go_roundw
     case rel=>exact ⟨i+1,A3,N2,c3,L3,i,by omega,by go_num,rfl,Lib.hid (fun _=>⟨rfl,by rw [hL3,hse.out]⟩),(hF.drop 0).lessD (by (repeat (refine a1m ?_ ?_;focus (exact zdm)));exact a1f)⟩
     case measure=>first|(simp [intOf];done)|(simp [intOf];omega)
    ·have heq:=Lib.hid (show decide ((i:Int)=0)=false from decide_eq_false (by omega))
     obtain ⟨hfn,hfl⟩:=hf.out (by omega)
     have hfn2:N2=fn:=hfn.symm
     subst hfn2
     clear hfn h0
     replace hfl:=Lib.hid hfl
     go_wp2_with ((try simp only [zA,Nat.reduceAdd]);(first|go_big_skip|((first|(refine w_geqH rfl rfl rfl ?_ (hb:=by with_reducible assumption))|(refine w_leqH rfl rfl rfl ?_ (hb:=by with_reducible assumption))|(refine w_eqlH rfl rfl rfl ?_ (hb:=by with_reducible assumption))|(refine w_gtrH rfl rfl rfl ?_ (hb:=by with_reducible assumption)));(try simp only [zA,Nat.reduceAdd]))|(refine w_fldB rfl rfl ?_)|(refine w_st1 rfl hF rfl rfl ?_ (hoff:=by show 0<11;decide);clear hF;intro wN hF;(try simp only [zF] at hF);(try simp only [zA,Nat.reduceAdd]))|((refine w_ld (cs:=cfC (a7f c i) Al cl At ct) (v:=.agg (cfC (a7f c i) Al cl At ct).toArray) rfl hF rfl ?_);(try simp only [zA,Nat.reduceAdd]))|(go_at_call 18;refine (HW.out i _ hF.rdA hF.rdA hF.rdA hF.rdA).mono ?_;rintro x wN ⟨s,A3,c3,L3,hfit,hL3,rfl,hO⟩;rw [hkN.out];replace hF:=(hF.call hO (by (repeat (refine a1m ?_ ?_;focus (exact zdm)));exact a1f)).lessD f2k;clear hO;(try simp only [zA,Nat.reduceAdd]))|(refine w_alloc (ty:=42) (cs:=zeroCore) rfl hF ?_;clear hF;intro gX wN hF;(try simp only [zA,Nat.reduceAdd]))|(refine w_st (us:=mcells kN s) rfl hF rfl rfl ?_ (h1:=fun u hu=>.inl (mcells_one _ _ u hu));clear hF;intro wN hF;(try simp only [zF] at hF);(try simp only [zA,Nat.reduceAdd]))|((refine w_ld1 (v:=.slice s.reA kN.retired.length s.reC) (hv:=rfl) rfl hF rfl ?_);(try simp only [zA,Nat.reduceAdd]))|(go_at_call 19;refine (f2g Af A3 _ fc c3 Lf L3 _ hF.rdA hF.rdA (hF.dat _ zdm) (hF.dat _ zdm) (by rw [hfl.out,hL3,hse.out])).mono ?_;rintro x wN ⟨rfl,hb⟩;replace hF:=hF.grow hb;clear hb;(try simp only [zA,Nat.reduceAdd]))))
     go_roundw
     case rel=>exact ⟨i+1,Af,N2,fc,Lf,i,by omega,by go_num,rfl,Lib.hid (fun _=>⟨rfl,hfl.out⟩),(hF.drop 0).lessD (by (repeat (refine a1m ?_ ?_;focus (exact zdm)));exact a1f)⟩
     case measure=>first|(simp [intOf];done)|(simp [intOf];omega)
   ·obtain rfl:i=3:=by omega
    have hle:=Lib.hid (show decide (((3:Nat):Int)≤2)=false from rfl)
    go_wp2_with ((try simp only [zA,Nat.reduceAdd]);(first|go_big_skip|((first|(refine w_geqH rfl rfl rfl ?_ (hb:=by with_reducible assumption))|(refine w_leqH rfl rfl rfl ?_ (hb:=by with_reducible assumption))|(refine w_eqlH rfl rfl rfl ?_ (hb:=by with_reducible assumption))|(refine w_gtrH rfl rfl rfl ?_ (hb:=by with_reducible assumption)));(try simp only [zA,Nat.reduceAdd]))|(go_at_call 15;refine (h8c _ hF.rdA).mono ?_;rintro x wN ⟨rfl,hb⟩;replace hF:=hF.grow hb;clear hb;(try simp only [zA,Nat.reduceAdd]))))
    go_ret
    exact ⟨rfl,hF.bel⟩
end
end Go.Proofs.YtgnomadgnciifaaGreatDoor
