/- . -/
import Derived.Test.YtgnomadgnciifaaGreatDoorZ34
import Derived.Test.YtgnomadgnciifaaGreatDoorZ35
set_option linter.unusedVariables false
set_option linter.unusedSimpArgs false
set_option linter.unusedSectionVars false
set_option maxRecDepth 100000
set_option maxHeartbeats 16000000
namespace Go.Proofs.YtgnomadgnciifaaGreatDoor
theorem d8s {p:Prop} (h:p:=by
 replace hR:=Lib.hid (show a3c k=k1 from hR.out)
 clear hE
 go_upto_region 3 with ((try simp only [zA,Nat.reduceAdd]);(first|refine b5u ?_|(refine a1s ?_;clear hF;(first|intro gN wN hF|intro wN hF|intro hF))|(refine a1d ?_;clear hF;intro vN wN hF)))
 refine a1n (by kernel_rfl) hF _ _ (fun _ h=>h) (fun _ h=>h) ?_
 clear hF;intro hF hH
 refine a1c 0 hH ?_
 refine zp 1 hH ?_
 refine zk1 2 hH ?_
 refine zk1 3 hH ?_
 refine zk6 4 hH ?_
 refine zk3 5 hH ?_
 refine a1c 6 hH ?_
 refine zp 7 hH ?_
 refine zk1 8 hH ?_
 refine zk1 9 hH ?_
 refine zk1 10 hH ?_
 refine zk6 11 hH ?_
 first|(refine a1p (i:=12) rfl (a9n rfl rfl rfl) hH ?_;(try simp only [zA,Nat.reduceAdd]))|refine zp 12 hH ?_
 refine a1c 13 hH ?_
 refine zk8 14 hH ?_
 refine zp 15 hH ?_
 refine zk9 16 hH ?_
 refine zk9 17 hH ?_
 refine d1g 18 hH ?_
 refine a8o 19 hH ?_
 first|(refine a1p (i:=20) rfl (b4y rfl rfl rfl) hH ?_;(try simp only [zA,Nat.reduceAdd]))|refine zp 20 hH ?_
 refine zp 21 hH ?_
 refine zrz ?_
 (go_wp2_with ((try simp only [zA,Nat.reduceAdd]);(first|refine b5u ?_|(refine a1s ?_;clear hF;(first|intro gN wN hF|intro wN hF|intro hF))|(refine a1d ?_;clear hF;intro vN wN hF)));(refine bodyPost_ret (results_none rfl _ _ _) rfl ⟨⟨_,rfl⟩,?_⟩;rw [hR.out];exact ⟨s1,hfit,ha,fun h=>(by cases h),⟨hF.lessD (by simp only [kD,hfit.feO,hfit.stO,hfit.reO,a1h,zL];exact zsn)⟩⟩))):p:=h
section
open Go.RowKit Wd
theorem h6j (e:En) (w:World) (he:EnOk e) (hr:Rd w w.heap.size 1 (some ⟨0,0,none⟩) 49 49 (u32v codesL)) :
  Calls Tryz.prog 38 #[e.val] w fun x w'=>x = .returned (.bool (a3a e))∧Bel w w':=by
 have hF:=St.start w [a2h] (fun d hd=>by obtain rfl:=List.mem_singleton.1 hd;exact hr)
 obtain ⟨no,pc,⟨op,rd,rs1,rs2,imm⟩,guess,is,left,value,next,addr,halt,took,known,filled⟩:=e
 have HK:=Lib.hid (fun W=>a2o ⟨op,rd,rs1,rs2,imm⟩ W he.op)
 have HE:=Lib.hid (fun W (h:Rd W W.heap.size 1 (some ⟨0,0,none⟩) 49 49 (u32v codesL))=>h3k ⟨op,rd,rs1,rs2,imm⟩ W he.2.2.1.2.2.2.2 h)
 dsimp only at HK
 obtain ⟨κ,hk⟩:∃ κ,a1e op=κ:=⟨_,rfl⟩
 obtain ⟨en,hen⟩:∃ en,b3h ⟨op,rd,rs1,rs2,imm⟩=en:=⟨_,rfl⟩
 rw [hk] at HK
 rw [hen] at HE
 by_cases i0:is<0
 ·apply h5g (HK:=HK) (HE:=HE) (hF:=hF) (h:=i0)
  simp [a3a,i0]
 by_cases i3:3<is
 ·apply h5h (HK:=HK) (HE:=HE) (hF:=hF) (h:=i3)
  simp [a3a,i3]
 have hi:is=0∨is=1∨is=2∨is=3:=by omega
 rcases hi with rfl|rfl|rfl|rfl
 ·by_cases hl:left=0
  ·subst hl
   by_cases hh:halt=0
   ·subst hh
    cases en
    ·apply h5o (HK:=HK) (HE:=HE) (hF:=hF) (hen:=rfl)
     simp [a3a,hen]
    ·apply h5n (HK:=HK) (HE:=HE) (hF:=hF) (hen:=rfl)
     simp [a3a,hen]
   ·apply h5m (HK:=HK) (HE:=HE) (hF:=hF) (hh:=hh)
    simp [a3a,hh]
  ·apply h5i (HK:=HK) (HE:=HE) (hF:=hF) (hl:=hl)
   simp [a3a,hl]
 ·by_cases hl:left≤0
  ·apply h5l (HK:=HK) (HE:=HE) (hF:=hF) (hl:=hl)
   simp [a3a,hl]
  replace hl:0<left:=by omega
  by_cases hh:halt=0
  ·subst hh
   cases en
   ·apply h5q (HK:=HK) (HE:=HE) (hF:=hF) (hl:=hl) (hen:=rfl)
    simp [a3a,hen,hl]
   ·apply h5p (HK:=HK) (HE:=HE) (hF:=hF) (hl:=hl) (hen:=rfl)
    simp [a3a,hen,hl]
  by_cases hk5:κ=5
  ·subst hk5
   by_cases h3:halt=3
   ·subst h3
    cases en
    ·apply h5u (HK:=HK) (HE:=HE) (hF:=hF) (hl:=hl) (hen:=rfl) (hkk:=rfl)
     simp [a3a,hen,hl,hk]
    ·apply h5t (HK:=HK) (HE:=HE) (hF:=hF) (hl:=hl) (hen:=rfl) (hkk:=rfl)
     simp [a3a,hen,hl,hk]
   ·apply h5s (HK:=HK) (HE:=HE) (hF:=hF) (hl:=hl) (hh:=hh) (h3:=h3) (hkk:=rfl)
    simp [a3a,hl,hk,hh,h3]
  ·apply h5r (HK:=HK) (HE:=HE) (hF:=hF) (hl:=hl) (hh:=hh) (hk:=hk5)
   simp [a3a,hl,hk,hh,hk5]
 ·by_cases hl:left=0
  ·subst hl
   by_cases hk3:κ=3
   ·subst hk3
    cases known
    ·apply h5w (HK:=HK) (HE:=HE) (hF:=hF) (hkk:=rfl)
     simp [a3a]
    by_cases hh:halt=0
    ·subst hh
     cases en
     ·apply h5z (HK:=HK) (HE:=HE) (hF:=hF) (hen:=rfl) (hkk:=rfl)
      simp [a3a,hen,hk]
     ·apply h5y (HK:=HK) (HE:=HE) (hF:=hF) (hen:=rfl) (hkk:=rfl)
      simp [a3a,hen,hk]
    ·apply h5x (HK:=HK) (HE:=HE) (hF:=hF) (hh:=hh) (hkk:=rfl)
     simp [a3a,hk,hh]
   ·apply h5v (HK:=HK) (HE:=HE) (hF:=hF) (hk:=hk3)
    simp [a3a,hk,hk3]
  ·apply h5j (HK:=HK) (HE:=HE) (hF:=hF) (hl:=hl)
   simp [a3a,hl]
 ·by_cases hl:left=0
  ·subst hl
   by_cases hh:halt=0
   ·subst hh
    cases en
    ·apply h6b (HK:=HK) (HE:=HE) (hF:=hF) (hen:=rfl)
     simp [a3a,hen]
    ·apply h6a (HK:=HK) (HE:=HE) (hF:=hF) (hen:=rfl)
     simp [a3a,hen]
   ·cases en
    ·by_cases h1:halt=1
     ·subst h1
      apply h6d (HK:=HK) (HE:=HE) (hF:=hF) (hen:=rfl)
      simp [a3a,hen]
     by_cases h2:halt=2
     ·subst h2
      apply h6e (HK:=HK) (HE:=HE) (hF:=hF) (hen:=rfl)
      simp [a3a,hen]
     ·apply h6f (HK:=HK) (HE:=HE) (hF:=hF) (hh:=hh) (h1:=h1) (h2:=h2) (hen:=rfl)
      simp [a3a,hen,h1,h2]
    ·apply h6c (HK:=HK) (HE:=HE) (hF:=hF) (hh:=hh) (hen:=rfl)
     simp [a3a,hen]
  ·apply h5k (HK:=HK) (HE:=HE) (hF:=hF) (hl:=hl)
   simp [a3a,hl]
end
section
open Go.RowKit Wd
theorem c6g {f:Kern→Kern × Bool} {n:Nat} {k:Kern} (h:(f k).2=true):a2n f (n+1) k=a2n f n (f k).1:=by rw [a2n,if_pos h]
theorem a9s {f:Kern→Kern × Bool} {n:Nat} {k:Kern} (h:(f k).2=false):a2n f (n+1) k=(f k).1:=by rw [a2n,if_neg (by rw [h];decide)]
theorem h6k {q:List Fe} {f:Fe} {r:List Fe} (h:q=f::r):(fes q)[0]?=some (.int .u32 (f.pc:Int))∧(fes q)[1]?=some (.int .u32 (f.guess:Int)):=by
 subst h
 exact ⟨rfl,rfl⟩
theorem h6l {w0 w:World} {D0 D:List Da} {M:List Mu} {g:Nat} {k:Kern} {a:Bool} {B:Int} (hk:KOk B k) (hB:B+4≤1000000) (hX:MX w0 D0 D M g k a false w) :
  Calls Tryz.prog 35 #[.pointer (some ⟨g,0,none⟩)] w fun x w'=>(∃ y,x = .returned y)∧MX w0 D0 D M g (a3c k) a false w':=by
 obtain ⟨s,hfit,ha,-,⟨hF⟩⟩:=hX
 have hS:=hF
 have hwd:=hk.cf.width
 have hR:Hid (a3c k=if k.halt≠0 then k else a2n a3u k.conf.width.toNat k):=Lib.hid rfl
 (simp only [kD,hfit.feO,hfit.stO,hfit.reO,a1h,zL] at hF)
 by_cases hh:k.halt=0
 ·rw [if_neg (fun h=>h hh)] at hR
  have hh2:=Lib.hid (show decide (¬ k.halt=0)=false by simp [hh])
  clear hh
  go_enter Tryz.func35,Tryz.ntmps35
  go_wp2_with ((try simp only [zA,Nat.reduceAdd]);(first|refine b5u ?_|(refine a1s ?_;clear hF;(first|intro gN wN hF|intro wN hF|intro hF))|(refine a1d ?_;clear hF;intro vN wN hF)))
  go_loopw [14] (fun i wr=>∃ (j:Nat) (k1:Kern),i = .int .i64 (j:Int)∧j≤k.conf.width.toNat∧Hid (a3c k=a2n a3u (k.conf.width.toNat - j) k1)∧KOk (B+j) k1∧k1.conf=k.conf∧k1.halt=k.halt∧MX w0 D0 D M g k1 a false wr) (fun i _=>k.conf.width.toNat - (intOf i).toNat)
  case atStart=>exact ⟨0,k,rfl,Nat.zero_le _,hR,by simpa using hk,rfl,rfl,⟨s,hfit,ha,fun h=>(by cases h),⟨hS⟩⟩⟩
  case round=>
   clear hF hS hR hk ha hfit
   obtain ⟨j,k1,rfl,hj,hR,hk1,hc1',hh1',hX⟩:=hrel
   obtain ⟨s1,hfit,ha,-,⟨hF⟩⟩:=hX
   have hS:=hF
   (simp only [kD,hfit.feO,hfit.stO,hfit.reO,a1h,zL] at hF)
   by_cases hjw:j<k.conf.width.toNat
   ·obtain ⟨m,hm⟩:∃ m,k.conf.width.toNat - j=m+1:=⟨k.conf.width.toNat - j - 1,by omega⟩
    rw [hm] at hR
    have hlt:=Lib.hid (show decide ((j:Int)<k.conf.width)=true by simp;omega)
    obtain ⟨b3,hb3⟩:∃ b3,decide (k1.conf.rob≤(k1.rob.length:Int))=b3:=⟨_,rfl⟩
    obtain ⟨b4,hb4⟩:∃ b4,decide ((k1.fetched.length:Int)=0)=b4:=⟨_,rfl⟩
    have hn16:=hk1.roblen
    have hE:Hid (a3u k1=if b3=true then (k1,false) else match k1.fetched with|[]=>(k1,false)|f::r=>({ k1 with rob:=k1.rob++[a5n k1.next f k1.prog],next:=k1.next+1,fetched:=r },true)):=Lib.hid (by
     unfold a3u
     by_cases h:k1.conf.rob≤k1.rob.length
     ·rw [if_pos h,if_pos (by rw [← hb3];exact decide_eq_true h)]
     ·rw [if_neg h,if_neg (by rw [← hb3,decide_eq_false h];decide)]
      rfl)
    replace hb3:=Lib.hid hb3
    replace hb4:=Lib.hid hb4
    cases b3
    ·cases b4
     ·obtain ⟨f,r,hfe⟩:∃ f r,k1.fetched=f::r:=by
       cases h:k1.fetched with
       | nil=>have:=hb4.out;rw [h] at this;simp at this
       | cons f r=>exact ⟨f,r,rfl⟩
      have hfo:=hk1.fe f (by rw [hfe];exact List.mem_cons_self ..)
      have hf0:=h6k hfe
      rw [c6g (by rw [hE.out,hfe];rfl)] at hR
      rw [hE.out,hfe] at hR
      simp only [if_neg (show ¬ (false=true) by decide)] at hR
      have hke:=hk1.enter (by omega)
      rw [hE.out,hfe] at hke
      simp only [if_neg (show ¬ (false=true) by decide)] at hke
      clear hE
      have hl17:(ens k1.rob).length=k1.rob.length * 17:=a4l _
      have HEn:=Lib.hid (fun (W:World) (h:Rd W W.heap.size 17 s1.robA k1.rob.length s1.robC (ens k1.rob)) (h2:Rd W W.heap.size 1 s1.progA k1.prog.length s1.progC (u32v k1.prog)) (h3:Rd W W.heap.size 1 (some ⟨0,0,none⟩) 49 49 (u32v codesL))=>h2p s1.robA k1.rob.length s1.robC k1.rob k1.next f s1.progA k1.prog.length s1.progC k1.prog W h h2 h3 (by omega) hfo hk1.prog)
      obtain ⟨x,hx⟩:∃ x,a5n k1.next f k1.prog=x:=⟨_,rfl⟩
      rw [hx] at hR hke HEn
      have hnx:=hk1.next
      have hbb:=hk1.bound
      have hfl:k1.fetched.length=r.length+1:=by rw [hfe];rfl
      have hfd:(fes k1.fetched).drop (1 * 2)=fes r:=by rw [hfe];rfl
      obtain ⟨fp,fg⟩:=f
      unfold Fe.val at HEn
      dsimp only at hf0 HEn
      obtain ⟨hf0,hf1⟩:=hf0
      have hpos:0<k1.fetched.length:=by omega
      replace hfd:=Lib.hid hfd
      have hfsub:∀ (i:Nat) (u:Value),([.int .u32 (fp:Int),.int .u32 (fg:Int)]:List Value)[i]?=some u→(fes k1.fetched)[0+i]?=some u:=fun i u h=>by rw [hfe,Nat.zero_add];exact (List.getElem?_append_left (by rcases i with _|_|i <;> simp [Fe.cells] at h ⊢)).trans h
      clear hfo hx hfe hf0 hf1
      go_upto_region 3 with ((try simp only [zA,Nat.reduceAdd]);(first|refine b5u ?_|(refine a1s ?_;clear hF;(first|intro gN wN hF|intro wN hF|intro hF))|(refine a1d ?_;clear hF;intro vN wN hF)))
      refine a1n (by kernel_rfl) hF _ _ (fun _ h=>h) (fun _ h=>h) ?_
      clear hF;intro hF hH
      refine a1c 0 hH ?_
      refine zp 1 hH ?_
      refine zk1 2 hH ?_
      refine zk1 3 hH ?_
      refine zk6 4 hH ?_
      refine zk3 5 hH ?_
      refine a1c 6 hH ?_
      refine zp 7 hH ?_
      refine zk1 8 hH ?_
      refine zk1 9 hH ?_
      refine zk1 10 hH ?_
      refine zk6 11 hH ?_
      first|(refine a1p (i:=12) rfl (a9n rfl rfl rfl) hH ?_;(try simp only [zA,Nat.reduceAdd]))|refine zp 12 hH ?_
      refine a1c 13 hH ?_
      refine zk8 14 hH ?_
      refine zp 15 hH ?_
      refine zk9 16 hH ?_
      refine zk9 17 hH ?_
      refine d1g 18 hH ?_
      refine a8o 19 hH ?_
      first|(refine a1p (i:=20) rfl (b4y rfl rfl rfl) hH ?_;(try simp only [zA,Nat.reduceAdd]))|refine zp 20 hH ?_
      refine zp 21 hH ?_
      refine zrz ?_
      (go_upto_region 4 with ((try simp only [zA,Nat.reduceAdd]);(first|refine b5u ?_|(refine a1s ?_;clear hF;(first|intro gN wN hF|intro wN hF|intro hF))|(refine a1d ?_;clear hF;intro vN wN hF))))
      refine a7k [27] (by kernel_rfl) hF _ _ (fun _ h=>h) (fun _ h=>h) ?_
      clear hF;intro hF hH
      refine zt4 0 hH ?_
      refine zt4 1 hH ?_
      refine zq 2 hH ?_
      refine zt0 3 hH ?_
      refine zt0 4 hH ?_
      refine zt1 5 hH ?_
      refine zt4 6 hH ?_
      refine zq 7 hH ?_
      refine zt0 8 hH ?_
      refine zt0 9 hH ?_
      refine zt1 10 hH ?_
      refine zt4 11 hH ?_
      refine zq 12 hH ?_
      refine zt0 13 hH ?_
      refine zt0 14 hH ?_
      refine zt1 15 hH ?_
      refine zt2 16 hH ?_
      refine zt1 17 hH ?_
      refine zt4 18 hH ?_
      refine zq 19 hH ?_
      refine zt0 20 hH ?_
      refine zt0 21 hH ?_
      refine zt1 22 hH ?_
      refine a2u (rs:=[23]) (by kernel_rfl) (by simp) (a2v rfl (fun K hK=>?_) AllReadyT.nil)
      go_wp2_with ((first|(go_at_call 78;refine (HEn.out _ (hF.rowRd (by exact zat) hl17 (by decide) hfit.robC hfit.robM) hF.rdA hF.rdA).mono ?_;rintro y wN ⟨v,rfl,hb,ho⟩;replace hF:=hF.pushOwn hb ho;clear hb ho;obtain ⟨A2,c2,rfl,hc1,hc2,hF2⟩:=hF.ownRow at0;clear hF;have hF:=hF2;clear hF2;(try simp only [zF] at hF))|(refine w_st1 rfl hF rfl rfl ?_ (hoff:=by (try simp only [a4a]);rw [mcells_len];decide);clear hF;intro wN hF;(try simp only [zF] at hF);(try simp only [zA,Nat.reduceAdd]))|((first|refine zrg ?_|(refine zst ?_;clear hF;(first|intro gN wN hF|intro wN hF|intro hF))|(refine zap ?_;clear hF;intro vN wN hF));(try simp only [zA,Nat.reduceAdd]))))
      have hH:=zx0 hH hF;refine hK.out _ _ (fun _=>hH) ?_;clear hK;(try simp only [zA,Nat.reduceAdd])
      refine zq 24 hH ?_
      refine zt0 25 hH ?_
      refine zt0 26 hH ?_
      refine a2u (rs:=[27]) (by kernel_rfl) (by simp) (a2v rfl (fun K hK=>?_) AllReadyT.nil)
      go_wp2_with ((first|(go_at_call 78;refine (HEn.out _ (hF.rowRd (by exact zat) hl17 (by decide) hfit.robC hfit.robM) hF.rdA hF.rdA).mono ?_;rintro y wN ⟨v,rfl,hb,ho⟩;replace hF:=hF.pushOwn hb ho;clear hb ho;obtain ⟨A2,c2,rfl,hc1,hc2,hF2⟩:=hF.ownRow at0;clear hF;have hF:=hF2;clear hF2;(try simp only [zF] at hF))|(refine w_st1 rfl hF rfl rfl ?_ (hoff:=by (try simp only [a4a]);rw [mcells_len];decide);clear hF;intro wN hF;(try simp only [zF] at hF);(try simp only [zA,Nat.reduceAdd]))|((first|refine zrg ?_|(refine zst ?_;clear hF;(first|intro gN wN hF|intro wN hF|intro hF))|(refine zap ?_;clear hF;intro vN wN hF));(try simp only [zA,Nat.reduceAdd]))))
      (try clear hH);refine hK.out _ _ (a4w 27 rfl (by kernel_rfl)) ?_;clear hK;(try simp only [zA,Nat.reduceAdd])
      refine a7j (by kernel_rfl) ?_ _
      (skip)
      rw [b7m (k:=k1) (s:=s1) (k1.rob++[x]) (by simp)] at hF
      have hF2:=(hF.front 1 at1).drop 2
      clear hF
      have hF:=hF2
      clear hF2
      (try simp only [zF] at hF)
      go_wp2_with ((try simp only [zA,Nat.reduceAdd]);(first|refine a3d ?_|(refine f3i ?_;clear hF;(first|intro gN wN hF|intro wN hF|intro hF))|(refine a1d ?_;clear hF;intro vN wN hF)))
      go_roundw
      case rel=>
       rw [show k1.fetched.length - 1=r.length by omega,h3l,b5f r rfl,hfd.out] at hF
       have hbj:B+(j:Int)+1=B+((j+1:Nat):Int):=by omega
       have hfit2:Fit { k1 with rob:=k1.rob++[x],next:=k1.next+1,fetched:=r } { s1 with robA:=A2,robC:=c2,feA:=cutA s1.feA 1 s1.feC 2,feC:=s1.feC - 1 } :=
        ⟨hfit.data,hfit.words,by simpa using hc1,hc2,hfit.feO,hfit.stO,hfit.reO⟩
       exact ⟨j+1,{ k1 with rob:=k1.rob++[x],next:=k1.next+1,fetched:=r },by go_num,by omega,Lib.hid (by rw [hR.out,show k.conf.width.toNat - (j+1)=m by omega]),hbj ▸ hke,hc1',hh1',⟨_,hfit2,fun h=>(by have:=ha h;show s1.feC - 1=r.length;omega),fun h=>(by cases h),⟨hF.lessD (by simp only [kD,hfit.feO,hfit.stO,hfit.reO,a1h,zL];exact zsn)⟩⟩⟩
      case measure=>first|(simp [intOf];done)|(simp [intOf];omega)
     ·have hfe:k1.fetched=[]:=List.eq_nil_of_length_eq_zero (by have:=hb4.out;simpa using this)
      rw [a9s (by rw [hE.out,hfe];rfl),hE.out,hfe] at hR
      exact d8s
    ·rw [a9s (by rw [hE.out];rfl),hE.out] at hR
     exact d8s
   ·have hz:k.conf.width.toNat - j=0:=by omega
    rw [hz] at hR
    replace hR:=Lib.hid (show a3c k=k1 from hR.out)
    have hlt:=Lib.hid (show decide ((j:Int)<k.conf.width)=false by simp;omega)
    go_wp2_with ((try simp only [zA,Nat.reduceAdd]);(first|refine f3j ?_|(refine a1s ?_;clear hF;(first|intro gN wN hF|intro wN hF|intro hF))|(refine a1d ?_;clear hF;intro vN wN hF)))
    go_end0
    refine ⟨⟨_,rfl⟩,?_⟩
    rw [hR.out]
    exact ⟨s1,hfit,ha,fun h=>(by cases h),⟨hF.lessD (by simp only [kD,hfit.feO,hfit.stO,hfit.reO,a1h,zL];exact zsn)⟩⟩
 ·have hne:¬ (k.halt=0):=hh
  rw [if_pos hh] at hR
  go_enter Tryz.func35,Tryz.ntmps35
  go_wp2_with ((try simp only [zA,Nat.reduceAdd]);(first|refine f3k ?_|(refine a1s ?_;clear hF;(first|intro gN wN hF|intro wN hF|intro hF))|(refine a1d ?_;clear hF;intro vN wN hF)))
  refine bodyPost_ret (results_none rfl _ _ _) rfl ⟨⟨_,rfl⟩,?_⟩
  rw [hR.out]
  exact ⟨s,hfit,ha,fun h=>(by cases h),⟨hS⟩⟩
end
end Go.Proofs.YtgnomadgnciifaaGreatDoor
