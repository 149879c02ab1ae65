/- . -/
import Derived.Test.YtgnomadgnciifaaGreatDoorZ4
set_option linter.unusedVariables false
set_option linter.unusedSimpArgs false
set_option linter.unusedSectionVars false
set_option maxRecDepth 100000
set_option maxHeartbeats 16000000
namespace Go.Proofs.YtgnomadgnciifaaGreatDoor
theorem d6l {p:Prop} (h:p:=by
 cases cb
 ·cases bb
  ·(go_enter Tryz.func74,Tryz.ntmps74;go_wp2_with ((try refine zs ?_);(first|refine b5v ?_|(refine b5w ?_;clear hF;(first|intro gN wN hF|intro wN hF|intro hF))|(refine w_appD rfl hF rfl rfl ?_;clear hF;intro vN wN hF;(simp only [Nat.zero_add,List.nil_append] at hF);obtain ⟨Ab,cb,rfl,hcb1,hcb2⟩:=hF.ownShape at0)|(refine w_app rfl hF rfl rfl ?_;clear hF;intro vN wN hF;obtain ⟨Ac,cc,rfl,hcc1,hcc2⟩:=hF.ownShape at0)|(refine a1d ?_;clear hF;intro vN wN hF)|((obtain ⟨Af,cf,hfz,hF2⟩:=hF.freeze 0 at0;injection hfz with hfz1 _ hfz2;subst hfz1 hfz2;clear hF;have hF:=hF2;clear hF2;(try simp only [zF] at hF));refine w_from (k:=1) rfl hF rfl rfl ?_;clear hF;intro hF))))
   (((try simp only [Exit.inBlock,Exit.then]);refine bodyPost_ret (a2x rfl hF) rfl ?_);(obtain ⟨Af,cf,hfz,hF2⟩:=hF.freeze 0 at0;injection hfz with hfz1 _ hfz2;subst hfz1 hfz2;clear hF;have hF:=hF2;clear hF2;(try simp only [zF] at hF));(have hF8:=hF.freezeB 0 at0 2 8 8 (by rw [hspl.out,sls_len,List.length_set,hl8]) (Nat.le_refl _) (by unfold maxLen;omega);rw [hspl.out] at hF8;clear hF;have hF:=hF8;clear hF8;(try simp only [zF] at hF));(exact trainEnd hF.outA (by simp [hrl.out];try omega) (by simp;try omega)))
  ·by_cases h0:0<nr
   ·have hb:=Lib.hid (show decide ((0:Int)<(nr:Int))=true by simp;omega)
    have hsub:=hsub h0
    rw [if_neg (by decide),if_pos ⟨rfl,h0⟩]
    (go_enter Tryz.func74,Tryz.ntmps74;go_wp2_with ((try refine zs ?_);(first|refine b5v ?_|(refine b5w ?_;clear hF;(first|intro gN wN hF|intro wN hF|intro hF))|(refine w_appD rfl hF rfl rfl ?_;clear hF;intro vN wN hF;(simp only [Nat.zero_add,List.nil_append] at hF);obtain ⟨Ab,cb,rfl,hcb1,hcb2⟩:=hF.ownShape at0)|(refine w_app rfl hF rfl rfl ?_;clear hF;intro vN wN hF;obtain ⟨Ac,cc,rfl,hcc1,hcc2⟩:=hF.ownShape at0)|(refine a1d ?_;clear hF;intro vN wN hF)|((obtain ⟨Af,cf,hfz,hF2⟩:=hF.freeze 0 at0;injection hfz with hfz1 _ hfz2;subst hfz1 hfz2;clear hF;have hF:=hF2;clear hF2;(try simp only [zF] at hF));refine w_from (k:=1) rfl hF rfl rfl ?_;clear hF;intro hF))))
    (((try simp only [Exit.inBlock,Exit.then]);refine bodyPost_ret (a2x rfl hF) rfl ?_);(obtain ⟨Af,cf,hfz,hF2⟩:=hF.freeze 0 at0;injection hfz with hfz1 _ hfz2;subst hfz1 hfz2;clear hF;have hF:=hF2;clear hF2;(try simp only [zF] at hF));(have hF8:=hF.freezeB 0 at0 2 8 8 (by rw [hspl.out,sls_len,List.length_set,hl8]) (Nat.le_refl _) (by unfold maxLen;omega);rw [hspl.out] at hF8;clear hF;have hF:=hF8;clear hF8;(try simp only [zF] at hF));have hF9:=hF.toPart (sz:=1) (A:=Ab) (n:=nr) (c:=cb) (xs:=u32v rets) (N:=nr - 1) zdm (by omega);clear hF;have hF:=hF9;clear hF9;rw [show (u32v rets).take ((nr - 1) * 1)=u32v (rets.take (nr - 1)) by simp [u32v]] at hF;(exact trainEnd hF.outA (by simp [hrl.out];try omega) (by simp;try omega)))
   ·have hb:=Lib.hid (show decide ((0:Int)<(nr:Int))=false by simp;omega)
    rw [if_neg (by decide),if_neg (fun h=>h0 h.2)]
    (go_enter Tryz.func74,Tryz.ntmps74;go_wp2_with ((try refine zs ?_);(first|refine b5v ?_|(refine b5w ?_;clear hF;(first|intro gN wN hF|intro wN hF|intro hF))|(refine w_appD rfl hF rfl rfl ?_;clear hF;intro vN wN hF;(simp only [Nat.zero_add,List.nil_append] at hF);obtain ⟨Ab,cb,rfl,hcb1,hcb2⟩:=hF.ownShape at0)|(refine w_app rfl hF rfl rfl ?_;clear hF;intro vN wN hF;obtain ⟨Ac,cc,rfl,hcc1,hcc2⟩:=hF.ownShape at0)|(refine a1d ?_;clear hF;intro vN wN hF)|((obtain ⟨Af,cf,hfz,hF2⟩:=hF.freeze 0 at0;injection hfz with hfz1 _ hfz2;subst hfz1 hfz2;clear hF;have hF:=hF2;clear hF2;(try simp only [zF] at hF));refine w_from (k:=1) rfl hF rfl rfl ?_;clear hF;intro hF))))
    (((try simp only [Exit.inBlock,Exit.then]);refine bodyPost_ret (a2x rfl hF) rfl ?_);(obtain ⟨Af,cf,hfz,hF2⟩:=hF.freeze 0 at0;injection hfz with hfz1 _ hfz2;subst hfz1 hfz2;clear hF;have hF:=hF2;clear hF2;(try simp only [zF] at hF));(have hF8:=hF.freezeB 0 at0 2 8 8 (by rw [hspl.out,sls_len,List.length_set,hl8]) (Nat.le_refl _) (by unfold maxLen;omega);rw [hspl.out] at hF8;clear hF;have hF:=hF8;clear hF8;(try simp only [zF] at hF));(exact trainEnd hF.outA (by simp [hrl.out];try omega) (by simp;try omega)))
 ·by_cases h4:nr=4
  ·subst h4
   rw [if_pos rfl,if_pos (by decide)]
   (go_enter Tryz.func74,Tryz.ntmps74;go_wp2_with ((try refine zs ?_);(first|refine b5v ?_|(refine b5w ?_;clear hF;(first|intro gN wN hF|intro wN hF|intro hF))|(refine w_appD rfl hF rfl rfl ?_;clear hF;intro vN wN hF;(simp only [Nat.zero_add,List.nil_append] at hF);obtain ⟨Ab,cb,rfl,hcb1,hcb2⟩:=hF.ownShape at0)|(refine w_app rfl hF rfl rfl ?_;clear hF;intro vN wN hF;obtain ⟨Ac,cc,rfl,hcc1,hcc2⟩:=hF.ownShape at0)|(refine a1d ?_;clear hF;intro vN wN hF)|((obtain ⟨Af,cf,hfz,hF2⟩:=hF.freeze 0 at0;injection hfz with hfz1 _ hfz2;subst hfz1 hfz2;clear hF;have hF:=hF2;clear hF2;(try simp only [zF] at hF));refine w_from (k:=1) rfl hF rfl rfl ?_;clear hF;intro hF))))
   (((try simp only [Exit.inBlock,Exit.then]);refine bodyPost_ret (a2x rfl hF) rfl ?_);(have hF8:=hF.freezeB 0 at0 2 8 8 (by rw [hspl.out,sls_len,List.length_set,hl8]) (Nat.le_refl _) (by unfold maxLen;omega);rw [hspl.out] at hF8;clear hF;have hF:=hF8;clear hF8;(try simp only [zF] at hF));(simp only [hw,hcat.out,hdrp.out,List.drop_one] at hF);(exact trainEnd hF.outA (by simp [hrl.out];try omega) (by simp;try omega)))
  ·have hb:=Lib.hid (show decide ((4:Int)<(nr:Int)+1)=false by simp;omega)
   rw [if_pos rfl,if_neg (by omega)]
   (go_enter Tryz.func74,Tryz.ntmps74;go_wp2_with ((try refine zs ?_);(first|refine b5v ?_|(refine b5w ?_;clear hF;(first|intro gN wN hF|intro wN hF|intro hF))|(refine w_appD rfl hF rfl rfl ?_;clear hF;intro vN wN hF;(simp only [Nat.zero_add,List.nil_append] at hF);obtain ⟨Ab,cb,rfl,hcb1,hcb2⟩:=hF.ownShape at0)|(refine w_app rfl hF rfl rfl ?_;clear hF;intro vN wN hF;obtain ⟨Ac,cc,rfl,hcc1,hcc2⟩:=hF.ownShape at0)|(refine a1d ?_;clear hF;intro vN wN hF)|((obtain ⟨Af,cf,hfz,hF2⟩:=hF.freeze 0 at0;injection hfz with hfz1 _ hfz2;subst hfz1 hfz2;clear hF;have hF:=hF2;clear hF2;(try simp only [zF] at hF));refine w_from (k:=1) rfl hF rfl rfl ?_;clear hF;intro hF))))
   (((try simp only [Exit.inBlock,Exit.then]);refine bodyPost_ret (a2x rfl hF) rfl ?_);(obtain ⟨Af,cf,hfz,hF2⟩:=hF.freeze 0 at0;injection hfz with hfz1 _ hfz2;subst hfz1 hfz2;clear hF;have hF:=hF2;clear hF2;(try simp only [zF] at hF));(have hF8:=hF.freezeB 0 at0 2 8 8 (by rw [hspl.out,sls_len,List.length_set,hl8]) (Nat.le_refl _) (by unfold maxLen;omega);rw [hspl.out] at hF8;clear hF;have hF:=hF8;clear hF8;(try simp only [zF] at hF));(simp only [hw,hcat.out] at hF);(exact trainEnd hF.outA (by simp [hrl.out];try omega) (by simp;try omega)))):p:=h
section
open Go.RowKit Wd
theorem St.ownShape {w0 w:World} {D0 D:List Da} {M:List Mu} (h:St w0 D0 w M D) {i:Nat} {v:Value} {e:TypeId} {sz n:Nat} {xs:List Value} (hi:M[i]?=some (.own v e sz n xs)):∃ A c,v = .slice A n c∧n≤c∧c≤maxLen:=by
 obtain ⟨A,c,rfl,h1,h2,_⟩:=h.ownRow hi
 exact ⟨A,c,rfl,h1,h2⟩
def c5h (As Ar:Option Addr) (cs nr cr:Nat) (g g':Gu) (w:World) (x:Ending) (w':World):Prop :=
 ∃ As' cs' Ar' cr',x = .returned (gv As' 8 cs' g'.hist Ar' g'.rets.length cr')∧Out w [a1a 2 As 8 cs (sls g.slots),a1a 1 Ar nr cr (u32v g.rets)] w' [a1a 2 As' 8 cs' (sls g'.slots),a1a 1 Ar' g'.rets.length cr' (u32v g'.rets)]
theorem trainEnd {As Ar As' Ar':Option Addr} {cs nr cr cs' nr' cr':Nat} {h':Int} {g g':Gu} {w w':World} (hO:Out w [a1a 2 As 8 cs (sls g.slots),a1a 1 Ar nr cr (u32v g.rets)] w' [a1a 2 As' 8 cs' (sls g'.slots),a1a 1 Ar' nr' cr' (u32v g'.rets)]) (hn:g'.rets.length=nr') (hh:h'=(g'.hist:Int)) :
  c5h As Ar cs nr cr g g' w (.returned (.agg #[.slice As' 8 cs',.int .u32 h',.slice Ar' nr' cr'])) w':=by
 subst hn hh
 exact ⟨As',cs',Ar',cr',rfl,hO⟩
theorem g9v (As Ar:Option Addr) (cs cr pc next:Nat) (g:Gu) (i:Ins) (w:World) (h1:a5o g=true) (hs:Rd w w.heap.size 2 As 8 cs (sls g.slots)) (hr:Rd w w.heap.size 1 Ar g.rets.length cr (u32v g.rets)) (hi:okI i.op) (hk:a1e i.op≠5) :
  Calls Tryz.prog 74 #[gv As 8 cs g.hist Ar g.rets.length cr,.int .u32 (pc:Int),.int .u32 (next:Int),i.val] w (c5h As Ar cs g.rets.length cr g (a4d g pc next i) w):=by
 have hF:=St.start w [a1a 2 As 8 cs (sls g.slots),a1a 1 Ar g.rets.length cr (u32v g.rets)] (fun d hd=>by
  rcases List.mem_cons.1 hd with rfl|hd
  ·exact hs
  ·obtain rfl:=List.mem_singleton.1 hd;exact hr)
 have hT:a4d g pc next i=g:=by unfold a4d;rw [if_pos (.inr hk)]
 rw [hT]
 simp only [a5o,Bool.and_eq_true,decide_eq_true_eq] at h1
 have HR:=Lib.hid (fun W=>b9t As Ar cs g.hist g.rets.length cr W h1.2.1 h1.2.2)
 have HK:=Lib.hid (fun W=>a2o i W hi)
 obtain ⟨c,hc⟩:∃ c,a1e i.op=c:=⟨_,rfl⟩
 rw [hc] at HK hk
 have c2:(c != 5)=true:=by simpa using hk
 clear hk hc hT h1 hs hr
 obtain ⟨op,rd,rs1,rs2,imm⟩:=i
 unfold Ins.val at HK ⊢
 unfold gv at HR ⊢
 go_enter Tryz.func74,Tryz.ntmps74
 go_wp2_with ((try refine zs ?_);(first|refine a3d ?_|(refine f3l ?_;clear hF;(first|intro gN wN hF|intro wN hF|intro hF))|(refine a1d ?_;clear hF;intro vN wN hF)))
 ((try simp only [Exit.inBlock,Exit.then]);refine bodyPost_ret (a2x rfl hF) rfl ?_)
 exact ⟨As,cs,Ar,cr,rfl,hF.outA⟩
theorem g9w (As Ar:Option Addr) (cs cr pc next:Nat) (sl:List Sl) (h nr:Nat) (rets:List Nat) (i:Ins) (w:World) (hl8:sl.length=8) (hh:h<8) (hnr:nr≤4) (hs:Rd w w.heap.size 2 As 8 cs (sls sl)) (hr:Rd w w.heap.size 1 Ar nr cr (u32v rets))
  (hi:okI i.op) (hk:a1e i.op=5) (hp:pc<4294967296) (hn:next<4294967296) :
  Calls Tryz.prog 74 #[gv As 8 cs h Ar nr cr,.int .u32 (pc:Int),.int .u32 (next:Int),i.val] w (c5h As Ar cs nr cr ⟨sl,h,rets⟩ (a4d ⟨sl,h,rets⟩ pc next i) w):=by
 have hF:=St.start w [a1a 2 As 8 cs (sls sl),a1a 1 Ar nr cr (u32v rets)] (fun d hd=>by
  rcases List.mem_cons.1 hd with rfl|hd
  ·exact hs
  ·obtain rfl:=List.mem_singleton.1 hd;exact hr)
 have hrl:rets.length=nr:=by have:=hr.len;rw [u32v_len] at this;omega
 have HR:=Lib.hid (fun W=>b9t As Ar cs h nr cr W hh hnr)
 have HK:=Lib.hid (fun W=>a2o i W hi)
 rw [hk] at HK
 have HS:=Lib.hid (fun W=>d2u As Ar 8 cs h nr cr pc sl rets W hp (by omega))
 have HC:=Lib.hid (fun W=>g2r i W)
 have HB:=Lib.hid (fun W=>d2t i W)
 have hs8:a6g ⟨sl,h,rets⟩ pc<8:=Nat.mod_lt _ (by omega)
 have hN4:a1k pc 4<4294967296:=Nat.mod_lt _ (by omega)
 have hw:((pc:Int)+4) % 4294967296=((a1k pc 4:Nat):Int):=by unfold a1k;omega
 have hT:Hid (a4d ⟨sl,h,rets⟩ pc next i=⟨sl.set (a6g ⟨sl,h,rets⟩ pc) ⟨pc,next⟩,(2 * h+if next=a1k pc 4 then 0 else 1) % 8,
  if b4v i=true then (if 4<nr+1 then (rets++[a1k pc 4]).drop 1 else rets++[a1k pc 4])
  else if b1e i=true∧0<nr then rets.take (nr - 1) else rets⟩):=Lib.hid (by
   unfold a4d
   rw [if_neg (by simp [a5o,hl8,hh,hrl,hnr,hk])]
   simp only [hrl])
 have hspl:=Lib.hid (fun (hx:a6g ⟨sl,h,rets⟩ pc<8)=>Rows.spl (f:=sls) (q:=sl) (k:=a6g ⟨sl,h,rets⟩ pc) (r:=⟨pc,next⟩) (by omega))
 replace hspl:=Lib.hid (hspl.out hs8)
 simp only [Sl.cells] at hspl
 obtain ⟨s,hse⟩:∃ s,a6g ⟨sl,h,rets⟩ pc=s:=⟨_,rfl⟩
 obtain ⟨N4,hNe⟩:∃ N4,a1k pc 4=N4:=⟨_,rfl⟩
 obtain ⟨cb,hcb⟩:∃ cb,b4v i=cb:=⟨_,rfl⟩
 obtain ⟨bb,hbb⟩:∃ bb,b1e i=bb:=⟨_,rfl⟩
 rw [hse] at HS hs8 hT hspl
 rw [hNe] at hT hw hN4
 rw [hcb] at HC hT
 rw [hbb] at HB hT
 rw [hT.out]
 clear hT hse hNe hcb hbb hk hi hs hr
 obtain ⟨op,rd,rs1,rs2,imm⟩:=i
 unfold Ins.val at HK HC HB ⊢
 unfold gv at HR HS ⊢
 replace hrl:=Lib.hid hrl
 have hl8:=hl8
 have hsub:0<nr→(nr:Int) - 1=((nr - 1:Nat):Int):=fun h=>by omega
 have hcat:=Lib.hid (show u32v rets++[.int .u32 (N4:Int)]=u32v (rets++[N4]) by simp [u32v])
 have hdrp:=Lib.hid (show (u32v (rets++[N4])).drop (1 * 1)=u32v ((rets++[N4]).drop 1) by simp [u32v])
 by_cases hn4:next=N4
 ·subst hn4
  rw [if_pos rfl]
  exact d6l
 ·rw [if_neg hn4]
  replace hn4:¬ ((next:Int)=(N4:Int)):=by omega
  exact d6l
end
end Go.Proofs.YtgnomadgnciifaaGreatDoor
