/- . -/
import Derived.Test.YtgnomadgnciifaaGreatDoorZ4
set_option linter.all false
set_option maxRecDepth 100000
set_option maxHeartbeats 16000000
namespace Go.Proofs.YtgnomadgnciifaaGreatDoor
open Go.Proofs.Tryz
def Nu {p:Prop} (h:p:=by
 cases cb
 .cases bb
  ·(go_enter func74,ntmps74;go_wp2_with ((try refine zs ?_);(first|refine wu ?_|(refine vC ?_;clear E;intro Z J E)|(refine tq F E F F ?_;clear E;intro vN J E;(simp only [jR,kR] at E);obtain ⟨Ab,cb,rfl,C,G⟩:=E.ownShape aC)|(refine oq F E F F ?_;clear E;intro vN J E;obtain ⟨Ac,cc,rfl,H,L⟩:=E.ownShape aC)|(refine aq ?_;clear E;intro vN J E)|((obtain ⟨Af,cf,io,ic⟩:=E.freeze 0 aC;injection io with hfz1 _ hfz2;subst hfz1 hfz2;clear E;have E:=ic;clear ic;(try simp only [zF] at E));refine ro (k:=1) F E F F ?_;clear E;intro E))))
   (((try simp only [Exit.inBlock,Exit.then]);refine bc (eL F E) F ?_);(obtain ⟨Af,cf,io,ic⟩:=E.freeze 0 aC;injection io with hfz1 _ hfz2;subst hfz1 hfz2;clear E;have E:=ic;clear ic;(try simp only [zF] at E));(have z:=E.freezeB 0 aC 2 8 8 xW (aM _) eT;rw [pp.out] at z;clear E;have E:=z;clear z;(try simp only [zF] at E));(exact xw E.outA wV xJ))
  .by_cases h0:0<nr
   .have hb:=V (show decide ((0:Int)<(nr:Int))=true by simp;omega)
    have j9:=j9 h0;rw [Y ag,aa ⟨rfl,h0⟩];(go_enter func74,ntmps74;go_wp2_with ((try refine zs ?_);(first|refine wu ?_|(refine vC ?_;clear E;intro Z J E)|(refine tq F E F F ?_;clear E;intro vN J E;(simp only [jR,kR] at E);obtain ⟨Ab,cb,rfl,C,G⟩:=E.ownShape aC)|(refine oq F E F F ?_;clear E;intro vN J E;obtain ⟨Ac,cc,rfl,H,L⟩:=E.ownShape aC)|(refine aq ?_;clear E;intro vN J E)|((obtain ⟨Af,cf,io,ic⟩:=E.freeze 0 aC;injection io with hfz1 _ hfz2;subst hfz1 hfz2;clear E;have E:=ic;clear ic;(try simp only [zF] at E));refine ro (k:=1) F E F F ?_;clear E;intro E))))
    (((try simp only [Exit.inBlock,Exit.then]);refine bc (eL F E) F ?_);(obtain ⟨Af,cf,io,ic⟩:=E.freeze 0 aC;injection io with hfz1 _ hfz2;subst hfz1 hfz2;clear E;have E:=ic;clear ic;(try simp only [zF] at E));(have z:=E.freezeB 0 aC 2 8 8 xW (aM _) eT;rw [pp.out] at z;clear E;have E:=z;clear z;(try simp only [zF] at E));have R:=E.toPart (sz:=1) (A:=Ab) (n:=nr) (c:=cb) (xs:=ai rets) (N:=nr - 1) au O;clear E;have E:=R;clear R;rw [show (ai rets).take ((nr - 1) * 1)=ai (rets.take (nr - 1)) by simp [ai]] at E;(exact xw E.outA wV xJ))
   .have hb:=V (show decide ((0:Int)<(nr:Int))=false by simp;omega)
    rw [Y ag,Y (λh=>h0 h.2)];(go_enter func74,ntmps74;go_wp2_with ((try refine zs ?_);(first|refine wu ?_|(refine vC ?_;clear E;intro Z J E)|(refine tq F E F F ?_;clear E;intro vN J E;(simp only [jR,kR] at E);obtain ⟨Ab,cb,rfl,C,G⟩:=E.ownShape aC)|(refine oq F E F F ?_;clear E;intro vN J E;obtain ⟨Ac,cc,rfl,H,L⟩:=E.ownShape aC)|(refine aq ?_;clear E;intro vN J E)|((obtain ⟨Af,cf,io,ic⟩:=E.freeze 0 aC;injection io with hfz1 _ hfz2;subst hfz1 hfz2;clear E;have E:=ic;clear ic;(try simp only [zF] at E));refine ro (k:=1) F E F F ?_;clear E;intro E))))
    (((try simp only [Exit.inBlock,Exit.then]);refine bc (eL F E) F ?_);(obtain ⟨Af,cf,io,ic⟩:=E.freeze 0 aC;injection io with hfz1 _ hfz2;subst hfz1 hfz2;clear E;have E:=ic;clear ic;(try simp only [zF] at E));(have z:=E.freezeB 0 aC 2 8 8 xW (aM _) eT;rw [pp.out] at z;clear E;have E:=z;clear z;(try simp only [zF] at E));(exact xw E.outA wV xJ))
 .by_cases h4:nr=4
  .subst h4
   rw [aa F,aa ag];(go_enter func74,ntmps74;go_wp2_with ((try refine zs ?_);(first|refine wu ?_|(refine vC ?_;clear E;intro Z J E)|(refine tq F E F F ?_;clear E;intro vN J E;(simp only [jR,kR] at E);obtain ⟨Ab,cb,rfl,C,G⟩:=E.ownShape aC)|(refine oq F E F F ?_;clear E;intro vN J E;obtain ⟨Ac,cc,rfl,H,L⟩:=E.ownShape aC)|(refine aq ?_;clear E;intro vN J E)|((obtain ⟨Af,cf,io,ic⟩:=E.freeze 0 aC;injection io with hfz1 _ hfz2;subst hfz1 hfz2;clear E;have E:=ic;clear ic;(try simp only [zF] at E));refine ro (k:=1) F E F F ?_;clear E;intro E))))
   (((try simp only [Exit.inBlock,Exit.then]);refine bc (eL F E) F ?_);(have z:=E.freezeB 0 aC 2 8 8 xW (aM _) eT;rw [pp.out] at z;clear E;have E:=z;clear z;(try simp only [zF] at E));(simp only [hw,ac.out,aw.out,List.drop_one] at E);(exact xw E.outA wV xJ))
  .have hb:=V (show decide ((4:Int)<(nr:Int)+1)=false by simp;omega)
   rw [aa F,Y O];(go_enter func74,ntmps74;go_wp2_with ((try refine zs ?_);(first|refine wu ?_|(refine vC ?_;clear E;intro Z J E)|(refine tq F E F F ?_;clear E;intro vN J E;(simp only [jR,kR] at E);obtain ⟨Ab,cb,rfl,C,G⟩:=E.ownShape aC)|(refine oq F E F F ?_;clear E;intro vN J E;obtain ⟨Ac,cc,rfl,H,L⟩:=E.ownShape aC)|(refine aq ?_;clear E;intro vN J E)|((obtain ⟨Af,cf,io,ic⟩:=E.freeze 0 aC;injection io with hfz1 _ hfz2;subst hfz1 hfz2;clear E;have E:=ic;clear ic;(try simp only [zF] at E));refine ro (k:=1) F E F F ?_;clear E;intro E))))
   (((try simp only [Exit.inBlock,Exit.then]);refine bc (eL F E) F ?_);(obtain ⟨Af,cf,io,ic⟩:=E.freeze 0 aC;injection io with hfz1 _ hfz2;subst hfz1 hfz2;clear E;have E:=ic;clear ic;(try simp only [zF] at E));(have z:=E.freezeB 0 aC 2 8 8 xW (aM _) eT;rw [pp.out] at z;clear E;have E:=z;clear z;(try simp only [zF] at E));(simp only [hw,ac.out] at E);(exact xw E.outA wV xJ))):p:=h
section
open Go.RowKit Wd
def St.ownShape {w0 w D0 D M}(h:St w0 D0 w M D){i:Nat}{v e sz n xs}(hi:M[i]?=some (.own v e sz n xs)):∃ A c,v = .slice A n c/\n<=c/\c<=maxLen:=by
 obtain ⟨A,c,rfl,h1,h2,_⟩:=h.ownRow hi;exact ⟨A,c,rfl,h1,h2⟩
def Cd (As Ar:Option Addr) (cs nr cr:Nat) (g g':Gu) (w:World) (x:Ending) (w':World):Prop :=
 ∃ As' cs' Ar' cr',x = .returned (gv As' 8 cs' g'.hist Ar' g'.rets.length cr')/\Out w [ab 2 As 8 cs (eQ g.slots),ab 1 Ar nr cr (ai g.rets)] w' [ab 2 As' 8 cs' (eQ g'.slots),ab 1 Ar' g'.rets.length cr' (ai g'.rets)]
def xw {As Ar As' Ar' cs nr cr cs' nr' cr' h'}{g g':Gu}{w w'}(hO:Out w [ab 2 As 8 cs (eQ g.slots),ab 1 Ar nr cr (ai g.rets)] w' [ab 2 As' 8 cs' (eQ g'.slots),ab 1 Ar' nr' cr' (ai g'.rets)])(hn:g'.rets.length=nr')(hh:h'=(g'.hist:Int)):Cd As Ar cs nr cr g g' w (.returned (.agg #[.slice As' 8 cs',U h',.slice Ar' nr' cr'])) w':=by
 subst hn hh;exact ⟨As',cs',Ar',cr',rfl,hO⟩
def h8t (As Ar:Option Addr) (cs cr pc next:Nat) (g:Gu) (i:Ins) (w:World) (h1:ky g=true) (hs:Rd w w.heap.size 2 As 8 cs (eQ g.slots)) (hr:Rd w w.heap.size 1 Ar g.rets.length cr (ai g.rets)) (hi:cQ i.op) (hk:ae i.op≠5) :Ca 74 #[gv As 8 cs g.hist Ar g.rets.length cr,U (pc:Int),U (next:Int),i.val] w (Cd As Ar cs g.rets.length cr g (gw g pc next i) w):=by
 have E:=St.start w [ab 2 As 8 cs (eQ g.slots),ab 1 Ar g.rets.length cr (ai g.rets)] (zC hs (zC hr zN));have hT:gw g pc next i=g:=by unfold gw;rw [aa (.inr hk)]
 rw [hT];simp only [ky,fi,iA] at h1;have HR:=V (λW=>ym As Ar cs g.hist g.rets.length cr W h1.2.1 h1.2.2);have HK:=V (λW=>ec i W hi);obtain ⟨c,hc⟩:∃ c,ae i.op=c:=⟨_,rfl⟩;rw [hc] at HK hk;have c2:(c != 5)=true:=by simpa using hk
 clear hk hc hT h1 hs hr;obtain ⟨op,rd,rs1,rs2,imm⟩:=i;unfold Ins.val at HK ⊢;unfold gv at HR ⊢;go_enter func74,ntmps74;go_wp2_with ((try refine zs ?_);(first|refine fa ?_|(refine QJ ?_;clear E;intro Z J E)|(refine aq ?_;clear E;intro vN J E)));((try simp only [Exit.inBlock,Exit.then]);refine bc (eL F E) F ?_);exact ⟨As,cs,Ar,cr,rfl,E.outA⟩
def h8u (As Ar:Option Addr) (cs cr pc next:Nat) (sl:List Sl) (h nr:Nat) (rets:List Nat) (i:Ins) (w:World) (v4:sl.length=8) (hh:h<8) (ad:nr<=4) (hs:Rd w w.heap.size 2 As 8 cs (eQ sl)) (hr:Rd w w.heap.size 1 Ar nr cr (ai rets))(hi:cQ i.op) (hk:ae i.op=5) (hp:pc<4294967296) (hn:next<4294967296) :Ca 74 #[gv As 8 cs h Ar nr cr,U (pc:Int),U (next:Int),i.val] w (Cd As Ar cs nr cr ⟨sl,h,rets⟩ (gw ⟨sl,h,rets⟩ pc next i) w):=by
 have E:=St.start w [ab 2 As 8 cs (eQ sl),ab 1 Ar nr cr (ai rets)] (zC hs (zC hr zN));have hrl:rets.length=nr:=by have:=hr.len;rw [lY] at this;omega
 have HR:=V (λW=>ym As Ar cs h nr cr W hh ad);have HK:=V (λW=>ec i W hi);rw [hk] at HK;have HS:=V (λW=>FP As Ar 8 cs h nr cr pc sl rets W hp O);have HC:=V (λW=>Qu i W);have HB:=V (λW=>Jc i W);have ak:lx ⟨sl,h,rets⟩ pc<8:=dy _ O;have az:ay pc 4<4294967296:=dy _ O;have hw:((pc:Int)+4) % 4294967296=((ay pc 4:Nat):Int):=by unfold ay;omega
 have hT:Hid (gw ⟨sl,h,rets⟩ pc next i=⟨sl.set (lx ⟨sl,h,rets⟩ pc) ⟨pc,next⟩,(2 * h+if next=ay pc 4 then 0 else 1) % 8,
  if tL i=true then (if 4<nr+1 then (rets++[ay pc 4]).drop 1 else rets++[ay pc 4])
  else if qe i=true/\0<nr then rets.take (nr - 1) else rets⟩):=V (by
   unfold gw;rw [Y (by simp [ky,v4,hh,hrl,ad,hk])]
   simp only [hrl])
 have pp:=V (λ(hx:lx ⟨sl,h,rets⟩ pc<8)=>Rows.spl (f:=eQ) (q:=sl) (k:=lx ⟨sl,h,rets⟩ pc) (r:=⟨pc,next⟩) O);replace pp:=V (pp.out ak);simp only [Sl.cells] at pp;obtain ⟨s,al⟩:∃ s,lx ⟨sl,h,rets⟩ pc=s:=⟨_,rfl⟩;obtain ⟨N4,an⟩:∃ N4,ay pc 4=N4:=⟨_,rfl⟩;obtain ⟨cb,ap⟩:∃ cb,tL i=cb:=⟨_,rfl⟩;obtain ⟨bb,av⟩:∃ bb,qe i=bb:=⟨_,rfl⟩;rw [al] at HS ak hT pp;rw [an] at hT hw az;rw [ap] at HC hT;rw [av] at HB hT;rw [hT.out];clear hT al an ap av hk hi hs hr;obtain ⟨op,rd,rs1,rs2,imm⟩:=i;unfold Ins.val at HK HC HB ⊢;unfold gv at HR HS ⊢;replace hrl:=V hrl;have v4:=v4;have j9:0<nr->(nr:Int) - 1=((nr - 1:Nat):Int):=λh=>by omega
 have ac:=V (show ai rets++[U (N4:Int)]=ai (rets++[N4]) by simp [ai]);have aw:=V (show (ai (rets++[N4])).drop (1 * 1)=ai ((rets++[N4]).drop 1) by simp [ai]);by_cases Q:next=N4
 .subst Q
  rw [aa F];exact Nu
 .rw [Y Q]
  replace Q:¬ ((next:Int)=(N4:Int)):=by omega
  exact Nu
end
end Go.Proofs.YtgnomadgnciifaaGreatDoor
