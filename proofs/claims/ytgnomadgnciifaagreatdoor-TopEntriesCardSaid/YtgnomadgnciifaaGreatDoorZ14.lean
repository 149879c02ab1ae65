/- . -/
import Derived.Test.YtgnomadgnciifaaGreatDoorZ6
set_option linter.all false
set_option maxRecDepth 100000
set_option maxHeartbeats 16000000
namespace Go.Proofs.YtgnomadgnciifaaGreatDoor
open Go.Proofs.Tryz
def Cr {p:Prop} (h:p:=by
 replace hb:=V hb;replace iq:=V iq;(first|rw [e2 F] at HG|skip);replace e1:=V e1;replace e2:=V e2;unfold Ins.val;clear hg h2 hf;go_enter func149,ntmps149;go_upto_region 12 with ((try refine zs ?_);(first|(go_at_call 107;refine (G.out _).mono ?_;rintro x J ⟨rfl,rfl⟩)|(go_at_call 106;refine (H.out _).mono ?_;rintro x J ⟨rfl,rfl⟩)|(go_at_call 146;refine (HN.out _).mono ?_;rintro x J ⟨A,c,rfl,L⟩;replace E:=E.call1A L;clear L)|(go_at_call 187;refine E.cB (HG.out _ _ _ E.rdA) ?_;clear E;intro J E)|(go_at_call 186;refine (zV _ _ _ _ hx O O).mono ?_;rintro x J ⟨rfl,hd⟩;replace E:=E.grow (af.ofDrew hd);clear hd)|refine ov ?_|(refine bJ ?_;clear E;intro Z J E)|(refine aq ?_;clear E;intro vN J E)));replace e1:=e1.out;have e3:(im:Int) % 4294967296=(im:Int):=by omega
 go_upto_region 13 with ((try refine zs ?_);(first|refine Ds ?_|(refine Cb ?_;clear E;intro J E)));go_wp2_with ((try refine zs ?_);(first|(go_at_call 170;refine (HS.out _).mono ?_;rintro x J ⟨rfl,hd⟩;replace E:=E.grow (af.ofDrew hd);clear hd)|refine E5 ?_|(refine Ea ?_;clear E;intro J E)));((try simp only [Exit.inBlock,Exit.then]);refine bc (eL F E) F ?_)
 exact ⟨rfl,E.bel⟩):p:=h
section
open Go.RowKit Wd
def h8c (op:Int) (x:Nat) (w:World) (hf:aI op=3) (hx:x<4294967296) :Ca 149 #[I op,U (x:Int)] w (RB w ((bn op x).val)):=by
 have E:=St.start w [] zN;have G:=V (λW=>by have:=mN op W;rwa [m8,hf] at this:∀ W,Ca 107 #[I op] W λe w'=>e = .returned (I 3)/\w'=W);have H:=V (λW=>Fv W);have C:∀ W,Ca 146 #[I 3] W λe w'=>∃ A c,e = .returned (.tuple #[.slice A 1 c,I 0])/\Out W [] w' [ab 2 A 1 c (dk (dQ (av 3).1))]:=λW=>Mz W
 have HN:=V C;clear C;have r1:=fh x 7 5;have r2:=fh x 15 5;have r3:=fh x 20 5;have z:∀ W A c,Rd W W.heap.size 2 A 1 c (dk (dQ (av 3).1))->Ca 187 #[U (x:Int),.slice A 1 c] W (RB W (.tuple #[U ((bW x (av 3).1).1:Int),I (bW x (av 3).1).2])):=λW A c hr=>ql A c x (av 3).1 W hr (jJ _) hx
 have hb:=(oH hx (jJ 3) _ (aM _)).1;rw [lK] at hb;have h2:(bW x (av 3).1).2=5:=rfl;rw [qh hf,h2];rw [h2] at z;generalize hg:(bW x (av 3).1).1=g1 at *;have HG:=V z;clear z;obtain ⟨im,iq⟩:∃ im,g1 * 2 ^ (av 3).2 % 4294967296=im:=⟨_,rfl⟩;have D:im<4294967296:=by rw [<- iq];exact dy _ O
 have HS:=V (λW=>oW im 5 W D ⟨by omega,by omega⟩);rw [iq];have e1:(g1:Int) * 1 % 4294967296=((im:Nat):Int):=by
  rw [<- iq,show (av 3).2=0 from rfl];omega
 have e2:1=1->(g1:Int)=((im:Nat):Int):=λh=>by omega
 exact Cr
def Zk (op:Int) (x:Nat) (w:World) (hf:aI op=4) (hx:x<4294967296) :Ca 149 #[I op,U (x:Int)] w (RB w ((bn op x).val)):=by
 have E:=St.start w [] zN;have G:=V (λW=>by have:=mN op W;rwa [m8,hf] at this:∀ W,Ca 107 #[I op] W λe w'=>e = .returned (I 4)/\w'=W);have H:=V (λW=>GB W);have C:∀ W,Ca 146 #[I 4] W λe w'=>∃ A c,e = .returned (.tuple #[.slice A 2 c,I 0])/\Out W [] w' [ab 2 A 2 c (dk (dQ (av 4).1))]:=λW=>Kc W
 have HN:=V C;clear C;have r1:=fh x 7 5;have r2:=fh x 15 5;have r3:=fh x 20 5;have z:∀ W A c,Rd W W.heap.size 2 A 2 c (dk (dQ (av 4).1))->Ca 187 #[U (x:Int),.slice A 2 c] W (RB W (.tuple #[U ((bW x (av 4).1).1:Int),I (bW x (av 4).1).2])):=λW A c hr=>ql A c x (av 4).1 W hr (jJ _) hx
 have hb:=(oH hx (jJ 4) _ (aM _)).1;rw [lK] at hb;have h2:(bW x (av 4).1).2=12:=rfl;rw [qh hf,h2];rw [h2] at z;generalize hg:(bW x (av 4).1).1=g1 at *;have HG:=V z;clear z;obtain ⟨im,iq⟩:∃ im,g1 * 2 ^ (av 4).2 % 4294967296=im:=⟨_,rfl⟩;have D:im<4294967296:=by rw [<- iq];exact dy _ O
 have HS:=V (λW=>oW im 12 W D ⟨by omega,by omega⟩);rw [iq];have e1:(g1:Int) * 1 % 4294967296=((im:Nat):Int):=by
  rw [<- iq,show (av 4).2=0 from rfl];omega
 have e2:1=1->(g1:Int)=((im:Nat):Int):=λh=>by omega
 exact Cr
def PT (op:Int) (x:Nat) (w:World) (hf:aI op=5) (hx:x<4294967296) :Ca 149 #[I op,U (x:Int)] w (RB w ((bn op x).val)):=by
 have E:=St.start w [] zN;have G:=V (λW=>by have:=mN op W;rwa [m8,hf] at this:∀ W,Ca 107 #[I op] W λe w'=>e = .returned (I 5)/\w'=W);have H:=V (λW=>JU W);have C:∀ W,Ca 146 #[I 5] W λe w'=>∃ A c,e = .returned (.tuple #[.slice A 4 c,I 1])/\Out W [] w' [ab 2 A 4 c (dk (dQ (av 5).1))]:=λW=>IP W
 have HN:=V C;clear C;have r1:=fh x 7 5;have r2:=fh x 15 5;have r3:=fh x 20 5;have z:∀ W A c,Rd W W.heap.size 2 A 4 c (dk (dQ (av 5).1))->Ca 187 #[U (x:Int),.slice A 4 c] W (RB W (.tuple #[U ((bW x (av 5).1).1:Int),I (bW x (av 5).1).2])):=λW A c hr=>ql A c x (av 5).1 W hr (jJ _) hx
 have hb:=(oH hx (jJ 5) _ (aM _)).1;rw [lK] at hb;have h2:(bW x (av 5).1).2=12:=rfl;rw [qh hf,h2];rw [h2] at z;generalize hg:(bW x (av 5).1).1=g1 at *;have HG:=V z;clear z;obtain ⟨im,iq⟩:∃ im,g1 * 2 ^ (av 5).2 % 4294967296=im:=⟨_,rfl⟩;have D:im<4294967296:=by rw [<- iq];exact dy _ O
 have HS:=V (λW=>oW im 13 W D ⟨by omega,by omega⟩);rw [iq];have e1:(g1:Int) * 2 % 4294967296=((im:Nat):Int):=by
  rw [<- iq,show (av 5).2=1 from rfl];omega
 have e2:2=1->(g1:Int)=((im:Nat):Int):=λh=>by omega
 exact Cr
end
end Go.Proofs.YtgnomadgnciifaaGreatDoor
