/- . -/
import Derived.Test.YtgnomadgnciifaaGreatDoorZ44
import Derived.Test.YtgnomadgnciifaaGreatDoorZ11
set_option linter.all false
set_option maxRecDepth 100000
set_option maxHeartbeats 16000000
namespace Go.Proofs.YtgnomadgnciifaaGreatDoor
open Go.Proofs.Tryz
def Eg {p:Prop} (h:p:=by
 go_roundw;case rel=>exact ⟨j+1,by omega,by go_num,by rw [ad.out];simp,⟨by rw [G.out,al.out];(exact E.drop 2)⟩⟩
 case measure=>exact zM):p:=h
section
open Go.RowKit Wd
def jL {α β:Type} (f:α->β) (z:β) (j:Nat) (q:List α):List β:=(q.take j).map f++List.replicate (q.length - j) z
section
variable {α β:Type} {f:α->β} {z:β} {j:Nat} {q:List α} {e:α}
def Cz (h:j<=q.length):(jL f z j q).length=q.length:=by simp [jL];omega
def H5 : jL f z q.length q=q.map f:=by simp [jL]
def Ee (h:q[j]?=some e):(jL f z j q).set j (f e)=jL f z (j+1) q:=by
 obtain ⟨hl,he⟩:=aK.1 h;unfold jL;obtain ⟨n,hn⟩:∃ n,q.length - j=n+1:=⟨q.length - j - 1,by omega⟩;rw [oV _ _ eX,hn,show q.length - (j+1)=n by omega,List.replicate_succ];simp only [gq,cK,kZ (Nat.le_of_lt hl),uL,fL];rw [iE hl,he,nM,lc];rfl
def i6a (h:q[j]?=some e):(jL f z (j+1) q)[j]?=some (f e):=by
 rw [<- Ee h];have:=(aK.1 h).1;exact jQ (by rw [Cz O];exact this)
def Lo : jL f z 0 q=List.replicate q.length z:=by simp [jL]
end
def Dj (n:Nat):(madeCells (Value.int .i64 0).cells (n * 1)).toList=aE (List.replicate n 0):=by
 rw [show (Value.int .i64 0).cells=#[Value.int .i64 0] from rfl,vx,dP];simp [aE]
def B2 (n:Nat):(madeCells (Value.bool false).cells (n * 1)).toList=bls (List.replicate n false):=by
 rw [show (Value.bool false).cells=#[Value.bool false] from rfl,vx,dP];simp [bls]
def Vt (l:List Bool) (k:Nat) (x:Bool):(bls l).set (k * 1) (.bool x)=bls (l.set k x):=by rw [dP];simp [bls,List.map_set]
def uN (e:En):Bool:=decide (ae e.inst.op=2) && decide (e.is=1)
def pq (e:En):Int:=ae e.inst.op
def i6c {p:En->Bool}{q:List En}{j e}(h:q[j]?=some e):(q.take (j+1)).any p=((q.take j).any p || p e):=by
 obtain ⟨hl,he⟩:=aK.1 h;rw [iE hl,he,List.any_append]
 simp
def Ip {width:Int} {kinds:List Int}:∀ (cs:List Bool) (i:Nat) (n:Int) (d m:Bool),∀ x∈eK width kinds cs i n d m,(i:Int)<=x/\x<i+cs.length
 | [],_,_,_,_,x,h=>by cases h
 | c::r,i,n,d,m,x,h=>by
  have ih:=λ(n:Int) (d m:Bool) (h:x∈eK width kinds r (i+1) n d m)=>Ip (width:=width) (kinds:=kinds) r (i+1) n d m x h
  unfold eK at h;rw [ft];split at h
  .cases h
  .split at h
   .have:=ih _ _ _ h;omega
   .dsimp only at h
    split at h
    .have:=ih _ _ _ h;omega
    .rcases bB.1 h with h|h
     .omega
     .have:=ih _ _ _ h;omega
def RY (k:ak) (i:Nat):(fN k i).rob.length=k.rob.length:=by
 unfold fN;split
 .rfl
 .dsimp only
  repeat' split
  all_goals first|rfl|exact cw
def XB (k:ak) (i:Nat):(startK k i).rob.length=k.rob.length:=by
 unfold startK;split
 .rfl
 .dsimp only
  split
  .exact cw
  .split
   .rw [RY];exact cw
   .exact cw
def JR {l k x}(h:l[k]?=some x):(aE l)[k * 1]?=some (I x):=by rw [dP];exact pA h
def MX.dropD {w0 w D0 D d M g k a b}(h:MX w0 D0 (d::D) M g k a b w):MX w0 D0 D M g k a b w:=by
 obtain ⟨s,i8,ha,hb,⟨E⟩⟩:=h;refine ⟨s,i8,ha,hb,⟨E.lessD ?_⟩⟩;simp only [kD,zL];exact lN
def i6f (aX:zY){w0 w D0 D M g k a b B}(hk:KOk B k)(hB:B+2<=1000000)(H:MX w0 D0 D M g k a b w):Ca 34 #[.pointer (some ⟨g,0,none⟩)] w λx w'=>(∃ y,x = .returned y)/\MX w0 D0 D M g (dJ k) a b w':=by
 have L:=H;obtain ⟨s,i8,ha,aD,⟨E⟩⟩:=H;by_cases hh:¬ k.halt=0
 .have hR:Hid (dJ k=k):=V (by unfold dJ;rw [aa hh])
  have aY:=V (show decide (¬ k.halt=0)=true by simpa using hh);clear hh;(simp only [kD,zL] at E);go_enter func34,ntmps34;go_wp2_with ((try refine zs ?_);(first|go_big_skip|refine DL ?_|(refine bJ ?_;clear E;intro Z J E)|(refine aq ?_;clear E;intro vN J E)));refine bc (kw F _ _ _) F ⟨⟨_,rfl⟩,?_⟩;rw [hR.out];exact L
 have hR:Hid (dJ k=(eK k.conf.width (k.rob.map pq) ((List.range k.rob.length).map (li k)) 0 0 (k.rob.any uN) false).foldl (λk i=>startK k i.toNat) k):=V (by unfold dJ;rw [Y hh];rfl);have aY:=V (show decide (¬ k.halt=0)=false by simpa using hh);clear hh L;have a5:=hk.roblen;have a6:=hk.cf.width;have j6:=i8.robC;(simp only [kD,zL] at E);go_enter func34,ntmps34;go_wp2_with ((try refine zs ?_);(first|go_big_skip|refine AW ?_|(refine An ?_;clear E;intro gI J E)|(refine Ax ?_;clear E;intro gB J E)|(refine Az ?_;clear E;intro Z J E)|(go_at_call 75;refine (vt hk i8 j e hu ⟨((E.front _ (m:=.row s.robA 54 (ens k.rob)) bx).front _ (m:=.blk g 81 (ao k s)) bx)⟩).mono ?_;rintro x J ⟨hx,⟨ia⟩⟩;rw [C.out] at hx;subst hx;clear E;have E:=ia;clear ia;(try simp only [zF] at E);(simp only [kD,zL] at E))|(refine aq ?_;clear E;intro vN J E)));obtain ⟨gB,gI,rfl,rfl⟩:=E.names2;go_loopw [2,35] (λvb i wr=>∃ j:Nat,j<=k.rob.length/\i = I (j:Int)/\vb = .bool ((k.rob.take j).any uN)/\MQ w0 D0 D (.blk gB 4 (bls (jL (li k) false j (List.range k.rob.length))) :: .blk gI 3 (aE (jL pq 0 j k.rob))::M) g k s k.rob wr) (λvb i _=>k.rob.length - (intOf i).toNat);case atStart=>exact ⟨0,by omega,rfl,rfl,⟨by rw [Lo,Lo,sd];exact (E.front 3 kY).front 3 kY⟩⟩
 case round=>
  clear E;obtain ⟨j,hj,rfl,rfl,⟨E⟩⟩:=hrel;(simp only [kD,zL] at E);by_cases Q:j<k.rob.length
  .obtain ⟨e,hu⟩:∃ e,k.rob[j]?=some e:=⟨_,ba Q⟩
   have he:=hk.rob e (aQ hu);have HK:=λW=>ec e.inst W he.op
   have il:0<(ens k.rob).length:=by rw [kA];omega
   have aI:(List.range k.rob.length)[j]?=some j:=List.getElem?_range Q;have R:=DJ (jL pq 0 j k.rob) j (pq e);have ac:=Vt (jL (li k) false j (List.range k.rob.length)) j (li k j);have hkj:=JR (i6a (f:=pq) (z:=0) hu);have zj:j * 1<(aE (jL pq 0 j k.rob)).length:=by rw [nd,Cz O];omega
   have zi:j * 1<(bls (jL (li k) false j (List.range k.rob.length))).length:=by rw [CM,Cz (by rw [sd];omega),sd];omega
   rw [Ee hu] at R;rw [Ee aI] at ac;have ad:=i6c (p:=uN) hu;obtain ⟨I1,an⟩:∃ I1,jL pq 0 j k.rob=I1:=⟨_,rfl⟩;obtain ⟨I2,G⟩:∃ I2,jL pq 0 (j+1) k.rob=I2:=⟨_,rfl⟩;obtain ⟨C1,ap⟩:∃ C1,jL (li k) false j (List.range k.rob.length)=C1:=⟨_,rfl⟩;obtain ⟨C2,al⟩:∃ C2,jL (li k) false (j+1) (List.range k.rob.length)=C2:=⟨_,rfl⟩;obtain ⟨cn,aF⟩:∃ cn,li k j=cn:=⟨_,rfl⟩;have C:=V aF;have hbe:uN e=(decide (ae e.inst.op=2) && decide (e.is=1)):=rfl;have av:pq e=ae e.inst.op:=rfl;obtain ⟨κ,hκ⟩:∃ κ,ae e.inst.op=κ:=⟨_,rfl⟩;obtain ⟨b2,hb2⟩:∃ b2,decide (κ=2)=b2:=⟨_,rfl⟩;obtain ⟨b1,aJ⟩:∃ b1,decide (e.is=1)=b1:=⟨_,rfl⟩;obtain ⟨b0,hb0⟩:∃ b0,(k.rob.take j).any uN=b0:=⟨_,rfl⟩;rw [hκ] at HK av hbe;rw [hb2,aJ] at hbe;rw [hb0,hbe] at ad;rw [hb0];rw [an,ap] at E;rw [an,G,av] at R;rw [ap,al,aF] at ac;rw [G,av] at hkj;rw [an] at zj;rw [ap] at zi;replace HK:=V HK;replace R:=V R;replace ac:=V ac;replace hb2:=V hb2;replace aJ:=V aJ;replace ad:=V ad;replace G:=V G;replace al:=V al;clear hκ av hbe an ap aF hb0 aI he hR;go_upto_region 8 with ((try refine zs ?_);(first|go_big_skip|refine dU F F F ?_|refine co F F F ?_|refine cT F F F ?_|refine iH F E F F ?_|refine xM F F F ?_|refine bP F E F ?_ (hv:=by with_reducible assumption)|refine lk (us:=e.cells) (v:=e.val) (hu:=Rows.sub (f:=ens) hu) F E F ?_|refine du (v:=e.inst.val) (n:=5) F E F ?_ (hn:=ce F)|refine aL ?_|(refine mb (n:=k.rob.length) F E F F ?_ (he:=Dj _);clear E;intro gI J E)|(refine mb (n:=k.rob.length) F E F F ?_ (he:=B2 _);clear E;intro gB J E)|(refine aW (us:=e.cells) F E F F ?_ (h1:=λu hu=>.inl (e.one u hu));clear E;intro J E)|(go_at_call 39;refine aG E (HK.out _) ?_;clear E;intro J E)|(refine bz F E F F ?_ (iv:=zj);clear E;intro J E)|(refine bz F E F F ?_ (iv:=zi);clear E;intro J E)|(refine ep ?_;clear E;intro Z J E)|(go_at_call 75;refine (vt hk i8 j e hu ⟨((E.front _ (m:=.row s.robA 54 (ens k.rob)) bx).front _ (m:=.blk g 81 (ao k s)) bx)⟩).mono ?_;rintro x J ⟨hx,⟨ia⟩⟩;rw [C.out] at hx;subst hx;clear E;have E:=ia;clear ia;(try simp only [zF] at E);(simp only [kD,zL] at E))|(refine yb ?_;clear E;intro vN J E)));rw [R.out] at E;go_upto_region 9 with ((try refine zs ?_);(first|go_big_skip|refine dU F F F ?_|refine co F F F ?_|refine cT F F F ?_|refine iH F E F F ?_|refine xM F F F ?_|refine bP F E F ?_ (hv:=by with_reducible assumption)|refine lk (us:=e.cells) (v:=e.val) (hu:=Rows.sub (f:=ens) hu) F E F ?_|refine du (v:=e.inst.val) (n:=5) F E F ?_ (hn:=ce F)|refine aL ?_|(refine mb (n:=k.rob.length) F E F F ?_ (he:=Dj _);clear E;intro gI J E)|(refine mb (n:=k.rob.length) F E F F ?_ (he:=B2 _);clear E;intro gB J E)|(refine aW (us:=e.cells) F E F F ?_ (h1:=λu hu=>.inl (e.one u hu));clear E;intro J E)|(go_at_call 39;refine aG E (HK.out _) ?_;clear E;intro J E)|(refine bz F E F F ?_ (iv:=zj);clear E;intro J E)|(refine bz F E F F ?_ (iv:=zi);clear E;intro J E)|(refine ep ?_;clear E;intro Z J E)|(go_at_call 75;refine (vt hk i8 j e hu ⟨((E.front _ (m:=.row s.robA 54 (ens k.rob)) bx).front _ (m:=.blk g 81 (ao k s)) bx)⟩).mono ?_;rintro x J ⟨hx,⟨ia⟩⟩;rw [C.out] at hx;subst hx;clear E;have E:=ia;clear ia;(try simp only [zF] at E);(simp only [kD,zL] at E))|(refine yb ?_;clear E;intro vN J E)));rw [ac.out] at E;cases b2
   .go_wp2_with ((try refine zs ?_);(first|go_big_skip|refine AW ?_|(refine An ?_;clear E;intro gI J E)|(refine Ax ?_;clear E;intro gB J E)|(refine Az ?_;clear E;intro Z J E)|(go_at_call 75;refine (vt hk i8 j e hu ⟨((E.front _ (m:=.row s.robA 54 (ens k.rob)) bx).front _ (m:=.blk g 81 (ao k s)) bx)⟩).mono ?_;rintro x J ⟨hx,⟨ia⟩⟩;rw [C.out] at hx;subst hx;clear E;have E:=ia;clear ia;(try simp only [zF] at E);(simp only [kD,zL] at E))|(refine aq ?_;clear E;intro vN J E)))
    exact Eg
   .cases b1
    .go_wp2_with ((try refine zs ?_);(first|go_big_skip|refine AW ?_|(refine An ?_;clear E;intro gI J E)|(refine Ax ?_;clear E;intro gB J E)|(refine Az ?_;clear E;intro Z J E)|(go_at_call 75;refine (vt hk i8 j e hu ⟨((E.front _ (m:=.row s.robA 54 (ens k.rob)) bx).front _ (m:=.blk g 81 (ao k s)) bx)⟩).mono ?_;rintro x J ⟨hx,⟨ia⟩⟩;rw [C.out] at hx;subst hx;clear E;have E:=ia;clear ia;(try simp only [zF] at E);(simp only [kD,zL] at E))|(refine aq ?_;clear E;intro vN J E)))
     exact Eg
    .go_wp2_with ((try refine zs ?_);(first|go_big_skip|refine AW ?_|(refine An ?_;clear E;intro gI J E)|(refine Ax ?_;clear E;intro gB J E)|(refine Az ?_;clear E;intro Z J E)|(go_at_call 75;refine (vt hk i8 j e hu ⟨((E.front _ (m:=.row s.robA 54 (ens k.rob)) bx).front _ (m:=.blk g 81 (ao k s)) bx)⟩).mono ?_;rintro x J ⟨hx,⟨ia⟩⟩;rw [C.out] at hx;subst hx;clear E;have E:=ia;clear ia;(try simp only [zF] at E);(simp only [kD,zL] at E))|(refine aq ?_;clear E;intro vN J E)))
     exact Eg
  .obtain rfl:j=k.rob.length:=by omega
   have iy:=H5 (f:=li k) (z:=false) (q:=List.range k.rob.length);rw [sd] at iy;rw [H5,iy] at E;rw [lK];clear iy;obtain ⟨ks,aw⟩:∃ ks,k.rob.map pq=ks:=⟨_,rfl⟩;obtain ⟨cs,iy⟩:∃ cs,(List.range k.rob.length).map (li k)=cs:=⟨_,rfl⟩;obtain ⟨b0,hb0⟩:∃ b0,k.rob.any uN=b0:=⟨_,rfl⟩;have aZ:ks.length=k.rob.length:=by rw [<- aw,gq]
   have a0:cs.length=k.rob.length:=by rw [<- iy,gq,sd]
   rw [aw,iy] at E;rw [aw,iy,hb0] at hR;rw [hb0];clear aw iy hb0;replace E:=E.freezeB 2 jh 1 k.rob.length k.rob.length (by rw [CM,a0,dP]) (aM _) eT;(try simp only [zF] at E);replace E:=E.freezeB 2 jh 1 k.rob.length k.rob.length (by rw [nd,aZ,dP]) (aM _) eT;(try simp only [zF] at E);have az:=λ(W:World) (h1:Rd W W.heap.size 1 (some ⟨gI,0,none⟩) k.rob.length k.rob.length (aE ks)) (h2:Rd W W.heap.size 1 (some ⟨gB,0,none⟩) k.rob.length k.rob.length (bls cs))=>RL k.conf.width b0 (some ⟨gI,0,none⟩) k.rob.length k.rob.length ks (some ⟨gB,0,none⟩) k.rob.length cs W h1 h2 O pB
   have aO:=xp (width:=k.conf.width) (kinds:=ks) cs 0 0 b0 false;have aP:=Ip (width:=k.conf.width) (kinds:=ks) cs 0 0 b0 false;obtain ⟨ps,aR⟩:∃ ps,eK k.conf.width ks cs 0 0 b0 false=ps:=⟨_,rfl⟩;rw [aR] at az aO aP hR;have a7:ps.length<=2:=by omega
   replace az:=V az;clear aR aO;go_wp2_with ((try refine zs ?_);(first|go_big_skip|refine DL ?_|(go_at_call 76;refine (az.out _ E.rdA E.rdA).mono ?_;rintro y J ⟨v,rfl,hb,ho⟩;replace E:=E.pushOwn hb ho;clear hb ho;obtain ⟨Ap,cp,rfl,ic⟩:=E.freeze 0 aC;clear E;have E:=ic;clear ic;(try simp only [zF] at E))|(refine bJ ?_;clear E;intro Z J E)|(refine aq ?_;clear E;intro vN J E)));go_loopw [74] (λi wr=>∃ (j:Nat) (k1:ak),j<=ps.length/\i = I (j:Int)/\Hid (dJ k=(ps.drop j).foldl (λk i=>startK k i.toNat) k1)/\KOk (B+j) k1/\k1.rob.length=k.rob.length/\MX w0 D0 (ab 1 Ap ps.length cp (aE ps)::D) M g k1 a b wr) (λi _=>ps.length - (intOf i).toNat);case atStart=>exact ⟨0,k,by omega,rfl,hR,by simpa using hk,rfl,⟨s,i8,ha,aD,⟨E.lessD mU⟩⟩⟩
   case round=>
    clear E hR hk i8 ha aD;obtain ⟨j,k1,hj,rfl,hR,hk1,a1,H⟩:=hrel;have L:=H;obtain ⟨s,i8,ha,aD,⟨E⟩⟩:=H;simp only [kD,zL] at E;by_cases Q:j<ps.length
    .have hx:ps[j]?=some ps[j]:=ba Q
     have aV:=aP _ (aQ hx);have aH:ps.drop j=ps[j]::ps.drop (j+1):=mn Q;obtain ⟨i,hi⟩:∃ i:Nat,ps[j]=(i:Int):=⟨ps[j].toNat,by omega⟩;rw [hi] at hx aV aH;have hx2:=JR hx;have hin:i<k1.rob.length:=by omega
     obtain ⟨e,hu⟩:∃ e,k1.rob[i]?=some e:=⟨_,ba hin⟩;have aB:=hR.out;rw [aH,qX] at aB;replace aB:=V aB;have a2:=hk1.start O i;have a3:=XB k1 i;clear aV aH hi hx hR;go_upto_region 15 with ((try refine zs ?_);(first|go_big_skip|refine dU F F F ?_|refine co F F F ?_|refine cT F F F ?_|refine sk F E F ?_ (hv:=hx2)|refine aL ?_|(refine am ?_;clear E;intro Z J E)));clear E;go_wp2_with (go_at_call 77;refine (i5w aX hk1 i e hu L).mono ?_;rintro x J ⟨⟨y,rfl⟩,a4⟩);go_roundw;case rel=>exact ⟨j+1,_,by omega,by go_num,aB,by rw [show B+((j+1:Nat):Int)=B+(j:Int)+1 by omega];exact a2,by rw [jt,a3,a1],a4⟩
     case measure=>exact zM
    .obtain rfl:j=ps.length:=by omega
     replace hR:=V (show dJ k=k1 by rw [hR.out,List.drop_length];rfl);go_wp2_with ((try refine zs ?_);(first|go_big_skip|refine DL ?_|(refine bJ ?_;clear E;intro Z J E)|(refine aq ?_;clear E;intro vN J E)));go_end0;refine ⟨⟨_,rfl⟩,?_⟩;rw [hR.out];exact L.dropD
end
end Go.Proofs.YtgnomadgnciifaaGreatDoor
