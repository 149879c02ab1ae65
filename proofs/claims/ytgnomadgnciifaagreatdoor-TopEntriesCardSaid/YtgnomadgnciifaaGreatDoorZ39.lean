/- . -/
import Derived.Test.YtgnomadgnciifaaGreatDoorZ32
import Derived.Test.YtgnomadgnciifaaGreatDoorZ35
set_option linter.all false
set_option maxRecDepth 100000
set_option maxHeartbeats 16000000
namespace Go.Proofs.YtgnomadgnciifaaGreatDoor
open Go.Proofs.Tryz
def FV {p:Prop} (h:p:=by
 go_wp2_with ((try refine zs ?_);(first|refine rJ ?_|(refine sZ ?_;clear E;intro Z J E)|(refine aq ?_;clear E;intro vN J E)));go_roundw;case rel=>exact ⟨j+1,by omega,by go_num,⟨by rw [hn2.out];exact E.drop 0⟩⟩
 case measure=>exact zM):p:=h
section
open Go.RowKit Wd
def ZU {α:Type} (f:α->Nat->α) (a:α) (n:Nat):(List.range (n+1)).foldl f a=f ((List.range n).foldl f a) n:=by rw [List.range_succ,yv];rfl
def kV (regs:List Nat) (j:Nat) (q:List En):List En:=(List.range j).foldl (storeAt regs) q
def MG {regs j q}(h:dp q):dp (kV regs j q)/\(kV regs j q).length=q.length:=DM _ h
inductive MQ (w0:World) (D0 D:List Da) (M:List Mu) (g:Nat) (k:ak) (s:em) (q:List En) (w:World):Prop
 | mk (E:St w0 D0 w (.blk g 81 (ao k s) :: .row s.robA 54 (ens q)::M) (kD k s++D))
def i5f {w0 w D0 D M g k a b B}(hk:KOk B k)(hL:∀ e∈k.rob,l9 e.left)(hX:MX w0 D0 D M g k a b w):Ca 32 #[.pointer (some ⟨g,0,none⟩)] w λx w'=>(∃ y,x = .returned y)/\MX w0 D0 D M g (bQ k) a b w':=by
 obtain ⟨s,i8,ha,al,⟨E⟩⟩:=hX;have hS:=E;by_cases hh:¬ k.halt=0
 .have hR:Hid (bQ k=k):=V (by unfold bQ;rw [aa hh])
  have aH:=V (show decide (¬ k.halt=0)=true by simpa using hh);clear hh;(simp only [kD,zL] at E);go_enter func32,ntmps32;go_wp2_with ((try refine zs ?_);(first|refine rJ ?_|(refine sZ ?_;clear E;intro Z J E)|(refine aq ?_;clear E;intro vN J E)));refine bc (kw F _ _ _) F ⟨⟨_,rfl⟩,?_⟩;rw [hR.out];exact ⟨s,i8,ha,al,⟨hS⟩⟩
 have hR:Hid (bQ k=match kz (kV k.regs k.rob.length (k.rob.map goE)) with
  | none=>{ k with rob:=kV k.regs k.rob.length (k.rob.map goE) }
  | some i=>match (kV k.regs k.rob.length (k.rob.map goE))[i]? with
   | none=>{ k with rob:=kV k.regs k.rob.length (k.rob.map goE) }
   | some e=>{ k with rob:=jk (kV k.regs k.rob.length (k.rob.map goE)) i e,fetch:=e.next,fetched:=[],stop:=false }):=V (by
  unfold bQ kV kp;rw [Y hh,gq]
  rfl)
 have aH:=V (show decide (¬ k.halt=0)=false by simpa using hh);clear hh hS;have aV:=hk.roblen;have j6:=i8.robC;(simp only [kD,zL] at E);go_enter func32,ntmps32;go_wp2_with ((try refine zs ?_);(first|refine rJ ?_|(refine sZ ?_;clear E;intro Z J E)|(refine aq ?_;clear E;intro vN J E)));go_loopw [23] (λi wr=>∃ j:Nat,j<=k.rob.length/\i = I (j:Int)/\MQ w0 D0 D M g k s (lM goE j k.rob) wr) (λi _=>k.rob.length - (intOf i).toNat);case atStart=>exact ⟨0,by omega,rfl,⟨E⟩⟩
 case round=>
  clear E;obtain ⟨j,hj,rfl,⟨E⟩⟩:=hrel;(simp only [kD,zL] at E);by_cases aD:j<k.rob.length
  .obtain ⟨e,R⟩:∃ e,k.rob[j]?=some e:=⟨_,ba aD⟩
   have hu:=B4 (f:=goE) R;have he:=hk.rob e (aQ R);have DC:=V (λW=>Pi e W he.op (hL e (aQ R)));have iu:=BH (f:=goE) R;have G:=Fo goE j k.rob;obtain ⟨q,hq⟩:∃ q,lM goE j k.rob=q:=⟨_,rfl⟩;obtain ⟨f,hf⟩:∃ f,goE e=f:=⟨_,rfl⟩;rw [hq] at E hu iu G;rw [hf] at DC iu;have il:0<(ens q).length:=by rw [kA];omega
   have hP:=E.rowP dD il;have aI:j<q.length:=by omega
   replace iu:=V iu;clear hq hf R he hR;go_upto_region 4 with ((try refine zs ?_);(first|refine rJ ?_|(refine sZ ?_;clear E;intro Z J E)|(refine aq ?_;clear E;intro vN J E)));refine bA aj E [.blk _ 54 e.cells,.blk g 81 (ao k s)] _ cM (λ_ h=>h) ?_;clear E;intro E z;refine an 0 z ?_;refine zp 1 z ?_;refine az 2 z ?_;refine az 3 z ?_;refine dx 4 z ?_;refine an 5 z ?_;refine dx 6 z ?_;refine aB 7 (λK X=>?_);go_wp2_with ((first|(refine UR ?_;clear E;intro J E)|((refine kx F E F F ?_);clear E;intro J E;(try refine zs ?_))));have z:=aO z E;refine X.out _ _ z ?_;clear X;refine zs ?_;refine qT 8 z ?_;refine aB 9 (λK X=>?_);go_wp2_with ((first|(go_at_call 69;refine aG E (DC.out _) ?_;clear E;intro J E)|((refine kx F E F F ?_);clear E;intro J E;(try refine zs ?_))|(refine bz F E F F ?_;clear E;intro J E)|(refine aW F E F F ?_;clear E;intro J E)|(refine ju F E F F ?_;clear E;intro J E));refine zs ?_);have z:=aO z E;refine X.out _ _ z ?_;clear X;refine zs ?_;refine bt ?_
   (skip)
   go_wp2;go_roundw;case rel=>exact ⟨j+1,by omega,by go_num,⟨by rw [<- iu.out];exact E.drop 0⟩⟩
   case measure=>exact zM
  .obtain rfl:j=k.rob.length:=by omega
   rw [Fz] at E;obtain ⟨q0,ac⟩:∃ q0,k.rob.map goE=q0:=⟨_,rfl⟩;have aP:q0.length=k.rob.length:=by rw [<- ac,gq]
   have aE:dp q0:=by rw [<- ac];exact hk.rob.map λe h=>FR h
   rw [ac] at E hR;clear ac;go_wp2_with ((try refine zs ?_);(first|refine rJ ?_|(refine sZ ?_;clear E;intro Z J E)|(refine aq ?_;clear E;intro vN J E)));go_loopw [44] (λi wr=>∃ j:Nat,j<=k.rob.length/\i = I (j:Int)/\MQ w0 D0 D M g k s (kV k.regs j q0) wr) (λi _=>k.rob.length - (intOf i).toNat);case atStart=>exact ⟨0,by omega,rfl,⟨E⟩⟩
   case round=>
    clear E;obtain ⟨j,hj,rfl,⟨E⟩⟩:=hrel;(simp only [kD,zL] at E);have G:=(MG (regs:=k.regs) (j:=j) aE).2;have C:=(MG (regs:=k.regs) (j:=j) aE).1;have L:kV k.regs (j+1) q0=storeAt k.regs (kV k.regs j q0) j:=ZU _ _ _;rw [aP] at G;by_cases aD:j<k.rob.length
    .obtain ⟨q,hq⟩:∃ q,kV k.regs j q0=q:=⟨_,rfl⟩
     rw [hq] at E G C L;clear hq hR;obtain ⟨e,hu⟩:∃ e,q[j]?=some e:=⟨_,ba O⟩;have he:=C e (aQ hu);have HK:=λW=>ec e.inst W he.op
     have vz:=V (λW=>xB e.inst W);have Q:(ens q).length=k.rob.length * 17:=by rw [kA,G]
     have il:0<(ens q).length:=by omega
     have hP:=E.rowP dD il;have aI:j<q.length:=by omega
     by_cases h4:ae e.inst.op=4
     .rw [h4] at HK
      have mW:=V (λ(W:World) (h:Rd W W.heap.size 17 s.robA k.rob.length s.robC (ens q))=>show Ca 45 #[.slice s.robA k.rob.length s.robC,mP k s,I (j:Int),I e.inst.rs2] W _ from by rw [vB hk.rlen];exact zz s.robA k.rob.length s.robC q k.regs j e.inst.rs2 W h C hk.rlen pB he.rs2);have ad:=Co (q:=q) (regs:=k.regs) (i:=(j:Int)) (reg:=e.inst.rs2) C hk.regs;have hn2:kV k.regs (j+1) q0=if (eg q k.regs j e.inst.rs2).2=true then q.set j (jm e (eg q k.regs j e.inst.rs2).1) else q:=by
       rw [L];unfold storeAt;rw [hu];dsimp only;rw [Y (by rw [h4];decide)]
      obtain ⟨v,there,aF⟩:∃ v there,eg q k.regs (j:Int) e.inst.rs2=(v,there):=⟨_,_,rfl⟩;rw [aF] at mW ad hn2;dsimp only at mW ad hn2;unfold mP at mW;have lf:=V (λW=>Zq e v W he.op ad);obtain ⟨f,hf⟩:∃ f,jm e v=f:=⟨_,rfl⟩;rw [hf] at lf hn2;replace HK:=V HK;replace hn2:=V hn2;replace C:=V C;clear aF hf L h4 he ad;go_upto_region 11 with ((try refine zs ?_);(first|refine rJ ?_|(refine sZ ?_;clear E;intro Z J E)|(refine aq ?_;clear E;intro vN J E)));refine bA aj E _ _ (λ_ h=>h) (λ_ h=>h) ?_;clear E;intro E z;refine an 0 z ?_;refine zp 1 z ?_;refine az 2 z ?_;refine az 3 z ?_;refine dx 4 z ?_;refine an 5 z ?_;refine zp 6 z ?_;refine az 7 z ?_;refine az 8 z ?_;refine dx 9 z ?_;refine an 10 z ?_;refine an 11 z ?_;refine aB 12 (λK X=>?_);go_wp2_with ((go_at_call 45;refine E.cB (mW.out _ (E.rowRd bx Q ag j6 i8.robM)) ?_;clear E;intro J E));have z:=aO z E;refine X.out _ _ z ?_;clear X;refine zs ?_;refine an 13 z ?_;refine zp 14 z ?_;refine zp 15 z ?_;refine cA 16 z ?_;refine cA 17 z ?_;refine bt ?_
      (skip)
      cases there
      .replace hn2:=V (show kV k.regs (j+1) q0=q from hn2.out)
       exact FV
      .replace hn2:=V (show kV k.regs (j+1) q0=q.set j f from hn2.out)
       go_upto_region 13 with ((try refine zs ?_);(first|refine rJ ?_|(refine sZ ?_;clear E;intro Z J E)|(refine aq ?_;clear E;intro vN J E)));refine bA aj E [.blk _ 54 e.cells,.blk g 81 (ao k s)] _ cM (λ_ h=>h) ?_;clear E;intro E z;refine an 0 z ?_;refine zp 1 z ?_;refine az 2 z ?_;refine az 3 z ?_;refine dx 4 z ?_;refine an 5 z ?_;refine dx 6 z ?_;refine an 7 z ?_;refine aB 8 (λK X=>?_);go_wp2_with ((first|(refine Zi ?_;clear E;intro J E)|((refine kx F E F F ?_);clear E;intro J E;(try refine zs ?_))));have z:=aO z E;refine X.out _ _ z ?_;clear X;refine zs ?_;refine qT 9 z ?_;refine aB 10 (λK X=>?_);go_wp2_with ((first|(go_at_call 70;refine aG E (lf.out _) ?_;clear E;intro J E)|((refine kx F E F F ?_);clear E;intro J E;(try refine zs ?_))|(refine bz F E F F ?_;clear E;intro J E)|(refine aW F E F F ?_;clear E;intro J E)|(refine ju F E F F ?_;clear E;intro J E));refine zs ?_);have z:=aO z E;refine X.out _ _ z ?_;clear X;refine zs ?_;refine bt ?_
       (skip)
       go_wp2;go_roundw;case rel=>exact ⟨j+1,by omega,by go_num,⟨by rw [hn2.out];exact E.drop 0⟩⟩
       case measure=>exact zM
     .have hn2:=V (show kV k.regs (j+1) q0=q by rw [L];unfold storeAt;rw [hu];dsimp only;rw [aa h4])
      obtain ⟨κ,hκ⟩:∃ κ,ae e.inst.op=κ:=⟨_,rfl⟩;rw [hκ] at HK h4;have aX:=V (show decide (¬ κ=4)=true by simpa using h4);replace HK:=V HK;clear hκ h4 L he C;exact FV
    .obtain rfl:j=k.rob.length:=by omega
     obtain ⟨q,hq⟩:∃ q,kV k.regs k.rob.length q0=q:=⟨_,rfl⟩;rw [hq] at E G C hR;clear hq L;have Q:(ens q).length=k.rob.length * 17:=by rw [kA,G]
     have H:=λ(W:World) (h:Rd W W.heap.size 17 s.robA k.rob.length s.robC (ens q))=>GF s.robA k.rob.length s.robC q W h C
     cases kh:kz q with
     | none=>
      rw [kh] at hR;replace hR:=V (show bQ k={ k with rob:=q } from hR.out);have ab:rj q = -1:=by unfold rj;rw [kh]
      rw [ab] at H;replace H:=V H;clear kh ab;go_wp2_with ((try refine zs ?_);(first|refine Jh ?_|(go_at_call 11;refine E.cB (H.out _ (E.rowRd bx Q ag j6 i8.robM)) ?_;clear E;intro J E)|(go_at_call 71;refine (ap.out _ (E.rowRd bx Q ag j6 i8.robM)).mono ?_;rintro y J ⟨v,rfl,hb,ho⟩;replace E:=E.pushOwn hb ho;clear hb ho;obtain ⟨A2,c2,rfl,hc1,aN,ic⟩:=E.ownRow aC;clear E;have E:=ic;clear ic;(try simp only [zF] at E))|(refine v9 ?_;clear E;intro Z J E)|(refine aq ?_;clear E;intro vN J E)));go_end0;refine ⟨⟨_,rfl⟩,?_⟩;rw [hR.out];exact ⟨s,⟨i8.data,i8.words,by show q.length<=_;rw [G];exact j6,i8.robM,i8.feO,i8.stO,i8.reO⟩,ha,al,⟨by rw [su q G];exact E⟩⟩
     | some i=>
      have hil:i<q.length:=by
       unfold kz at kh;exact (z4.1 kh).1
      obtain ⟨e,hu⟩:∃ e,q[i]?=some e:=⟨_,ba hil⟩;rw [kh] at hR;replace hR:=hR.out;dsimp only at hR;rw [hu] at hR;dsimp only at hR;replace hR:=V hR;have ab:rj q=(i:Int):=by unfold rj;rw [kh]
      rw [ab] at H;replace H:=V H;have aY:=V (show decide ((0:Int)<=(i:Int))=true by simp);have hin:i<k.rob.length:=by omega
      have il:0<(ens q).length:=by omega
      have ap:=V (λ(W:World) (h:Rd W W.heap.size 17 s.robA k.rob.length s.robC (ens q))=>YP s.robA k.rob.length s.robC q i e W h O hu);have av:(jk q i e).length=i+1:=by unfold jk;rw [ea,cK];simp;omega
      have hnxt:(ens q)[i * 17+11]?=some (U (e.next:Int)):=Rows.el (f:=ens) hu F;obtain ⟨q2,aw⟩:∃ q2,jk q i e=q2:=⟨_,rfl⟩;rw [aw] at ap av;replace hR:=hR.out;rw [aw] at hR;replace hR:=V hR;clear kh ab aw C;go_wp2_with ((try refine zs ?_);(first|refine Jh ?_|(go_at_call 11;refine E.cB (H.out _ (E.rowRd bx Q ag j6 i8.robM)) ?_;clear E;intro J E)|(go_at_call 71;refine (ap.out _ (E.rowRd bx Q ag j6 i8.robM)).mono ?_;rintro y J ⟨v,rfl,hb,ho⟩;replace E:=E.pushOwn hb ho;clear hb ho;obtain ⟨A2,c2,rfl,hc1,aN,ic⟩:=E.ownRow aC;clear E;have E:=ic;clear ic;(try simp only [zF] at E))|(refine v9 ?_;clear E;intro Z J E)|(refine aq ?_;clear E;intro vN J E)));go_end0;refine ⟨⟨_,rfl⟩,?_⟩;rw [hR.out];rw [GC (k:=k) (s:=s),xh q2 av,ve (n:=0) [] F,Be] at E;refine ⟨{ s with robA:=A2,robC:=c2,feA:=none,feC:=0 },⟨i8.data,i8.words,by show q2.length<=c2;rw [av];exact hc1,aN,i8.feO,i8.stO,i8.reO⟩,λ_=>rfl,al,⟨?_⟩⟩;have aR:=(((E.front 1 dD).drop 2).nilZ 2);refine aR.lessD ?_;simp only [kD,i8.feO,bO,zL];exact lN
end
end Go.Proofs.YtgnomadgnciifaaGreatDoor
