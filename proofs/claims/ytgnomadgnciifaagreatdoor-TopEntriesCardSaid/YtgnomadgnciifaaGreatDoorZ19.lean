/- . -/
import Derived.Test.YtgnomadgnciifaaGreatDoorZ16
set_option linter.all false
set_option maxRecDepth 100000
set_option maxHeartbeats 16000000
namespace Go.Proofs.YtgnomadgnciifaaGreatDoor
open Go.Proofs.Tryz
section
open Go.RowKit Wd
section
variable (A:Option Addr) (n c:Nat) (q:List En) (no:Int) (pc gs:Nat) (Ap:Option Addr) (np cp:Nat) (prog:List Nat) (w:World) (G:n<=1000) (H:n<=c) (j0:Hid (q.length=n))
 (E:St w [ab 17 A n c (ens q),ab 1 Ap np cp (ai prog),eG] w [] [ab 17 A n c (ens q),ab 1 Ap np cp (ai prog),eG])
include G H j0 E
theorem Qy (Z':En) (x:Nat) (op:Int) (rd rs1 rs2:Int) (imm:Nat)  (hE:Z'=⟨no,pc,lF,gs,3,0,0,0,0,2,0,false,false⟩)(iO:Hid (∀ W,Rd W W.heap.size 1 Ap np cp (ai prog)->Ca 79 #[.slice Ap np cp,U (pc:Int)] W (RB W (.tuple #[U (x:Int),.bool true]))))(dz:Hid (∀ W,Rd W W.heap.size 1 (some ⟨0,0,none⟩) 49 49 (ai ci)->Ca 138 #[U (x:Int)] W (RB W (.tuple #[.agg #[I op,I rd,I rs1,I rs2,U (imm:Int)],I 20])))):Ca 78 #[.slice A n c,I no,.agg #[U (pc:Int),U (gs:Int)],.slice Ap np cp] w λx w'=>∃ v,x = .returned v/\af w w'/\w'.ownsRow w.heap.size 54 17 v (n+1) (ens (q++[Z'])):=by
 have ja:=V (show ens (q++[Z'])=ens q++Z'.cells by unfold ens;rw [sV];simp);subst hE;(go_enter func78,ntmps78);go_upto_region 16 with ((try refine zs ?_);(first|refine fa ?_|(refine wZ ?_;clear E;intro Z J E)|(refine aq ?_;clear E;intro vN J E)|((refine jd F E F F ?_ (i8:=ce F));clear E;intro J E;(try simp only [spl,fL,jr,Nat.reduceAdd] at E))));replace E:=E.clip (N:=n) (ej _) (aM _);rw [cD vL] at E;refine bA aj E _ _ (λ_ h=>h) (λ_ h=>h) ?_;clear E;intro E z;refine an 0 z ?_;refine an 1 z ?_;refine jf 2 z ?_;refine an 3 z ?_;refine jf 4 z ?_;refine va 5 z ?_;refine lW 6 z ?_;refine aB 7 (λK X=>?_);go_wp2_with ((first|(refine iD F E F ?_;clear E;intro Z J E)|(refine nU F E ?_;clear E;intro Z J E));refine zs ?_);have z:=z.nextA E;refine X.out _ _ z ?_;clear X;refine zs ?_;refine aB 8 (λK X=>?_);go_wp2_with ((first|((refine tU F E F F ?_);clear E;intro vN J E;(try refine zs ?_))|((first|refine aL ?_|(refine am ?_;clear E;intro Z J E));refine zs ?_)));have z:=z.nextA E;refine X.out _ _ z ?_;clear X;refine zs ?_;refine cA 9 z ?_;refine bt ?_;(go_wp2;go_ret;exact ⟨_,rfl,E.bel,by rw [ja.out];exact E.ownAt aC⟩)
end
end
section
open Go.RowKit Wd
def yo : Rq:=⟨0,0,0,⟨#[]⟩⟩
def RK (o:Option Rq):Rq:=match o with|some r=>r|none=>yo
def Ul (q:List Rq) (line:Nat) (k:Int):ur q line [k]=kN q line k:=by
 unfold ur kN;congr 1;funext r
 simp
def RW (q):mL q=rX q:=by
 induction q with
 | nil=>rfl
 | cons r q ih=>
  show (if r.kind=4 then 0 else 1)+mL q=_;rw [ih];unfold rX;rw [pQ];by_cases h:r.kind=4
  .simp [h]
  .simp [h];omega
def lC (A:Option Addr) (n c:Nat) (q:List Rq) (line:Nat) (k:Int) (A':Option Addr) (c':Nat) (w:World) (hr:Rd w w.heap.size 4 A n c (bg q)) (hk:Rd w w.heap.size 1 A' 1 c' [I k]) :Ca 81 #[.slice A n c,U (line:Int),.slice A' 1 c'] w (RB w (.bool (kN q line k))):=by
 rw [<- Ul];exact T1 A n c q line A' 1 c' [k] w hr hk
def P5 (A n c q w)(hr:Rd w w.heap.size 4 A n c (bg q)):Ca 141 #[.slice A n c] w (RB w (I (rX q:Int))):=by
 rw [<- RW];exact ZH A n c q w hr
def RV (A:Option Addr) (c:Nat) (w:World) :Ca 62 #[.slice A 0 c] w (RB w (.tuple #[.slice A 0 c,yo.val,.bool false])):=by
 have E:=St.start w [] zN;go_enter func62,ntmps62;go_wp2_with ((try refine zs ?_);(first|refine fa ?_|(refine bJ ?_;clear E;intro Z J E)|(refine aq ?_;clear E;intro vN J E)));refine bc (uQ F E) F ?_;exact ⟨rfl,E.bel⟩
def h9j (A:Option Addr) (c:Nat) (kind:Int) (line:Nat) (left:Int) (data:ByteArray) (q:List Rq) (w:World) (hr:Rd w w.heap.size 4 A (q.length+1) c (bg (⟨kind,line,left,data⟩::q))) (hn:q.length<=1000000) (hl : I6 left) (h0:0<left - 1) :Ca 62 #[.slice A (q.length+1) c] w λe w'=>∃ A2 c2,e = .returned (.tuple #[.slice A2 (q.length+1) c2,yo.val,.bool false])/\Out w [ab 4 A (q.length+1) c (bg (⟨kind,line,left,data⟩::q))] w' [ab 4 A2 (q.length+1) c2 (bg (⟨kind,line,left - 1,data⟩::q))]:=by
 have E:=St.start w [ab 4 A (q.length+1) c (bg (⟨kind,line,left,data⟩::q))] (zC hr zN);have hc1:=hr.le;have aN:=hr.mx;unfold maxLen at aN;have il:(bg (⟨kind,line,left,data⟩::q)).length=(q.length+1) * 4:=hr.len;have h2:2<(bg (⟨kind,line,left,data⟩::q)).length:=by omega
 have h02:decide (0<left - 1)=true:=by simpa using h0
 obtain ⟨n,C⟩:∃ n,q.length+1=n:=⟨_,rfl⟩;rw [C] at E hc1 il ⊢;have eW:0<n:=by omega
 have hn2:n<=1000001:=by omega
 have hb0:((n:Int) == 0)=false:=by rw [pI];omega
 clear hr hn C;go_enter func62,ntmps62;go_wp2_with ((try refine zs ?_);(first|refine fa ?_|(refine M2 ?_;clear E;intro Z J E)|(refine aq ?_;clear E;intro vN J E)));replace E:=E.freezeB 0 aC 4 n n (by rw [cw];exact il) (aM _) eT;(try simp only [zF] at E);refine bc (uQ F E) F ?_;exact ⟨_,_,rfl,E.outA⟩
def VZ (A:Option Addr) (c:Nat) (kind:Int) (line:Nat) (left:Int) (data:ByteArray) (q:List Rq) (w:World) (hr:Rd w w.heap.size 4 A (q.length+1) c (bg (⟨kind,line,left,data⟩::q))) (hn:q.length<=1000000) (hl : -9223372036854775807<=left/\left<=9223372036854775807) (h0:¬ 0<left - 1) :Ca 62 #[.slice A (q.length+1) c] w λe w'=>∃ A2 c2,e = .returned (.tuple #[.slice A2 q.length c2,(⟨kind,line,left - 1,data⟩:Rq).val,.bool true])/\Out w [ab 4 A (q.length+1) c (bg (⟨kind,line,left,data⟩::q))] w' [ab 4 A2 q.length c2 (bg q)]:=by
 have E:=St.start w [ab 4 A (q.length+1) c (bg (⟨kind,line,left,data⟩::q))] (zC hr zN);have hc1:=hr.le;have aN:=hr.mx;unfold maxLen at aN;have il:(bg (⟨kind,line,left,data⟩::q)).length=(q.length+1) * 4:=hr.len;have h2:2<(bg (⟨kind,line,left,data⟩::q)).length:=by omega
 have h02:decide (0<left - 1)=false:=by simpa using h0
 obtain ⟨n,C⟩:∃ n,q.length+1=n:=⟨_,rfl⟩;have j0:n - 1=q.length:=by omega
 rw [C] at E hc1 il ⊢;have eW:0<n:=by omega
 have h1n:1<=n:=by omega
 have hn2:n<=1000001:=by omega
 have hb0:((n:Int) == 0)=false:=by rw [pI];omega
 replace j0:=V j0;clear hr hn C;go_enter func62,ntmps62;go_upto_region 8 with ((try refine zs ?_);(first|refine fa ?_|(refine M2 ?_;clear E;intro Z J E)|(refine aq ?_;clear E;intro vN J E)));replace E:=E.freezeB 0 aC 4 n n (by rw [cw];exact il) (aM _) eT;(try simp only [zF] at E);change St _ _ _ _ (ab 4 _ n n (bg (⟨kind,line,left - 1,data⟩::q))::_) at E;have j9:∀ (i:Nat) (u:Value),([I kind,U (line:Int),I (left - 1),.string data]:List Value)[i]?=some u->(bg (⟨kind,line,left - 1,data⟩::q))[0+i]?=some u:=by
  intro i u h;have:=Rows.sub (f:=bg) (q:=⟨kind,line,left - 1,data⟩::q) (k:=0) F i u h
  rwa [tY] at this
 refine bA aj E [] _ cM (λ_ h=>h) ?_;clear E;intro E z;refine an 0 z ?_;refine rG 1 z ?_;refine an 2 z ?_;refine pz 3 z ?_;refine cA 5 z ?_;refine aB 4 (λK X=>?_);go_wp2_with ((first|(refine bP F E F ?_)|(refine cV F E F ?_)|(refine sk F E F ?_)|(refine fA (us:=[I kind,U (line:Int),I (left - 1),.string data]) (hu:=j9) F E F ?_)|(refine vP F E F ?_));(try refine zs ?_));have z:=z.nextA E;refine X.out _ _ z ?_;clear X;refine zs ?_;refine aB 6 (λK X=>?_);go_wp2_with (refine iP ?_;clear E;intro J E;(try refine zs ?_));have z:=z.nextA E;refine X.out _ _ z ?_;clear X;refine zs ?_;refine cA 7 z ?_;refine bt ?_;(go_wp2;(replace E:=E.fromPart (k:=1) (ej _) h1n);(refine bc (uQ F E) F ?_);exact ⟨_,_,by rw [<- j0.out];rfl,by rw [<- j0.out];exact E.outA⟩)
def VT (A n c q w)(hr:Rd w w.heap.size 4 A n c (bg q))(hn:n<=1000000)(hl:∀ r∈q,-9223372036854775807<=r.left/\r.left<=9223372036854775807):Ca 62 #[.slice A n c] w λe w'=>∃ A2 c2,e = .returned (.tuple #[.slice A2 (bU q).1.length c2,(RK (bU q).2).val,.bool (bU q).2.isSome])/\Out w [ab 4 A n c (bg q)] w' [ab 4 A2 (bU q).1.length c2 (bg (bU q).1)]:=by
 obtain rfl:=hr.rqslen;cases q with
 | nil=>
  refine (RV A c w).mono ?_;rintro e w' ⟨rfl,hb⟩;refine ⟨A,c,rfl,hb,λd hd=>?_,λd hd=>?_⟩
  .obtain rfl:=dm.1 hd
   exact hr.bel hb
  .obtain rfl:=dm.1 hd
   exact From.self (dm.2 F)
 | cons r q=>
  obtain ⟨kind,line,left,data⟩:=r;rw [ft] at hr hn;have rH:=hl _ (ee ..);dsimp only at rH;by_cases h:0<left - 1
  .rw [show bU (⟨kind,line,left,data⟩::q)=(⟨kind,line,left - 1,data⟩::q,none) from aa h]
   refine (h9j A c kind line left data q w hr O O h).mono ?_;rintro e w' ⟨A2,c2,rfl,D⟩;exact ⟨A2,c2,rfl,D⟩
  .rw [show bU (⟨kind,line,left,data⟩::q)=(q,some ⟨kind,line,left - 1,data⟩) from Y h]
   refine (VZ A c kind line left data q w hr O rH h).mono ?_;rintro e w' ⟨A2,c2,rfl,D⟩;exact ⟨A2,c2,rfl,D⟩
end
end Go.Proofs.YtgnomadgnciifaaGreatDoor
