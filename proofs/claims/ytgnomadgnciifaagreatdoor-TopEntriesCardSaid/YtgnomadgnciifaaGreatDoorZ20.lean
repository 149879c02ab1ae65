/- . -/
import Derived.Test.YtgnomadgnciifaaGreatDoorZ16
set_option linter.all false
set_option maxRecDepth 100000
set_option maxHeartbeats 16000000
namespace Go.Proofs.YtgnomadgnciifaaGreatDoor
open Go.Proofs.Tryz
section
open Go.RowKit Wd
section
variable (A:Option Addr) (n c:Nat) (q:List En) (no:Int) (pc gs:Nat) (Ap:Option Addr) (np cp:Nat) (prog:List Nat) (w:World) (C:n<=1000) (D:n<=c) (j0:Hid (q.length=n))
 (E:St w [ab 17 A n c (ens q),ab 1 Ap np cp (ai prog),eG] w [] [ab 17 A n c (ens q),ab 1 Ap np cp (ai prog),eG])
include C D j0 E
theorem Yn (Z':En) (x:Nat)  (rd rs1 rs2:Int) (imm:Nat)  (hE:Z'=⟨no,pc,⟨47,rd,rs1,rs2,imm⟩,gs,3,0,0,0,0,6,0,false,false⟩)(iO:Hid (∀ W,Rd W W.heap.size 1 Ap np cp (ai prog)->Ca 79 #[.slice Ap np cp,U (pc:Int)] W (RB W (.tuple #[U (x:Int),.bool true]))))(dz:Hid (∀ W,Rd W W.heap.size 1 (some ⟨0,0,none⟩) 49 49 (ai ci)->Ca 138 #[U (x:Int)] W (RB W (.tuple #[.agg #[I 47,I rd,I rs1,I rs2,U (imm:Int)],I 0])))):Ca 78 #[.slice A n c,I no,.agg #[U (pc:Int),U (gs:Int)],.slice Ap np cp] w λx w'=>∃ v,x = .returned v/\af w w'/\w'.ownsRow w.heap.size 54 17 v (n+1) (ens (q++[Z'])):=by
 have ja:=V (show ens (q++[Z'])=ens q++Z'.cells by unfold ens;rw [sV];simp);subst hE;(go_enter func78,ntmps78);go_upto_region 16 with ((try refine zs ?_);(first|refine fa ?_|(refine wZ ?_;clear E;intro Z J E)|(refine aq ?_;clear E;intro vN J E)|((refine jd F E F F ?_ (i8:=ce F));clear E;intro J E;(try simp only [spl,fL,jr,Nat.reduceAdd] at E))));replace E:=E.clip (N:=n) (ej _) (aM _);rw [cD vL] at E;refine bA aj E _ _ (λ_ h=>h) (λ_ h=>h) ?_;clear E;intro E z;refine an 0 z ?_;refine an 1 z ?_;refine jf 2 z ?_;refine an 3 z ?_;refine jf 4 z ?_;refine va 5 z ?_;refine lW 6 z ?_;refine aB 7 (λK X=>?_);go_wp2_with ((first|(refine iD F E F ?_;clear E;intro Z J E)|(refine nU F E ?_;clear E;intro Z J E));refine zs ?_);have z:=z.nextA E;refine X.out _ _ z ?_;clear X;refine zs ?_;refine aB 8 (λK X=>?_);go_wp2_with ((first|((refine tU F E F F ?_);clear E;intro vN J E;(try refine zs ?_))|((first|refine aL ?_|(refine am ?_;clear E;intro Z J E));refine zs ?_)));have z:=z.nextA E;refine X.out _ _ z ?_;clear X;refine zs ?_;refine cA 9 z ?_;refine bt ?_;(go_wp2;go_ret;exact ⟨_,rfl,E.bel,by rw [ja.out];exact E.ownAt aC⟩)
end
end
end Go.Proofs.YtgnomadgnciifaaGreatDoor
namespace Go.Proofs.YtgnomadgnciifaaGreatDoor
open Go.Proofs.Tryz
section
open Go.RowKit Wd
section
variable (A:Option Addr) (n c:Nat) (q:List En) (no:Int) (pc gs:Nat) (Ap:Option Addr) (np cp:Nat) (prog:List Nat) (w:World) (C:n<=1000) (D:n<=c) (j0:Hid (q.length=n))
 (E:St w [ab 17 A n c (ens q),ab 1 Ap np cp (ai prog),eG] w [] [ab 17 A n c (ens q),ab 1 Ap np cp (ai prog),eG])
include C D j0 E
theorem TR (Z':En) (x:Nat)  (rd rs1 rs2:Int) (imm:Nat)  (hE:Z'=⟨no,pc,⟨48,rd,rs1,rs2,imm⟩,gs,3,0,0,0,0,7,0,false,false⟩)(iO:Hid (∀ W,Rd W W.heap.size 1 Ap np cp (ai prog)->Ca 79 #[.slice Ap np cp,U (pc:Int)] W (RB W (.tuple #[U (x:Int),.bool true]))))(dz:Hid (∀ W,Rd W W.heap.size 1 (some ⟨0,0,none⟩) 49 49 (ai ci)->Ca 138 #[U (x:Int)] W (RB W (.tuple #[.agg #[I 48,I rd,I rs1,I rs2,U (imm:Int)],I 0])))):Ca 78 #[.slice A n c,I no,.agg #[U (pc:Int),U (gs:Int)],.slice Ap np cp] w λx w'=>∃ v,x = .returned v/\af w w'/\w'.ownsRow w.heap.size 54 17 v (n+1) (ens (q++[Z'])):=by
 have ja:=V (show ens (q++[Z'])=ens q++Z'.cells by unfold ens;rw [sV];simp);subst hE;(go_enter func78,ntmps78);go_upto_region 16 with ((try refine zs ?_);(first|refine fa ?_|(refine wZ ?_;clear E;intro Z J E)|(refine aq ?_;clear E;intro vN J E)|((refine jd F E F F ?_ (i8:=ce F));clear E;intro J E;(try simp only [spl,fL,jr,Nat.reduceAdd] at E))));replace E:=E.clip (N:=n) (ej _) (aM _);rw [cD vL] at E;refine bA aj E _ _ (λ_ h=>h) (λ_ h=>h) ?_;clear E;intro E z;refine an 0 z ?_;refine an 1 z ?_;refine jf 2 z ?_;refine an 3 z ?_;refine jf 4 z ?_;refine va 5 z ?_;refine lW 6 z ?_;refine aB 7 (λK X=>?_);go_wp2_with ((first|(refine iD F E F ?_;clear E;intro Z J E)|(refine nU F E ?_;clear E;intro Z J E));refine zs ?_);have z:=z.nextA E;refine X.out _ _ z ?_;clear X;refine zs ?_;refine aB 8 (λK X=>?_);go_wp2_with ((first|((refine tU F E F F ?_);clear E;intro vN J E;(try refine zs ?_))|((first|refine aL ?_|(refine am ?_;clear E;intro Z J E));refine zs ?_)));have z:=z.nextA E;refine X.out _ _ z ?_;clear X;refine zs ?_;refine cA 9 z ?_;refine bt ?_;(go_wp2;go_ret;exact ⟨_,rfl,E.bel,by rw [ja.out];exact E.ownAt aC⟩)
end
end
end Go.Proofs.YtgnomadgnciifaaGreatDoor
namespace Go.Proofs.YtgnomadgnciifaaGreatDoor
open Go.Proofs.Tryz
section
open Go.RowKit Wd
section
variable (A:Option Addr) (n c:Nat) (q:List En) (no:Int) (pc gs:Nat) (Ap:Option Addr) (np cp:Nat) (prog:List Nat) (w:World) (G:n<=1000) (H:n<=c) (j0:Hid (q.length=n))
 (E:St w [ab 17 A n c (ens q),ab 1 Ap np cp (ai prog),eG] w [] [ab 17 A n c (ens q),ab 1 Ap np cp (ai prog),eG])
include G H j0 E
theorem VN (Z':En) (x:Nat) (op:Int) (rd rs1 rs2:Int) (imm:Nat) (C:¬ op=47) (D:¬ op=48) (hE:Z'=⟨no,pc,⟨op,rd,rs1,rs2,imm⟩,gs,0,0,0,0,0,0,0,false,false⟩)(iO:Hid (∀ W,Rd W W.heap.size 1 Ap np cp (ai prog)->Ca 79 #[.slice Ap np cp,U (pc:Int)] W (RB W (.tuple #[U (x:Int),.bool true]))))(dz:Hid (∀ W,Rd W W.heap.size 1 (some ⟨0,0,none⟩) 49 49 (ai ci)->Ca 138 #[U (x:Int)] W (RB W (.tuple #[.agg #[I op,I rd,I rs1,I rs2,U (imm:Int)],I 0])))):Ca 78 #[.slice A n c,I no,.agg #[U (pc:Int),U (gs:Int)],.slice Ap np cp] w λx w'=>∃ v,x = .returned v/\af w w'/\w'.ownsRow w.heap.size 54 17 v (n+1) (ens (q++[Z'])):=by
 have ja:=V (show ens (q++[Z'])=ens q++Z'.cells by unfold ens;rw [sV];simp);subst hE;have b47:(op == 47)=false:=by simpa using C
 have b48:(op == 48)=false:=by simpa using D
 clear C D;(go_enter func78,ntmps78);go_upto_region 16 with ((try refine zs ?_);(first|refine fa ?_|(refine wZ ?_;clear E;intro Z J E)|(refine aq ?_;clear E;intro vN J E)|((refine jd F E F F ?_ (i8:=ce F));clear E;intro J E;(try simp only [spl,fL,jr,Nat.reduceAdd] at E))));replace E:=E.clip (N:=n) (ej _) (aM _);rw [cD vL] at E;refine bA aj E _ _ (λ_ h=>h) (λ_ h=>h) ?_;clear E;intro E z;refine an 0 z ?_;refine an 1 z ?_;refine jf 2 z ?_;refine an 3 z ?_;refine jf 4 z ?_;refine va 5 z ?_;refine lW 6 z ?_;refine aB 7 (λK X=>?_);go_wp2_with ((first|(refine iD F E F ?_;clear E;intro Z J E)|(refine nU F E ?_;clear E;intro Z J E));refine zs ?_);have z:=z.nextA E;refine X.out _ _ z ?_;clear X;refine zs ?_;refine aB 8 (λK X=>?_);go_wp2_with ((first|((refine tU F E F F ?_);clear E;intro vN J E;(try refine zs ?_))|((first|refine aL ?_|(refine am ?_;clear E;intro Z J E));refine zs ?_)));have z:=z.nextA E;refine X.out _ _ z ?_;clear X;refine zs ?_;refine cA 9 z ?_;refine bt ?_;(go_wp2;go_ret;exact ⟨_,rfl,E.bel,by rw [ja.out];exact E.ownAt aC⟩)
end
end
end Go.Proofs.YtgnomadgnciifaaGreatDoor
