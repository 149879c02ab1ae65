/- Joined: Ms. -/
import Derived.Test.YtgnomadgnciifaaGreatDoorZH0
import Derived.Test.YtgnomadgnciifaaGreatDoorZ44
import Derived.Test.YtgnomadgnciifaaGreatDoorZ11
import Derived.Test.YtgnomadgnciifaaGreatDoorZ1
import Derived.Test.YtgnomadgnciifaaGreatDoorZ4
import Derived.Test.YtgnomadgnciifaaGreatDoorZ32
import Derived.Test.YtgnomadgnciifaaGreatDoorZ3
set_option linter.unusedVariables false
set_option linter.unusedSimpArgs false
set_option linter.unusedSectionVars false
set_option maxRecDepth 100000
set_option maxHeartbeats 16000000
namespace Go.Proofs.YtgnomadgnciifaaGreatDoor
theorem z46x0 {p:Prop} (h:p:=by
 go_roundw
 case rel=>exact ⟨j+1,by omega,by go_num,by rw [hany.out];simp,⟨by rw [hI2.out,hC2.out];(exact hF.drop 2)⟩⟩
 case measure=>first|(simp [intOf];done)|(simp [intOf];omega)):p:=h
section
open Go.RowKit Wd
def partTo {α β:Type} (f:α→β) (z:β) (j:Nat) (q:List α):List β:=(q.take j).map f++List.replicate (q.length - j) z
section
variable {α β:Type} {f:α→β} {z:β} {j:Nat} {q:List α} {e:α}
theorem partTo_len (h:j≤q.length):(partTo f z j q).length=q.length:=by simp [partTo];omega
theorem partTo_all : partTo f z q.length q=q.map f:=by simp [partTo]
theorem partTo_set (h:q[j]?=some e):(partTo f z j q).set j (f e)=partTo f z (j+1) q:=by
 obtain ⟨hl,he⟩:=List.getElem?_eq_some_iff.1 h
 unfold partTo
 obtain ⟨n,hn⟩:∃ n,q.length - j=n+1:=⟨q.length - j - 1,by omega⟩
 rw [List.set_append_right _ _ (by simp;omega),hn,show q.length - (j+1)=n by omega,List.replicate_succ]
 simp only [List.length_map,List.length_take,Nat.min_eq_left (Nat.le_of_lt hl),Nat.sub_self,List.set_cons_zero]
 rw [List.take_succ_eq_append_getElem hl,he,List.map_append,List.append_assoc]
 rfl
theorem partTo_get (h:q[j]?=some e):(partTo f z (j+1) q)[j]?=some (f e):=by
 rw [← partTo_set h]
 have:=(List.getElem?_eq_some_iff.1 h).1
 exact List.getElem?_set_self (by rw [partTo_len (by omega)];exact this)
theorem partTo_zero : partTo f z 0 q=List.replicate q.length z:=by simp [partTo]
end
theorem made_ints (n:Nat):(madeCells (Value.int .i64 0).cells (n * 1)).toList=i64s (List.replicate n 0):=by
 rw [show (Value.int .i64 0).cells=#[Value.int .i64 0] from rfl,toList_madeCells_one,Nat.mul_one]
 simp [i64s]
theorem made_bools (n:Nat):(madeCells (Value.bool false).cells (n * 1)).toList=bls (List.replicate n false):=by
 rw [show (Value.bool false).cells=#[Value.bool false] from rfl,toList_madeCells_one,Nat.mul_one]
 simp [bls]
theorem bls_set (l:List Bool) (k:Nat) (x:Bool):(bls l).set (k * 1) (.bool x)=bls (l.set k x):=by rw [Nat.mul_one];simp [bls,List.map_set]
def busyE (e:En):Bool:=decide (kindI e.inst.op=2) && decide (e.is=1)
def kindE (e:En):Int:=kindI e.inst.op
theorem any_succ {p:En→Bool} {q:List En} {j:Nat} {e:En} (h:q[j]?=some e):(q.take (j+1)).any p=((q.take j).any p || p e):=by
 obtain ⟨hl,he⟩:=List.getElem?_eq_some_iff.1 h
 rw [List.take_succ_eq_append_getElem hl,he,List.any_append]
 simp
theorem pickL_in {width:Int} {kinds:List Int}:∀ (cs:List Bool) (i:Nat) (n:Int) (d m:Bool),∀ x∈pickL width kinds cs i n d m,(i:Int)≤x∧x<i+cs.length
 | [],_,_,_,_,x,h=>by cases h
 | c::r,i,n,d,m,x,h=>by
  have ih:=fun (n:Int) (d m:Bool) (h:x∈pickL width kinds r (i+1) n d m)=>pickL_in (width:=width) (kinds:=kinds) r (i+1) n d m x h
  unfold pickL at h
  rw [List.length_cons]
  split at h
  ·cases h
  ·split at h
   ·have:=ih _ _ _ h;omega
   ·dsimp only at h
    split at h
    ·have:=ih _ _ _ h;omega
    ·rcases List.mem_cons.1 h with h|h
     ·omega
     ·have:=ih _ _ _ h;omega
theorem loadK_len (k:Kern) (i:Nat):(loadK k i).rob.length=k.rob.length:=by
 unfold loadK
 split
 ·rfl
 ·dsimp only
  repeat' split
  all_goals first|rfl|exact List.length_set
theorem startK_len (k:Kern) (i:Nat):(startK k i).rob.length=k.rob.length:=by
 unfold startK
 split
 ·rfl
 ·dsimp only
  split
  ·exact List.length_set
  ·split
   ·rw [loadK_len];exact List.length_set
   ·exact List.length_set
theorem i64s_el {l:List Int} {k:Nat} {x:Int} (h:l[k]?=some x):(i64s l)[k * 1]?=some (.int .i64 x):=by rw [Nat.mul_one];exact i64s_at h
theorem MX.dropD {w0 w:World} {D0 D:List Da} {d:Da} {M:List Mu} {g:Nat} {k:Kern} {a b:Bool} (h:MX w0 D0 (d::D) M g k a b w):MX w0 D0 D M g k a b w:=by
 obtain ⟨s,hfit,ha,hb,⟨hF⟩⟩:=h
 refine ⟨s,hfit,ha,hb,⟨hF.lessD ?_⟩⟩
 simp only [kD,List.cons_append,List.nil_append]
 ((repeat (refine subn_cons ?_ ?_;focus (exact zdm)));exact fun d h=>by (repeat (first|exact h|refine List.Mem.tail _ ?_)))
theorem mStarts_any (HDec:DecideC) {w0 w:World} {D0 D:List Da} {M:List Mu} {g:Nat} {k:Kern} {a b:Bool} {B:Int} (hk:KOk B k) (hB:B+2≤1000000) (hX:MX w0 D0 D M g k a b w) :
  Calls Tryz.prog 34 #[.pointer (some ⟨g,0,none⟩)] w fun x w'=>(∃ y,x = .returned y)∧MX w0 D0 D M g (startsK k) a b w':=by
 have hX0:=hX
 obtain ⟨s,hfit,ha,hb',⟨hF⟩⟩:=hX
 by_cases hh:¬ k.halt=0
 ·have hR:Hid (startsK k=k):=Lib.hid (by unfold startsK;rw [if_pos hh])
  have hh2:=Lib.hid (show decide (¬ k.halt=0)=true by simpa using hh)
  clear hh
  (simp only [kD,List.cons_append,List.nil_append] at hF)
  go_enter Tryz.func34,Tryz.ntmps34
  go_wp2_with ((try simp only [zA,Nat.reduceAdd]);(first|go_big_skip|refine zg134 ?_|(refine zg14 ?_;clear hF;(first|intro gN wN hF|intro wN hF|intro hF))|(refine zg15 ?_;clear hF;intro vN wN hF)))
  refine bodyPost_ret (results_none rfl _ _ _) rfl ⟨⟨_,rfl⟩,?_⟩
  rw [hR.out]
  exact hX0
 have hR:Hid (startsK k=(pickL k.conf.width (k.rob.map kindE) ((List.range k.rob.length).map (canK k)) 0 0 (k.rob.any busyE) false).foldl (fun k i=>startK k i.toNat) k):=Lib.hid (by unfold startsK;rw [if_neg hh];rfl)
 have hh2:=Lib.hid (show decide (¬ k.halt=0)=false by simpa using hh)
 clear hh hX0
 have hn16:=hk.roblen
 have hwd:=hk.cf.width
 have hcap:=hfit.robC
 (simp only [kD,List.cons_append,List.nil_append] at hF)
 go_enter Tryz.func34,Tryz.ntmps34
 go_wp2_with ((try simp only [zA,Nat.reduceAdd]);(first|go_big_skip|refine zg135 ?_|(refine zg136 ?_;clear hF;intro gI wN hF)|(refine zg137 ?_;clear hF;intro gB wN hF)|(refine zg138 ?_;clear hF;(first|intro gN wN hF|intro wN hF|intro hF))|(go_at_call 75;refine (mCan_any hk hfit j e hu ⟨((hF.front _ (m:=.row s.robA 54 (ens k.rob)) (by exact zat)).front _ (m:=.blk g 81 (mcells k s)) (by exact zat))⟩).mono ?_;rintro x wN ⟨hx,⟨hF5⟩⟩;rw [hcan.out] at hx;subst hx;clear hF;have hF:=hF5;clear hF5;(try simp only [zF] at hF);(simp only [kD,List.cons_append,List.nil_append] at hF))|(refine zg15 ?_;clear hF;intro vN wN hF)))
 obtain ⟨gB,gI,rfl,rfl⟩:=hF.names2
 go_loopw [2,35] (fun vb i wr=>∃ j:Nat,j≤k.rob.length∧i = .int .i64 (j:Int)∧vb = .bool ((k.rob.take j).any busyE)∧MQ w0 D0 D (.blk gB 4 (bls (partTo (canK k) false j (List.range k.rob.length))) :: .blk gI 3 (i64s (partTo kindE 0 j k.rob))::M) g k s k.rob wr) (fun vb i _=>k.rob.length - (intOf i).toNat)
 case atStart=>exact ⟨0,by omega,rfl,rfl,⟨by rw [partTo_zero,partTo_zero,List.length_range];exact (hF.front 3 at3).front 3 at3⟩⟩
 case round=>
  clear hF
  obtain ⟨j,hj,rfl,rfl,⟨hF⟩⟩:=hrel
  (simp only [kD,List.cons_append,List.nil_append] at hF)
  by_cases hjn:j<k.rob.length
  ·obtain ⟨e,hu⟩:∃ e,k.rob[j]?=some e:=⟨_,List.getElem?_eq_getElem hjn⟩
   have he:=hk.rob e (List.mem_of_getElem? hu)
   have HK:=fun W=>Kind_any e.inst W he.op
   have hlen:0<(ens k.rob).length:=by rw [ens_len];omega
   have hjr:(List.range k.rob.length)[j]?=some j:=List.getElem?_range hjn
   have hsetI:=i64s_set (partTo kindE 0 j k.rob) j (kindE e)
   have hsetB:=bls_set (partTo (canK k) false j (List.range k.rob.length)) j (canK k j)
   have hkj:=i64s_el (partTo_get (f:=kindE) (z:=0) hu)
   have hoffI:j * 1<(i64s (partTo kindE 0 j k.rob)).length:=by rw [i64s_len,partTo_len (by omega)];omega
   have hoffB:j * 1<(bls (partTo (canK k) false j (List.range k.rob.length))).length:=by rw [bls_len,partTo_len (by rw [List.length_range];omega),List.length_range];omega
   rw [partTo_set hu] at hsetI
   rw [partTo_set hjr] at hsetB
   have hany:=any_succ (p:=busyE) hu
   obtain ⟨I1,hI1⟩:∃ I1,partTo kindE 0 j k.rob=I1:=⟨_,rfl⟩
   obtain ⟨I2,hI2⟩:∃ I2,partTo kindE 0 (j+1) k.rob=I2:=⟨_,rfl⟩
   obtain ⟨C1,hC1⟩:∃ C1,partTo (canK k) false j (List.range k.rob.length)=C1:=⟨_,rfl⟩
   obtain ⟨C2,hC2⟩:∃ C2,partTo (canK k) false (j+1) (List.range k.rob.length)=C2:=⟨_,rfl⟩
   obtain ⟨cn,hcn⟩:∃ cn,canK k j=cn:=⟨_,rfl⟩
   have hcan:=Lib.hid hcn
   have hbe:busyE e=(decide (kindI e.inst.op=2) && decide (e.is=1)):=rfl
   have hke:kindE e=kindI e.inst.op:=rfl
   obtain ⟨κ,hκ⟩:∃ κ,kindI e.inst.op=κ:=⟨_,rfl⟩
   obtain ⟨b2,hb2⟩:∃ b2,decide (κ=2)=b2:=⟨_,rfl⟩
   obtain ⟨b1,hb1⟩:∃ b1,decide (e.is=1)=b1:=⟨_,rfl⟩
   obtain ⟨b0,hb0⟩:∃ b0,(k.rob.take j).any busyE=b0:=⟨_,rfl⟩
   rw [hκ] at HK hke hbe
   rw [hb2,hb1] at hbe
   rw [hb0,hbe] at hany
   rw [hb0]
   rw [hI1,hC1] at hF
   rw [hI1,hI2,hke] at hsetI
   rw [hC1,hC2,hcn] at hsetB
   rw [hI2,hke] at hkj
   rw [hI1] at hoffI
   rw [hC1] at hoffB
   replace HK:=Lib.hid HK
   replace hsetI:=Lib.hid hsetI
   replace hsetB:=Lib.hid hsetB
   replace hb2:=Lib.hid hb2
   replace hb1:=Lib.hid hb1
   replace hany:=Lib.hid hany
   replace hI2:=Lib.hid hI2
   replace hC2:=Lib.hid hC2
   clear hκ hke hbe hI1 hC1 hcn hb0 hjr he hR
   go_upto_region 8 with ((try simp only [zA,Nat.reduceAdd]);(first|go_big_skip|refine w_neqH rfl rfl rfl ?_ (hb:=by with_reducible assumption)|refine w_eqlH rfl rfl rfl ?_ (hb:=by with_reducible assumption)|refine w_lssH rfl rfl rfl ?_ (hb:=by with_reducible assumption)|refine w_ixR rfl hF rfl rfl ?_|refine w_ixB rfl rfl rfl ?_|refine w_ld1 rfl hF rfl ?_ (hv:=by with_reducible assumption)|refine w_ldeR (us:=e.cells) (v:=e.val) (hu:=Rows.sub (f:=ens) hu) rfl hF rfl ?_|refine w_ldp (v:=e.inst.val) (n:=5) rfl hF rfl ?_ (hn:=Nat.le_of_ble_eq_true rfl)|refine zrg ?_|(refine w_make (n:=k.rob.length) rfl hF rfl rfl ?_ (he:=made_ints _);clear hF;intro gI wN hF)|(refine w_make (n:=k.rob.length) rfl hF rfl rfl ?_ (he:=made_bools _);clear hF;intro gB wN hF)|(refine w_st (us:=e.cells) rfl hF rfl rfl ?_ (h1:=fun u hu=>.inl (e.one u hu));clear hF;(first|intro gN wN hF|intro wN hF|intro hF))|(go_at_call 39;refine zcg hF (HK.out _) ?_;clear hF;(first|intro gN wN hF|intro wN hF|intro hF))|(refine w_st1 rfl hF rfl rfl ?_ (hoff:=hoffI);clear hF;(first|intro gN wN hF|intro wN hF|intro hF))|(refine w_st1 rfl hF rfl rfl ?_ (hoff:=hoffB);clear hF;(first|intro gN wN hF|intro wN hF|intro hF))|(refine zst ?_;clear hF;(first|intro gN wN hF|intro wN hF|intro hF))|(go_at_call 75;refine (mCan_any hk hfit j e hu ⟨((hF.front _ (m:=.row s.robA 54 (ens k.rob)) (by exact zat)).front _ (m:=.blk g 81 (mcells k s)) (by exact zat))⟩).mono ?_;rintro x wN ⟨hx,⟨hF5⟩⟩;rw [hcan.out] at hx;subst hx;clear hF;have hF:=hF5;clear hF5;(try simp only [zF] at hF);(simp only [kD,List.cons_append,List.nil_append] at hF))|(refine zap ?_;clear hF;intro vN wN hF)))
   rw [hsetI.out] at hF
   go_upto_region 9 with ((try simp only [zA,Nat.reduceAdd]);(first|go_big_skip|refine w_neqH rfl rfl rfl ?_ (hb:=by with_reducible assumption)|refine w_eqlH rfl rfl rfl ?_ (hb:=by with_reducible assumption)|refine w_lssH rfl rfl rfl ?_ (hb:=by with_reducible assumption)|refine w_ixR rfl hF rfl rfl ?_|refine w_ixB rfl rfl rfl ?_|refine w_ld1 rfl hF rfl ?_ (hv:=by with_reducible assumption)|refine w_ldeR (us:=e.cells) (v:=e.val) (hu:=Rows.sub (f:=ens) hu) rfl hF rfl ?_|refine w_ldp (v:=e.inst.val) (n:=5) rfl hF rfl ?_ (hn:=Nat.le_of_ble_eq_true rfl)|refine zrg ?_|(refine w_make (n:=k.rob.length) rfl hF rfl rfl ?_ (he:=made_ints _);clear hF;intro gI wN hF)|(refine w_make (n:=k.rob.length) rfl hF rfl rfl ?_ (he:=made_bools _);clear hF;intro gB wN hF)|(refine w_st (us:=e.cells) rfl hF rfl rfl ?_ (h1:=fun u hu=>.inl (e.one u hu));clear hF;(first|intro gN wN hF|intro wN hF|intro hF))|(go_at_call 39;refine zcg hF (HK.out _) ?_;clear hF;(first|intro gN wN hF|intro wN hF|intro hF))|(refine w_st1 rfl hF rfl rfl ?_ (hoff:=hoffI);clear hF;(first|intro gN wN hF|intro wN hF|intro hF))|(refine w_st1 rfl hF rfl rfl ?_ (hoff:=hoffB);clear hF;(first|intro gN wN hF|intro wN hF|intro hF))|(refine zst ?_;clear hF;(first|intro gN wN hF|intro wN hF|intro hF))|(go_at_call 75;refine (mCan_any hk hfit j e hu ⟨((hF.front _ (m:=.row s.robA 54 (ens k.rob)) (by exact zat)).front _ (m:=.blk g 81 (mcells k s)) (by exact zat))⟩).mono ?_;rintro x wN ⟨hx,⟨hF5⟩⟩;rw [hcan.out] at hx;subst hx;clear hF;have hF:=hF5;clear hF5;(try simp only [zF] at hF);(simp only [kD,List.cons_append,List.nil_append] at hF))|(refine zap ?_;clear hF;intro vN wN hF)))
   rw [hsetB.out] at hF
   cases b2
   ·go_wp2_with ((try simp only [zA,Nat.reduceAdd]);(first|go_big_skip|refine zg135 ?_|(refine zg136 ?_;clear hF;intro gI wN hF)|(refine zg137 ?_;clear hF;intro gB wN hF)|(refine zg138 ?_;clear hF;(first|intro gN wN hF|intro wN hF|intro hF))|(go_at_call 75;refine (mCan_any hk hfit j e hu ⟨((hF.front _ (m:=.row s.robA 54 (ens k.rob)) (by exact zat)).front _ (m:=.blk g 81 (mcells k s)) (by exact zat))⟩).mono ?_;rintro x wN ⟨hx,⟨hF5⟩⟩;rw [hcan.out] at hx;subst hx;clear hF;have hF:=hF5;clear hF5;(try simp only [zF] at hF);(simp only [kD,List.cons_append,List.nil_append] at hF))|(refine zg15 ?_;clear hF;intro vN wN hF)))
    exact z46x0
   ·cases b1
    ·go_wp2_with ((try simp only [zA,Nat.reduceAdd]);(first|go_big_skip|refine zg135 ?_|(refine zg136 ?_;clear hF;intro gI wN hF)|(refine zg137 ?_;clear hF;intro gB wN hF)|(refine zg138 ?_;clear hF;(first|intro gN wN hF|intro wN hF|intro hF))|(go_at_call 75;refine (mCan_any hk hfit j e hu ⟨((hF.front _ (m:=.row s.robA 54 (ens k.rob)) (by exact zat)).front _ (m:=.blk g 81 (mcells k s)) (by exact zat))⟩).mono ?_;rintro x wN ⟨hx,⟨hF5⟩⟩;rw [hcan.out] at hx;subst hx;clear hF;have hF:=hF5;clear hF5;(try simp only [zF] at hF);(simp only [kD,List.cons_append,List.nil_append] at hF))|(refine zg15 ?_;clear hF;intro vN wN hF)))
     exact z46x0
    ·go_wp2_with ((try simp only [zA,Nat.reduceAdd]);(first|go_big_skip|refine zg135 ?_|(refine zg136 ?_;clear hF;intro gI wN hF)|(refine zg137 ?_;clear hF;intro gB wN hF)|(refine zg138 ?_;clear hF;(first|intro gN wN hF|intro wN hF|intro hF))|(go_at_call 75;refine (mCan_any hk hfit j e hu ⟨((hF.front _ (m:=.row s.robA 54 (ens k.rob)) (by exact zat)).front _ (m:=.blk g 81 (mcells k s)) (by exact zat))⟩).mono ?_;rintro x wN ⟨hx,⟨hF5⟩⟩;rw [hcan.out] at hx;subst hx;clear hF;have hF:=hF5;clear hF5;(try simp only [zF] at hF);(simp only [kD,List.cons_append,List.nil_append] at hF))|(refine zg15 ?_;clear hF;intro vN wN hF)))
     exact z46x0
  ·obtain rfl:j=k.rob.length:=by omega
   have hcs:=partTo_all (f:=canK k) (z:=false) (q:=List.range k.rob.length)
   rw [List.length_range] at hcs
   rw [partTo_all,hcs] at hF
   rw [List.take_length]
   clear hcs
   obtain ⟨ks,hks⟩:∃ ks,k.rob.map kindE=ks:=⟨_,rfl⟩
   obtain ⟨cs,hcs⟩:∃ cs,(List.range k.rob.length).map (canK k)=cs:=⟨_,rfl⟩
   obtain ⟨b0,hb0⟩:∃ b0,k.rob.any busyE=b0:=⟨_,rfl⟩
   have hkl:ks.length=k.rob.length:=by rw [← hks,List.length_map]
   have hcl:cs.length=k.rob.length:=by rw [← hcs,List.length_map,List.length_range]
   rw [hks,hcs] at hF
   rw [hks,hcs,hb0] at hR
   rw [hb0]
   clear hks hcs hb0
   replace hF:=hF.freezeB 2 at2 1 k.rob.length k.rob.length (by rw [bls_len,hcl,Nat.mul_one]) (Nat.le_refl _) (by unfold maxLen;omega)
   (try simp only [zF] at hF)
   replace hF:=hF.freezeB 2 at2 1 k.rob.length k.rob.length (by rw [i64s_len,hkl,Nat.mul_one]) (Nat.le_refl _) (by unfold maxLen;omega)
   (try simp only [zF] at hF)
   have HPi:=fun (W:World) (h1:Rd W W.heap.size 1 (some ⟨gI,0,none⟩) k.rob.length k.rob.length (i64s ks)) (h2:Rd W W.heap.size 1 (some ⟨gB,0,none⟩) k.rob.length k.rob.length (bls cs))=>Pick_any k.conf.width b0 (some ⟨gI,0,none⟩) k.rob.length k.rob.length ks (some ⟨gB,0,none⟩) k.rob.length cs W h1 h2 (by omega) (by unfold okI;omega)
   have hpl:=pickL_len (width:=k.conf.width) (kinds:=ks) cs 0 0 b0 false
   have hpi:=pickL_in (width:=k.conf.width) (kinds:=ks) cs 0 0 b0 false
   obtain ⟨ps,hps⟩:∃ ps,pickL k.conf.width ks cs 0 0 b0 false=ps:=⟨_,rfl⟩
   rw [hps] at HPi hpl hpi hR
   have hpl2:ps.length≤2:=by omega
   replace HPi:=Lib.hid HPi
   clear hps hpl
   go_wp2_with ((try simp only [zA,Nat.reduceAdd]);(first|go_big_skip|refine zg134 ?_|(go_at_call 76;refine (HPi.out _ hF.rdA hF.rdA).mono ?_;rintro y wN ⟨v,rfl,hb,ho⟩;replace hF:=hF.pushOwn hb ho;clear hb ho;obtain ⟨Ap,cp,rfl,hF2⟩:=hF.freeze 0 at0;clear hF;have hF:=hF2;clear hF2;(try simp only [zF] at hF))|(refine zg14 ?_;clear hF;(first|intro gN wN hF|intro wN hF|intro hF))|(refine zg15 ?_;clear hF;intro vN wN hF)))
   go_loopw [74] (fun i wr=>∃ (j:Nat) (k1:Kern),j≤ps.length∧i = .int .i64 (j:Int)∧Hid (startsK k=(ps.drop j).foldl (fun k i=>startK k i.toNat) k1)∧KOk (B+j) k1∧k1.rob.length=k.rob.length∧MX w0 D0 (rowD 1 Ap ps.length cp (i64s ps)::D) M g k1 a b wr) (fun i _=>ps.length - (intOf i).toNat)
   case atStart=>exact ⟨0,k,by omega,rfl,hR,by simpa using hk,rfl,⟨s,hfit,ha,hb',⟨hF.lessD (by simp only [kD,List.cons_append,List.nil_append];((repeat (refine subn_cons ?_ ?_;focus (exact zdm)));exact fun d h=>by (repeat (first|exact h|refine List.Mem.tail _ ?_))))⟩⟩⟩
   case round=>
    clear hF hR hk hfit ha hb'
    obtain ⟨j,k1,hj,rfl,hR,hk1,hkl1,hX⟩:=hrel
    have hX0:=hX
    obtain ⟨s,hfit,ha,hb',⟨hF⟩⟩:=hX
    simp only [kD,List.cons_append,List.nil_append] at hF
    by_cases hjn:j<ps.length
    ·have hx:ps[j]?=some ps[j]:=List.getElem?_eq_getElem hjn
     have hbx:=hpi _ (List.mem_of_getElem? hx)
     have hdr:ps.drop j=ps[j]::ps.drop (j+1):=List.drop_eq_getElem_cons hjn
     obtain ⟨i,hi⟩:∃ i:Nat,ps[j]=(i:Int):=⟨ps[j].toNat,by omega⟩
     rw [hi] at hx hbx hdr
     have hx2:=i64s_el hx
     have hin:i<k1.rob.length:=by omega
     obtain ⟨e,hu⟩:∃ e,k1.rob[i]?=some e:=⟨_,List.getElem?_eq_getElem hin⟩
     have hR2:=hR.out
     rw [hdr,List.foldl_cons] at hR2
     replace hR2:=Lib.hid hR2
     have hk2:=hk1.start (by omega) i
     have hkl2:=startK_len k1 i
     clear hbx hdr hi hx hR
     go_upto_region 15 with ((try simp only [zA,Nat.reduceAdd]);(first|go_big_skip|refine w_neqH rfl rfl rfl ?_ (hb:=by with_reducible assumption)|refine w_eqlH rfl rfl rfl ?_ (hb:=by with_reducible assumption)|refine w_lssH rfl rfl rfl ?_ (hb:=by with_reducible assumption)|refine w_lde1 rfl hF rfl ?_ (hv:=hx2)|refine zrg ?_|(refine zst ?_;clear hF;(first|intro gN wN hF|intro wN hF|intro hF))|(refine zap ?_;clear hF;intro vN wN hF)))
     clear hF
     go_wp2_with (go_at_call 77;refine (mStart_any HDec hk1 i e hu hX0).mono ?_;rintro x wN ⟨⟨y,rfl⟩,hX2⟩)
     go_roundw
     case rel=>exact ⟨j+1,_,by omega,by go_num,hR2,by rw [show B+((j+1:Nat):Int)=B+(j:Int)+1 by omega];exact hk2,by rw [Int.toNat_natCast,hkl2,hkl1],hX2⟩
     case measure=>first|(simp [intOf];done)|(simp [intOf];omega)
    ·obtain rfl:j=ps.length:=by omega
     replace hR:=Lib.hid (show startsK k=k1 by rw [hR.out,List.drop_length];rfl)
     go_wp2_with ((try simp only [zA,Nat.reduceAdd]);(first|go_big_skip|refine zg134 ?_|(refine zg14 ?_;clear hF;(first|intro gN wN hF|intro wN hF|intro hF))|(refine zg15 ?_;clear hF;intro vN wN hF)))
     go_end0
     refine ⟨⟨_,rfl⟩,?_⟩
     rw [hR.out]
     exact hX0.dropD
end
end Go.Proofs.YtgnomadgnciifaaGreatDoor
