/- . -/
import Derived.Test.YtgnomadgnciifaaGreatDoorZ44
import Derived.Test.YtgnomadgnciifaaGreatDoorZ11
set_option linter.unusedVariables false
set_option linter.unusedSimpArgs false
set_option linter.unusedSectionVars false
set_option maxRecDepth 100000
set_option maxHeartbeats 16000000
namespace Go.Proofs.YtgnomadgnciifaaGreatDoor
theorem c6n {p:Prop} (h:p:=by
 go_roundw
 case rel=>exact ⟨j+1,by omega,by go_num,by rw [hany.out];simp,⟨by rw [hI2.out,hC2.out];(exact hF.drop 2)⟩⟩
 case measure=>first|(simp [intOf];done)|(simp [intOf];omega)):p:=h
section
open Go.RowKit Wd
def a5b {α β:Type} (f:α→β) (z:β) (j:Nat) (q:List α):List β:=(q.take j).map f++List.replicate (q.length - j) z
section
variable {α β:Type} {f:α→β} {z:β} {j:Nat} {q:List α} {e:α}
theorem c6o (h:j≤q.length):(a5b f z j q).length=q.length:=by simp [a5b];omega
theorem d9u : a5b f z q.length q=q.map f:=by simp [a5b]
theorem c6p (h:q[j]?=some e):(a5b f z j q).set j (f e)=a5b f z (j+1) q:=by
 obtain ⟨hl,he⟩:=List.getElem?_eq_some_iff.1 h
 unfold a5b
 obtain ⟨n,hn⟩:∃ n,q.length - j=n+1:=⟨q.length - j - 1,by omega⟩
 rw [List.set_append_right _ _ (by simp;omega),hn,show q.length - (j+1)=n by omega,List.replicate_succ]
 simp only [List.length_map,List.length_take,Nat.min_eq_left (Nat.le_of_lt hl),Nat.sub_self,List.set_cons_zero]
 rw [List.take_succ_eq_append_getElem hl,he,List.map_append,List.append_assoc]
 rfl
theorem h7m (h:q[j]?=some e):(a5b f z (j+1) q)[j]?=some (f e):=by
 rw [← c6p h]
 have:=(List.getElem?_eq_some_iff.1 h).1
 exact List.getElem?_set_self (by rw [c6o (by omega)];exact this)
theorem d9v : a5b f z 0 q=List.replicate q.length z:=by simp [a5b]
end
theorem made_ints (n:Nat):(madeCells (Value.int .i64 0).cells (n * 1)).toList=a1i (List.replicate n 0):=by
 rw [show (Value.int .i64 0).cells=#[Value.int .i64 0] from rfl,toList_madeCells_one,Nat.mul_one]
 simp [a1i]
theorem made_bools (n:Nat):(madeCells (Value.bool false).cells (n * 1)).toList=bls (List.replicate n false):=by
 rw [show (Value.bool false).cells=#[Value.bool false] from rfl,toList_madeCells_one,Nat.mul_one]
 simp [bls]
theorem h7n (l:List Bool) (k:Nat) (x:Bool):(bls l).set (k * 1) (.bool x)=bls (l.set k x):=by rw [Nat.mul_one];simp [bls,List.map_set]
def b5m (e:En):Bool:=decide (a1e e.inst.op=2) && decide (e.is=1)
def a9u (e:En):Int:=a1e e.inst.op
theorem h7o {p:En→Bool} {q:List En} {j:Nat} {e:En} (h:q[j]?=some e):(q.take (j+1)).any p=((q.take j).any p || p e):=by
 obtain ⟨hl,he⟩:=List.getElem?_eq_some_iff.1 h
 rw [List.take_succ_eq_append_getElem hl,he,List.any_append]
 simp
theorem d9w {width:Int} {kinds:List Int}:∀ (cs:List Bool) (i:Nat) (n:Int) (d m:Bool),∀ x∈a3m width kinds cs i n d m,(i:Int)≤x∧x<i+cs.length
 | [],_,_,_,_,x,h=>by cases h
 | c::r,i,n,d,m,x,h=>by
  have ih:=fun (n:Int) (d m:Bool) (h:x∈a3m width kinds r (i+1) n d m)=>d9w (width:=width) (kinds:=kinds) r (i+1) n d m x h
  unfold a3m at h
  rw [List.length_cons]
  split at h
  ·cases h
  ·split at h
   ·have:=ih _ _ _ h;omega
   ·dsimp only at h
    split at h
    ·have:=ih _ _ _ h;omega
    ·rcases List.mem_cons.1 h with h|h
     ·omega
     ·have:=ih _ _ _ h;omega
theorem h7p (k:Kern) (i:Nat):(a3z k i).rob.length=k.rob.length:=by
 unfold a3z
 split
 ·rfl
 ·dsimp only
  repeat' split
  all_goals first|rfl|exact List.length_set
theorem h7q (k:Kern) (i:Nat):(a3h k i).rob.length=k.rob.length:=by
 unfold a3h
 split
 ·rfl
 ·dsimp only
  split
  ·exact List.length_set
  ·split
   ·rw [h7p];exact List.length_set
   ·exact List.length_set
theorem d9x {l:List Int} {k:Nat} {x:Int} (h:l[k]?=some x):(a1i l)[k * 1]?=some (.int .i64 x):=by rw [Nat.mul_one];exact b1i h
theorem MX.dropD {w0 w:World} {D0 D:List Da} {d:Da} {M:List Mu} {g:Nat} {k:Kern} {a b:Bool} (h:MX w0 D0 (d::D) M g k a b w):MX w0 D0 D M g k a b w:=by
 obtain ⟨s,hfit,ha,hb,⟨hF⟩⟩:=h
 refine ⟨s,hfit,ha,hb,⟨hF.lessD ?_⟩⟩
 simp only [kD,zL]
 exact zsn
theorem h7r (HDec:c2a) {w0 w:World} {D0 D:List Da} {M:List Mu} {g:Nat} {k:Kern} {a b:Bool} {B:Int} (hk:KOk B k) (hB:B+2≤1000000) (hX:MX w0 D0 D M g k a b w) :
  Calls Tryz.prog 34 #[.pointer (some ⟨g,0,none⟩)] w fun x w'=>(∃ y,x = .returned y)∧MX w0 D0 D M g (a2q k) a b w':=by
 have hX0:=hX
 obtain ⟨s,hfit,ha,hb',⟨hF⟩⟩:=hX
 by_cases hh:¬ k.halt=0
 ·have hR:Hid (a2q k=k):=Lib.hid (by unfold a2q;rw [if_pos hh])
  have hh2:=Lib.hid (show decide (¬ k.halt=0)=true by simpa using hh)
  clear hh
  (simp only [kD,zL] at hF)
  go_enter Tryz.func34,Tryz.ntmps34
  go_wp2_with ((try simp only [zA,Nat.reduceAdd]);(first|go_big_skip|refine c2u ?_|(refine a1s ?_;clear hF;(first|intro gN wN hF|intro wN hF|intro hF))|(refine a1d ?_;clear hF;intro vN wN hF)))
  refine bodyPost_ret (results_none rfl _ _ _) rfl ⟨⟨_,rfl⟩,?_⟩
  rw [hR.out]
  exact hX0
 have hR:Hid (a2q k=(a3m k.conf.width (k.rob.map a9u) ((List.range k.rob.length).map (a5v k)) 0 0 (k.rob.any b5m) false).foldl (fun k i=>a3h k i.toNat) k):=Lib.hid (by unfold a2q;rw [if_neg hh];rfl)
 have hh2:=Lib.hid (show decide (¬ k.halt=0)=false by simpa using hh)
 clear hh hX0
 have hn16:=hk.roblen
 have hwd:=hk.cf.width
 have hcap:=hfit.robC
 (simp only [kD,zL] at hF)
 go_enter Tryz.func34,Tryz.ntmps34
 go_wp2_with ((try simp only [zA,Nat.reduceAdd]);(first|go_big_skip|refine b7x ?_|(refine b7y ?_;clear hF;intro gI wN hF)|(refine b7z ?_;clear hF;intro gB wN hF)|(refine b8a ?_;clear hF;(first|intro gN wN hF|intro wN hF|intro hF))|(go_at_call 75;refine (b5j hk hfit j e hu ⟨((hF.front _ (m:=.row s.robA 54 (ens k.rob)) (by exact zat)).front _ (m:=.blk g 81 (mcells k s)) (by exact zat))⟩).mono ?_;rintro x wN ⟨hx,⟨hF5⟩⟩;rw [hcan.out] at hx;subst hx;clear hF;have hF:=hF5;clear hF5;(try simp only [zF] at hF);(simp only [kD,zL] at hF))|(refine a1d ?_;clear hF;intro vN wN hF)))
 obtain ⟨gB,gI,rfl,rfl⟩:=hF.names2
 go_loopw [2,35] (fun vb i wr=>∃ j:Nat,j≤k.rob.length∧i = .int .i64 (j:Int)∧vb = .bool ((k.rob.take j).any b5m)∧MQ w0 D0 D (.blk gB 4 (bls (a5b (a5v k) false j (List.range k.rob.length))) :: .blk gI 3 (a1i (a5b a9u 0 j k.rob))::M) g k s k.rob wr) (fun vb i _=>k.rob.length - (intOf i).toNat)
 case atStart=>exact ⟨0,by omega,rfl,rfl,⟨by rw [d9v,d9v,List.length_range];exact (hF.front 3 at3).front 3 at3⟩⟩
 case round=>
  clear hF
  obtain ⟨j,hj,rfl,rfl,⟨hF⟩⟩:=hrel
  (simp only [kD,zL] at hF)
  by_cases hjn:j<k.rob.length
  ·obtain ⟨e,hu⟩:∃ e,k.rob[j]?=some e:=⟨_,List.getElem?_eq_getElem hjn⟩
   have he:=hk.rob e (List.mem_of_getElem? hu)
   have HK:=fun W=>a2o e.inst W he.op
   have hlen:0<(ens k.rob).length:=by rw [a4l];omega
   have hjr:(List.range k.rob.length)[j]?=some j:=List.getElem?_range hjn
   have hsetI:=c4u (a5b a9u 0 j k.rob) j (a9u e)
   have hsetB:=h7n (a5b (a5v k) false j (List.range k.rob.length)) j (a5v k j)
   have hkj:=d9x (h7m (f:=a9u) (z:=0) hu)
   have hoffI:j * 1<(a1i (a5b a9u 0 j k.rob)).length:=by rw [a9o,c6o (by omega)];omega
   have hoffB:j * 1<(bls (a5b (a5v k) false j (List.range k.rob.length))).length:=by rw [c4o,c6o (by rw [List.length_range];omega),List.length_range];omega
   rw [c6p hu] at hsetI
   rw [c6p hjr] at hsetB
   have hany:=h7o (p:=b5m) hu
   obtain ⟨I1,hI1⟩:∃ I1,a5b a9u 0 j k.rob=I1:=⟨_,rfl⟩
   obtain ⟨I2,hI2⟩:∃ I2,a5b a9u 0 (j+1) k.rob=I2:=⟨_,rfl⟩
   obtain ⟨C1,hC1⟩:∃ C1,a5b (a5v k) false j (List.range k.rob.length)=C1:=⟨_,rfl⟩
   obtain ⟨C2,hC2⟩:∃ C2,a5b (a5v k) false (j+1) (List.range k.rob.length)=C2:=⟨_,rfl⟩
   obtain ⟨cn,hcn⟩:∃ cn,a5v k j=cn:=⟨_,rfl⟩
   have hcan:=Lib.hid hcn
   have hbe:b5m e=(decide (a1e e.inst.op=2) && decide (e.is=1)):=rfl
   have hke:a9u e=a1e e.inst.op:=rfl
   obtain ⟨κ,hκ⟩:∃ κ,a1e e.inst.op=κ:=⟨_,rfl⟩
   obtain ⟨b2,hb2⟩:∃ b2,decide (κ=2)=b2:=⟨_,rfl⟩
   obtain ⟨b1,hb1⟩:∃ b1,decide (e.is=1)=b1:=⟨_,rfl⟩
   obtain ⟨b0,hb0⟩:∃ b0,(k.rob.take j).any b5m=b0:=⟨_,rfl⟩
   rw [hκ] at HK hke hbe
   rw [hb2,hb1] at hbe
   rw [hb0,hbe] at hany
   rw [hb0]
   rw [hI1,hC1] at hF
   rw [hI1,hI2,hke] at hsetI
   rw [hC1,hC2,hcn] at hsetB
   rw [hI2,hke] at hkj
   rw [hI1] at hoffI
   rw [hC1] at hoffB
   replace HK:=Lib.hid HK
   replace hsetI:=Lib.hid hsetI
   replace hsetB:=Lib.hid hsetB
   replace hb2:=Lib.hid hb2
   replace hb1:=Lib.hid hb1
   replace hany:=Lib.hid hany
   replace hI2:=Lib.hid hI2
   replace hC2:=Lib.hid hC2
   clear hκ hke hbe hI1 hC1 hcn hb0 hjr he hR
   go_upto_region 8 with ((try simp only [zA,Nat.reduceAdd]);(first|go_big_skip|refine w_neqH rfl rfl rfl ?_ (hb:=by with_reducible assumption)|refine w_eqlH rfl rfl rfl ?_ (hb:=by with_reducible assumption)|refine w_lssH rfl rfl rfl ?_ (hb:=by with_reducible assumption)|refine w_ixR rfl hF rfl rfl ?_|refine w_ixB rfl rfl rfl ?_|refine w_ld1 rfl hF rfl ?_ (hv:=by with_reducible assumption)|refine w_ldeR (us:=e.cells) (v:=e.val) (hu:=Rows.sub (f:=ens) hu) rfl hF rfl ?_|refine w_ldp (v:=e.inst.val) (n:=5) rfl hF rfl ?_ (hn:=Nat.le_of_ble_eq_true rfl)|refine zrg ?_|(refine w_make (n:=k.rob.length) rfl hF rfl rfl ?_ (he:=made_ints _);clear hF;intro gI wN hF)|(refine w_make (n:=k.rob.length) rfl hF rfl rfl ?_ (he:=made_bools _);clear hF;intro gB wN hF)|(refine w_st (us:=e.cells) rfl hF rfl rfl ?_ (h1:=fun u hu=>.inl (e.one u hu));clear hF;(first|intro gN wN hF|intro wN hF|intro hF))|(go_at_call 39;refine zcg hF (HK.out _) ?_;clear hF;(first|intro gN wN hF|intro wN hF|intro hF))|(refine w_st1 rfl hF rfl rfl ?_ (hoff:=hoffI);clear hF;(first|intro gN wN hF|intro wN hF|intro hF))|(refine w_st1 rfl hF rfl rfl ?_ (hoff:=hoffB);clear hF;(first|intro gN wN hF|intro wN hF|intro hF))|(refine zst ?_;clear hF;(first|intro gN wN hF|intro wN hF|intro hF))|(go_at_call 75;refine (b5j hk hfit j e hu ⟨((hF.front _ (m:=.row s.robA 54 (ens k.rob)) (by exact zat)).front _ (m:=.blk g 81 (mcells k s)) (by exact zat))⟩).mono ?_;rintro x wN ⟨hx,⟨hF5⟩⟩;rw [hcan.out] at hx;subst hx;clear hF;have hF:=hF5;clear hF5;(try simp only [zF] at hF);(simp only [kD,zL] at hF))|(refine zap ?_;clear hF;intro vN wN hF)))
   rw [hsetI.out] at hF
   go_upto_region 9 with ((try simp only [zA,Nat.reduceAdd]);(first|go_big_skip|refine w_neqH rfl rfl rfl ?_ (hb:=by with_reducible assumption)|refine w_eqlH rfl rfl rfl ?_ (hb:=by with_reducible assumption)|refine w_lssH rfl rfl rfl ?_ (hb:=by with_reducible assumption)|refine w_ixR rfl hF rfl rfl ?_|refine w_ixB rfl rfl rfl ?_|refine w_ld1 rfl hF rfl ?_ (hv:=by with_reducible assumption)|refine w_ldeR (us:=e.cells) (v:=e.val) (hu:=Rows.sub (f:=ens) hu) rfl hF rfl ?_|refine w_ldp (v:=e.inst.val) (n:=5) rfl hF rfl ?_ (hn:=Nat.le_of_ble_eq_true rfl)|refine zrg ?_|(refine w_make (n:=k.rob.length) rfl hF rfl rfl ?_ (he:=made_ints _);clear hF;intro gI wN hF)|(refine w_make (n:=k.rob.length) rfl hF rfl rfl ?_ (he:=made_bools _);clear hF;intro gB wN hF)|(refine w_st (us:=e.cells) rfl hF rfl rfl ?_ (h1:=fun u hu=>.inl (e.one u hu));clear hF;(first|intro gN wN hF|intro wN hF|intro hF))|(go_at_call 39;refine zcg hF (HK.out _) ?_;clear hF;(first|intro gN wN hF|intro wN hF|intro hF))|(refine w_st1 rfl hF rfl rfl ?_ (hoff:=hoffI);clear hF;(first|intro gN wN hF|intro wN hF|intro hF))|(refine w_st1 rfl hF rfl rfl ?_ (hoff:=hoffB);clear hF;(first|intro gN wN hF|intro wN hF|intro hF))|(refine zst ?_;clear hF;(first|intro gN wN hF|intro wN hF|intro hF))|(go_at_call 75;refine (b5j hk hfit j e hu ⟨((hF.front _ (m:=.row s.robA 54 (ens k.rob)) (by exact zat)).front _ (m:=.blk g 81 (mcells k s)) (by exact zat))⟩).mono ?_;rintro x wN ⟨hx,⟨hF5⟩⟩;rw [hcan.out] at hx;subst hx;clear hF;have hF:=hF5;clear hF5;(try simp only [zF] at hF);(simp only [kD,zL] at hF))|(refine zap ?_;clear hF;intro vN wN hF)))
   rw [hsetB.out] at hF
   cases b2
   ·go_wp2_with ((try simp only [zA,Nat.reduceAdd]);(first|go_big_skip|refine b7x ?_|(refine b7y ?_;clear hF;intro gI wN hF)|(refine b7z ?_;clear hF;intro gB wN hF)|(refine b8a ?_;clear hF;(first|intro gN wN hF|intro wN hF|intro hF))|(go_at_call 75;refine (b5j hk hfit j e hu ⟨((hF.front _ (m:=.row s.robA 54 (ens k.rob)) (by exact zat)).front _ (m:=.blk g 81 (mcells k s)) (by exact zat))⟩).mono ?_;rintro x wN ⟨hx,⟨hF5⟩⟩;rw [hcan.out] at hx;subst hx;clear hF;have hF:=hF5;clear hF5;(try simp only [zF] at hF);(simp only [kD,zL] at hF))|(refine a1d ?_;clear hF;intro vN wN hF)))
    exact c6n
   ·cases b1
    ·go_wp2_with ((try simp only [zA,Nat.reduceAdd]);(first|go_big_skip|refine b7x ?_|(refine b7y ?_;clear hF;intro gI wN hF)|(refine b7z ?_;clear hF;intro gB wN hF)|(refine b8a ?_;clear hF;(first|intro gN wN hF|intro wN hF|intro hF))|(go_at_call 75;refine (b5j hk hfit j e hu ⟨((hF.front _ (m:=.row s.robA 54 (ens k.rob)) (by exact zat)).front _ (m:=.blk g 81 (mcells k s)) (by exact zat))⟩).mono ?_;rintro x wN ⟨hx,⟨hF5⟩⟩;rw [hcan.out] at hx;subst hx;clear hF;have hF:=hF5;clear hF5;(try simp only [zF] at hF);(simp only [kD,zL] at hF))|(refine a1d ?_;clear hF;intro vN wN hF)))
     exact c6n
    ·go_wp2_with ((try simp only [zA,Nat.reduceAdd]);(first|go_big_skip|refine b7x ?_|(refine b7y ?_;clear hF;intro gI wN hF)|(refine b7z ?_;clear hF;intro gB wN hF)|(refine b8a ?_;clear hF;(first|intro gN wN hF|intro wN hF|intro hF))|(go_at_call 75;refine (b5j hk hfit j e hu ⟨((hF.front _ (m:=.row s.robA 54 (ens k.rob)) (by exact zat)).front _ (m:=.blk g 81 (mcells k s)) (by exact zat))⟩).mono ?_;rintro x wN ⟨hx,⟨hF5⟩⟩;rw [hcan.out] at hx;subst hx;clear hF;have hF:=hF5;clear hF5;(try simp only [zF] at hF);(simp only [kD,zL] at hF))|(refine a1d ?_;clear hF;intro vN wN hF)))
     exact c6n
  ·obtain rfl:j=k.rob.length:=by omega
   have hcs:=d9u (f:=a5v k) (z:=false) (q:=List.range k.rob.length)
   rw [List.length_range] at hcs
   rw [d9u,hcs] at hF
   rw [List.take_length]
   clear hcs
   obtain ⟨ks,hks⟩:∃ ks,k.rob.map a9u=ks:=⟨_,rfl⟩
   obtain ⟨cs,hcs⟩:∃ cs,(List.range k.rob.length).map (a5v k)=cs:=⟨_,rfl⟩
   obtain ⟨b0,hb0⟩:∃ b0,k.rob.any b5m=b0:=⟨_,rfl⟩
   have hkl:ks.length=k.rob.length:=by rw [← hks,List.length_map]
   have hcl:cs.length=k.rob.length:=by rw [← hcs,List.length_map,List.length_range]
   rw [hks,hcs] at hF
   rw [hks,hcs,hb0] at hR
   rw [hb0]
   clear hks hcs hb0
   replace hF:=hF.freezeB 2 at2 1 k.rob.length k.rob.length (by rw [c4o,hcl,Nat.mul_one]) (Nat.le_refl _) (by unfold maxLen;omega)
   (try simp only [zF] at hF)
   replace hF:=hF.freezeB 2 at2 1 k.rob.length k.rob.length (by rw [a9o,hkl,Nat.mul_one]) (Nat.le_refl _) (by unfold maxLen;omega)
   (try simp only [zF] at hF)
   have HPi:=fun (W:World) (h1:Rd W W.heap.size 1 (some ⟨gI,0,none⟩) k.rob.length k.rob.length (a1i ks)) (h2:Rd W W.heap.size 1 (some ⟨gB,0,none⟩) k.rob.length k.rob.length (bls cs))=>g8x k.conf.width b0 (some ⟨gI,0,none⟩) k.rob.length k.rob.length ks (some ⟨gB,0,none⟩) k.rob.length cs W h1 h2 (by omega) (by unfold okI;omega)
   have hpl:=b7o (width:=k.conf.width) (kinds:=ks) cs 0 0 b0 false
   have hpi:=d9w (width:=k.conf.width) (kinds:=ks) cs 0 0 b0 false
   obtain ⟨ps,hps⟩:∃ ps,a3m k.conf.width ks cs 0 0 b0 false=ps:=⟨_,rfl⟩
   rw [hps] at HPi hpl hpi hR
   have hpl2:ps.length≤2:=by omega
   replace HPi:=Lib.hid HPi
   clear hps hpl
   go_wp2_with ((try simp only [zA,Nat.reduceAdd]);(first|go_big_skip|refine c2u ?_|(go_at_call 76;refine (HPi.out _ hF.rdA hF.rdA).mono ?_;rintro y wN ⟨v,rfl,hb,ho⟩;replace hF:=hF.pushOwn hb ho;clear hb ho;obtain ⟨Ap,cp,rfl,hF2⟩:=hF.freeze 0 at0;clear hF;have hF:=hF2;clear hF2;(try simp only [zF] at hF))|(refine a1s ?_;clear hF;(first|intro gN wN hF|intro wN hF|intro hF))|(refine a1d ?_;clear hF;intro vN wN hF)))
   go_loopw [74] (fun i wr=>∃ (j:Nat) (k1:Kern),j≤ps.length∧i = .int .i64 (j:Int)∧Hid (a2q k=(ps.drop j).foldl (fun k i=>a3h k i.toNat) k1)∧KOk (B+j) k1∧k1.rob.length=k.rob.length∧MX w0 D0 (a1a 1 Ap ps.length cp (a1i ps)::D) M g k1 a b wr) (fun i _=>ps.length - (intOf i).toNat)
   case atStart=>exact ⟨0,k,by omega,rfl,hR,by simpa using hk,rfl,⟨s,hfit,ha,hb',⟨hF.lessD (by simp only [kD,zL];exact zsn)⟩⟩⟩
   case round=>
    clear hF hR hk hfit ha hb'
    obtain ⟨j,k1,hj,rfl,hR,hk1,hkl1,hX⟩:=hrel
    have hX0:=hX
    obtain ⟨s,hfit,ha,hb',⟨hF⟩⟩:=hX
    simp only [kD,zL] at hF
    by_cases hjn:j<ps.length
    ·have hx:ps[j]?=some ps[j]:=List.getElem?_eq_getElem hjn
     have hbx:=hpi _ (List.mem_of_getElem? hx)
     have hdr:ps.drop j=ps[j]::ps.drop (j+1):=List.drop_eq_getElem_cons hjn
     obtain ⟨i,hi⟩:∃ i:Nat,ps[j]=(i:Int):=⟨ps[j].toNat,by omega⟩
     rw [hi] at hx hbx hdr
     have hx2:=d9x hx
     have hin:i<k1.rob.length:=by omega
     obtain ⟨e,hu⟩:∃ e,k1.rob[i]?=some e:=⟨_,List.getElem?_eq_getElem hin⟩
     have hR2:=hR.out
     rw [hdr,List.foldl_cons] at hR2
     replace hR2:=Lib.hid hR2
     have hk2:=hk1.start (by omega) i
     have hkl2:=h7q k1 i
     clear hbx hdr hi hx hR
     go_upto_region 15 with ((try simp only [zA,Nat.reduceAdd]);(first|go_big_skip|refine w_neqH rfl rfl rfl ?_ (hb:=by with_reducible assumption)|refine w_eqlH rfl rfl rfl ?_ (hb:=by with_reducible assumption)|refine w_lssH rfl rfl rfl ?_ (hb:=by with_reducible assumption)|refine w_lde1 rfl hF rfl ?_ (hv:=hx2)|refine zrg ?_|(refine zst ?_;clear hF;(first|intro gN wN hF|intro wN hF|intro hF))|(refine zap ?_;clear hF;intro vN wN hF)))
     clear hF
     go_wp2_with (go_at_call 77;refine (h7i HDec hk1 i e hu hX0).mono ?_;rintro x wN ⟨⟨y,rfl⟩,hX2⟩)
     go_roundw
     case rel=>exact ⟨j+1,_,by omega,by go_num,hR2,by rw [show B+((j+1:Nat):Int)=B+(j:Int)+1 by omega];exact hk2,by rw [Int.toNat_natCast,hkl2,hkl1],hX2⟩
     case measure=>first|(simp [intOf];done)|(simp [intOf];omega)
    ·obtain rfl:j=ps.length:=by omega
     replace hR:=Lib.hid (show a2q k=k1 by rw [hR.out,List.drop_length];rfl)
     go_wp2_with ((try simp only [zA,Nat.reduceAdd]);(first|go_big_skip|refine c2u ?_|(refine a1s ?_;clear hF;(first|intro gN wN hF|intro wN hF|intro hF))|(refine a1d ?_;clear hF;intro vN wN hF)))
     go_end0
     refine ⟨⟨_,rfl⟩,?_⟩
     rw [hR.out]
     exact hX0.dropD
end
end Go.Proofs.YtgnomadgnciifaaGreatDoor
