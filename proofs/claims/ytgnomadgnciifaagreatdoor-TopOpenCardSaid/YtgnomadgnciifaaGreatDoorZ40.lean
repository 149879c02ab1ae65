/- . -/
import Derived.Test.YtgnomadgnciifaaGreatDoorZ33
import Derived.Test.YtgnomadgnciifaaGreatDoorZ37
set_option linter.unusedVariables false
set_option linter.unusedSimpArgs false
set_option linter.unusedSectionVars false
set_option maxRecDepth 100000
set_option maxHeartbeats 16000000
namespace Go.Proofs.YtgnomadgnciifaaGreatDoor
theorem b5l {p:Prop} (h:p:=by
 clear hE
 (go_wp2_with ((try simp only [zA,Nat.reduceAdd]);(first|go_big_skip|refine b8c ?_|(refine b8d ?_;clear hF;(first|intro gN wN hF|intro wN hF|intro hF))|(go_at_call 54;(first|(have hX:=HFd.out _ hF.rds;(with_reducible refine hX.mono ?_))|(have hX:=HFw.out _ hF.rds;(with_reducible refine hX.mono ?_)));clear hX;rintro x wN ⟨rfl,hb⟩;replace hF:=hF.grow hb;clear hb)|(refine a1d ?_;clear hF;intro vN wN hF)));go_ret;exact ⟨by rw [hR.out];(try rfl),hF.bel⟩)):p:=h
theorem d8y {p:Prop} (h:p:=by
 go_wp2_with ((try simp only [zA,Nat.reduceAdd]);(first|go_big_skip|refine c8b ?_|(refine c8c ?_;clear hF;(first|intro gN wN hF|intro wN hF|intro hF))|(refine a1d ?_;clear hF;intro vN wN hF)))
 go_ret
 exact ⟨by rw [hR.out];(try rfl),hF.bel⟩):p:=h
theorem d8z {p:Prop} (h:p:=by
 go_wp2_with ((try simp only [zA,Nat.reduceAdd]);(first|go_big_skip|refine f4g ?_|(refine f4h ?_;clear hF;(first|intro gN wN hF|intro wN hF|intro hF))|(refine a1d ?_;clear hF;intro vN wN hF)))
 go_ret
 exact ⟨by rw [hE.out];rfl,hF.bel⟩):p:=h
theorem d9a {p:Prop} (h:p:=by
 go_roundw
 case rel=>exact ⟨j+1,by omega,by go_num,hup2,hF.drop 0⟩
 case measure=>first|(simp [intOf];done)|(simp [intOf];omega)):p:=h
section
open Go.RowKit Wd
theorem d9b (ways:Int) (A:Option Addr) (n c:Nat) (S:List Cs) (C:List (List Wy)) (cf:Cf) (Al:Option Addr) (cl:Nat) (At:Option Addr) (ct:Nat) (w:World) (hr:RdS w w.heap.size A n c S) (hC:a1j S=C) (hR:RightP ways C) (hok:COk C) :
  Calls Tryz.prog 54 #[.agg #[.int .i64 ways,.slice A n c],.agg (cfC cf Al cl At ct).toArray] w fun x w'=>x = .returned (.bool (b1g ways C cf))∧Bel w w':=by
 have hn:C.length=n:=by rw [← hC,a3n];exact hr.slen
 have hF:=St.start w [a1a 1 A n c (csv S),a1l S] (fun d hd=>by
  rcases List.mem_cons.1 hd with rfl|hd
  ·exact hr.1
  ·obtain rfl:=List.mem_singleton.1 hd;exact hr.2)
 have HR:=Lib.hid (fun (W:World) (h:RdS W W.heap.size A n c S)=>(a8g (by rw [← hC] at hok;exact hok.sok) (b2e (by rw [hC];exact hR)):b2d 120 ways A n c S true) W h)
 have hE:Hid (b1g ways C cf=(decide ((n:Int)=cf.sets) && decide (ways=cf.ways))):=Lib.hid (by
  unfold b1g
  rw [b2h.2 hR,hn,Bool.true_and])
 obtain ⟨b1,hb1⟩:∃ b1,decide ((n:Int)=cf.sets)=b1:=⟨_,rfl⟩
 obtain ⟨b2,hb2⟩:∃ b2,decide (ways=cf.ways)=b2:=⟨_,rfl⟩
 rw [hb1,hb2] at hE
 replace hb1:=Lib.hid hb1
 replace hb2:=Lib.hid hb2
 clear hr hC hR hok hn
 cases b1
 ·go_enter Tryz.func54,Tryz.ntmps54
  exact d8z
 ·go_enter Tryz.func54,Tryz.ntmps54
  exact d8z
theorem h6s {a b:ByteArray} (h:a.toList=b.toList):a=b:=by
 rw [ByteArray.toList_eq,ByteArray.toList_eq] at h
 obtain ⟨⟨x⟩⟩:=a
 obtain ⟨⟨y⟩⟩:=b
 simpa using h
theorem d9c {α:Type} {p:α→Bool} {q:List α} {j:Nat} {e:α} (he:q[j]?=some e) (hp:p e=false):q.all p=false:=by
 rw [List.all_eq_false]
 exact ⟨e,List.mem_of_getElem? he,by rw [hp];decide⟩
theorem d9d {α:Type} {p:α→Bool} {q:List α} (h:∀ f∈q,p f=true):q.all p=true:=List.all_eq_true.2 h
theorem d9e {α:Type} {p:α→Prop} {q:List α} {k:Nat} {e:α} (h:∀ f∈q.take k,p f) (he:q[k]?=some e) (hp:p e):∀ f∈q.take (k+1),p f:=by
 obtain ⟨hl,hk⟩:=List.getElem?_eq_some_iff.1 he
 intro f hf
 rw [List.take_succ_eq_append_getElem hl,hk] at hf
 rcases List.mem_append.1 hf with hf|hf
 ·exact h f hf
 ·obtain rfl:=List.mem_singleton.1 hf
  exact hp
theorem memRight_any (n a:Nat) (k:Int) (w:World) (hn:n≤9223372036854775807) (ha:a<4294967296) (hk:0≤k∧k≤9223372036854775807) :
  Calls Tryz.prog 56 #[.int .i64 (n:Int),.int .u32 (a:Int),.int .i64 k] w fun e w'=>e = .returned (.bool (a7z n a k))∧Bel w w':=by
 have hr:a7z n a k=Me.right n a k:=by
  rw [Bool.eq_iff_iff,Me.right_iff]
  simp [a7z]
 rw [hr]
 refine (Me.memRight_any n a k w hn ha (by omega)).mono ?_
 rintro e w' ⟨rfl,d,rfl⟩
 exact ⟨rfl,Bel.drewN _ d⟩
theorem h6t {k:Kern} {s:Sls} {B:Int} (hk:KOk B k) (hd:a1j s.dS=k.data) (hw:a1j s.wS=k.words) (hs1:s.feO=false) (hs2:s.stO=false) (hs3:s.reO=false) (w:World) (hD:∀ d∈a1a 17 s.robA k.rob.length s.robC (ens k.rob)::kD k s,d.ok w) :
  Calls Tryz.prog 29 #[.agg (mcells k s).toArray] w fun x w'=>x = .returned (.bool (a5h k))∧Bel w w':=by
 have hF:=St.start w (a1a 17 s.robA k.rob.length s.robC (ens k.rob)::kD k s) hD
 have HCf:=Lib.hid (fun (W:World) (h:Rd W W.heap.size 1 s.latA k.conf.lat.length s.latC (a1i k.conf.lat))=>h5f k.conf s.latA s.latC s.tapeA s.tapeC W hk.conf h)
 have HSq:=fun (W:World) (h:Rd W W.heap.size 17 s.robA k.rob.length s.robC (ens k.rob)) (h2:Rd W W.heap.size 1 (some ⟨0,0,none⟩) 49 49 (u32v codesL))=>h6o s.robA k.rob.length s.robC k.rob W h hk.rob (by have:=hk.roblen;omega) h2
 have HFd:=fun (W:World) (h:RdS W W.heap.size s.dA k.data.length s.dC s.dS)=>d9b k.dways s.dA k.data.length s.dC s.dS k.data k.conf s.latA s.latC s.tapeA s.tapeC W h hd hk.data hk.dok
 have HFw:=fun (W:World) (h:RdS W W.heap.size s.wA k.words.length s.wC s.wS)=>d9b k.wways s.wA k.words.length s.wC s.wS k.words k.conf s.latA s.latC s.tapeA s.tapeC W h hw hk.words hk.wok
 have hG:=hk.guess
 simp only [a5o,Bool.and_eq_true,decide_eq_true_eq] at hG
 have HGr:=Lib.hid (fun W=>show Calls Tryz.prog 55 #[.agg #[.slice s.slA k.guess.slots.length s.slC,.int .u32 (k.guess.hist:Int),.slice s.rtA k.guess.rets.length s.rtC]] W _ from by rw [hG.1];exact b9t s.slA s.rtA s.slC k.guess.hist k.guess.rets.length s.rtC W hG.2.1 hG.2.2)
 have HCl:=fun W=>Me.Clean_any k.mem W (by have:=hk.mem;omega)
 have hE:a5h k=(decide (bl k.mem=Me.cleanL (bl k.mem)) && (a8r k.rob && decide ((k.rob.length:Int)≤k.conf.rob)) && k.rob.all (fun e=>decide (e.no<k.next)) &&
  (b1g k.dways k.data k.conf && b1g k.wways k.words k.conf) && (decide ((k.fetched.length:Int)≤k.conf.queue) && decide ((k.stores.length:Int)≤k.conf.stores)) && k.stores.all (fun p=>a7z k.mem.size p.addr p.data.size)):=by
  unfold a5h
  rw [hk.conf,decide_eq_true hk.plen,hk.guess]
  simp only [Bool.true_and,Bool.and_true,Bool.and_assoc]
 have hpl:=Lib.hid (show decide ((64:Int)<(k.prog.length:Int))=false from decide_eq_false (by have:=hk.plen;omega))
 obtain ⟨X,hX⟩:∃ X:ByteArray,(⟨(Me.cleanL k.mem.data.toList).toArray⟩:ByteArray)=X:=⟨_,rfl⟩
 have hXm:k.mem=X↔bl k.mem=Me.cleanL (bl k.mem):=by
  rw [← hX]
  constructor
  ·intro h
   conv=>lhs;rw [h]
   rfl
  ·intro h
   have:k.mem=⟨k.mem.data⟩:=rfl
   rw [this]
   congr 1
   have h2:k.mem.data.toList=Me.cleanL k.mem.data.toList:=h
   rw [← h2]
 rw [hX] at HCl
 obtain ⟨bq,hbq⟩:∃ b,a8r k.rob=b:=⟨_,rfl⟩
 obtain ⟨br,hbr⟩:∃ b,decide (k.conf.rob<(k.rob.length:Int))=b:=⟨_,rfl⟩
 obtain ⟨bd,hbd⟩:∃ b,b1g k.dways k.data k.conf=b:=⟨_,rfl⟩
 obtain ⟨bw,hbw⟩:∃ b,b1g k.wways k.words k.conf=b:=⟨_,rfl⟩
 obtain ⟨be,hbe⟩:∃ b,decide (k.conf.queue<(k.fetched.length:Int))=b:=⟨_,rfl⟩
 obtain ⟨bs,hbs⟩:∃ b,decide (k.conf.stores<(k.stores.length:Int))=b:=⟨_,rfl⟩
 have n1:decide ((k.rob.length:Int)≤k.conf.rob) = !br:=by rw [← hbr];by_cases h:k.conf.rob<(k.rob.length:Int) <;> simp [h] <;> omega
 have n2:decide ((k.fetched.length:Int)≤k.conf.queue) = !be:=by rw [← hbe];by_cases h:k.conf.queue<(k.fetched.length:Int) <;> simp [h] <;> omega
 have n3:decide ((k.stores.length:Int)≤k.conf.stores) = !bs:=by rw [← hbs];by_cases h:k.conf.stores<(k.stores.length:Int) <;> simp [h] <;> omega
 rw [hbq,n1,hbd,hbw,n2,n3] at hE
 rw [hbq] at HSq
 rw [hbd] at HFd
 rw [hbw] at HFw
 replace HSq:=Lib.hid HSq
 replace HFd:=Lib.hid HFd
 replace HFw:=Lib.hid HFw
 replace hbr:=Lib.hid hbr
 replace hbe:=Lib.hid hbe
 replace hbs:=Lib.hid hbs
 replace HCl:=Lib.hid HCl
 have hn16:=hk.roblen
 have hst16:=hk.stlen
 have hm256:=hk.mem
 clear n1 n2 n3 hbq hbd hbw hX hG
 simp only [kD,hs1,hs2,hs3,a1h,zL] at hF
 go_enter Tryz.func29,Tryz.ntmps29
 go_upto_region 1 with ((try simp only [zA,Nat.reduceAdd]);(first|(refine f4i ?_;clear hF;intro g1 wN hF)|refine a7u ?_|(refine a1s ?_;clear hF;(first|intro gN wN hF|intro wN hF|intro hF))|(refine a1d ?_;clear hF;intro vN wN hF)))
 obtain ⟨gK,rfl⟩:=hF.names1
 by_cases hm:k.mem=X
 ·rw [← hm] at HCl
  rw [decide_eq_true (hXm.1 hm),Bool.true_and] at hE
  clear hm hXm
  refine a1n (by kernel_rfl) hF _ _ (fun _ h=>h) (fun _ h=>h) ?_
  clear hF;intro hF hH
  refine zk1 0 hH ?_
  refine a2i 1 hH ?_
  refine zry 2 (fun K hK=>?_)
  go_wp2_with ((first|go_big_skip|(refine b8b ?_;clear hF;intro wN hF)))
  have hH:=zx0 hH hF;refine hK.out _ _ hH ?_;clear hK;(try simp only [zA,Nat.reduceAdd])
  refine zp 3 hH ?_
  refine a1c 4 hH ?_
  refine zk9 5 hH ?_
  refine a4n 6 hH ?_
  refine a8o 7 hH ?_
  first|(refine a1p (i:=8) rfl (d2q rfl rfl rfl) hH ?_;(try simp only [zA,Nat.reduceAdd]))|refine zp 8 hH ?_
  refine zp 9 hH ?_
  refine a1c 10 hH ?_
  refine zk9 11 hH ?_
  refine a4n 12 hH ?_
  refine zk9 13 hH ?_
  refine a4n 14 hH ?_
  refine zry 15 (fun K hK=>?_)
  go_wp2_with ((first|go_big_skip|(refine b8b ?_;clear hF;intro wN hF)))
  have hH:=zx0 hH hF;refine hK.out _ _ hH ?_;clear hK;(try simp only [zA,Nat.reduceAdd])
  first|(refine a1p (i:=16) rfl (y_neqH rfl rfl rfl) hH ?_;(try simp only [zA,Nat.reduceAdd]))|refine zp 16 hH ?_
  refine zp 17 hH ?_
  refine zrz ?_
  (skip)
  cases bq
  ·have hR:=Lib.hid (show a5h k=false by rw [hE];simp)
   exact b5l
  cases br
  rotate_left
  ·have hR:=Lib.hid (show a5h k=false by rw [hE];simp)
   exact b5l
  simp only [Bool.not_false,Bool.true_and] at hE
  go_wp2_with ((try simp only [zA,Nat.reduceAdd]);(first|go_big_skip|refine b8c ?_|(refine b8d ?_;clear hF;(first|intro gN wN hF|intro wN hF|intro hF))|(go_at_call 54;(first|(have hX:=HFd.out _ hF.rds;(with_reducible refine hX.mono ?_))|(have hX:=HFw.out _ hF.rds;(with_reducible refine hX.mono ?_)));clear hX;rintro x wN ⟨rfl,hb⟩;replace hF:=hF.grow hb;clear hb)|(refine a1d ?_;clear hF;intro vN wN hF)))
  go_loopw [41] (fun i wr=>∃ j:Nat,j≤k.rob.length∧i = .int .i64 (j:Int)∧Hid (∀ f∈k.rob.take j,decide (f.no<k.next)=true)∧St w [a1a 17 s.robA k.rob.length s.robC (ens k.rob),a1a 1 s.latA k.conf.lat.length s.latC (a1i k.conf.lat),a1a 1 s.tapeA k.conf.tape.length s.tapeC (u32v k.conf.tape),a1a 1 s.progA k.prog.length s.progC (u32v k.prog),a1a 2 s.feA k.fetched.length s.feC (fes k.fetched),a1a 2 s.stA k.stores.length s.stC (pus k.stores),a1a 1 s.dA k.data.length s.dC (csv s.dS),a1l s.dS,a1a 1 s.wA k.words.length s.wC (csv s.wS),a1l s.wS,a1a 4 s.busA k.bus.length s.busC (rqs k.bus),a1a 2 s.slA k.guess.slots.length s.slC (sls k.guess.slots),a1a 1 s.rtA k.guess.rets.length s.rtC (u32v k.guess.rets),a1a 9 s.reA k.retired.length s.reC (sts k.retired),a2h] wr [.blk gK 42 (mcells k s)] [a1a 17 s.robA k.rob.length s.robC (ens k.rob),a1a 1 s.latA k.conf.lat.length s.latC (a1i k.conf.lat),a1a 1 s.tapeA k.conf.tape.length s.tapeC (u32v k.conf.tape),a1a 1 s.progA k.prog.length s.progC (u32v k.prog),a1a 2 s.feA k.fetched.length s.feC (fes k.fetched),a1a 2 s.stA k.stores.length s.stC (pus k.stores),a1a 1 s.dA k.data.length s.dC (csv s.dS),a1l s.dS,a1a 1 s.wA k.words.length s.wC (csv s.wS),a1l s.wS,a1a 4 s.busA k.bus.length s.busC (rqs k.bus),a1a 2 s.slA k.guess.slots.length s.slC (sls k.guess.slots),a1a 1 s.rtA k.guess.rets.length s.rtC (u32v k.guess.rets),a1a 9 s.reA k.retired.length s.reC (sts k.retired),a2h]) (fun i _=>k.rob.length - (intOf i).toNat)
  case atStart=>exact ⟨0,by omega,rfl,Lib.hid (fun f hf=>by simp at hf),hF⟩
  case round=>
   clear hF
   obtain ⟨j,hj,rfl,hup,hF⟩:=hrel
   by_cases hjn:j<k.rob.length
   ·obtain ⟨e,hu⟩:∃ e,k.rob[j]?=some e:=⟨_,List.getElem?_eq_getElem hjn⟩
    by_cases hno:e.no<k.next
    ·have hb:=Lib.hid (show decide (k.next≤e.no)=false from decide_eq_false (by omega))
     have hup2:=Lib.hid (d9e hup.out hu (decide_eq_true hno))
     clear hno hup hE
     go_wp2_with ((try simp only [zA,Nat.reduceAdd]);(first|go_big_skip|refine c7z ?_|(refine c8a ?_;clear hF;(first|intro gN wN hF|intro wN hF|intro hF))|(refine a1d ?_;clear hF;intro vN wN hF)))
     exact d9a
    ·have hb:=Lib.hid (show decide (k.next≤e.no)=true from decide_eq_true (by omega))
     have hR:=Lib.hid (show a5h k=false by rw [hE,d9c hu (decide_eq_false hno)];simp)
     clear hno hup hE
     go_wp2_with ((try simp only [zA,Nat.reduceAdd]);(first|go_big_skip|refine c7z ?_|(refine c8a ?_;clear hF;(first|intro gN wN hF|intro wN hF|intro hF))|(refine a1d ?_;clear hF;intro vN wN hF)))
     go_ret
     exact ⟨by rw [hR.out];(try rfl),hF.bel⟩
   ·obtain rfl:j=k.rob.length:=by omega
    rw [d9d (q:=k.rob) (by have:=hup.out;rwa [List.take_length] at this),Bool.true_and] at hE
    clear hup
    cases bd
    ·have hR:=Lib.hid (show a5h k=false by rw [hE];simp)
     exact b5l
    cases bw
    ·have hR:=Lib.hid (show a5h k=false by rw [hE];simp)
     exact b5l
    cases be
    rotate_left
    ·have hR:=Lib.hid (show a5h k=false by rw [hE];simp)
     exact b5l
    cases bs
    rotate_left
    ·have hR:=Lib.hid (show a5h k=false by rw [hE];simp)
     exact b5l
    simp only [Bool.not_false,Bool.true_and] at hE
    go_wp2_with ((try simp only [zA,Nat.reduceAdd]);(first|go_big_skip|refine b8c ?_|(refine b8d ?_;clear hF;(first|intro gN wN hF|intro wN hF|intro hF))|(go_at_call 54;(first|(have hX:=HFd.out _ hF.rds;(with_reducible refine hX.mono ?_))|(have hX:=HFw.out _ hF.rds;(with_reducible refine hX.mono ?_)));clear hX;rintro x wN ⟨rfl,hb⟩;replace hF:=hF.grow hb;clear hb)|(refine a1d ?_;clear hF;intro vN wN hF)))
    go_loopw [90] (fun i wr=>∃ j:Nat,j≤k.stores.length∧i = .int .i64 (j:Int)∧Hid (∀ f∈k.stores.take j,a7z k.mem.size f.addr f.data.size=true)∧St w [a1a 17 s.robA k.rob.length s.robC (ens k.rob),a1a 1 s.latA k.conf.lat.length s.latC (a1i k.conf.lat),a1a 1 s.tapeA k.conf.tape.length s.tapeC (u32v k.conf.tape),a1a 1 s.progA k.prog.length s.progC (u32v k.prog),a1a 2 s.feA k.fetched.length s.feC (fes k.fetched),a1a 2 s.stA k.stores.length s.stC (pus k.stores),a1a 1 s.dA k.data.length s.dC (csv s.dS),a1l s.dS,a1a 1 s.wA k.words.length s.wC (csv s.wS),a1l s.wS,a1a 4 s.busA k.bus.length s.busC (rqs k.bus),a1a 2 s.slA k.guess.slots.length s.slC (sls k.guess.slots),a1a 1 s.rtA k.guess.rets.length s.rtC (u32v k.guess.rets),a1a 9 s.reA k.retired.length s.reC (sts k.retired),a2h] wr [.blk gK 42 (mcells k s)] [a1a 17 s.robA k.rob.length s.robC (ens k.rob),a1a 1 s.latA k.conf.lat.length s.latC (a1i k.conf.lat),a1a 1 s.tapeA k.conf.tape.length s.tapeC (u32v k.conf.tape),a1a 1 s.progA k.prog.length s.progC (u32v k.prog),a1a 2 s.feA k.fetched.length s.feC (fes k.fetched),a1a 2 s.stA k.stores.length s.stC (pus k.stores),a1a 1 s.dA k.data.length s.dC (csv s.dS),a1l s.dS,a1a 1 s.wA k.words.length s.wC (csv s.wS),a1l s.wS,a1a 4 s.busA k.bus.length s.busC (rqs k.bus),a1a 2 s.slA k.guess.slots.length s.slC (sls k.guess.slots),a1a 1 s.rtA k.guess.rets.length s.rtC (u32v k.guess.rets),a1a 9 s.reA k.retired.length s.reC (sts k.retired),a2h]) (fun i _=>k.stores.length - (intOf i).toNat)
    case atStart=>exact ⟨0,by omega,rfl,Lib.hid (fun f hf=>by simp at hf),hF⟩
    case round=>
     clear hF
     obtain ⟨j,hj,rfl,hup,hF⟩:=hrel
     by_cases hjn:j<k.stores.length
     ·obtain ⟨p,hu⟩:∃ p,k.stores[j]?=some p:=⟨_,List.getElem?_eq_getElem hjn⟩
      have hpo:=hk.st p (List.mem_of_getElem? hu)
      have HMr:=fun W=>memRight_any k.mem.size p.addr p.data.size W (by omega) hpo.1 (by omega)
      have hal:=fun h=>d9c (p:=fun p:Pu=>a7z k.mem.size p.addr p.data.size) hu h
      have hsome:=fun h=>d9e hup.out hu h
      obtain ⟨bm,hbm⟩:∃ b,a7z k.mem.size p.addr p.data.size=b:=⟨_,rfl⟩
      rw [hbm] at HMr hal hsome
      obtain ⟨pa,pd⟩:=p
      replace HMr:=Lib.hid HMr
      clear hbm hpo hup
      dsimp only at HMr
      cases bm
      ·have hR:=Lib.hid (show a5h k=false by rw [hE,hal rfl])
       clear hE hal hsome
       exact d8y
      ·have hup2:=Lib.hid (hsome rfl)
       clear hE hal hsome
       go_wp2_with ((try simp only [zA,Nat.reduceAdd]);(first|go_big_skip|refine c8b ?_|(refine c8c ?_;clear hF;(first|intro gN wN hF|intro wN hF|intro hF))|(refine a1d ?_;clear hF;intro vN wN hF)))
       exact d9a
     ·obtain rfl:j=k.stores.length:=by omega
      have hR:=Lib.hid (show a5h k=true by rw [hE];exact d9d (by have:=hup.out;rwa [List.take_length] at this))
      clear hE hup
      exact d8y
 ·have hR:=Lib.hid (show a5h k=false by rw [hE,decide_eq_false (fun h=>hm (hXm.2 h))];simp)
  have hne:(k.mem.toList == X.toList)=false:=beq_eq_false_iff_ne.2 (fun h=>hm (h6s h))
  clear hE hXm
  refine a1n (by kernel_rfl) hF _ _ (fun _ h=>h) (fun _ h=>h) ?_
  clear hF;intro hF hH
  refine zk1 0 hH ?_
  refine a2i 1 hH ?_
  refine zry 2 (fun K hK=>?_)
  go_wp2_with ((first|go_big_skip|(refine b8b ?_;clear hF;intro wN hF)))
  have hH:=zx0 hH hF;refine hK.out _ _ hH ?_;clear hK;(try simp only [zA,Nat.reduceAdd])
  refine zp 3 hH ?_
  refine a1c 4 hH ?_
  refine zk9 5 hH ?_
  refine a4n 6 hH ?_
  refine a8o 7 hH ?_
  first|(refine a1p (i:=8) rfl (d2q rfl rfl rfl) hH ?_;(try simp only [zA,Nat.reduceAdd]))|refine zp 8 hH ?_
  refine zp 9 hH ?_
  refine a1c 10 hH ?_
  refine zk9 11 hH ?_
  refine a4n 12 hH ?_
  refine zk9 13 hH ?_
  refine a4n 14 hH ?_
  refine zry 15 (fun K hK=>?_)
  go_wp2_with ((first|go_big_skip|(refine b8b ?_;clear hF;intro wN hF)))
  have hH:=zx0 hH hF;refine hK.out _ _ hH ?_;clear hK;(try simp only [zA,Nat.reduceAdd])
  first|(refine a1p (i:=16) rfl (y_neqH rfl rfl rfl) hH ?_;(try simp only [zA,Nat.reduceAdd]))|refine zp 16 hH ?_
  refine zp 17 hH ?_
  refine zrz ?_
  (skip)
  (go_wp2_with ((try simp only [zA,Nat.reduceAdd]);(first|go_big_skip|refine b8c ?_|(refine b8d ?_;clear hF;(first|intro gN wN hF|intro wN hF|intro hF))|(go_at_call 54;(first|(have hX:=HFd.out _ hF.rds;(with_reducible refine hX.mono ?_))|(have hX:=HFw.out _ hF.rds;(with_reducible refine hX.mono ?_)));clear hX;rintro x wN ⟨rfl,hb⟩;replace hF:=hF.grow hb;clear hb)|(refine a1d ?_;clear hF;intro vN wN hF)));go_ret;exact ⟨by rw [hR.out];(try rfl),hF.bel⟩)
end
end Go.Proofs.YtgnomadgnciifaaGreatDoor
